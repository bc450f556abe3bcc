/- A part of the proof: see the last text of this claim. -/
import Derived.Test.YtgkchlchkdecfaaGreatDoorC
set_option linter.unusedSectionVars false
set_option linter.unusedVariables false
set_option linter.unusedSimpArgs false
namespace Gev
open Go
theorem wi {n m:Int} (h:n=m∧-9223372036854775808≤m∧m≤9223372036854775807):IntKind.i64.wrap n=m:=by rw [IntKind.wrap_i64]; omega
theorem wu {n m:Int} (h:n=m∧0≤m∧m≤18446744073709551615):IntKind.u64.wrap n=m:=by simp [IntKind.wrap,IntKind.bits,IntKind.signed]; omega
theorem w32 {n m:Int} (h:n=m∧0≤m∧m≤4294967295):IntKind.u32.wrap n=m:=by rw [IntKind.wrap_u32]; omega
theorem w8 {n m:Int} (h:n=m∧0≤m∧m≤255):IntKind.u8.wrap n=m:=by rw [IntKind.wrap_u8]; omega
theorem tdv {a b c:Int} (ha:0≤a) (h:a / b=c):Int.tdiv a b=c:=by rw [Int.tdiv_eq_ediv_of_nonneg ha]; exact h
theorem tmd {a b c:Int} (ha:0≤a) (h:a % b=c):Int.tmod a b=c:=by rw [Int.tmod_eq_emod_of_nonneg ha]; exact h
def Wr (ws:List Int):List (List DV):=ws.map fun x=>[.u32 x]
theorem Wr_len (ws:List Int):(Wr ws).length=ws.length:=by simp [Wr]
theorem Wr_get {ws:List Int} {i:Nat} {x:Int} (h:ws[i]?=some x):(Wr ws)[i]?=some [.u32 x]:=by simp [Wr,h]
theorem Wr_take (ws:List Int) (n:Nat):(Wr ws).take n=Wr (ws.take n):=by simp [Wr,List.map_take]
theorem Wr_snoc (ws:List Int) (x:Int):Wr ws++[[.u32 x]]=Wr (ws++[x]):=by simp [Wr]
theorem Wr_append (ws xs:List Int):Wr ws++Wr xs=Wr (ws++xs):=by simp [Wr]
theorem Wr_set (ws:List Int) (n:Nat) (x:Int):(Wr ws).set n [.u32 x]=Wr (ws.set n x):=by simp [Wr,List.map_set]
theorem Wr_replicate (n:Nat) (x:Int):List.replicate n [DV.u32 x]=Wr (List.replicate n x):=by simp [Wr]
theorem Wr_one (ws:List Int):∀ x∈Wr ws,x.length=1:=by intro x hx; simp [Wr] at hx; obtain ⟨_,_,rfl⟩:=hx; rfl
theorem getD_some {ws:List Int} {i:Nat} (h:i < ws.length):ws[i]?=some (ws.getD i 0):=by
 rw [List.getD_eq_getElem?_getD,List.getElem?_eq_getElem h]; rfl
theorem Wr_getD {ws:List Int} {i:Nat} (h:i < ws.length):(Wr ws)[i]?=some [.u32 (ws.getD i 0)]:=Wr_get (getD_some h)
def B (l:List UInt8):ByteArray:=⟨l.toArray⟩
theorem B_size (l:List UInt8):(B l).size=l.length:=by show l.toArray.size=_; simp
theorem B_list (l:List UInt8):(B l).data.toList=l:=by simp [B]
theorem B_of (a:ByteArray):B a.data.toList=a:=by cases a; simp [B]
theorem B_inj {l m:List UInt8} (h:B l=B m):l=m:=by have:=congrArg (fun a:ByteArray=>a.data.toList) h; simpa [B] using this
theorem B_nil:B []=⟨#[]⟩:=rfl
theorem B_append (l m:List UInt8):B l++B m=B (l++m):=by
 show ByteArray.append _ _=_
 apply bytes_ext
 rw [toList_eq,toList_eq]
 have:(B l++B m).data=(B l).data++(B m).data:=ByteArray.data_append
 rw [show (ByteArray.append (B l) (B m)).data=(B l++B m).data from rfl,this]
 simp [B]
theorem B_extract (l:List UInt8) (i j:Nat):(B l).extract i j=B ((l.take j).drop i):=by
 apply bytes_ext
 rw [toList_eq,toList_eq]
 have:((B l).extract i j).data=(B l).data.extract i j:=ByteArray.data_extract
 rw [this]
 simp [B,List.drop_take]
end Gev
namespace Gev
open Go Gb
variable {E:Env}
def cmpI (a b:Int):Int:=if a < b then -1 else if a > b then 1 else 0
theorem cmp_u32 (a b:Int):Fn E Z9 [.c (.u32 a),.c (.u32 b)] (.c (.i64 (cmpI a b))):=by
 have ha:=z8o (E:=E) (rfl:a=a)
 have hb:=z8o (E:=E) (rfl:b=b)
 unfold cmpI
 by_cases h:a < b
 · rw [if_pos h]; exact y3r ha hb h
 · rw [if_neg h]
   by_cases k:a > b
   · rw [if_pos k]; exact y3s ha hb h k
   · rw [if_neg k]; exact y3t ha hb h k
theorem cmp_i64 (a b:Int):Fn E z2a [.c (.i64 a),.c (.i64 b)] (.c (.i64 (cmpI a b))):=by
 have ha:=y2g (E:=E) (rfl:a=a)
 have hb:=y2g (E:=E) (rfl:b=b)
 unfold cmpI
 by_cases h:a < b
 · rw [if_pos h]; exact x0d ha hb h
 · rw [if_neg h]
   by_cases k:a > b
   · rw [if_pos k]; exact x0e ha hb h k
   · rw [if_neg k]; exact x0f ha hb h k
def trimN (ws:List Int):Nat→Nat
 | 0=>0
 | k+1=>if ws.getD k 0=0 then trimN ws k else k+1
theorem trimN_le (ws:List Int) (k:Nat):trimN ws k≤k:=by
 induction k with
 | zero=>exact Nat.le_refl 0
 | succ k ih=>unfold trimN; split <;> omega
theorem trimN_words {ws:List Int} (h:Wd ws) {k:Nat} (hk:k≤ws.length):ws.take (trimN ws k)=words (wv (ws.take k)).toNat:=by
 induction k with
 | zero=>simp [trimN,wv,words_zero]
 | succ k ih =>
  unfold trimN
  have e:=val_take_succ ws k (by omega)
  by_cases h0:ws.getD k 0=0
  · rw [if_pos h0,ih (by omega),e,h0]; simp
  · rw [if_neg h0]
    refine eq_words (h.take _) ?_
    rw [take_succ ws k (by omega)]
    exact Tr.snoc h0
theorem trim_loop (ws:List Int):∀ k,k≤ws.length→k < 9223372036854775807→Lp E 1 C2 0 (X7 k (Wr ws)) (.exit 0) (Y7 (Wr ws) (trimN ws k))
 | 0,_,_=>y0o (by omega)
 | k+1,hk,hb=>by
  unfold trimN
  by_cases h0:ws.getD k 0=0
  · rw [if_pos h0]
    exact y2b (v1:=(k:Int)) (v2:=ws.getD k 0) (v3:=k) (wi (by omega)) rfl (by omega) (by omega) (Wr_getD (by omega)) h0 (by omega) (trim_loop ws k (by omega) (by omega))
  · rw [if_neg h0]
    exact y0n (v1:=(k:Int)) (v2:=ws.getD k 0) (wi (by omega)) (by omega) (by omega) (Wr_getD (by omega)) h0
theorem trim_run {ws:List Int} {k:Nat} (hk:k≤ws.length) (hb:k < 9223372036854775807):Rn E C2 [.vec 0 k] [some (.vec A3 (Wr ws))] (.vec 0 (trimN ws k)) [some (.vec A3 (Wr ws))] :=
 y8o (trim_loop ws k hk hb)
theorem trimD_loop (ws:List Int):∀ k,k≤ws.length→k < 9223372036854775807→Lp E 0 C2 0 (V4 (Wr (ws.take k))) (.exit 0) (X0 (Wr (ws.take (trimN ws k))))
 | 0,_,_=>z9t (by rw [Wr_len]; simp)
 | k+1,hk,hb=>by
  have hl:(ws.take (k+1)).length=k+1:=by simp; omega
  have hg:(Wr (ws.take (k+1)))[Int.toNat (k:Int)]?=some [.u32 (ws.getD k 0)]:=by
   refine Wr_get ?_
   rw [Int.toNat_natCast,List.getElem?_take_of_lt (by omega)]
   exact getD_some (by omega)
  unfold trimN
  by_cases h0:ws.getD k 0=0
  · rw [if_pos h0]
    refine y1l (v1:=(k:Int)) (v2:=ws.getD k 0) (v3:=Wr (ws.take k)) (wi (by rw [Wr_len,hl]; omega)) ?_ (by rw [Wr_len,hl]; omega) (by omega) hg h0 ⟨by omega,by omega,by rw [Wr_len,hl]; omega,Wr_one _⟩ (trimD_loop ws k (by omega) (by omega))
    rw [Int.toNat_natCast,List.drop_zero,Wr_take,List.take_take,Nat.min_eq_left (by omega)]
  · rw [if_neg h0]
    exact z9s (v1:=(k:Int)) (v2:=ws.getD k 0) (wi (by rw [Wr_len,hl]; omega)) (by rw [Wr_len,hl]; omega) (by omega) hg h0
theorem trim_data {ws:List Int} (h:Wd ws) (hb:ws.length < 9223372036854775807):Rn E C2 [.c (.list (Wr ws))] [] (.c (.list (Wr (words (wv ws).toNat)))) []:=by
 have:=trimD_loop (E:=E) ws ws.length (Nat.le_refl _) hb
 rw [List.take_length,trimN_words h (Nat.le_refl _),List.take_length] at this
 exact y4v this
theorem words_two {n:Nat} (h:n < 1000000000000000000):words n=[]∧n=0∨(words n=[(n:Int)]∧n≠0∧n < 1000000000)∨(words n=[((n % 1000000000:Nat):Int),((n / 1000000000:Nat):Int)]∧1000000000≤n):=by
 by_cases h0:n=0
 · exact .inl ⟨by rw [h0,words_zero],h0⟩
 · by_cases h1:n < 1000000000
   · refine .inr (.inl ⟨?_,h0,h1⟩)
     rw [words_pos h0,show n / 1000000000=0 by omega,words_zero,show n % 1000000000=n by omega]
   · refine .inr (.inr ⟨?_,by omega⟩)
     rw [words_pos h0,words_pos (n:=n / 1000000000) (by omega),show n / 1000000000 / 1000000000=0 by omega,words_zero,show n / 1000000000 % 1000000000=n / 1000000000 by omega]
theorem words_len {n:Nat}:(words n).length≤2↔n < 1000000000000000000:=by
 constructor
 · intro h
   have h1:=val_lt (words_wd n)
   rw [words_val] at h1
   have h2:=pw_mono h
   have:pw 2=1000000000000000000:=by decide
   omega
 · intro h
   exact words_length_le (by rw [show pw 2=1000000000000000000 by decide]; omega)
theorem of_ok {n:Nat} (h:n < 1000000000000000000):Fn E z3e [.c (.u64 n)] (.c (.list (Wr (words n)))):=by
 have hw:Wd [((n % 1000000000:Nat):Int),((n / 1000000000:Nat):Int)]:=Wd.cons (by omega) (by omega) (Wd.cons (by omega) (by omega) Wd.nil)
 have ht:=trim_run (E:=E) (ws:=[((n % 1000000000:Nat):Int),((n / 1000000000:Nat):Int)]) (k:=2) (Nat.le_refl _) (by decide)
 refine x8s (v1:=((n % 1000000000:Nat):Int)) (v2:=((n % 1000000000:Nat):Int)) (v3:=((n / 1000000000:Nat):Int)) (v4:=((n / 1000000000:Nat):Int)) (tmd (by omega) (by omega)) (w32 (by omega)) (wu ⟨tdv (by omega) (by omega),by omega,by omega⟩) (w32 (by omega)) ?_ ht
 show (Wr [((n % 1000000000:Nat):Int),((n / 1000000000:Nat):Int)]).take _=_
 rw [Wr_take,trimN_words hw (by simp)]
 have:(wv (List.take 2 [((n % 1000000000:Nat):Int),((n / 1000000000:Nat):Int)])).toNat=n:=by simp [wv]; omega
 rw [this]
theorem small_yes {n:Nat} (h:n < 1000000000000000000):Fn E C7 [.c (.list (Wr (words n)))] (.tup [.c (.u64 n),.c (.bool true)]):=by
 rcases words_two h with ⟨e,rfl⟩ | ⟨e,h0,h1⟩ | ⟨e,h1⟩
 · rw [e]; exact y6j rfl
 · rw [e]
   exact y6k (v1:=(n:Int)) (v2:=(n:Int)) (wu (by omega)) (by simp [Wr]) (by simp [Wr]) rfl
 · rw [e]
   exact y6l (v1:=((n % 1000000000:Nat):Int)) (v2:=((n % 1000000000:Nat):Int)) (v3:=((n / 1000000000:Nat):Int)) (v4:=((n / 1000000000:Nat):Int)) (v5:=1000000000*((n / 1000000000:Nat):Int)) (v6:=(n:Int))
    (wu (by omega)) (wu (by omega)) (wu (by omega)) (wu (by omega)) (by simp [Wr]) (by simp [Wr]) (by simp [Wr]) rfl rfl
theorem small_no {n:Nat} (h:¬ n < 1000000000000000000):Fn E C7 [.c (.list (Wr (words n)))] (.tup [.c (.u64 0),.c (.bool false)]):=by
 have hl:¬ (words n).length≤2:=fun e=>h (words_len.1 e)
 exact y6m (by rw [Wr_len]; omega) (by rw [Wr_len]; omega) (by rw [Wr_len]; omega)
theorem val_lt_of_top {xs ys:List Int} (hx:Wd xs) (hy:Wd ys) {i:Nat} (hi:i < xs.length) (hj:i < ys.length) (h:xs.getD i 0 < ys.getD i 0) (he:xs.drop (i+1)=ys.drop (i+1)):wv xs < wv ys:=by
 rw [val_take_drop xs i (by omega),val_take_drop ys i (by omega),val_drop xs i hi,val_drop ys i hj,he]
 have h1:=val_lt (hx.take i)
 have h2:=val_nonneg (hy.take i)
 rw [List.length_take,Nat.min_eq_left (by omega)] at h1
 rw [Int.mul_add,Int.mul_add]
 have h3:pw i*(xs.getD i 0+1)≤pw i*ys.getD i 0:=Int.mul_le_mul_of_nonneg_left (by omega) (by have:=pw_pos i; omega)
 rw [Int.mul_add,Int.mul_one] at h3
 omega
theorem cmp_loop (xs ys:List Int) (hx:Wd xs) (hy:Wd ys) (hl:xs.length=ys.length) (hb:xs.length < 9223372036854775807):∀ k:Nat,k≤xs.length→xs.drop k=ys.drop k →
    (xs=ys∧Lp E 0 C6 0 (J8 (Wr xs) (Wr ys) ((k:Int) - 1)) (.exit 0) Z5) ∨
    (xs≠ys∧Lp E 0 C6 0 (J8 (Wr xs) (Wr ys) ((k:Int) - 1)) .ret (Z4 (cmpI (wv xs) (wv ys))))
 | 0,_,h=>.inl ⟨by simpa using h,z8a (by omega)⟩
 | k+1,hk,h=>by
  have ek:((k+1:Nat):Int) - 1=(k:Int):=by omega
  rw [ek]
  have g1:(Wr xs)[Int.toNat (k:Int)]?=some [.u32 (xs.getD k 0)]:=Wr_getD (by omega)
  have g2:(Wr ys)[Int.toNat (k:Int)]?=some [.u32 (ys.getD k 0)]:=Wr_getD (by omega)
  by_cases h0:xs.getD k 0=ys.getD k 0
  · have hd:xs.drop k=ys.drop k:=by rw [drop_cons xs k (by omega),drop_cons ys k (by omega),h0,h]
    rcases cmp_loop xs ys hx hy hl hb k (by omega) hd with ⟨e,ih⟩ | ⟨e,ih⟩
    · exact .inl ⟨e,z5x (wi (by omega)) (by omega) (by omega) g1 g2 h0 ih⟩
    · exact .inr ⟨e,z5x (wi (by omega)) (by omega) (by omega) g1 g2 h0 ih⟩
  · refine .inr ⟨fun e=>h0 (by rw [e]),?_⟩
    have hc:cmpI (wv xs) (wv ys)=cmpI (xs.getD k 0) (ys.getD k 0):=by
     rcases Int.lt_or_gt_of_ne h0 with c | c
     · have:=val_lt_of_top hx hy (by omega) (by omega) c h
       unfold cmpI; rw [if_pos this,if_pos c]
     · have:=val_lt_of_top hy hx (by omega) (by omega) c h.symm
       unfold cmpI; rw [if_neg (by omega),if_pos this,if_neg (by omega),if_pos c]
    rw [hc]
    exact z7z (by omega) (by omega) g1 g2 h0 (cmp_u32 _ _)
theorem cmpI_eq {a b:Int} (h:a=b):cmpI a b=0:=by unfold cmpI; rw [if_neg (by omega),if_neg (by omega)]
theorem compare_ok {m n:Nat} (hm:(words m).length < 9223372036854775807):Fn E C6 [.c (.list (Wr (words m))),.c (.list (Wr (words n)))] (.c (.i64 (cmpI m n))):=by
 by_cases hl:(words m).length=(words n).length
 · rcases cmp_loop (E:=E) (words m) (words n) (words_wd m) (words_wd n) hl hm (words m).length (Nat.le_refl _) (by rw [List.drop_length,hl,List.drop_length]) with ⟨e,h⟩ | ⟨e,h⟩
   · have:=words_inj e
     subst this
     rw [cmpI_eq rfl]
     exact y3e (wi (by rw [Wr_len]; omega)) (by rw [Wr_len]) h
   · rw [words_val,words_val] at h
     exact y3d (wi (by rw [Wr_len]; omega)) (by rw [Wr_len,Wr_len]; omega) h
 · have hc:cmpI m n=cmpI ((Wr (words m)).length:Int) ((Wr (words n)).length:Int):=by
    rw [Wr_len,Wr_len]
    rcases Nat.lt_or_gt_of_ne hl with c | c
    · have:m < n:=by
       rcases Nat.lt_or_ge m n with h | h
       · exact h
       · have:=(words_tr n).length_le (words_wd n) (words_wd m) (by rw [words_val,words_val]; omega)
         omega
      unfold cmpI; rw [if_pos (by omega),if_pos (by omega)]
    · have:n < m:=by
       rcases Nat.lt_or_ge n m with h | h
       · exact h
       · have:=(words_tr m).length_le (words_wd m) (words_wd n) (by rw [words_val,words_val]; omega)
         omega
      unfold cmpI; rw [if_neg (by omega),if_pos (by omega),if_neg (by omega),if_pos (by omega)]
   rw [hc]
   exact y3c (by rw [Wr_len,Wr_len]; omega) (cmp_i64 _ _)
end Gev
namespace Gev
open Go Gb
variable {E:Env}
theorem drop_nil {xs:List Int} {i:Nat} (h:xs.length≤i):xs.drop i=[]:=List.drop_eq_nil_of_le h
theorem getD_nil {xs:List Int} {i:Nat} (h:xs.length≤i):xs.getD i 0=0:=by rw [List.getD_eq_getElem?_getD,List.getElem?_eq_none h]; rfl
theorem wv_drop (xs:List Int) (i:Nat):wv (xs.drop i)=xs.getD i 0+1000000000*wv (xs.drop (i+1)):=by
 rcases Nat.lt_or_ge i xs.length with h | h
 · exact val_drop xs i h
 · rw [drop_nil h,drop_nil (by omega),getD_nil h]; rfl
theorem tm_emod (S:Int):(if Int.tmod S 1000000000 < 0 then Int.tmod S 1000000000+1000000000 else Int.tmod S 1000000000)=S % 1000000000:=by
 rw [Int.tmod_eq_emod]
 split <;> split <;> omega
theorem merge_round {xs ys:List Int} {sg:Int} (hsg:sg=1∨sg=-1) (hx:Wd xs) (hy:Wd ys) {N:Int} (hN:N < 4611686018427387904) {i:Nat} {c:Int} (hc:-1≤c∧c≤1) {zs:List Int} (hz:zs.length=i) (hi:(i:Int) < N) (hM:i+1≤35184372088832) {o:Out} {st':St}
    (ih:Lp E 1 B5 0 (C0 (Wr xs) (Wr ys) sg (i+1) ((c+xs.getD i 0+sg*ys.getD i 0) / 1000000000) N ((i+1:Nat):Int) (Wr (zs++[(c+xs.getD i 0+sg*ys.getD i 0) % 1000000000]))) o st') :
    Lp E 1 B5 0 (C0 (Wr xs) (Wr ys) sg i c N i (Wr zs)) o st':=by
 have ha:=hx.getD i
 have hb:=hy.getD i
 obtain ⟨a,ea⟩:∃ a,a=xs.getD i 0:=⟨_,rfl⟩
 obtain ⟨b,eb⟩:∃ b,b=ys.getD i 0:=⟨_,rfl⟩
 obtain ⟨p,ep⟩:∃ p,p=sg*b:=⟨_,rfl⟩
 have hp:-1000000000 < p∧p < 1000000000:=by rcases hsg with rfl | rfl <;> omega
 rw [← ea,← eb] at ih
 rw [← ea] at ha
 rw [← eb] at hb
 rw [← ep] at ih
 obtain ⟨S,eS⟩:∃ S,S=c+a+p:=⟨_,rfl⟩
 rw [← eS] at ih
 have gx:i < xs.length→(Wr xs)[Int.toNat (i:Int)]?=some [.u32 a]:=fun h=>by rw [ea]; exact Wr_getD h
 have gy:i < ys.length→(Wr ys)[Int.toNat (i:Int)]?=some [.u32 b]:=fun h=>by rw [eb]; exact Wr_getD h
 have hS:-2000000000 < S∧S < 3000000000:=by omega
 have hlen:(i+1)*4≤140737488355328∧i+1≤140737488355328:=by omega
 have hap:∀ w,(Wr zs).take i++[[DV.u32 w]]=Wr (zs++[w]):=fun w=>by rw [Wr_take,← hz,List.take_length,Wr_snoc]
 have ht:=tm_emod S
 have hq:Int.tmod S 1000000000 < 0→Int.tdiv S 1000000000 - 1=S / 1000000000:=fun h=>by
  have:=Int.tmod_add_mul_tdiv S 1000000000
  have:=Int.emod_add_mul_ediv S 1000000000
  rw [if_pos h] at ht; omega
 have hq':¬ Int.tmod S 1000000000 < 0→Int.tdiv S 1000000000=S / 1000000000:=fun h=>by
  have:=Int.tmod_add_mul_tdiv S 1000000000
  have:=Int.emod_add_mul_ediv S 1000000000
  rw [if_neg h] at ht; omega
 have hr:0≤S % 1000000000∧S % 1000000000 < 1000000000:=by omega
 have hd:-4≤S / 1000000000∧S / 1000000000≤4:=by omega
 by_cases c1:i < xs.length
 · by_cases c2:i < ys.length
   · by_cases c3:Int.tmod S 1000000000 < 0
     · rw [if_pos c3] at ht
       exact y0y (v1:=a) (v2:=a) (v3:=c+a) (v4:=b) (v5:=b) (v6:=p) (v7:=S) (v9:=Int.tdiv S 1000000000) (wi (by omega)) (wi (by omega)) (wi (by omega)) (wi (by omega)) (wi (by omega)) rfl (wi (by have:=hq c3; omega)) (wi ⟨ht,by omega⟩) (wi ⟨hq c3,by omega⟩) (w32 (by omega)) (hap _) rfl (wi (by omega))
        (by omega) (by rw [Wr_len]; omega) (by omega) (gx c1) (by rw [Wr_len]; omega) (gy c2) c3 hlen ih
     · rw [if_neg c3] at ht
       exact y0z (v1:=a) (v2:=a) (v3:=c+a) (v4:=b) (v5:=b) (v6:=p) (v7:=S) (v8:=S % 1000000000) (wi (by omega)) (wi (by omega)) (wi (by omega)) (wi (by omega)) (wi (by omega)) ht (wi ⟨hq' c3,by omega⟩) (w32 (by omega)) (hap _) rfl (wi (by omega))
        (by omega) (by rw [Wr_len]; omega) (by omega) (gx c1) (by rw [Wr_len]; omega) (gy c2) (by omega) hlen ih
   · have b0:b=0:=by rw [eb]; exact getD_nil (by omega)
     have p0:p=0:=by rw [ep,b0]; exact Int.mul_zero _
     by_cases c3:Int.tmod S 1000000000 < 0
     · rw [if_pos c3] at ht
       exact y1a (v1:=a) (v2:=a) (v3:=S) (v5:=Int.tdiv S 1000000000) (wi (by omega)) (wi (by omega)) rfl (wi (by have:=hq c3; omega)) (wi ⟨ht,by omega⟩) (wi ⟨hq c3,by omega⟩) (w32 (by omega)) (hap _) rfl (wi (by omega))
        (by omega) (by rw [Wr_len]; omega) (by omega) (gx c1) (by rw [Wr_len]; omega) c3 hlen ih
     · rw [if_neg c3] at ht
       exact y1b (v1:=a) (v2:=a) (v3:=S) (v4:=S % 1000000000) (wi (by omega)) (wi (by omega)) ht (wi ⟨hq' c3,by omega⟩) (w32 (by omega)) (hap _) rfl (wi (by omega))
        (by omega) (by rw [Wr_len]; omega) (by omega) (gx c1) (by rw [Wr_len]; omega) (by omega) hlen ih
 · have a0:a=0:=by rw [ea]; exact getD_nil (by omega)
   by_cases c2:i < ys.length
   · by_cases c3:Int.tmod S 1000000000 < 0
     · rw [if_pos c3] at ht
       exact y1c (v1:=b) (v2:=b) (v3:=p) (v4:=S) (v6:=Int.tdiv S 1000000000) (wi (by omega)) (wi (by omega)) (wi (by omega)) rfl (wi (by have:=hq c3; omega)) (wi ⟨ht,by omega⟩) (wi ⟨hq c3,by omega⟩) (w32 (by omega)) (hap _) rfl (wi (by omega))
        (by omega) (by rw [Wr_len]; omega) (by rw [Wr_len]; omega) (by omega) (gy c2) c3 hlen ih
     · rw [if_neg c3] at ht
       exact y1d (v1:=b) (v2:=b) (v3:=p) (v4:=S) (v5:=S % 1000000000) (wi (by omega)) (wi (by omega)) (wi (by omega)) ht (wi ⟨hq' c3,by omega⟩) (w32 (by omega)) (hap _) rfl (wi (by omega))
        (by omega) (by rw [Wr_len]; omega) (by rw [Wr_len]; omega) (by omega) (gy c2) (by omega) hlen ih
   · have b0:b=0:=by rw [eb]; exact getD_nil (by omega)
     have p0:p=0:=by rw [ep,b0]; exact Int.mul_zero _
     have e0:S=c:=by omega
     subst e0
     by_cases c3:Int.tmod S 1000000000 < 0
     · rw [if_pos c3] at ht
       exact y1e (v2:=Int.tdiv S 1000000000) rfl (wi (by have:=hq c3; omega)) (wi ⟨ht,by omega⟩) (wi ⟨hq c3,by omega⟩) (w32 (by omega)) (hap _) rfl (wi (by omega))
        (by omega) (by rw [Wr_len]; omega) (by rw [Wr_len]; omega) c3 hlen ih
     · rw [if_neg c3] at ht
       exact y1f (v1:=S % 1000000000) ht (wi ⟨hq' c3,by omega⟩) (w32 (by omega)) (hap _) rfl (wi (by omega))
        (by omega) (by rw [Wr_len]; omega) (by rw [Wr_len]; omega) (by omega) hlen ih
theorem merge_loop {xs ys:List Int} {sg:Int} (hsg:sg=1∨sg=-1) (hx:Wd xs) (hy:Wd ys) {N:Nat} (hN:N < 35184372088832):∀ d i c zs,i+d=N→-1≤c∧c≤1→zs.length=i→Wd zs →
    ∃ c' zs',Lp E 1 B5 0 (C0 (Wr xs) (Wr ys) sg i c N i (Wr zs)) (.exit 0) (O9 N c' (Wr zs'))∧zs'.length=N∧Wd zs'∧(-1≤c'∧c'≤1) ∧
     wv zs'+pw N*(c'+wv (xs.drop N)+sg*wv (ys.drop N))=wv zs+pw i*(c+wv (xs.drop i)+sg*wv (ys.drop i))
 | 0,i,c,zs,hi,hc,hz,hw=>by
  have:i=N:=by omega
  subst this
  exact ⟨c,zs,z9i (by omega),hz,hw,hc,rfl⟩
 | d+1,i,c,zs,hi,hc,hz,hw=>by
  have ha:=hx.getD i
  have hb:=hy.getD i
  obtain ⟨p,ep⟩:∃ p,p=sg*ys.getD i 0:=⟨_,rfl⟩
  have hp:-1000000000 < p∧p < 1000000000:=by rcases hsg with rfl | rfl <;> omega
  obtain ⟨S,eS⟩:∃ S,S=c+xs.getD i 0+sg*ys.getD i 0:=⟨_,rfl⟩
  rw [← ep] at eS
  have hr:0≤S % 1000000000∧S % 1000000000 < 1000000000:=by omega
  obtain ⟨c',zs',h1,h2,h3,h4,h5⟩:=merge_loop hsg hx hy hN d (i+1) (S / 1000000000) (zs++[S % 1000000000]) (by omega) (by omega) (by simp [hz]) (hw.append (Wd.cons hr.1 hr.2 Wd.nil))
  refine ⟨c',zs',merge_round hsg hx hy (by omega) hc hz (by omega) (by omega) (by rw [← ep,← eS]; exact h1),h2,h3,h4,?_⟩
  rw [h5,val_snoc,hz,wv_drop xs i,wv_drop ys i,pw_succ]
  have e1:S % 1000000000=S - 1000000000*(S / 1000000000):=by omega
  rw [e1,eS,ep]
  grind
theorem merge_ok {xs ys:List Int} {sg:Int} (hsg:sg=1∨sg=-1) (hx:Wd xs) (hy:Wd ys) (h1:xs.length < 35184372088000) (h2:ys.length < 35184372088000) :
    ∃ c zs,Fn E B5 [.c (.list (Wr xs)),.c (.list (Wr ys)),.c (.i64 sg)] (.c (.list (Wr (if c > 0 then zs++[c] else zs))))∧zs.length=max xs.length ys.length∧Wd zs∧(-1≤c∧c≤1)∧wv zs+pw (max xs.length ys.length)*c=wv xs+sg*wv ys:=by
 obtain ⟨c,zs,k1,k2,k3,k4,k5⟩:=merge_loop (E:=E) hsg hx hy (N:=max xs.length ys.length) (by omega) (max xs.length ys.length) 0 0 [] (by omega) (by omega) rfl Wd.nil
 rw [drop_nil (xs:=xs) (by omega),drop_nil (xs:=ys) (by omega),List.drop_zero,List.drop_zero,pw_zero] at k5
 have e5:wv zs+pw (max xs.length ys.length)*c=wv xs+sg*wv ys:=by
  rw [show wv []=0 from rfl] at k5
  have:c+0+sg*0=c:=by omega
  rw [this] at k5
  omega
 have em:(if ((Wr ys).length:Int) > ((Wr xs).length:Int) then ((Wr ys).length:Int) else ((Wr xs).length:Int))=((max xs.length ys.length:Nat):Int):=by
  rw [Wr_len,Wr_len]; split <;> omega
 have hcap:0≤(0:Int)∧(0:Int)≤(xs.length:Int)+1∧(Int.toNat ((xs.length:Int)+1))*4≤140737488355328∧(Int.toNat ((xs.length:Int)+1))≤140737488355328:=by omega
 have tk:(Wr zs).take (max xs.length ys.length)=Wr zs:=by rw [← k2,Wr_take,List.take_length]
 refine ⟨c,zs,?_,k2,k3,k4,e5⟩
 by_cases hc:c > 0
 · rw [if_pos hc]
   refine y6g (v1:=(xs.length:Int)+1) (v6:=c) (v7:=Wr (zs++[c])) (wi (by rw [Wr_len]; omega)) em (w32 (by omega)) (by rw [tk,Wr_snoc]) rfl ?_ hcap k1 hc (by omega)
   rw [Wr_take,List.take_of_length_le (by simp; omega)]
 · rw [if_neg hc]
   exact y6h (v1:=(xs.length:Int)+1) (wi (by rw [Wr_len]; omega)) em tk hcap k1 hc
theorem plus_ok {m n:Nat} (h1:(words m).length < 35184372088000) (h2:(words n).length < 35184372088000):Fn E z1p [.c (.list (Wr (words m))),.c (.list (Wr (words n)))] (.c (.list (Wr (words (m+n))))):=by
 obtain ⟨c,zs,k1,k2,k3,k4,k5⟩:=merge_ok (E:=E) (.inl rfl) (words_wd m) (words_wd n) h1 h2
 refine y8n ?_
 have hv:=words_val m
 have hv':=words_val n
 rw [hv,hv',Int.one_mul] at k5
 have hz:=val_lt k3
 have hz0:=val_nonneg k3
 have hpos:=pw_pos (max (words m).length (words n).length)
 rw [k2] at hz
 have hc0:0≤c:=by
  rcases Int.lt_or_le c 0 with h | h
  · have:c=-1:=by omega
    subst this
    rw [Int.mul_neg,Int.mul_one] at k5
    omega
  · exact h
 have e:(if c > 0 then zs++[c] else zs)=words (m+n):=by
  have hval:wv (if c > 0 then zs++[c] else zs)=((m+n:Nat):Int):=by
   split
   · rw [val_snoc,k2,k5]; omega
   · have:c=0:=by omega
     subst this
     rw [Int.mul_zero] at k5; omega
  have hwd:Wd (if c > 0 then zs++[c] else zs):=by
   split
   · exact k3.append (Wd.cons hc0 (by omega) Wd.nil)
   · exact k3
  rw [← show (((m+n:Nat):Int)).toNat=m+n from rfl,← hval]
  refine eq_words hwd ?_
  split
  · exact Tr.snoc (by omega)
  · rename_i hn
    have hc:c=0:=by omega
    subst hc
    rw [Int.mul_zero] at k5
    intro hl
    by_cases hzn:zs=[]
    · rw [hzn] at hl; cases hl
    · obtain ⟨ys,y,rfl⟩:∃ ys y,zs=ys++[y]:=by
       rcases List.eq_nil_or_concat zs with h | ⟨ys,y,h⟩
       · exact absurd h hzn
       · exact ⟨ys,y,by rw [h,List.concat_eq_append]⟩
      have hy:y=0:=by simpa using hl
      subst hy
      rw [val_snoc,Int.mul_zero] at k5
      have h6:=val_lt k3.left
      simp only [List.length_append,List.length_singleton] at k2
      have h7:wv ys+0=(m:Int)+n:=by omega
      rcases Nat.le_total (words m).length (words n).length with hmn | hmn
      · have hne:words n≠[]:=by intro h0; rw [h0] at k2 hmn; simp at hmn; rw [hmn] at k2; simp at k2
        have h8:=(words_tr n).val_ge (words_wd n) hne
        rw [hv',show (words n).length - 1=ys.length by omega] at h8
        omega
      · have hne:words m≠[]:=by intro h0; rw [h0] at k2 hmn; simp at hmn; rw [hmn] at k2; simp at k2
        have h8:=(words_tr m).val_ge (words_wd m) hne
        rw [hv,show (words m).length - 1=ys.length by omega] at h8
        omega
 rw [e] at k1
 exact k1
theorem minus_ok {m n:Nat} (h1:(words m).length < 35184372088000) (hmn:n≤m):Fn E z0t [.c (.list (Wr (words m))),.c (.list (Wr (words n)))] (.c (.list (Wr (words (m - n))))):=by
 have hle:(words n).length≤(words m).length:=(words_tr n).length_le (words_wd n) (words_wd m) (by rw [words_val,words_val]; omega)
 obtain ⟨c,zs,k1,k2,k3,k4,k5⟩:=merge_ok (E:=E) (.inr rfl) (words_wd m) (words_wd n) h1 (by omega)
 rw [words_val,words_val] at k5
 have hz:=val_lt k3
 have hz0:=val_nonneg k3
 have hpos:=pw_pos (max (words m).length (words n).length)
 rw [k2] at hz
 have hm:=val_lt (words_wd m)
 rw [words_val] at hm
 rw [Nat.max_eq_left hle] at k5 k2 hz hpos
 have hc:c=0:=by
  rcases Int.lt_trichotomy c 0 with h | h | h
  · have:c=-1:=by omega
    subst this
    rw [Int.mul_neg,Int.mul_one] at k5
    omega
  · exact h
  · have:c=1:=by omega
    subst this
    rw [Int.mul_one] at k5
    omega
 subst hc
 rw [if_neg (by decide)] at k1
 refine y6i k1 ?_
 have:=trim_data (E:=E) k3 (by omega)
 rw [show (wv zs).toNat=m - n by omega] at this
 exact this
end Gev
namespace Gev
open Go Gb
variable {E:Env}
theorem getD_set_same {xs:List Int} {i:Nat} (h:i < xs.length) (x:Int):(xs.set i x).getD i 0=x:=by
 rw [List.getD_eq_getElem?_getD,List.getElem?_set_self h]; rfl
theorem getD_set_ne {xs:List Int} {i j:Nat} (h:i≠j) (x:Int):(xs.set i x).getD j 0=xs.getD j 0:=by
 rw [List.getD_eq_getElem?_getD,List.getD_eq_getElem?_getD,List.getElem?_set_ne h]
theorem mul_bound {x y:Int} (hx:0≤x∧x < 1000000000) (hy:0≤y∧y < 1000000000):0≤x*y∧x*y≤999999998000000001:=by
 constructor
 · exact Int.mul_nonneg hx.1 hy.1
 · have:=Int.mul_le_mul (show x≤999999999 by omega) (show y≤999999999 by omega) hy.1 (by decide)
   omega
theorem Wd.at {xs:List Int} (h:Wd xs) {i:Nat}:0≤xs.getD i 0∧xs.getD i 0 < 1000000000:=h.getD i
theorem alg1 {O O0 P K c T x y w S q r p:Int} (hv:O+P*K*c=O0+P*(x*T)) (ep:p=x*y) (hS:S=c+(p+w)) (hr:r+1000000000*q=S):O+P*K*(r - w)+1000000000*(P*K)*q=O0+P*(x*(T+K*y)):=by
 have e:r=c+x*y+w - 1000000000*q:=by omega
 subst e
 grind
theorem alg2 {A x w S q r V:Int} (hS:S=r*1000000000+x) (hr:A+w*q=S):(q+1000000000*V)*w+A=x+1000000000*(V*w+r):=by
 have e:A=r*1000000000+x - w*q:=by omega
 subst e
 grind
theorem times_inner {xs ys:List Int} (hy:Wd ys) {N i:Nat} {x:Int} (hx:0≤x∧x < 1000000000) (hN:N < 4611686018427387904) (hiN:i+ys.length≤N) {out0:List Int} :
    ∀ d k c out,k+d=ys.length→0≤c∧c < 1000000000→Wd out→out.length=N→(∀ j,i+k≤j→out.getD j 0=out0.getD j 0) →
    wv out+pw (i+k)*c=wv out0+pw i*(x*wv (ys.take k)) →
    ∃ c' out',Lp E 1 D1 1 (z0f (Wr ys) N i x c (Wr xs) xs.length i (Wr ys) ys.length k (Wr out)) (.exit 2) (z1a (Wr ys) N i (Wr xs) xs.length i c' (Wr out')) ∧
     (0≤c'∧c' < 1000000000)∧Wd out'∧out'.length=N∧(∀ j,i+ys.length≤j→out'.getD j 0=out0.getD j 0)∧wv out'+pw (i+ys.length)*c'=wv out0+pw i*(x*wv ys)
 | 0,k,c,out,hk,hc,hw,hl,hj,hv=>by
  have:k=ys.length:=by omega
  subst this
  rw [List.take_length] at hv
  exact ⟨c,out,z9r (by omega),hc,hw,hl,hj,hv⟩
 | d+1,k,c,out,hk,hc,hw,hl,hj,hv=>by
  have hyk:=hy.getD k
  obtain ⟨y,ey⟩:∃ y,y=ys.getD k 0:=⟨_,rfl⟩
  rw [← ey] at hyk
  have ho:=hw.getD (i+k)
  obtain ⟨w,ew⟩:∃ w,w=out.getD (i+k) 0:=⟨_,rfl⟩
  rw [← ew] at ho
  have hxy:=mul_bound hx hyk
  obtain ⟨p,ep⟩:∃ p,p=x*y:=⟨_,rfl⟩
  rw [← ep] at hxy
  obtain ⟨S,eS⟩:∃ S,S=c+(p+w):=⟨_,rfl⟩
  have hS:0≤S∧S≤999999999999999999:=by omega
  have hik:i+k < out.length:=by omega
  obtain ⟨c',out',k1,k2,k3,k4,k5,k6⟩:=times_inner hy hx hN hiN (out0:=out0) d (k+1) (S / 1000000000) (out.set (i+k) (S % 1000000000)) (by omega) (by omega) (hw.set _ (by omega) (by omega)) (by simpa using hl)
   (fun j h=>by rw [getD_set_ne (by omega)]; exact hj j (by omega)) (by
    rw [val_set out (i+k) hik,← ew,val_take_succ ys k (by omega),← ey,← Nat.add_assoc,pw_succ,pw_add]
    rw [pw_add] at hv
    exact alg1 hv ep eS (Int.emod_add_mul_ediv S 1000000000))
  refine ⟨c',out',?_,k2,k3,k4,k5,k6⟩
  refine y1k (v1:=y) (v2:=x) (v3:=y) (v4:=p) (v5:=((i+k:Nat):Int)) (v6:=w) (v7:=w) (v8:=p+w) (v9:=S) (v10:=S % 1000000000) (v11:=S % 1000000000) (v12:=Wr (out.set (i+k) (S % 1000000000))) (v13:=S / 1000000000) (v14:=((k+1:Nat):Int))
   (wu (by omega)) (wu (by omega)) (wu (by omega)) (wi (by omega)) (wu (by omega)) (wu (by omega)) (wu (by omega)) (tmd hS.1 rfl) (w32 (by omega)) ?_ (wu ⟨tdv hS.1 rfl,by omega,by omega⟩) (wi (by omega))
   (by omega) (by omega) (by rw [ey]; exact Wr_getD (by omega)) (by omega) (by rw [ew]; exact Wr_getD hik) k1
  rw [Int.toNat_natCast,Wr_set]
theorem times_outer {xs ys:List Int} (hx:Wd xs) (hy:Wd ys) {N:Nat} (hN:N < 4611686018427387904) (hl:N=xs.length+ys.length) :
    ∀ d i out,i+d=xs.length→Wd out→out.length=N→(∀ j,i+ys.length≤j→out.getD j 0=0)→wv out=wv (xs.take i)*wv ys →
    ∃ out',Lp E 1 D1 0 (z0e (Wr ys) N (Wr xs) xs.length i (Wr out)) (.exit 0) (z0z N (Wr out'))∧Wd out'∧out'.length=N∧wv out'=wv xs*wv ys
 | 0,i,out,hi,hw,ho,_,hv=>by
  have:i=xs.length:=by omega
  subst this
  rw [List.take_length] at hv
  exact ⟨out,z9q (by omega),hw,ho,hv⟩
 | d+1,i,out,hi,hw,ho,hj,hv=>by
  have hxi:=hx.getD i
  obtain ⟨x,ex⟩:∃ x,x=xs.getD i 0:=⟨_,rfl⟩
  rw [← ex] at hxi
  obtain ⟨c',out1,k1,k2,k3,k4,k5,k6⟩:=times_inner (E:=E) (xs:=xs) hy hxi hN (i:=i) (by omega) (out0:=out) ys.length 0 0 out (by omega) (by omega) hw ho (fun _ _=>rfl) (by simp [wv])
  have hik:i+ys.length < out1.length:=by omega
  have h0:out1.getD (i+ys.length) 0=0:=by rw [k5 _ (Nat.le_refl _)]; exact hj _ (Nat.le_refl _)
  obtain ⟨out',g1,g2,g3,g4⟩:=times_outer hx hy hN hl d (i+1) (out1.set (i+ys.length) c') (by omega) (k3.set _ k2.1 k2.2) (by simp [k4])
   (fun j h=>by rw [getD_set_ne (by omega),k5 j (by omega)]; exact hj j (by omega)) (by
    rw [val_set out1 _ hik,h0,val_take_succ xs i (by omega),← ex,Int.sub_zero,k6,hv]
    grind)
  refine ⟨out',?_,g2,g3,g4⟩
  refine y1j (v1:=x) (v2:=c') (v3:=Wr out1) (v4:=((i+ys.length:Nat):Int)) (v5:=c') (v6:=0) (v7:=Wr (out1.set (i+ys.length) c')) (v8:=((i+1:Nat):Int))
   (wi (by rw [Wr_len]; omega)) (w32 (by omega)) (by rw [Int.toNat_natCast,Wr_set]) (wi (by omega)) (by omega) (by omega) (by rw [ex]; exact Wr_getD (by omega)) (by rw [Wr_len]; exact k1) (by omega) (by rw [← h0]; exact Wr_getD hik) g1
theorem toNat_mul {a b:Int} {m n:Nat} (ha:a=m) (hb:b=n):(a*b).toNat=m*n:=by
 rw [ha,hb,← Int.natCast_mul]; rfl
theorem times_ok {m n:Nat} (hl:(words m).length+(words n).length < 35184372088000):∃ k xs,Rn E D1 [.c (.list (Wr (words m))),.c (.list (Wr (words n)))] [] (.vec 0 k) [some (.vec A3 (Wr xs))]∧xs.take k=words (m*n)∧k≤xs.length∧xs.length=(words m).length+(words n).length:=by
 obtain ⟨out,k1,k2,k3,k4⟩:=times_outer (E:=E) (words_wd m) (words_wd n) (N:=(words m).length+(words n).length) (by omega) rfl (words m).length 0 (List.replicate ((words m).length+(words n).length) 0) (by omega) (Wd.replicate _) (by simp)
  (fun j _=>by rw [List.getD_eq_getElem?_getD,List.getElem?_replicate]; split <;> rfl) (by rw [val_replicate]; simp [wv])
 have ht:=trim_run (E:=E) (ws:=out) (k:=(words m).length+(words n).length) (by omega) (by omega)
 have hw:=trimN_words k2 (k:=(words m).length+(words n).length) (by omega)
 rw [← k3,List.take_length,k4,toNat_mul (words_val m) (words_val n),k3] at hw
 refine ⟨trimN out ((words m).length+(words n).length),out,?_,hw,by have:=trimN_le out ((words m).length+(words n).length); omega,k3⟩
 refine y6n (v1:=(((words m).length+(words n).length:Nat):Int)) (v2:=(words m).length+(words n).length) (v3:=Wr (List.replicate ((words m).length+(words n).length) 0)) (wi (by rw [Wr_len,Wr_len]; omega)) (Int.toNat_natCast _) (Wr_replicate _ _) (by omega) ?_ ht
 rw [Wr_len]; exact k1
theorem times_fn {m n:Nat} (hl:(words m).length+(words n).length < 35184372088000):Fn E D1 [.c (.list (Wr (words m))),.c (.list (Wr (words n)))] (.c (.list (Wr (words (m*n))))):=by
 obtain ⟨k,xs,h,hk,_,_⟩:=times_ok (E:=E) hl
 have:=h.toFn hTT E.hs hmm
 rwa [Wr_take,hk] at this
theorem by_loop {xs:List Int} (hx:Wd xs) {N:Nat} (hN:xs.length=N) (hb:N < 4611686018427387904) {w:Int} (hw:0 < w∧w < 1000000000):∀ k rest out,k≤N→0≤rest∧rest < w→Wd out→out.length=N →
    wv (out.drop k)*w+rest=wv (xs.drop k) →
    ∃ rest' out',Lp E 1 O7 0 (z2d (Wr xs) w N rest ((k:Int) - 1) (Wr out)) (.exit 0) (z2o N rest' (Wr out'))∧(0≤rest'∧rest' < w)∧Wd out'∧out'.length=N∧wv out'*w+rest'=wv xs
 | 0,rest,out,_,hr,ho,hl,hv=>by
  rw [List.drop_zero,List.drop_zero] at hv
  exact ⟨rest,out,y2a (by omega),hr,ho,hl,hv⟩
 | k+1,rest,out,hk,hr,ho,hl,hv=>by
  have ek:((k+1:Nat):Int) - 1=(k:Int):=by omega
  rw [ek]
  have hxk:=hx.getD k
  obtain ⟨x,ex⟩:∃ x,x=xs.getD k 0:=⟨_,rfl⟩
  rw [← ex] at hxk
  obtain ⟨S,eS⟩:∃ S,S=rest*1000000000+x:=⟨_,rfl⟩
  have hS:0≤S∧S < w*1000000000:=by omega
  have hq0:0≤S / w:=Int.ediv_nonneg hS.1 (by omega)
  have hq:S / w < 1000000000:=Int.ediv_lt_of_lt_mul (by omega) (by rw [Int.mul_comm]; exact hS.2)
  have hm0:=Int.emod_nonneg S (show w≠0 by omega)
  have hm1:=Int.emod_lt_of_pos S (show 0 < w by omega)
  have hdm:=Int.emod_add_mul_ediv S w
  have hkl:k < out.length:=by omega
  have hd:(out.set k (S / w)).drop (k+1)=out.drop (k+1):=List.drop_set_of_lt (Nat.lt_succ_self k)
  obtain ⟨rest',out',k1,k2,k3,k4,k5⟩:=by_loop hx hN hb hw k (S % w) (out.set k (S / w)) (by omega) ⟨hm0,hm1⟩ (ho.set _ hq0 hq) (by simp [hl]) (by
   rw [wv_drop _ k,wv_drop xs k,← ex,getD_set_same hkl,hd,← hv]
   exact alg2 eS hdm)
  refine ⟨rest',out',?_,k2,k3,k4,k5⟩
  exact y4r (v1:=rest*1000000000) (v2:=x) (v3:=x) (v4:=S) (v5:=S / w) (v6:=S / w) (v7:=out.getD k 0) (v8:=Wr (out.set k (S / w))) (v9:=S % w) (v10:=(k:Int) - 1)
   (wu (by omega)) (wu (by omega)) (wu (by omega)) (wu ⟨tdv hS.1 rfl,hq0,by omega⟩) (w32 (by omega)) (by rw [Int.toNat_natCast,Wr_set]) (tmd hS.1 rfl) (wi (by omega))
   (by omega) (by omega) (by rw [ex]; exact Wr_getD (by omega)) (by omega) (by omega) (Wr_getD hkl) k1
theorem by_ok {n w:Nat} (hw:0 < w∧w < 1000000000) (hl:(words n).length < 35184372088000):Fn E O7 [.c (.list (Wr (words n))),.c (.u64 w)] (.tup [.c (.list (Wr (words (n / w)))),.c (.list (Wr (words (n % w))))]):=by
 obtain ⟨rest,out,k1,k2,k3,k4,k5⟩:=by_loop (E:=E) (words_wd n) (N:=(words n).length) rfl (by omega) (w:=w) (by omega) (words n).length 0 (List.replicate (words n).length 0) (Nat.le_refl _) (by omega) (Wd.replicate _) (by simp)
  (by rw [drop_nil (by simp),drop_nil (Nat.le_refl _)]; simp [wv])
 rw [words_val] at k5
 have h0:=val_nonneg k3
 obtain ⟨q,hq⟩:∃ q:Nat,wv out=q:=⟨(wv out).toNat,by omega⟩
 obtain ⟨r,hr⟩:∃ r:Nat,rest=r:=⟨rest.toNat,by omega⟩
 rw [hq,hr] at k5
 subst hr
 have hn:q*w+r=n:=by
  have:((q*w+r:Nat):Int)=n:=by rw [Int.natCast_add,Int.natCast_mul]; exact k5
  omega
 have hrw:r < w:=by omega
 have e1:n / w=q:=by rw [← hn,Nat.mul_comm,Nat.mul_add_div (by omega),Nat.div_eq_of_lt hrw,Nat.add_zero]
 have e2:n % w=r:=by rw [← hn,Nat.mul_comm,Nat.mul_add_mod,Nat.mod_eq_of_lt hrw]
 rw [e1,e2]
 have ht:=trim_run (E:=E) (ws:=out) (k:=(words n).length) (by omega) (by omega)
 have hw':=trimN_words k3 (k:=(words n).length) (by omega)
 rw [← k4,List.take_length,hq,k4] at hw'
 refine x2q (v1:=(words n).length) (v2:=Wr (List.replicate (words n).length 0)) (v3:=((words n).length:Int) - 1) (v4:=(r:Int)) (v5:=Wr out) (v7:=Wr (words r)) (by rw [Wr_len]; rfl) (Wr_replicate _ _) (wi (by rw [Wr_len]; omega)) ?_ ?_ k1 ht (of_ok (by omega))
 · rw [Wr_take]; exact congrArg Wr hw'
 · rw [Wr_len]; omega
end Gev
namespace Gev
open Go Gb
variable {E:Env}
structure Dv (u v:List Int) (lu k j:Nat):Prop where
 hu:Wd u
 hv:Wd v
 elu:u.length=lu
 elv:v.length=k
 two:2≤k
 norm:1000000000≤2*v.getD (k - 1) 0
 jk:j+k < lu
 small:lu < 35184372088832
 low:wv (u.drop (j+1)) < wv v
theorem Dv.vk {u v:List Int} {lu k j:Nat} (h:Dv u v lu k j):wv v < pw k:=by have:=val_lt h.hv; rwa [h.elv] at this
theorem Dv.zero {u v:List Int} {lu k j:Nat} (h:Dv u v lu k j):wv (u.drop (j+k+1))=0:=above_zero h.hu (Int.lt_trans h.low h.vk)
theorem Dv.vpos {u v:List Int} {lu k j:Nat} (h:Dv u v lu k j):0 < wv v:=by
 have e:=split_two h.elv h.two
 have h1:=val_nonneg (h.hv.take (k - 2))
 have h2:=h.hv.getD (k - 2)
 have h3:=h.norm
 have:0 < (v.getD (k - 1) 0*1000000000+v.getD (k - 2) 0)*pw (k - 2):=Int.mul_pos (by omega) (pw_pos _)
 omega
theorem nd_guess {m w1 w3 w4:List (List DV)} {lq lu k j:Nat} {u v:List Int} (D:Dv u v lu k j) (hw3:∀ i:Nat,i < k→w3[i]?=some [.u32 (v.getD i 0)]) :
    ∀ (t:Nat) (g rest:Int),0≤g→g < t→g≤1000000001→0≤rest∧rest < 1000000000→g*v.getD (k - 1) 0+rest=u.getD (j+k) 0*1000000000+u.getD (j+k - 1) 0→wv (u.drop j) < (g+1)*wv v→(g=1000000001→rest+v.getD (k - 1) 0 < 1000000000) →
    ∃ g',Lp E 5 A4 1 (G4 m lu k k lq j g rest w1 (Wr u) w3 w4) (.exit 3) (H3 m lu k k lq j w1 (Wr u) w3 w4 g')∧(0≤g'∧g' < 1000000000)∧wv (u.drop j) < (g'+1)*wv v∧(g' - 1)*wv v≤wv (u.drop j)
 | 0,g,rest,h0,ht,_,_,_,_,_=>by omega
 | t+1,g,rest,h0,ht,hg,hr,he,hX,hbig=>by
  have h2:=D.two
  have hjk:=D.jk
  have hsm:=D.small
  have hlu:=D.elu
  have a1:=D.hv.getD (k - 1)
  have a2:=D.hv.getD (k - 2)
  have b2:=D.hu.getD (j+k - 2)
  have b1:=D.hu.getD (j+k - 1)
  have b0:=D.hu.getD (j+k)
  have hnorm:=D.norm
  have eV:=split_two D.elv D.two
  have eX:=split_three (u:=u) (j:=j) (k:=k) D.two (by omega) D.zero
  have vl0:=val_nonneg (D.hv.take (k - 2))
  have vl1:=D.hv.val_take_lt (k - 2) (by have:=D.elv; omega)
  have xl0:=val_nonneg ((D.hu.drop j).take (k - 2))
  have xl1:=(D.hu.drop j).val_take_lt (k - 2) (by simp; omega)
  have hP:=pw_pos (k - 2)
  have gk1:w3[Int.toNat ((k:Int) - 1)]?=some [.u32 (v.getD (k - 1) 0)]:=by
   rw [show Int.toNat ((k:Int) - 1)=k - 1 by omega]; exact hw3 _ (by omega)
  have gk2:w3[Int.toNat ((k:Int) - 2)]?=some [.u32 (v.getD (k - 2) 0)]:=by
   rw [show Int.toNat ((k:Int) - 2)=k - 2 by omega]; exact hw3 _ (by omega)
  have gu:(Wr u)[Int.toNat ((j:Int)+k - 2)]?=some [.u32 (u.getD (j+k - 2) 0)]:=by
   rw [show Int.toNat ((j:Int)+k - 2)=j+k - 2 by omega]; exact Wr_getD (by omega)
  obtain ⟨v1,e1⟩:∃ x,x=v.getD (k - 1) 0:=⟨_,rfl⟩
  obtain ⟨v2,e2⟩:∃ x,x=v.getD (k - 2) 0:=⟨_,rfl⟩
  obtain ⟨u2,e3⟩:∃ x,x=u.getD (j+k - 2) 0:=⟨_,rfl⟩
  obtain ⟨top,e4⟩:∃ x,x=u.getD (j+k) 0*1000000000+u.getD (j+k - 1) 0:=⟨_,rfl⟩
  rw [← e1] at a1 hnorm eV gk1 he hbig
  rw [← e2] at a2 eV gk2
  rw [← e3] at b2 eX gu
  rw [← e4] at eX he
  have hg2:0≤g*v2∧g*v2≤1000000001*999999999:=by
   constructor
   · exact Int.mul_nonneg h0 a2.1
   · exact Int.mul_le_mul hg (by omega) a2.1 (by decide)
  have down:1≤g→wv (u.drop j) < g*wv v→(g=1000000001→rest+v1 < 1000000000) →
      (¬ rest+v1≥1000000000→∃ g',Lp E 5 A4 1 (G4 m lu k k lq j (g - 1) (rest+v1) w1 (Wr u) w3 w4) (.exit 3) (H3 m lu k k lq j w1 (Wr u) w3 w4 g')∧(0≤g'∧g' < 1000000000)∧wv (u.drop j) < (g'+1)*wv v∧(g' - 1)*wv v≤wv (u.drop j)) ∧
      (rest+v1≥1000000000→(0≤g - 1∧g - 1 < 1000000000)∧wv (u.drop j) < (g - 1+1)*wv v∧(g - 1 - 1)*wv v≤wv (u.drop j)):=by
   intro hg1 hlt hb
   have hmul:(g - 1)*v1+(rest+v1)=top:=by
    have:(g - 1)*v1=g*v1 - v1:=by grind
    omega
   refine ⟨fun hc=>?_,fun hc=>?_⟩
   · refine nd_guess D hw3 t (g - 1) (rest+v1) (by omega) (by omega) (by omega) (by omega) ?_ (by rw [show g - 1+1=g by omega]; exact hlt) (fun h=>by omega)
     rw [← e1,← e4]; exact hmul
   · have hgB:g - 1 < 1000000000:=by
      rcases Int.lt_or_le (g - 1) 1000000000 with h | h
      · exact h
      · have:=hb (by omega); omega
     refine ⟨⟨by omega,hgB⟩,by rw [show g - 1+1=g by omega]; exact hlt,?_⟩
     refine guess_high hP ⟨vl0,vl1⟩ xl0 eV eX hmul ⟨by omega,hgB⟩ ?_ hnorm a2.1
     have h5:(g - 1)*v2≤999999999*999999999:=Int.mul_le_mul (by omega) (by omega) a2.1 (by decide)
     omega
  by_cases c1:g≥1000000000
  · have hlt:wv (u.drop j) < g*wv v:=by
     have h6:=val_drop u j (by omega)
     have h7:=D.hu.getD j
     have h8:=D.low
     have h9:1000000000*wv v≤g*wv v:=Int.mul_le_mul_of_nonneg_right c1 (by have:=D.vpos; omega)
     omega
    obtain ⟨d1,d2⟩:=down (by omega) hlt hbig
    by_cases c2:rest+v1≥1000000000
    · obtain ⟨d3,d4,d5⟩:=d2 c2
      exact ⟨g - 1,z8c (v2:=(k:Int) - 1) (v3:=v1) (v4:=v1) (v5:=rest+v1) (wu (by omega)) (wi (by omega)) (wu (by omega)) (wu (by omega)) c1 (by omega) gk1 c2,d3,d4,d5⟩
    · obtain ⟨g',d3,d4⟩:=d1 c2
      exact ⟨g',z9l (v2:=(k:Int) - 1) (v3:=v1) (v4:=v1) (wu (by omega)) (wi (by omega)) (wu (by omega)) (wu (by omega)) c1 (by omega) gk1 c2 d3,d4⟩
  · by_cases c3:g*v2 > rest*1000000000+u2
    · have hlt:=guess_low hP vl0 xl1 eV eX he h0 c3
      have hg1:1≤g:=by
       rcases Int.lt_or_le g 1 with h | h
       · have:g=0:=by omega
         subst this
         rw [Int.zero_mul] at c3
         omega
       · exact h
      obtain ⟨d1,d2⟩:=down hg1 hlt hbig
      by_cases c2:rest+v1≥1000000000
      · obtain ⟨d3,d4,d5⟩:=d2 c2
        exact ⟨g - 1,z8d (v1:=(k:Int) - 2) (v2:=v2) (v3:=v2) (v4:=g*v2) (v5:=rest*1000000000) (v6:=(j:Int)+k) (v7:=(j:Int)+k - 2) (v8:=u2) (v9:=u2) (v10:=rest*1000000000+u2) (v12:=(k:Int) - 1) (v13:=v1) (v14:=v1) (v15:=rest+v1)
         (wi (by omega)) (wu (by omega)) (wu (by omega)) (wu (by omega)) (wi (by omega)) (wi (by omega)) (wu (by omega)) (wu (by omega)) (wu (by omega)) (wi (by omega)) (wu (by omega)) (wu (by omega)) c1 (by omega) gk2 (by omega) gu c3 (by omega) gk1 c2,d3,d4,d5⟩
      · obtain ⟨g',d3,d4⟩:=d1 c2
        exact ⟨g',z9m (v1:=(k:Int) - 2) (v2:=v2) (v3:=v2) (v4:=g*v2) (v5:=rest*1000000000) (v6:=(j:Int)+k) (v7:=(j:Int)+k - 2) (v8:=u2) (v9:=u2) (v10:=rest*1000000000+u2) (v12:=(k:Int) - 1) (v13:=v1) (v14:=v1)
         (wi (by omega)) (wu (by omega)) (wu (by omega)) (wu (by omega)) (wi (by omega)) (wi (by omega)) (wu (by omega)) (wu (by omega)) (wu (by omega)) (wi (by omega)) (wu (by omega)) (wu (by omega)) c1 (by omega) gk2 (by omega) gu c3 (by omega) gk1 c2 d3,d4⟩
    · refine ⟨g,z8e (v1:=(k:Int) - 2) (v2:=v2) (v3:=v2) (v4:=g*v2) (v5:=rest*1000000000) (v6:=(j:Int)+k) (v7:=(j:Int)+k - 2) (v8:=u2) (v9:=u2) (v10:=rest*1000000000+u2)
          (wi (by omega)) (wu (by omega)) (wu (by omega)) (wu (by omega)) (wi (by omega)) (wi (by omega)) (wu (by omega)) (wu (by omega)) c1 (by omega) gk2 (by omega) gu c3,⟨h0,by omega⟩,hX,?_⟩
      exact guess_high hP ⟨vl0,vl1⟩ xl0 eV eX he ⟨h0,by omega⟩ (by omega) hnorm a2.1
theorem nd_sub {m w1 w3 w4:List (List DV)} {lq lu k j:Nat} {u v:List Int} (D:Dv u v lu k j) (hw3:∀ i:Nat,i < k→w3[i]?=some [.u32 (v.getD i 0)]) {g:Int} (hg:0≤g∧g < 1000000000) :
    ∀ d i c b u',i+d=k→0≤c∧c < 1000000000→b=0∨b=1→Wd u'→u'.length=lu→(∀ n,n < j∨j+i≤n→u'.getD n 0=u.getD n 0)→wv u'=wv u - pw j*(g*wv (v.take i))+pw j*pw i*(c+b) →
    ∃ c' b' u'',Lp E 5 A4 2 (G5 m lu k k lq j g c b k i w1 (Wr u') w3 w4) (.exit 5) (K2 m lu k k lq j g w1 w3 w4 c' b' (Wr u''))∧(0≤c'∧c' < 1000000000)∧(b'=0∨b'=1)∧Wd u''∧u''.length=lu∧(∀ n,n < j∨j+k≤n→u''.getD n 0=u.getD n 0)∧wv u''=wv u - pw j*(g*wv v)+pw j*pw k*(c'+b')
 | 0,i,c,b,u',hi,hc,hb,hw,hl,hn,hv=>by
  have:i=k:=by omega
  subst this
  have:=D.elv
  rw [List.take_of_length_le (by omega)] at hv
  exact ⟨c,b,u',z8f (by omega),hc,hb,hw,hl,hn,hv⟩
 | d+1,i,c,b,u',hi,hc,hb,hw,hl,hn,hv=>by
  have hjk:=D.jk
  have hsm:=D.small
  have a0:=D.hv.getD i
  have b0:=hw.getD (i+j)
  have gk:w3[Int.toNat (i:Int)]?=some [.u32 (v.getD i 0)]:=hw3 i (by omega)
  have gu:(Wr u')[Int.toNat ((i+j:Nat):Int)]?=some [.u32 (u'.getD (i+j) 0)]:=Wr_getD (by omega)
  have et:=val_take_succ v i (by have:=D.elv; omega)
  have es:=val_set u' (i+j) (by omega)
  obtain ⟨x,ex⟩:∃ x,x=v.getD i 0:=⟨_,rfl⟩
  obtain ⟨w,ew⟩:∃ w,w=u'.getD (i+j) 0:=⟨_,rfl⟩
  rw [← ex] at a0 gk et
  rw [← ew] at b0 gu es
  have hgx:0≤g*x∧g*x≤999999998000000001:=mul_bound hg a0
  obtain ⟨S,eS⟩:∃ S,S=g*x+c:=⟨_,rfl⟩
  have hS:0≤S∧S≤999999999000000000:=by omega
  obtain ⟨dd,ed⟩:∃ dd,dd=w - S % 1000000000 - b:=⟨_,rfl⟩
  have key:∀ b' d',d'=dd+1000000000*b'→0≤d'∧d' < 1000000000→(b'=0∨b'=1) →
      (∀ {c2:Int} {st:St},Lp E 5 A4 2 (G5 m lu k k lq j g (S / 1000000000) b' k ((i+1:Nat):Int) w1 (Wr (u'.set (i+j) d')) w3 w4) (.exit 5) st→Lp E 5 A4 2 (G5 m lu k k lq j g c b k i w1 (Wr u') w3 w4) (.exit 5) st) →
      ∃ c' b' u'',Lp E 5 A4 2 (G5 m lu k k lq j g c b k i w1 (Wr u') w3 w4) (.exit 5) (K2 m lu k k lq j g w1 w3 w4 c' b' (Wr u''))∧(0≤c'∧c' < 1000000000)∧(b'=0∨b'=1)∧Wd u''∧u''.length=lu∧(∀ n,n < j∨j+k≤n→u''.getD n 0=u.getD n 0)∧wv u''=wv u - pw j*(g*wv v)+pw j*pw k*(c'+b'):=by
   intro b' d' hd' hd0 hb' hstep
   obtain ⟨c2,b2,u2,k1,k2⟩:=nd_sub D hw3 hg d (i+1) (S / 1000000000) b' (u'.set (i+j) d') (by omega) (by omega) hb' (hw.set _ hd0.1 hd0.2) (by simpa using hl)
    (fun n h=>by rw [getD_set_ne (by omega)]; exact hn n (by omega)) (by
     rw [es d',et,pw_succ,show i+j=j+i by omega,pw_add]
     have:=sub_step hv eS (Int.emod_add_mul_ediv S 1000000000) ed hd'
     rw [this]; grind)
   exact ⟨c2,b2,u2,hstep (c2:=0) k1,k2⟩
  by_cases c1:dd < 0
  · refine key 1 (dd+1000000000) (by omega) (by omega) (.inr rfl) fun k1=>?_
    exact z9n (v1:=g) (v2:=x) (v3:=x) (v4:=g*x) (v5:=S) (v6:=S / 1000000000) (v7:=((i+j:Nat):Int)) (v8:=w) (v9:=w) (v10:=S % 1000000000) (v11:=w - S % 1000000000) (v12:=dd) (v13:=dd+1000000000) (v14:=dd+1000000000) (v15:=Wr (u'.set (i+j) (dd+1000000000))) (v16:=((i+1:Nat):Int))
     (wi (by omega)) (wi (by omega)) (wi (by omega)) (wi (by omega)) (wi ⟨tdv hS.1 rfl,by omega,by omega⟩) (wi (by omega)) (wi (by omega)) (tmd hS.1 rfl) (wi (by omega)) (wi (by omega)) (wi (by omega)) (w32 (by omega)) (by rw [Int.toNat_natCast,Wr_set]) (wi (by omega))
     (by omega) (by omega) gk (by omega) gu c1 k1
  · refine key 0 dd (by omega) (by omega) (.inl rfl) fun k1=>?_
    exact z9o (v1:=g) (v2:=x) (v3:=x) (v4:=g*x) (v5:=S) (v6:=S / 1000000000) (v7:=((i+j:Nat):Int)) (v8:=w) (v9:=w) (v10:=S % 1000000000) (v11:=w - S % 1000000000) (v12:=dd) (v13:=dd) (v14:=Wr (u'.set (i+j) dd)) (v15:=((i+1:Nat):Int))
     (wi (by omega)) (wi (by omega)) (wi (by omega)) (wi (by omega)) (wi ⟨tdv hS.1 rfl,by omega,by omega⟩) (wi (by omega)) (wi (by omega)) (tmd hS.1 rfl) (wi (by omega)) (wi (by omega)) (w32 (by omega)) (by rw [Int.toNat_natCast,Wr_set]) (wi (by omega))
     (by omega) (by omega) gk (by omega) gu c1 k1
theorem nd_add {m w1 w3 w4:List (List DV)} {lq lu k j:Nat} {u v:List Int} (D:Dv u v lu k j) (hw3:∀ i:Nat,i < k→w3[i]?=some [.u32 (v.getD i 0)]) {g last:Int} {u1:List Int} :
    ∀ d i up u',i+d=k→0≤up∧up≤1→Wd u'→u'.length=lu→(∀ n,n < j∨j+i≤n→u'.getD n 0=u1.getD n 0)→wv u'=wv u1+pw j*wv (v.take i) - pw j*pw i*up →
    ∃ up' u'',Lp E 5 A4 3 (V9 m lu k k lq j g last up k i w1 (Wr u') w3 w4) (.exit 7) (Z7 m lu k k lq j g last w1 w3 w4 up' (Wr u''))∧(0≤up'∧up'≤1)∧Wd u''∧u''.length=lu∧(∀ n,n < j∨j+k≤n→u''.getD n 0=u1.getD n 0)∧wv u''=wv u1+pw j*wv v - pw j*pw k*up'
 | 0,i,up,u',hi,hc,hw,hl,hn,hv=>by
  have:i=k:=by omega
  subst this
  have:=D.elv
  rw [List.take_of_length_le (by omega)] at hv
  exact ⟨up,u',z8g (by omega),hc,hw,hl,hn,hv⟩
 | d+1,i,up,u',hi,hc,hw,hl,hn,hv=>by
  have hjk:=D.jk
  have hsm:=D.small
  have a0:=D.hv.getD i
  have b0:=hw.getD (i+j)
  have gk:w3[Int.toNat (i:Int)]?=some [.u32 (v.getD i 0)]:=hw3 i (by omega)
  have gu:(Wr u')[Int.toNat ((i+j:Nat):Int)]?=some [.u32 (u'.getD (i+j) 0)]:=Wr_getD (by omega)
  have et:=val_take_succ v i (by have:=D.elv; omega)
  have es:=val_set u' (i+j) (by omega)
  obtain ⟨x,ex⟩:∃ x,x=v.getD i 0:=⟨_,rfl⟩
  obtain ⟨w,ew⟩:∃ w,w=u'.getD (i+j) 0:=⟨_,rfl⟩
  rw [← ex] at a0 gk et
  rw [← ew] at b0 gu es
  obtain ⟨S,eS⟩:∃ S,S=up+(w+x):=⟨_,rfl⟩
  have hS:0≤S∧S≤1999999999:=by omega
  obtain ⟨up2,u2,k1,k2⟩:=nd_add (g:=g) (last:=last) D hw3 (u1:=u1) d (i+1) (S / 1000000000) (u'.set (i+j) (S % 1000000000)) (by omega) (by omega) (hw.set _ (by omega) (by omega)) (by simpa using hl)
   (fun n h=>by rw [getD_set_ne (by omega)]; exact hn n (by omega)) (by
    rw [es,et,pw_succ,show i+j=j+i by omega,pw_add]
    have:=add_step hv eS (Int.emod_add_mul_ediv S 1000000000)
    rw [this]; grind)
  refine ⟨up2,u2,?_,k2⟩
  exact z9p (v1:=((i+j:Nat):Int)) (v2:=w) (v3:=w) (v4:=x) (v5:=x) (v6:=w+x) (v7:=S) (v8:=S % 1000000000) (v9:=S % 1000000000) (v10:=Wr (u'.set (i+j) (S % 1000000000))) (v11:=S / 1000000000) (v12:=((i+1:Nat):Int))
   (wi (by omega)) (wu (by omega)) (wu (by omega)) (wu (by omega)) (wu (by omega)) (tmd hS.1 rfl) (w32 (by omega)) (by rw [Int.toNat_natCast,Wr_set]) (wu ⟨tdv hS.1 rfl,by omega,by omega⟩) (wi (by omega))
   (by omega) (by omega) gu (by omega) gk k1
end Gev
namespace Gev
open Go Gb
variable {E:Env}
theorem take_eq {xs ys:List Int} (hl:xs.length=ys.length) (j:Nat) (h:∀ n,n < j→xs.getD n 0=ys.getD n 0):xs.take j=ys.take j:=by
 induction j with
 | zero=>simp
 | succ j ih =>
  rcases Nat.lt_or_ge j xs.length with hj | hj
  · rw [take_succ xs j hj,take_succ ys j (by omega),ih (fun n hn=>h n (by omega)),h j (by omega)]
  · rw [List.take_of_length_le (by omega),List.take_of_length_le (by omega)]
    rw [List.take_of_length_le hj,List.take_of_length_le (by omega)] at ih
    exact ih fun n hn=>h n (by omega)
theorem mul_cancel {p a b:Int} (hp:0 < p) (h:p*a=p*b):a=b:=Int.eq_of_mul_eq_mul_left (by omega) h
theorem drop_val {xs ys:List Int} (hl:xs.length=ys.length) {j:Nat} (hj:j≤xs.length) (h:∀ n,n < j→xs.getD n 0=ys.getD n 0) {T:Int} (hv:wv xs=wv ys - pw j*T):wv (xs.drop j)=wv (ys.drop j) - T:=by
 have e1:=val_take_drop xs j hj
 have e2:=val_take_drop ys j (by omega)
 rw [take_eq hl j h] at e1
 refine mul_cancel (pw_pos j) ?_
 rw [Int.mul_sub]
 omega
theorem nd_round {m w1 w3:List (List DV)} {lq lu k j:Nat} {u v q:List Int} (D:Dv u v lu k j) (hw3:∀ i:Nat,i < k→w3[i]?=some [.u32 (v.getD i 0)]) (hq:q.length=lq) (hj:j < lq) :
    ∃ u' g,(∀ {o:Out} {st:St},Lp E 5 A4 0 (I2 m lu k k lq ((j:Int) - 1) w1 (Wr u') w3 (Wr (q.set j g))) o st→Lp E 5 A4 0 (I2 m lu k k lq j w1 (Wr u) w3 (Wr q)) o st) ∧
     (0≤g∧g < 1000000000)∧Wd u'∧u'.length=lu∧wv u'=wv u - pw j*(g*wv v)∧0≤wv (u'.drop j)∧wv (u'.drop j) < wv v:=by
 have h2:=D.two
 have hjk:=D.jk
 have hsm:=D.small
 have hlu:=D.elu
 have hlv:=D.elv
 have hnorm:=D.norm
 have hV:=D.vpos
 have hVk:=D.vk
 have a1:=D.hv.getD (k - 1)
 have b1:=D.hu.getD (j+k - 1)
 have b0:=D.hu.getD (j+k)
 have bj:=D.hu.getD j
 have hlow:=D.low
 have hz:=D.zero
 have eX1:=val_drop u j (by omega)
 obtain ⟨v1,e1⟩:∃ x,x=v.getD (k - 1) 0:=⟨_,rfl⟩
 obtain ⟨u0,e3⟩:∃ x,x=u.getD (j+k) 0:=⟨_,rfl⟩
 obtain ⟨u1',e4⟩:∃ x,x=u.getD (j+k - 1) 0:=⟨_,rfl⟩
 obtain ⟨top,et⟩:∃ x,x=u0*1000000000+u1':=⟨_,rfl⟩
 have gk1:w3[Int.toNat ((k:Int) - 1)]?=some [.u32 v1]:=by
  rw [show Int.toNat ((k:Int) - 1)=k - 1 by omega,e1]; exact hw3 _ (by omega)
 have gu0:(Wr u)[Int.toNat ((j:Int)+k)]?=some [.u32 u0]:=by
  rw [show Int.toNat ((j:Int)+k)=j+k by omega,e3]; exact Wr_getD (by omega)
 have gu1:(Wr u)[Int.toNat ((j:Int)+k - 1)]?=some [.u32 u1']:=by
  rw [show Int.toNat ((j:Int)+k - 1)=j+k - 1 by omega,e4]; exact Wr_getD (by omega)
 rw [← e1] at a1 hnorm
 rw [← e3] at b0
 rw [← e4] at b1
 have htop:0≤top:=by omega
 have hdm:=Int.emod_add_mul_ediv top v1
 have hr0:=Int.emod_nonneg top (show v1≠0 by omega)
 have hr1:=Int.emod_lt_of_pos top (show 0 < v1 by omega)
 have hg0:0≤top / v1:=Int.ediv_nonneg htop (by omega)
 have hmul:top / v1*v1+top % v1=top:=by rw [Int.mul_comm]; omega
 have hX3:=split_three (u:=u) (j:=j) (k:=k) h2 (by omega) hz
 rw [← e3,← e4,← et] at hX3
 have hV2:=split_two hlv h2
 rw [← e1] at hV2
 have a2:=D.hv.getD (k - 2)
 have vl1:=D.hv.val_take_lt (k - 2) (by omega)
 have xl0:=val_nonneg ((D.hu.drop j).take (k - 2))
 have hP:=pw_pos (k - 2)
 have b2:=D.hu.getD (j+k - 2)
 have hu0:u0≤v1:=by
  rcases Int.lt_or_le v1 u0 with h | h
  · exfalso
    have e5:=val_take_drop (u.drop (j+1)) (k - 1) (by simp; omega)
    rw [List.drop_drop,show j+1+(k - 1)=j+k by omega,val_drop u (j+k) (by omega),hz,← e3] at e5
    have h6:=val_nonneg ((D.hu.drop (j+1)).take (k - 1))
    have e7:=val_take_drop v (k - 1) (by omega)
    rw [val_drop v (k - 1) (by omega),← e1,show k - 1+1=k by omega,List.drop_eq_nil_of_le (by omega),show wv []=0 from rfl] at e7
    have h8:=D.hv.val_take_lt (k - 1) (by omega)
    have h9:pw (k - 1)*(v1+1)≤pw (k - 1)*u0:=Int.mul_le_mul_of_nonneg_left (by omega) (by have:=pw_pos (k - 1); omega)
    rw [Int.mul_add,Int.mul_one] at h9
    simp at e5 e7
    omega
  · exact h
 have hgB:top / v1≤1000000001:=by
  have:top / v1 < 1000000002:=Int.ediv_lt_of_lt_mul (by omega) (by omega)
  omega
 have hbig:top / v1=1000000001→top % v1+v1 < 1000000000:=by
  intro h
  rw [h] at hmul
  omega
 have hXg:wv (u.drop j) < (top / v1+1)*wv v:=by
  have h5:top+1≤(top / v1+1)*v1:=by
   have:(top / v1+1)*v1=top / v1*v1+v1:=by grind
   omega
  have h6:=Int.mul_le_mul_of_nonneg_right h5 (show 0≤1000000000*pw (k - 2) by omega)
  have h7:(top / v1+1)*(v1*(1000000000*pw (k - 2)))≤(top / v1+1)*wv v:=by
   refine Int.mul_le_mul_of_nonneg_left ?_ (by omega)
   have h8:(v1*1000000000+v.getD (k - 2) 0)*pw (k - 2)=v1*(1000000000*pw (k - 2))+v.getD (k - 2) 0*pw (k - 2):=by grind
   have h9:0≤v.getD (k - 2) 0*pw (k - 2):=Int.mul_nonneg a2.1 (by omega)
   have h10:=val_nonneg (D.hv.take (k - 2))
   omega
  have h8:(top / v1+1)*v1*(1000000000*pw (k - 2))=(top / v1+1)*(v1*(1000000000*pw (k - 2))):=by grind
  have h9:(top+1)*(1000000000*pw (k - 2))=top*1000000000*pw (k - 2)+1000000000*pw (k - 2):=by grind
  have h10:(top*1000000000+u.getD (j+k - 2) 0)*pw (k - 2)=top*1000000000*pw (k - 2)+u.getD (j+k - 2) 0*pw (k - 2):=by grind
  have h11:u.getD (j+k - 2) 0*pw (k - 2)≤999999999*pw (k - 2):=Int.mul_le_mul_of_nonneg_right (by omega) (by omega)
  have h12:=(D.hu.drop j).val_take_lt (k - 2) (by simp; omega)
  omega
 obtain ⟨g,k1,k2,k3,k4⟩:=nd_guess (E:=E) (m:=m) (w1:=w1) (w4:=Wr q) (lq:=lq) D hw3 1000000002 (top / v1) (top % v1) hg0 (by omega) hgB ⟨hr0,by omega⟩ (by rw [← e1,← e3,← e4,← et]; exact hmul) hXg (by rw [← e1]; exact hbig)
 obtain ⟨c,b,us,s1,s2,s3,s4,s5,s6,s7⟩:=nd_sub (E:=E) (m:=m) (w1:=w1) (w4:=Wr q) (lq:=lq) D hw3 k2 k 0 0 0 u (by omega) (by omega) (.inl rfl) D.hu D.elu (fun _ _=>rfl) (by simp [wv])
 have hsu:us.getD (j+k) 0=u0:=by rw [s6 _ (.inr (Nat.le_refl _)),← e3]
 have gs0:(Wr us)[Int.toNat ((j:Int)+k)]?=some [.u32 u0]:=by
  rw [show Int.toNat ((j:Int)+k)=j+k by omega,← hsu]; exact Wr_getD (by omega)
 obtain ⟨last,hlast⟩:∃ x,x=u0 - c - b:=⟨_,rfl⟩
 have hset:=val_set us (j+k) (by omega)
 rw [hsu] at hset
 have sv:wv us=wv u - pw j*(g*wv v - pw k*(c+b)):=by rw [s7]; grind
 have sd:=drop_val (xs:=us) (ys:=u) (by omega) (j:=j) (by omega) (fun n hn=>s6 n (.inl hn)) sv
 have sk:=val_take_drop (us.drop j) k (by simp; omega)
 have sz:wv (us.drop (j+k+1))=0:=by
  have h0:wv (us.drop (j+k+1))=wv (u.drop (j+k+1)):=by
   congr 1
   apply List.ext_getElem?
   intro i
   rw [List.getElem?_drop,List.getElem?_drop]
   rcases Nat.lt_or_ge (j+k+1+i) lu with h | h
   · rw [getD_some (by omega),getD_some (by omega),s6 _ (.inr (by omega))]
   · rw [List.getElem?_eq_none (by omega),List.getElem?_eq_none (by omega)]
  rw [h0]; exact hz
 rw [List.drop_drop,val_drop us (j+k) (by omega),sz,hsu] at sk
 have sk0:=val_nonneg ((s4.drop j).take k)
 have sk1:=(s4.drop j).val_take_lt k (by simp; omega)
 have hpk:=pw_pos k
 have hpj:=pw_pos j
 have wj:((j:Int)+k)=((j+k:Nat):Int):=by omega
 have gq:(Wr q)[Int.toNat (j:Int)]?=some [.u32 (q.getD j 0)]:=Wr_getD (by omega)
 have hXV:(g+1)*wv v=g*wv v+wv v:=by grind
 by_cases c1:last < 0
 · -- once too often
   have hneg:wv (u.drop j) < g*wv v:=by
    have h5:pw k*last≤pw k*(-1):=Int.mul_le_mul_of_nonneg_left (by omega) (by omega)
    have h6:pw k*last=pw k*u0 - pw k*(c+b):=by rw [hlast]; grind
    simp at sk
    omega
   have hg1:1≤g:=by
    rcases Int.lt_or_le g 1 with h | h
    · have:g=0:=by omega
      subst this
      have:=val_nonneg (D.hu.drop j)
      omega
    · exact h
   obtain ⟨up,ua,t1,t2,t3,t4,t5,t6⟩:=nd_add (E:=E) (m:=m) (w1:=w1) (w4:=Wr q) (lq:=lq) (g:=g - 1) (last:=last) D hw3 (u1:=us) k 0 0 us (by omega) (by omega) s4 s5 (fun _ _=>rfl) (by simp [wv])
   have hau:ua.getD (j+k) 0=u0:=by rw [t5 _ (.inr (Nat.le_refl _)),hsu]
   have ga0:(Wr ua)[Int.toNat ((j:Int)+k)]?=some [.u32 u0]:=by
    rw [show Int.toNat ((j:Int)+k)=j+k by omega,← hau]; exact Wr_getD (by omega)
   have hset2:=val_set ua (j+k) (by omega)
   rw [hau] at hset2
   have tv:wv ua=wv u - pw j*((g - 1)*wv v - pw k*(c+b)+pw k*up):=by rw [t6,s7]; grind
   have td:=drop_val (xs:=ua) (ys:=u) (by omega) (j:=j) (by omega) (fun n hn=>by rw [t5 n (.inl hn)]; exact s6 n (.inl hn)) tv
   have tk:=val_take_drop (ua.drop j) k (by simp; omega)
   have tz:wv (ua.drop (j+k+1))=0:=by
    have h0:wv (ua.drop (j+k+1))=wv (us.drop (j+k+1)):=by
     congr 1
     apply List.ext_getElem?
     intro i
     rw [List.getElem?_drop,List.getElem?_drop]
     rcases Nat.lt_or_ge (j+k+1+i) lu with h | h
     · rw [getD_some (by omega),getD_some (by omega),t5 _ (.inr (by omega))]
     · rw [List.getElem?_eq_none (by omega),List.getElem?_eq_none (by omega)]
    rw [h0]; exact sz
   rw [List.drop_drop,val_drop ua (j+k) (by omega),tz,hau] at tk
   have tk0:=val_nonneg ((t3.drop j).take k)
   have tk1:=(t3.drop j).val_take_lt k (by simp; omega)
   have hg1V:(g - 1)*wv v=g*wv v - wv v:=by grind
   have hzero:last+up=0:=by
    have h5:pw k*(last+up)=pw k*u0 - pw k*(c+b)+pw k*up:=by rw [hlast]; grind
    have h6:-pw k < pw k*(last+up)∧pw k*(last+up) < pw k:=by
     simp at tk
     omega
    rcases Int.lt_trichotomy (last+up) 0 with h | h | h
    · have:pw k*(last+up)≤pw k*(-1):=Int.mul_le_mul_of_nonneg_left (by omega) (by omega)
      omega
    · exact h
    · have:pw k*1≤pw k*(last+up):=Int.mul_le_mul_of_nonneg_left (by omega) (by omega)
      omega
   have hfin:wv (ua.set (j+k) 0)=wv u - pw j*((g - 1)*wv v):=by
    rw [hset2,tv,pw_add]
    have:u0=c+b - up:=by omega
    rw [this]; grind
   have hd:=drop_val (xs:=ua.set (j+k) 0) (ys:=u) (by simp; omega) (j:=j) (by simp; omega) (fun n hn=>by rw [getD_set_ne (by omega),t5 n (.inl hn)]; exact s6 n (.inl hn)) hfin
   refine ⟨ua.set (j+k) 0,g - 1,fun {o} {st} ih=>?_,by omega,t3.set _ (by omega) (by omega),by simpa using t4,hfin,?_,?_⟩
   · exact z9j (v1:=(j:Int)+k) (v2:=u0) (v3:=u0) (v4:=u0*1000000000) (v5:=(j:Int)+k - 1) (v6:=u1') (v7:=u1') (v8:=top) (v9:=(k:Int) - 1) (v10:=v1) (v11:=v1) (v12:=top / v1) (v13:=top % v1) (v14:=g) (v15:=c) (v16:=b) (v17:=Wr us) (v18:=u0) (v19:=u0) (v20:=u0 - c) (v21:=last) (v22:=g - 1) (v23:=up) (v24:=Wr ua) (v25:=up) (v26:=0) (v27:=0) (v28:=0) (v29:=u0) (v30:=Wr (ua.set (j+k) 0)) (v31:=g - 1) (v32:=q.getD j 0) (v33:=Wr (q.set j (g - 1))) (v34:=(j:Int) - 1)
      (wi (by omega)) (wu (by omega)) (wu (by omega)) (wi (by omega)) (wu (by omega)) (wu (by omega)) (wi (by omega)) (wu (by omega)) (wu ⟨tdv htop rfl,hg0,by omega⟩) (tmd htop rfl) (wi (by omega)) (wi (by omega)) (wi (by omega)) (wu (by omega)) (wi (by omega)) (wi (by omega)) (by simp) (w32 (by omega)) (by rw [wj,Int.toNat_natCast,Wr_set]) (w32 (by omega)) (by rw [Int.toNat_natCast,Wr_set]) (wi (by omega))
      (by omega) (by omega) gu0 (by omega) gu1 (by omega) gk1 (by omega) k1 s1 gs0 c1 t1 ga0 (by omega) gq ih
   · rw [hd]; omega
   · rw [hd]; omega
 · have hfin:wv (us.set (j+k) last)=wv u - pw j*(g*wv v):=by
    rw [hset,sv,pw_add,hlast]; grind
   have hd:=drop_val (xs:=us.set (j+k) last) (ys:=u) (by simp; omega) (j:=j) (by simp; omega) (fun n hn=>by rw [getD_set_ne (by omega)]; exact s6 n (.inl hn)) hfin
   refine ⟨us.set (j+k) last,g,fun {o} {st} ih=>?_,k2,s4.set _ (by omega) (by omega),by simpa using s5,hfin,?_,?_⟩
   · exact z9k (v1:=(j:Int)+k) (v2:=u0) (v3:=u0) (v4:=u0*1000000000) (v5:=(j:Int)+k - 1) (v6:=u1') (v7:=u1') (v8:=top) (v9:=(k:Int) - 1) (v10:=v1) (v11:=v1) (v12:=top / v1) (v13:=top % v1) (v14:=g) (v15:=c) (v16:=b) (v17:=Wr us) (v18:=u0) (v19:=u0) (v20:=u0 - c) (v21:=last) (v22:=last) (v23:=last) (v24:=Wr (us.set (j+k) last)) (v25:=g) (v26:=q.getD j 0) (v27:=Wr (q.set j g)) (v28:=(j:Int) - 1)
      (wi (by omega)) (wu (by omega)) (wu (by omega)) (wi (by omega)) (wu (by omega)) (wu (by omega)) (wi (by omega)) (wu (by omega)) (wu ⟨tdv htop rfl,hg0,by omega⟩) (tmd htop rfl) (wi (by omega)) (wi (by omega)) (wi (by omega)) (if_neg (by omega)) (w32 (by omega)) (by rw [wj,Int.toNat_natCast,Wr_set]) (w32 (by omega)) (by rw [Int.toNat_natCast,Wr_set]) (wi (by omega))
      (by omega) (by omega) gu0 (by omega) gu1 (by omega) gk1 (by omega) k1 s1 gs0 c1 (by omega) gq ih
   · have h5:=val_nonneg ((s4.set (j+k) (show 0≤last by omega) (by omega)).drop j)
     exact h5
   · rw [hd]; omega
theorem nd_loop {m w1 w3:List (List DV)} {lq lu k:Nat} {v:List Int} (hv:Wd v) (hlv:v.length=k) (h2:2≤k) (hn:1000000000≤2*v.getD (k - 1) 0) (hsm:lu < 35184372088832) (hw3:∀ i:Nat,i < k→w3[i]?=some [.u32 (v.getD i 0)]) :
    ∀ j u q,Wd u→u.length=lu→Wd q→q.length=lq→j≤lq→(0 < j→j - 1+k < lu)→wv (u.drop j) < wv v →
    ∃ u' q',Lp E 5 A4 0 (I2 m lu k k lq ((j:Int) - 1) w1 (Wr u) w3 (Wr q)) (.exit 1) (Z6 m lu k lq w1 w3 (Wr u') (Wr q'))∧Wd u'∧u'.length=lu∧Wd q'∧q'.length=lq∧wv u' < wv v∧wv u'+wv v*wv q'=wv u+wv v*(pw j*wv (q.drop j))
 | 0,u,q,hu,hlu,hq,hlq,_,_,hlow=>⟨u,q,z8b (by omega),hu,hlu,hq,hlq,by simpa using hlow,by simp [pw_zero]⟩
 | j+1,u,q,hu,hlu,hq,hlq,hj,hjk,hlow=>by
  have D:Dv u v lu k j:=⟨hu,hv,hlu,hlv,h2,hn,by have:=hjk (by omega); omega,hsm,hlow⟩
  obtain ⟨u1,g,st,hg,k1,k2,k3,k4,k5⟩:=nd_round (E:=E) (m:=m) (w1:=w1) D hw3 hlq (by omega)
  obtain ⟨u',q',r1,r2,r3,r4,r5,r6,r7⟩:=nd_loop hv hlv h2 hn hsm hw3 j u1 (q.set j g) k1 k2 (hq.set _ hg.1 hg.2) (by simpa using hlq) (by omega) (fun h=>by have:=D.jk; omega) k5
  refine ⟨u',q',?_,r2,r3,r4,r5,r6,?_⟩
  · rw [show ((j+1:Nat):Int) - 1=(j:Int) by omega]; exact st r1
  · have hd:(q.set j g).drop (j+1)=q.drop (j+1):=List.drop_set_of_lt (Nat.lt_succ_self j)
    rw [r7,k3,wv_drop (q.set j g) j,getD_set_same (by omega),hd,pw_succ]
    grind
theorem divmod_unique {n m q r:Nat} (h:n=q*m+r) (hr:r < m):n / m=q∧n % m=r:=by
 subst h
 rw [Nat.mul_comm]
 exact ⟨by rw [Nat.mul_add_div (by omega),Nat.div_eq_of_lt hr,Nat.add_zero],by rw [Nat.mul_add_mod,Nat.mod_eq_of_lt hr]⟩
theorem take_getD {xs:List Int} {k i:Nat} (h:i < k):(xs.take k).getD i 0=xs.getD i 0:=by
 rw [List.getD_eq_getElem?_getD,List.getD_eq_getElem?_getD,List.getElem?_take_of_lt h]
theorem divide_great {m n:Nat} (hm:2≤(words m).length) (hmn:m≤n) (hl:(words n).length < 1099511627776) (hns:¬ n < 1000000000000000000):Fn E A4 [.c (.list (Wr (words n))),.c (.list (Wr (words m)))] (.tup [.c (.list (Wr (words (n / m)))),.c (.list (Wr (words (n % m))))]):=by
 have hlm:(words m).length≤(words n).length:=(words_tr m).length_le (words_wd m) (words_wd n) (by rw [words_val,words_val]; omega)
 obtain ⟨k,hk⟩:∃ k,k=(words m).length:=⟨_,rfl⟩
 rw [← hk] at hm hlm
 have ht:=(words_wd m).getD (k - 1)
 obtain ⟨t,et⟩:∃ t,t=(words m).getD (k - 1) 0:=⟨_,rfl⟩
 rw [← et] at ht
 obtain ⟨f,hf⟩:∃ f:Nat,(f:Int)=1000000000 / (t+1):=⟨(1000000000 / (t+1)).toNat,by have:0≤1000000000 / (t+1):=Int.ediv_nonneg (by decide) (by omega); omega⟩
 obtain ⟨f1,f2,lv,nv⟩:=norm_factor (n:=m) rfl hk.symm (by omega) (f:=f) (by rw [← et]; exact hf)
 have hfl:(words f).length≤1:=words_length_le (by rw [show pw 1=1000000000 by decide]; omega)
 obtain ⟨ku,xu,hru,eu,hku,hxu⟩:=times_ok (E:=E) (m:=n) (n:=f) (by omega)
 obtain ⟨kv,xv,hrv,ev,hkv,hxv⟩:=times_ok (E:=E) (m:=m) (n:=f) (by omega)
 have hkv':kv=k:=by
  have:=congrArg List.length ev
  rw [List.length_take,lv] at this
  omega
 subst hkv'
 have hku':ku=(words (n*f)).length:=by
  have:=congrArg List.length eu
  rw [List.length_take] at this
  omega
 have hnf:n≤n*f:=by have:=Nat.mul_le_mul_left n f1; omega
 have hkn:(words n).length≤ku:=by rw [hku']; exact (words_tr n).length_le (words_wd n) (words_wd _) (by rw [words_val,words_val]; omega)
 have hku2:ku≤(words n).length+1:=by omega
 have hu0:Wd (words (n*f)++[0]):=(words_wd _).append (Wd.cons (by omega) (by omega) Wd.nil)
 have hu0l:(words (n*f)++[0]).length=ku+1:=by simp [hku']
 have hw3:∀ i:Nat,i < kv→(Wr xv)[i]?=some [.u32 ((words (m*f)).getD i 0)]:=fun i hi=>by
  rw [← ev,take_getD hi]; exact Wr_getD (by omega)
 have hvk:=val_lt (words_wd (m*f))
 have hvge:=(words_tr (m*f)).val_ge (words_wd _) (by intro h; rw [h] at lv; simp at lv; omega)
 rw [lv] at hvk hvge
 have hlow:wv ((words (n*f)++[0]).drop (ku+1 - kv)) < wv (words (m*f)):=by
  have h5:=val_lt ((words_wd (n*f)).drop (ku+1 - kv))
  rw [List.length_drop,← hku',show ku - (ku+1 - kv)=kv - 1 by omega] at h5
  rw [List.drop_append_of_le_length (by omega),val_snoc]
  omega
 obtain ⟨u',q',r1,r2,r3,r4,r5,r6,r7⟩:=nd_loop (E:=E) (m:=Wr (words f)) (w1:=[[.u32 0]]) (w3:=Wr xv) (lq:=ku+1 - kv) (lu:=ku+1) (words_wd (m*f)) lv hm nv (by omega) hw3 (ku+1 - kv) (words (n*f)++[0]) (List.replicate (ku+1 - kv) 0) hu0 hu0l (Wd.replicate _) (by simp) (Nat.le_refl _) (fun _=>by omega) hlow
 rw [drop_nil (by simp),val_snoc,words_val,words_val,show wv []=0 from rfl] at r7
 rw [words_val] at r6
 have hq0:=val_nonneg r4
 have hr0:=val_nonneg r2
 obtain ⟨Q,hQ⟩:∃ Q:Nat,wv q'=Q:=⟨(wv q').toNat,by omega⟩
 obtain ⟨R,hR⟩:∃ R:Nat,wv u'=R:=⟨(wv u').toNat,by omega⟩
 rw [hQ,hR] at r7
 rw [hR] at r6
 have hmf0:0 < m*f:=by omega
 have e1:n*f=Q*(m*f)+R:=by
  have:((n*f:Nat):Int)=((Q*(m*f)+R:Nat):Int):=by
   rw [Int.natCast_add,Int.natCast_mul Q]
   have:((Q:Int))*((m*f:Nat):Int)=((m*f:Nat):Int)*Q:=Int.mul_comm _ _
   simp at r7
   simp at this ⊢
   omega
  omega
 have hfR:f ∣ R:=by
  have h5:f ∣ Q*(m*f):=⟨Q*m,by rw [← Nat.mul_assoc,Nat.mul_comm]⟩
  exact (Nat.dvd_add_right h5).1 (by rw [← e1]; exact ⟨n,Nat.mul_comm _ _⟩)
 obtain ⟨R',hR'⟩:=hfR
 have e2:n=Q*m+R':=by
  have:f*n=f*(Q*m+R'):=by
   rw [Nat.mul_add,← hR',Nat.mul_comm f n,e1,← Nat.mul_assoc,Nat.mul_comm f]
  exact Nat.eq_of_mul_eq_mul_left (by omega) this
 have e3:R' < m:=by
  have:f*R' < f*m:=by rw [← hR',Nat.mul_comm f m]; omega
  exact Nat.lt_of_mul_lt_mul_left this
 obtain ⟨d1,d2⟩:=divmod_unique e2 e3
 have hRf:R / f=R':=by rw [hR',Nat.mul_div_cancel_left _ (by omega)]
 have hul:wv (u'.take kv)=R:=by
  have h5:=val_take_drop u' kv (by omega)
  have h6:=val_nonneg (r2.take kv)
  have h7:=val_nonneg (r2.drop kv)
  rw [words_val] at hvk
  rcases Int.lt_or_le 0 (wv (u'.drop kv)) with h | h
  · have h8:pw kv*1≤pw kv*wv (u'.drop kv):=Int.mul_le_mul_of_nonneg_left (by omega) (by have:=pw_pos kv; omega)
    omega
  · have:wv (u'.drop kv)=0:=by omega
    rw [this,Int.mul_zero] at h5
    omega
 have t1:=(trim_run (E:=E) (ws:=u') (k:=kv) (by omega) (by omega)).at (args:=[]) rfl rfl rfl rfl (objs:=[some .dead,some (.vec A3 [[.u32 0]]),some (.vec A3 (Wr u')),some (.vec A3 (Wr xv)),some (.vec A3 (Wr q'))]) (l:=2) rfl
 have t2:=(trim_run (E:=E) (ws:=q') (k:=ku+1 - kv) (by omega) (by omega)).at (args:=[]) rfl rfl rfl rfl (objs:=[some .dead,some (.vec A3 [[.u32 0]]),some (.fro (Wr u')),some (.vec A3 (Wr xv)),some (.vec A3 (Wr q'))]) (l:=4) rfl
 have w1:=trimN_words r2 (k:=kv) (by omega)
 rw [hul] at w1
 have w2:=trimN_words r4 (k:=ku+1 - kv) (by omega)
 rw [← r5,List.take_length,hQ,r5] at w2
 have hRl:(words R).length < 35184372088000:=by
  have:=congrArg List.length w1
  rw [List.length_take,Int.toNat_natCast] at this
  have:=trimN_le u' kv
  omega
 have hby:=by_ok (E:=E) (n:=R) (w:=f) ⟨by omega,by omega⟩ hRl
 rw [hRf,show words R=u'.take (trimN u' kv) from w1.symm,← Wr_take] at hby
 rw [d1,d2]
 have h18:(18446744073709551615:Int)≥0:=by decide
 by_cases hsm:m < 1000000000000000000
 · exact z7q (v1:=cmpI n m) (v2:=0) (v4:=(m:Int)) (v5:=true) (v6:=(kv:Int) - 1) (v7:=t) (v8:=t) (v9:=t+1) (v10:=(f:Int)) (v11:=Wr (words f)) (v12:=ku) (v13:=Wr xu) (v14:=Wr (words (n*f)++[0])) (v15:=ku+1) (v16:=kv) (v17:=Wr xv) (v18:=((ku+1 - kv:Nat):Int)) (v19:=ku+1 - kv) (v20:=Wr (List.replicate (ku+1 - kv) 0)) (v21:=((ku+1 - kv:Nat):Int) - 1) (v22:=Wr u') (v23:=Wr q') (v24:=(f:Int)) (v25:=true) (v26:=kv) (v27:=trimN u' kv) (v31:=trimN q' (ku+1 - kv))
    (wi (by rw [Wr_len,← hk]; omega)) (wu (by omega)) (wu (by omega)) (wu ⟨tdv (by omega) hf.symm,by omega,by omega⟩) (by rw [Wr_take,eu,Wr_snoc]) rfl (wi (by omega)) (Int.toNat_natCast _) (Wr_replicate _ _) (wi (by omega)) (Int.toNat_natCast _) rfl (by rw [Wr_take,w2,Int.toNat_natCast])
    (compare_ok (by omega)) (by unfold cmpI; split <;> (try split) <;> omega) (small_no hns) (small_yes hsm) (by rw [Wr_len,← hk]; omega) (by omega) (by rw [show Int.toNat ((kv:Int) - 1)=kv - 1 by omega,et]; exact Wr_getD (by omega)) (by omega) (of_ok (by omega)) hru (by omega) hrv (by rw [Wr_len]; omega) (by omega) r1 (small_yes (by omega)) (by omega) t1 hby t2
 · exact z7q (v1:=cmpI n m) (v2:=0) (v4:=0) (v5:=false) (v6:=(kv:Int) - 1) (v7:=t) (v8:=t) (v9:=t+1) (v10:=(f:Int)) (v11:=Wr (words f)) (v12:=ku) (v13:=Wr xu) (v14:=Wr (words (n*f)++[0])) (v15:=ku+1) (v16:=kv) (v17:=Wr xv) (v18:=((ku+1 - kv:Nat):Int)) (v19:=ku+1 - kv) (v20:=Wr (List.replicate (ku+1 - kv) 0)) (v21:=((ku+1 - kv:Nat):Int) - 1) (v22:=Wr u') (v23:=Wr q') (v24:=(f:Int)) (v25:=true) (v26:=kv) (v27:=trimN u' kv) (v31:=trimN q' (ku+1 - kv))
    (wi (by rw [Wr_len,← hk]; omega)) (wu (by omega)) (wu (by omega)) (wu ⟨tdv (by omega) hf.symm,by omega,by omega⟩) (by rw [Wr_take,eu,Wr_snoc]) rfl (wi (by omega)) (Int.toNat_natCast _) (Wr_replicate _ _) (wi (by omega)) (Int.toNat_natCast _) rfl (by rw [Wr_take,w2,Int.toNat_natCast])
    (compare_ok (by omega)) (by unfold cmpI; split <;> (try split) <;> omega) (small_no hns) (small_no hsm) (by rw [Wr_len,← hk]; omega) (by omega) (by rw [show Int.toNat ((kv:Int) - 1)=kv - 1 by omega,et]; exact Wr_getD (by omega)) (by omega) (of_ok (by omega)) hru (by omega) hrv (by rw [Wr_len]; omega) (by omega) r1 (small_yes (by omega)) (by omega) t1 hby t2
end Gev
namespace Gev
open Go Gb
variable {E:Env}
def Lim:Nat:=1000000000
structure Lib (E:Env):Prop where
 parseUint:∀ l:List UInt8,Dg l→1≤l.length→l.length≤9→Fn E z5z [.c (.str (B l)),.c (.i64 10),.c (.i64 32)] (.tup [.c (.u64 (dval l:Int)),.undef])
 /-- what is behind a text in front of another one -/
 cutPrefix:∀ l p:List UInt8,l.length < 10000000000000→p.length < 10000000000000→Fn E P4 [.c (.str (B l)),.c (.str (B p))] (.tup [.c (.str (B (if p.isPrefixOf l then l.drop p.length else l))),.c (.bool (p.isPrefixOf l))])
 /-- what is ahead of the first slash,and behind it -/
 cutYes:∀ p q:List UInt8,(47:UInt8) ∉ p→p.length+q.length < 4000000000→Fn E O4 [.c (.str (B (p++47::q))),.c (.str (B [47]))] (.tup [.c (.str (B p)),.c (.str (B q)),.c (.bool true)])
 cutNo:∀ p:List UInt8,(47:UInt8) ∉ p→p.length < 4000000000→Fn E O4 [.c (.str (B p)),.c (.str (B [47]))] (.tup [.c (.str (B p)),.c (.str (B [])),.c (.bool false)])
 parseInt:∀ z:Int,(decZ z).length≤9→Fn E z3i [.c (.str (B (decZ z))),.c (.i64 10),.c (.i64 64)] (.tup [.c (.i64 z),.undef])
 formatInt:∀ z:Int,-9223372036854775808≤z∧z≤9223372036854775807→Fn E z2m [.c (.i64 z),.c (.i64 10)] (.c (.str (B (decZ z))))
 itoa:∀ z:Int,-9223372036854775808≤z∧z≤9223372036854775807→Fn E z8n [.c (.i64 z)] (.c (.str (B (decZ z))))
 /-- an operation of package rational,by its byte -/
 apply:∀ (op:Int) (f:Nat),(op,f)∈[(43,z0s),(42,Z0),(45,V2),(47,V3)]→∀ (a b x1 x2 y1 y2 z1 z2 t:ByteArray),Fn E X9 [.c (.str a),.c (.str b)] (.tup [.agg [.str x1,.str x2],.agg [.str y1,.str y2],.c (.i64 0)])→(op=47→¬ y1=B [48]) →
  Fn E f [.agg [.str x1,.str x2],.agg [.str y1,.str y2]] (.agg [.str z1,.str z2])→Fn E V1 [.agg [.str z1,.str z2]] (.c (.str t))→Fn E z1g [.c (.u8 op),.c (.str a),.c (.str b)] (.tup [.c (.str t),.c (.i64 0)])
 text:∀ n K:Nat,n < 10 ^ K→K≤Lim+1→Fn E M4 [.c (.list (Wr (words n)))] (.c (.str (B (dec n))))
theorem pow_le_pw (K:Nat):((10 ^ K:Nat):Int)≤pw K:=by
 unfold pw
 rw [show (1000000000:Int) ^ K=((1000000000 ^ K:Nat):Int) by rw [Int.natCast_pow]; rfl]
 exact Int.ofNat_le.2 (Nat.pow_le_pow_left (by decide) K)
theorem words_le {n K:Nat} (h:n < 10 ^ K):(words n).length≤K:=words_length_le (Int.lt_of_lt_of_le (Int.ofNat_lt.2 h) (pow_le_pw K))
theorem cmpI_lt {a b:Int}:cmpI a b < 0↔a < b:=by unfold cmpI; split <;> (try split) <;> omega
theorem divide_ok {m n:Nat} (hm:m≠0) (hl:(words n).length < 1099511627776):Fn E A4 [.c (.list (Wr (words n))),.c (.list (Wr (words m)))] (.tup [.c (.list (Wr (words (n / m)))),.c (.list (Wr (words (n % m))))]):=by
 have hc:=compare_ok (E:=E) (m:=n) (n:=m) (by omega)
 by_cases h1:n < m
 · rw [Nat.div_eq_of_lt h1,Nat.mod_eq_of_lt h1,words_zero]
   exact y4s hc (cmpI_lt.2 (by omega))
 · have hc':¬ cmpI n m < 0:=fun h=>h1 (by have:=cmpI_lt.1 h; omega)
   by_cases h2:n < 1000000000000000000
   · have hd:n / m < 1000000000000000000:=Nat.lt_of_le_of_lt (Nat.div_le_self _ _) h2
     have hr:n % m < 1000000000000000000:=Nat.lt_of_lt_of_le (Nat.mod_lt _ (by omega)) (by omega)
     have hdz:0≤((n / m:Nat):Int)∧((n / m:Nat):Int)≤18446744073709551615:=⟨Int.natCast_nonneg _,by have:=Int.ofNat_lt.2 hd; exact Int.le_trans (Int.le_of_lt this) (by decide)⟩
     exact y4t (v6:=((n / m:Nat):Int)) (v8:=((n % m:Nat):Int)) (wu ⟨tdv (by omega) rfl,hdz⟩) (tmd (by omega) rfl) hc hc' (small_yes h2) (small_yes (by omega)) (by omega) (of_ok hd) (of_ok hr)
   · by_cases h3:(words m).length=1
     · have hm1:m < 1000000000:=by
        have:=val_lt (words_wd m)
        rw [words_val,h3,show pw 1=1000000000 by decide] at this
        omega
       have e:words m=[(m:Int)]:=by
        rcases words_two (n:=m) (by omega) with ⟨_,h⟩ | ⟨e,_,_⟩ | ⟨_,h⟩
        · exact absurd h hm
        · exact e
        · omega
       have hs:=small_yes (E:=E) (n:=m) (by omega)
       have hb:=by_ok (E:=E) (n:=n) (w:=m) ⟨by omega,hm1⟩ (by omega)
       exact y4u (v6:=(m:Int)) (v7:=(m:Int)) (wu (by omega)) hc hc' (small_no h2) hs (by rw [Wr_len,h3]; rfl) (by rw [e]; rfl) hb
     · have:words m≠[]:=fun h=>hm (words_nil.1 h)
       have:=len_pos this
       exact divide_great (by omega) (by omega) hl h2
theorem gcd_small:∀ (t y x:Nat),y < t→x < 1000000000000000000→y < 1000000000000000000→Lp E 0 D5 1 (z1s x y) (.exit 2) (z2g (Nat.gcd x y:Nat))
 | 0,y,x,h,_,_=>by omega
 | t+1,y,x,h,hx,hy=>by
  by_cases h0:y=0
  · subst h0
    rw [Nat.gcd_zero_right]
    exact y1i (by omega)
  · have hm:=Nat.mod_lt x (show 0 < y by omega)
    have e:Nat.gcd x y=Nat.gcd y (x % y):=by rw [Nat.gcd_comm x y,Nat.gcd_rec y x,Nat.gcd_comm]
    rw [e]
    exact y3f (v1:=((x % y:Nat):Int)) (tmd (by omega) rfl) (by omega) (by omega) (gcd_small t (x % y) y (by omega) hy (by omega))
theorem gcd_loop {L:Nat} (hL:L < 1099511627776):∀ (t n m:Nat),n < t→(words m).length≤L→(words n).length≤L →
    (Lp E 0 D5 0 (K3 (Wr (words m)) (Wr (words n))) .ret (z2e (Wr (words (Nat.gcd m n))))) ∨
    (Lp E 0 D5 0 (K3 (Wr (words m)) (Wr (words n))) (.exit 0) (z2f (Wr (words (Nat.gcd m n)))))
 | 0,n,m,h,_,_=>by omega
 | t+1,n,m,h,hm,hn=>by
  by_cases h0:n=0
  · subst h0
    rw [Nat.gcd_zero_right,words_zero]
    exact .inr (y1h (by simp [Wr]))
  · have hpos:((Wr (words n)).length:Int) > 0:=by
     have:words n≠[]:=fun h=>h0 (words_nil.1 h)
     have:=len_pos this
     rw [Wr_len]; omega
    have hr:=Nat.mod_lt m (show 0 < n by omega)
    have e:Nat.gcd m n=Nat.gcd n (m % n):=by rw [Nat.gcd_comm m n,Nat.gcd_rec n m,Nat.gcd_comm]
    have hrl:(words (m % n)).length≤L:=Nat.le_trans ((words_tr _).length_le (words_wd _) (words_wd n) (by rw [words_val,words_val]; omega)) hn
    have hd:=divide_ok (E:=E) (m:=n) (n:=m) h0 (by omega)
    by_cases s1:m < 1000000000000000000
    · by_cases s2:n < 1000000000000000000
      · refine .inl (y1g hpos (small_yes s1) (small_yes s2) (gcd_small (n+1) n m (by omega) s1 s2) (of_ok ?_))
        exact Nat.lt_of_le_of_lt (Nat.gcd_le_right m (by omega)) s2
      · rw [e]
        rcases gcd_loop hL t (m % n) n (by omega) hn hrl with ih | ih
        · exact .inl (z7g hpos (small_yes s1) (small_no s2) hd ih)
        · exact .inr (z7g hpos (small_yes s1) (small_no s2) hd ih)
    · rw [e]
      have hs:∃ v b,Fn E C7 [.c (.list (Wr (words n)))] (.tup [.c (.u64 v),.c (.bool b)]):=by
       by_cases s2:n < 1000000000000000000
       · exact ⟨_,_,small_yes s2⟩
       · exact ⟨_,_,small_no s2⟩
      obtain ⟨v,b,hs⟩:=hs
      rcases gcd_loop hL t (m % n) n (by omega) hn hrl with ih | ih
      · exact .inl (z7h hpos (small_no s1) hs hd ih)
      · exact .inr (z7h hpos (small_no s1) hs hd ih)
theorem gcd_ok {m n L:Nat} (hL:L < 1099511627776) (hm:(words m).length≤L) (hn:(words n).length≤L):Fn E D5 [.c (.list (Wr (words m))),.c (.list (Wr (words n)))] (.c (.list (Wr (words (Nat.gcd m n))))):=by
 rcases gcd_loop (E:=E) hL (n+1) n m (by omega) hm hn with h | h
 · exact x0j h
 · exact x0k h
def isDig (c:UInt8):Bool:=decide (48≤c.toNat) && decide (c.toNat≤57)
def natB (l:List UInt8):Bool:=!l.isEmpty && l.all isDig && (decide (l.length≤1) || !(l.head? == some 48))
theorem isDig_iff {c:UInt8}:isDig c=true↔48≤c.toNat∧c.toNat≤57:=by simp [isDig]
theorem isDig_false {c:UInt8} (h:c.toNat < 48∨57 < c.toNat):isDig c=false:=by
 cases hb:isDig c with
 | false=>rfl
 | true=>have:=isDig_iff.1 hb; omega
theorem natB_iff {l:List UInt8}:natB l=true↔IsNat l:=by
 unfold natB IsNat Dg
 simp only [Bool.and_eq_true,Bool.not_eq_true',List.isEmpty_eq_false_iff,List.all_eq_true,isDig_iff,Bool.or_eq_true,decide_eq_true_eq,beq_eq_false_iff_ne,and_assoc]
 constructor
 · rintro ⟨h1,h2,h3⟩
   exact ⟨h1,h2,fun h=>h3.resolve_left (by omega)⟩
 · rintro ⟨h1,h2,h3⟩
   refine ⟨h1,h2,?_⟩
   by_cases h:l.length≤1
   · exact .inl h
   · exact .inr (h3 (by omega))
theorem natB_dec (n:Nat):natB (dec n)=true:=natB_iff.2 (dec_isNat n)
theorem byte_at (l:List UInt8) (i:Nat):(((B l).data.toList.getD (Int.toNat (i:Int)) 0).toNat:Int)=((l.getD i 0).toNat:Int):=by rw [B_list,Int.toNat_natCast]
theorem valid_loop (l:List UInt8) (hl:l.length < 9223372036854775807):∀ d i:Nat,i+d=l.length →
    ((l.drop i).all isDig=true∧Lp E 0 C5 0 (M1 (B l) l.length i) (.exit 0) Z1) ∨
    ((l.drop i).all isDig=false∧Lp E 0 C5 0 (M1 (B l) l.length i) .ret U8)
 | 0,i,hi=>.inl ⟨by rw [List.drop_eq_nil_of_le (by omega)]; rfl,y3b (by omega)⟩
 | d+1,i,hi=>by
  have hd:l.drop i=l.getD i 0::l.drop (i+1):=by
   rw [List.drop_eq_getElem_cons (by omega),List.getD_eq_getElem?_getD,List.getElem?_eq_getElem (by omega)]; rfl
  have hlt:0≤(i:Int)∧(i:Int) < (B l).size:=by rw [B_size]; omega
  rw [hd,List.all_cons]
  by_cases c1:(l.getD i 0).toNat < 48
  · have:isDig (l.getD i 0)=false:=isDig_false (by omega)
    exact .inr ⟨by rw [this]; rfl,y2z (byte_at l i) (by omega) hlt (by omega)⟩
  · by_cases c2:(l.getD i 0).toNat > 57
    · have:isDig (l.getD i 0)=false:=isDig_false (by omega)
      exact .inr ⟨by rw [this]; rfl,y3a (byte_at l i) (by omega) hlt (by omega) (by omega)⟩
    · have:isDig (l.getD i 0)=true:=isDig_iff.2 (by omega)
      rw [this,Bool.true_and]
      rcases valid_loop l hl d (i+1) (by omega) with ⟨h1,h2⟩ | ⟨h1,h2⟩
      · exact .inl ⟨h1,z7w (byte_at l i) (wi (by omega)) (by omega) hlt (by omega) (by omega) h2⟩
      · exact .inr ⟨h1,z7w (byte_at l i) (wi (by omega)) (by omega) hlt (by omega) (by omega) h2⟩
theorem B_ne_nil {l:List UInt8} (h:l≠[]):¬ B l=(⟨#[]⟩:ByteArray):=fun e=>h (B_inj (e.trans B_nil.symm))
theorem natural_Valid_ok (l:List UInt8) (hl:l.length < 9223372036854775807):Fn E C5 [.c (.str (B l))] (.c (.bool (natB l))):=by
 cases l with
 | nil=>exact x4b B_nil
 | cons c m =>
  have hne:=B_ne_nil (l:=c::m) (by simp)
  have h0:(((B (c::m)).data.toList.getD 0 0).toNat:Int)=(c.toNat:Int):=by rw [B_list]; rfl
  have hloop:=valid_loop (E:=E) (c::m) hl (c::m).length 0 (by omega)
  simp only [List.drop_zero] at hloop
  by_cases h1:1 < (c::m).length
  · have hlt:0≤(0:Int)∧(0:Int) < (B (c::m)).size:=by rw [B_size]; omega
    by_cases h2:c.toNat=48
    · have hc:c=48:=UInt8.toNat_inj.1 h2
      have e:natB (c::m)=false:=by
       unfold natB
       have:decide ((c::m).length≤1)=false:=decide_eq_false (by omega)
       rw [this]; subst hc; simp
      rw [e]
      exact x4c h0 hne (by rw [B_size]; omega) hlt (by omega)
    · have hc:¬ c=48:=fun e=>h2 (by rw [e]; rfl)
      have e:natB (c::m)=(c::m).all isDig:=by
       unfold natB
       have:((c::m).head? == some 48)=false:=by simp [hc]
       rw [this]; simp
      rw [e]
      rcases hloop with ⟨g1,g2⟩ | ⟨g1,g2⟩
      · rw [g1]; exact x4e h0 hne (by rw [B_size]; omega) hlt (by omega) (by rw [B_size]; exact g2)
      · rw [g1]; exact x4d h0 hne (by rw [B_size]; omega) hlt (by omega) (by rw [B_size]; exact g2)
  · have e:natB (c::m)=(c::m).all isDig:=by
     unfold natB
     have:decide ((c::m).length≤1)=true:=decide_eq_true (by omega)
     rw [this]; simp
    rw [e]
    rcases hloop with ⟨g1,g2⟩ | ⟨g1,g2⟩
    · rw [g1]; exact x4g hne (by rw [B_size]; omega) (by rw [B_size]; exact g2)
    · rw [g1]; exact x4f hne (by rw [B_size]; omega) (by rw [B_size]; exact g2)
theorem Dg.take {l:List UInt8} (h:Dg l) (n:Nat):Dg (l.take n):=fun c hc=>h c (List.mem_of_mem_take hc)
theorem Dg.drop {l:List UInt8} (h:Dg l) (n:Nat):Dg (l.drop n):=fun c hc=>h c (List.mem_of_mem_drop hc)
theorem ten_nine:(10:Nat) ^ 9=1000000000:=by decide
theorem read_loop (hlib:Lib E) {l:List UInt8} (hd:Dg l) (hl:l.length < 10000000000000):∀ (t i:Nat) (ws:List Int) (n:Nat),n≤t→n≤l.length→9*i≤l.length+8→ws.length=i→(0 < n→n+9*i=l.length)→Wd ws→wv ws+pw i*(dval (l.take n):Int)=dval l →
    ∃ ws',Lp E 0 V7 0 (z3n (B (l.take n)) i (Wr ws)) (.exit 0) (z3z ws'.length (Wr ws'))∧Wd ws'∧wv ws'=dval l∧ws'.length≤l.length+8
 | t,i,ws,0,_,_,hi,hw,_,hwd,hv=>by
  rw [List.take_zero,show dval []=0 from rfl] at hv
  exact ⟨ws,by rw [hw]; exact y4w (by rw [B_size]; simp),hwd,by simpa using hv,by omega⟩
 | 0,i,ws,n+1,h,_,_,_,_,_,_=>by omega
 | t+1,i,ws,n+1,hn,hnl,hi,hw,hni,hwd,hv=>by
  obtain ⟨at',ha⟩:∃ a,a=n+1 - 9:=⟨_,rfl⟩
  have hlen:(l.take (n+1)).length=n+1:=by simp; omega
  obtain ⟨p,hp⟩:∃ p,p=(l.take (n+1)).drop at':=⟨_,rfl⟩
  have hpd:Dg p:=by rw [hp]; exact Dg.drop (Dg.take hd _) _
  have hpl:p.length=n+1 - at':=by rw [hp,List.length_drop,hlen]
  have hval:dval p < 1000000000:=by
   have:=dval_lt hpd
   have h9:(10:Nat) ^ p.length≤10 ^ 9:=Nat.pow_le_pow_right (by decide) (by omega)
   rw [ten_nine] at h9
   omega
  have hsplit:l.take (n+1)=l.take at'++p:=by
   rw [hp]
   have:=(List.take_append_drop at' (l.take (n+1))).symm
   rwa [List.take_take,Nat.min_eq_left (by omega)] at this
  have hvs:wv (ws++[(dval p:Int)])+pw (i+1)*(dval (l.take at'):Int)=dval l:=by
   rw [val_snoc,hw,pw_succ]
   rw [hsplit,dval_append] at hv
   by_cases h9:p.length=9
   · rw [h9,ten_nine] at hv
     have e:((dval (l.take at')*1000000000+dval p:Nat):Int)=1000000000*(dval (l.take at'):Int)+dval p:=by omega
     rw [e] at hv
     grind
   · have:at'=0:=by omega
     subst this
     rw [List.take_zero,show dval []=0 from rfl] at hv ⊢
     rw [show ((0*10 ^ p.length+dval p:Nat):Int)=(dval p:Int) by simp] at hv
     simp
     omega
  obtain ⟨ws',k1,k2,k3,k4⟩:=read_loop hlib hd hl t (i+1) (ws++[(dval p:Int)]) at' (by omega) (by omega) (by omega) (by simp [hw]) (by omega) (hwd.append (Wd.cons (by omega) (by omega) Wd.nil)) hvs
  refine ⟨ws',?_,k2,k3,k4⟩
  have hsz:((B (l.take (n+1))).size:Int)=((n+1:Nat):Int):=by rw [B_size,hlen]
  refine y8p (v1:=((n+1:Nat):Int) - 9) (v2:=(at':Int)) (v3:=B p) (v4:=(dval p:Int)) (v5:=(dval p:Int)) (v6:=Wr (ws++[(dval p:Int)])) (v7:=i+1) (v8:=B (l.take at'))
   (wi (by rw [hsz]; omega)) (by split <;> omega) (by rw [hsz,Int.toNat_natCast,Int.toNat_natCast,B_extract,List.take_of_length_le (by omega),hp]) (w32 (by omega)) (by rw [Wr_take,← hw,List.take_length,Wr_snoc]) rfl (by rw [Int.toNat_natCast,B_extract,List.drop_zero,List.take_take,Nat.min_eq_left (by omega)])
   (by rw [hsz]; omega) (by rw [B_size,hlen]; omega) (hlib.parseUint p hpd (by omega) (by omega)) (by omega) (by rw [B_size,hlen]; omega) k1
theorem read_ok (hlib:Lib E) {l:List UInt8} (hd:Dg l) (hl:l.length < 10000000000000):Fn E V7 [.c (.str (B l))] (.c (.list (Wr (words (dval l))))):=by
 obtain ⟨ws,k1,k2,k3,k4⟩:=read_loop (E:=E) hlib hd hl l.length 0 [] l.length (Nat.le_refl _) (Nat.le_refl _) (by omega) rfl (by omega) Wd.nil (by rw [List.take_length,pw_zero]; simp [wv])
 rw [List.take_length] at k1
 have h:=trimN_words k2 (k:=ws.length) (Nat.le_refl _)
 rw [List.take_length,k3,Int.toNat_natCast] at h
 exact x5v (by rw [Wr_take,h]) k1 (trim_run (Nat.le_refl _) (by omega))
theorem dec_le {n K:Nat} (h:n < 10 ^ K):(dec n).length≤K+1:=by
 rcases Nat.eq_zero_or_pos K with rfl | hK
 · have:n=0:=by simpa using h
   subst this; rw [dec_zero]; simp
 · exact Nat.le_succ_of_le (dec_length h hK)
theorem Lim_val:Lim=1000000000:=rfl
theorem both_ok (hlib:Lib E) {a b K L:Nat} (ha:a < 10 ^ K) (hb:b < 10 ^ L) (hK:K≤Lim) (hL:L≤Lim):Fn E z0c [.c (.str (B (dec a))),.c (.str (B (dec b)))] (.tup [.c (.list (Wr (words a))),.c (.list (Wr (words b))),.c (.i64 0)]):=by
 have h1:=dec_le ha
 have h2:=dec_le hb
 rw [Lim_val] at hK hL
 have v1:=natural_Valid_ok (E:=E) (dec a) (by omega)
 have v2:=natural_Valid_ok (E:=E) (dec b) (by omega)
 have r1:=read_ok hlib (dec_dg a) (by omega)
 have r2:=read_ok hlib (dec_dg b) (by omega)
 rw [natB_dec] at v1 v2
 rw [dval_dec] at r1 r2
 exact x5u v1 v2 r1 r2
theorem natural_Compare_ok (hlib:Lib E) {a b K L:Nat} (ha:a < 10 ^ K) (hb:b < 10 ^ L) (hK:K≤Lim) (hL:L≤Lim):Fn E z3w [.c (.str (B (dec a))),.c (.str (B (dec b)))] (.tup [.c (.i64 (cmpI a b)),.c (.i64 0)]):=by
 have w1:=words_le ha
 have hK':=hK
 rw [Lim_val] at hK'
 exact x0i (both_ok hlib ha hb hK hL) rfl (compare_ok (by omega))
theorem pow_mono_lt {a K M:Nat} (h:a < 10 ^ K) (k:K≤M):a < 10 ^ M:=Nat.lt_of_lt_of_le h (Nat.pow_le_pow_right (by decide) k)
theorem add_lt_pow {a b K:Nat} (h:a < 10 ^ K) (k:b < 10 ^ K):a+b < 10 ^ (K+1):=by rw [Nat.pow_succ]; omega
theorem natural_Add_ok (hlib:Lib E) {a b K L:Nat} (ha:a < 10 ^ K) (hb:b < 10 ^ L) (hK:K≤Lim) (hL:L≤Lim):Fn E z7m [.c (.str (B (dec a))),.c (.str (B (dec b)))] (.tup [.c (.str (B (dec (a+b)))),.c (.i64 0)]):=by
 have w1:=words_le ha
 have w2:=words_le hb
 have hK':=hK
 have hL':=hL
 rw [Lim_val] at hK' hL'
 have hs:=add_lt_pow (pow_mono_lt ha (show K≤max K L by omega)) (pow_mono_lt hb (show L≤max K L by omega))
 exact x7m (both_ok hlib ha hb hK hL) rfl (z6x (plus_ok (by omega) (by omega)) (hlib.text _ _ hs (by omega)))
theorem natural_Sub_ok (hlib:Lib E) {a b K L:Nat} (ha:a < 10 ^ K) (hb:b < 10 ^ L) (hK:K≤Lim) (hL:L≤Lim) (hab:b≤a):Fn E z6b [.c (.str (B (dec a))),.c (.str (B (dec b)))] (.tup [.c (.str (B (dec (a - b)))),.c (.i64 0)]):=by
 have w1:=words_le ha
 have hK':=hK
 rw [Lim_val] at hK'
 exact x7p (both_ok hlib ha hb hK hL) rfl (compare_ok (by omega)) (fun h=>by have:=cmpI_lt.1 h; omega) (z6q (minus_ok (by omega) hab) (hlib.text _ _ (Nat.lt_of_le_of_lt (Nat.sub_le _ _) ha) (by omega)))
theorem natural_Mul_ok (hlib:Lib E) {a b K L:Nat} (ha:a < 10 ^ K) (hb:b < 10 ^ L) (hKL:K+L≤Lim):Fn E z2k [.c (.str (B (dec a))),.c (.str (B (dec b)))] (.tup [.c (.str (B (dec (a*b)))),.c (.i64 0)]):=by
 have w1:=words_le ha
 have w2:=words_le hb
 have hK':=hKL
 rw [Lim_val] at hK'
 exact x7o (both_ok hlib ha hb (by omega) (by omega)) rfl (z6r (times_fn (by omega)) (hlib.text _ _ (mul_lt_pow ha hb) (by omega)))
theorem natural_DivMod_ok (hlib:Lib E) {a b K L:Nat} (ha:a < 10 ^ K) (hb:b < 10 ^ L) (hK:K≤Lim) (hL:L≤Lim) (h0:b≠0):Fn E z1f [.c (.str (B (dec a))),.c (.str (B (dec b)))] (.tup [.c (.str (B (dec (a / b)))),.c (.str (B (dec (a % b)))),.c (.i64 0)]):=by
 have w1:=words_le ha
 have hK':=hK
 rw [Lim_val] at hK'
 have hne:((Wr (words b)).length:Int)≠0:=by
  have:words b≠[]:=fun h=>h0 (words_nil.1 h)
  have:=len_pos this
  rw [Wr_len]; omega
 exact x2p (both_ok hlib ha hb hK hL) rfl hne (divide_ok h0 (by omega)) (hlib.text _ _ (Nat.lt_of_le_of_lt (Nat.div_le_self _ _) ha) (by omega)) (hlib.text _ _ (Nat.lt_of_le_of_lt (Nat.mod_le _ _) ha) (by omega))
theorem natural_GCD_ok (hlib:Lib E) {a b K L:Nat} (ha:a < 10 ^ K) (hb:b < 10 ^ L) (hK:K≤Lim) (hL:L≤Lim) (hp:0 < a∨0 < b):Fn E y0e [.c (.str (B (dec a))),.c (.str (B (dec b)))] (.tup [.c (.str (B (dec (Nat.gcd a b)))),.c (.i64 0)]):=by
 have w1:=words_le ha
 have w2:=words_le hb
 have hK':=hK
 have hL':=hL
 rw [Lim_val] at hK' hL'
 have hg:Nat.gcd a b < 10 ^ max K L:=by
  rcases hp with h | h
  · exact Nat.lt_of_le_of_lt (Nat.gcd_le_left b h) (pow_mono_lt ha (by omega))
  · exact Nat.lt_of_le_of_lt (Nat.gcd_le_right a h) (pow_mono_lt hb (by omega))
 exact x7n (both_ok hlib ha hb hK hL) rfl (z7b (gcd_ok (L:=max K L) (by omega) (by omega) (by omega)) (hlib.text _ _ hg (by omega)))
end Gev
namespace Gev
open Go Gb
variable {E:Env}
theorem B_beq (l m:List UInt8):(B l == B m)=(l == m):=by
 rw [beq_toListBytes,toList_eq,toList_eq,B_list,B_list]
theorem B48:(⟨#[48]⟩:ByteArray)=B [48]:=rfl
theorem B45:(⟨#[45]⟩:ByteArray)=B [45]:=rfl
theorem B49:(⟨#[49]⟩:ByteArray)=B [49]:=rfl
theorem dec_one':B [49]=B (dec 1):=by rw [dec_one]
def Zc (z:Int):List DV:=[.bool (decide (z < 0)),.str (B (dec z.natAbs))]
def intB (l:List UInt8):Bool:=if [45].isPrefixOf l then natB (l.drop 1) && !(l.drop 1 == [48]) else natB l
theorem pre45 (c:UInt8) (m:List UInt8):[45].isPrefixOf (c::m)=(c == 45):=by
 show ((45:UInt8) == c && [].isPrefixOf m)=(c == 45)
 simp [Bool.beq_eq_decide_eq,eq_comm]
theorem intB_iff {l:List UInt8}:intB l=true↔IsInt l:=by
 unfold intB IsInt
 cases l with
 | nil =>
  show natB []=true↔_
  constructor
  · intro h; exact absurd h (by decide)
  · rintro (h | ⟨m,h,_⟩)
    · exact absurd rfl h.1
    · cases h
 | cons c m =>
  rw [pre45]
  by_cases hc:c=45
  · subst hc
    simp only [beq_self_eq_true,if_true,List.drop_succ_cons,List.drop_zero,Bool.and_eq_true,Bool.not_eq_true',beq_eq_false_iff_ne,natB_iff]
    constructor
    · rintro ⟨h1,h2⟩; exact .inr ⟨m,rfl,h1,h2⟩
    · rintro (h | ⟨m',h,h1,h2⟩)
      · have:=h.2.1 45 (by simp)
        exact absurd this.1 (by decide)
      · cases h; exact ⟨h1,h2⟩
  · simp only [beq_eq_false_iff_ne.2 hc,Bool.false_eq_true,if_false,natB_iff]
    constructor
    · exact .inl
    · rintro (h | ⟨m',h,_⟩)
      · exact h
      · cases h; exact absurd rfl hc
theorem intB_decZ (z:Int):intB (decZ z)=true:=intB_iff.2 (decZ_isInt z)
theorem read_int (hlib:Lib E) {l:List UInt8} (hl:l.length < 10000000000000):Fn E z0b [.c (.str (B l))] (.tup [.agg [.bool ([45].isPrefixOf l),.str (B (if [45].isPrefixOf l then l.drop 1 else l))],.c (.bool (intB l))]):=by
 have hc:=hlib.cutPrefix l [45] hl (by decide)
 unfold intB
 cases hb:[45].isPrefixOf l with
 | true =>
  rw [hb] at hc
  simp only [if_true,List.length_singleton] at hc ⊢
  have hv:=natural_Valid_ok (E:=E) (l.drop 1) (by simp; omega)
  cases hn:natB (l.drop 1) with
  | true =>
   rw [hn] at hv
   by_cases h48:l.drop 1=[48]
   · rw [h48,show (true && !([48] == ([48]:List UInt8)))=false from rfl]
     rw [h48] at hc hv
     exact x5p hc hv (by rw [B48,B_beq]; rfl)
   · rw [show (true && !(l.drop 1 == [48]))=true by rw [beq_eq_false_iff_ne.2 h48]; rfl]
     exact y3w hc hv (by rw [B48,B_beq,beq_eq_false_iff_ne.2 h48]; rfl)
  | false =>
   rw [hn] at hv
   rw [Bool.false_and]
   exact y3x hc hv
 | false =>
  rw [hb] at hc
  simp only [Bool.false_eq_true,if_false] at hc ⊢
  have hv:=natural_Valid_ok (E:=E) l (by omega)
  cases hn:natB l with
  | true=>rw [hn] at hv; exact y3w hc hv rfl
  | false=>rw [hn] at hv; exact y3x hc hv
theorem decZ_pre (z:Int):[45].isPrefixOf (decZ z)=decide (z < 0)∧(if [45].isPrefixOf (decZ z) then (decZ z).drop 1 else decZ z)=dec z.natAbs:=by
 by_cases h:z < 0
 · rw [decZ_neg h,pre45]; simp [h]
 · rw [decZ_nonneg (by omega)]
   have:[45].isPrefixOf (dec z.natAbs)=false:=by
    cases hd:dec z.natAbs with
    | nil=>rfl
    | cons c m =>
     rw [pre45]
     refine beq_eq_false_iff_ne.2 fun e=>?_
     have:=dec_dg z.natAbs c (by rw [hd]; simp)
     rw [e] at this
     exact absurd this.1 (by decide)
   rw [this]; simp [h]
theorem read_decZ (hlib:Lib E) {z:Int} (hl:(decZ z).length < 10000000000000):Fn E z0b [.c (.str (B (decZ z)))] (.tup [.agg (Zc z),.c (.bool true)]):=by
 have:=read_int hlib hl
 rw [(decZ_pre z).2,(decZ_pre z).1,intB_decZ] at this
 exact this
theorem decZ_le {z:Int} {K:Nat} (h:z.natAbs < 10 ^ K):(decZ z).length≤K+2:=by
 have:=dec_le h
 unfold decZ
 split <;> simp <;> omega
theorem integer_Valid_ok (hlib:Lib E) {l:List UInt8} (hl:l.length < 10000000000000):Fn E O2 [.c (.str (B l))] (.c (.bool (intB l))):=x3z (read_int hlib hl)
theorem both_int (hlib:Lib E) {a b:Int} {K L:Nat} (ha:a.natAbs < 10 ^ K) (hb:b.natAbs < 10 ^ L) (hK:K≤Lim) (hL:L≤Lim):Fn E z1o [.c (.str (B (decZ a))),.c (.str (B (decZ b)))] (.tup [.agg (Zc a),.agg (Zc b),.c (.i64 0)]):=by
 have h1:=decZ_le ha
 have h2:=decZ_le hb
 rw [Lim_val] at hK hL
 exact x5o (read_decZ hlib (by omega)) (read_decZ hlib (by omega))
theorem one_int (hlib:Lib E) {a:Int} {K:Nat} (ha:a.natAbs < 10 ^ K) (hK:K≤Lim):Fn E z6a [.c (.str (B (decZ a)))] (.tup [.agg (Zc a),.c (.i64 0)]):=by
 have:=both_int hlib ha (show (0:Int).natAbs < 10 ^ 1 by decide) hK (by rw [Lim_val]; omega)
 rw [decZ_zero] at this
 exact x7i this
def sgn (neg:Bool) (n:Nat):Int:=if neg then -(n:Int) else n
theorem with_ok (neg:Bool) (n:Nat):Fn E I6 [.c (.bool neg),.c (.str (B (dec n)))] (.agg (Zc (sgn neg n))):=by
 cases neg with
 | false =>
  have:Zc (sgn false n)=[.bool false,.str (B (dec n))]:=by unfold Zc sgn; simp
  rw [this]; exact x5s
 | true =>
  by_cases h:n=0
  · subst h
    have:Zc (sgn true 0)=[.bool false,.str (B (dec 0))]:=by unfold Zc sgn; simp
    rw [this]; exact x5r (by rw [B48,dec_zero])
  · have:Zc (sgn true n)=[.bool true,.str (B (dec n))]:=by
     unfold Zc sgn
     simp only [if_true,Int.natAbs_neg,Int.natAbs_natCast]
     rw [decide_eq_true (by omega)]
    rw [this]
    exact x5q (fun e=>h (by rw [B48] at e; exact dec_eq_zero.1 (B_inj e)))
theorem text_int {z:Int} {K:Nat} (hz:z.natAbs < 10 ^ K) (hK:K≤Lim+Lim):Fn E K4 [.agg (Zc z)] (.c (.str (B (decZ z)))):=by
 have h1:=dec_le hz
 rw [Lim_val] at hK
 by_cases h:z < 0
 · have:Zc z=[.bool true,.str (B (dec z.natAbs))]:=by unfold Zc; rw [decide_eq_true h]
   rw [this,decZ_neg h]
   exact y2r (by rw [B45,B_append]; rfl) (by rw [B45,B_size,B_size]; simp; omega)
 · have:Zc z=[.bool false,.str (B (dec z.natAbs))]:=by unfold Zc; rw [decide_eq_false h]
   rw [this,decZ_nonneg (by omega)]
   exact y2s
theorem opposite_ok (z:Int):Fn E Y1 [.agg (Zc z)] (.agg (Zc (-z))):=by
 have:=with_ok (E:=E) (!decide (z < 0)) z.natAbs
 have e:sgn (!decide (z < 0)) z.natAbs=-z:=by unfold sgn; split <;> rename_i h <;> simp at h <;> omega
 rw [e] at this
 exact z9f this
theorem zero_int:Fn E z2p [] (.agg [.bool false,.str (B [48])]):=x5t
theorem isZero (z:Int):((decide (z < 0) == false) && ((B (dec z.natAbs) == B [48]) && true))=decide (z=0):=by
 rw [B_beq]
 by_cases h:z=0
 · subst h; rw [decide_eq_true rfl]; simp [dec_zero]
 · rw [decide_eq_false h]
   have:(dec z.natAbs == [48])=false:=beq_eq_false_iff_ne.2 fun e=>h (by have:=dec_eq_zero.1 e; omega)
   rw [this]; simp
theorem sign_int (z:Int):Fn E U1 [.agg (Zc z)] (.c (.i64 (cmpI z 0))):=by
 have hz:=isZero z
 by_cases h:z=0
 · rw [decide_eq_true h] at hz
   rw [cmpI_eq h]
   exact y2o zero_int hz
 · rw [decide_eq_false h] at hz
   by_cases h1:z < 0
   · have e:cmpI z 0=-1:=by unfold cmpI; rw [if_pos h1]
     have:Zc z=[.bool true,.str (B (dec z.natAbs))]:=by unfold Zc; rw [decide_eq_true h1]
     rw [e,this]
     exact y2p zero_int rfl
   · have e:cmpI z 0=1:=by unfold cmpI; rw [if_neg h1,if_pos (by omega)]
     have:Zc z=[.bool false,.str (B (dec z.natAbs))]:=by unfold Zc; rw [decide_eq_false h1]
     rw [e,this]
     rw [decide_eq_false h1] at hz
     exact y2q zero_int hz
theorem sum_int (hlib:Lib E) {a b:Int} {K L:Nat} (ha:a.natAbs < 10 ^ K) (hb:b.natAbs < 10 ^ L) (hK:K≤Lim) (hL:L≤Lim) (hs:decide (a < 0)=decide (b < 0)):Fn E z7l [.agg (Zc a),.agg (Zc b)] (.agg (Zc (a+b))):=by
 have h:=natural_Add_ok hlib ha hb hK hL
 have hw:=with_ok (E:=E) (decide (a < 0)) (a.natAbs+b.natAbs)
 have e:sgn (decide (a < 0)) (a.natAbs+b.natAbs)=a+b:=by
  unfold sgn
  rw [decide_eq_decide] at hs
  by_cases c:a < 0
  · have:=hs.1 c; rw [decide_eq_true c,if_pos rfl]; omega
  · have:¬ b < 0:=fun x=>c (hs.2 x)
    rw [decide_eq_false c,if_neg (by simp)]; omega
 rw [e] at hw
 exact x7j h hw
theorem difference_int (hlib:Lib E) {a b:Int} {K L:Nat} (ha:a.natAbs < 10 ^ K) (hb:b.natAbs < 10 ^ L) (hK:K≤Lim) (hL:L≤Lim) (hs:decide (a < 0)≠decide (b < 0)):Fn E z0a [.agg (Zc a),.agg (Zc b)] (.agg (Zc (a+b))):=by
 have hc:=natural_Compare_ok hlib ha hb hK hL
 have hs':¬ (a < 0↔b < 0):=fun h=>hs (decide_eq_decide.2 h)
 by_cases c:a.natAbs < b.natAbs
 · have h:=natural_Sub_ok hlib hb ha hL hK (by omega)
   have hw:=with_ok (E:=E) (decide (b < 0)) (b.natAbs - a.natAbs)
   have e:sgn (decide (b < 0)) (b.natAbs - a.natAbs)=a+b:=by
    unfold sgn
    by_cases d:b < 0
    · have:¬ a < 0:=fun x=>hs' ⟨fun _=>d,fun _=>x⟩
      rw [decide_eq_true d,if_pos rfl]; omega
    · have:a < 0:=Classical.byContradiction fun x=>hs' ⟨fun y=>absurd y x,fun y=>absurd y d⟩
      rw [decide_eq_false d,if_neg (by simp)]; omega
   rw [e] at hw
   exact y3u hc (cmpI_lt.2 (by omega)) h hw
 · have h:=natural_Sub_ok hlib ha hb hK hL (by omega)
   have hw:=with_ok (E:=E) (decide (a < 0)) (a.natAbs - b.natAbs)
   have e:sgn (decide (a < 0)) (a.natAbs - b.natAbs)=a+b:=by
    unfold sgn
    by_cases d:a < 0
    · have:¬ b < 0:=fun x=>hs' ⟨fun _=>x,fun _=>d⟩
      rw [decide_eq_true d,if_pos rfl]; omega
    · have:b < 0:=Classical.byContradiction fun x=>hs' ⟨fun y=>absurd y d,fun y=>absurd y x⟩
      rw [decide_eq_false d,if_neg (by simp)]; omega
   rw [e] at hw
   exact y3v hc (fun x=>c (by have:=cmpI_lt.1 x; omega)) h hw
theorem bit_ok (b:Bool):Fn E U2 [.c (.bool b)] (.c (.i64 (if b then 1 else 0))):=by
 cases b
 · exact x7h
 · exact x7g
theorem plus_int (hlib:Lib E) {a b:Int} {K L:Nat} (ha:a.natAbs < 10 ^ K) (hb:b.natAbs < 10 ^ L) (hK:K≤Lim) (hL:L≤Lim):Fn E N4 [.agg (Zc a),.agg (Zc b)] (.agg (Zc (a+b))):=by
 have b1:=bit_ok (E:=E) (decide (a < 0))
 have b2:=bit_ok (E:=E) (decide (b < 0))
 by_cases hs:decide (a < 0)=decide (b < 0)
 · have h:=sum_int hlib ha hb hK hL hs
   cases c:decide (a < 0) with
   | true =>
    rw [c] at b1 hs; rw [← hs] at b2
    simp only [Zc] at h ⊢; rw [c,← hs] at h ⊢
    exact y2n b1 b2 h
   | false =>
    rw [c] at b1 hs; rw [← hs] at b2
    simp only [Zc] at h ⊢; rw [c,← hs] at h ⊢
    exact y2k b1 b2 h
 · have h:=difference_int hlib ha hb hK hL hs
   cases c:decide (a < 0) with
   | true =>
    have d:decide (b < 0)=false:=by rw [c] at hs; cases x:decide (b < 0) with | true=>exact absurd x.symm hs | false=>rfl
    rw [c] at b1; rw [d] at b2
    simp only [Zc] at h ⊢; rw [c,d] at h ⊢
    exact y2m b1 b2 h
   | false =>
    have d:decide (b < 0)=true:=by rw [c] at hs; cases x:decide (b < 0) with | false=>exact absurd x.symm hs | true=>rfl
    rw [c] at b1; rw [d] at b2
    simp only [Zc] at h ⊢; rw [c,d] at h ⊢
    exact y2l b1 b2 h
theorem times_int (hlib:Lib E) {a b:Int} {K L:Nat} (ha:a.natAbs < 10 ^ K) (hb:b.natAbs < 10 ^ L) (hKL:K+L≤Lim):Fn E z3d [.agg (Zc a),.agg (Zc b)] (.agg (Zc (a*b))):=by
 have h:=natural_Mul_ok hlib ha hb hKL
 have hw:=with_ok (E:=E) (!(decide (a < 0) == decide (b < 0))) (a.natAbs*b.natAbs)
 have e:sgn (!(decide (a < 0) == decide (b < 0))) (a.natAbs*b.natAbs)=a*b:=by
  unfold sgn
  have ea:(a.natAbs:Int)=if a < 0 then -a else a:=by split <;> omega
  have eb:(b.natAbs:Int)=if b < 0 then -b else b:=by split <;> omega
  rw [Int.natCast_mul,ea,eb]
  by_cases c:a < 0 <;> by_cases d:b < 0 <;> simp [c,d] <;> grind
 rw [e] at hw
 exact y1y rfl h hw
theorem abs_add_lt {a b:Int} {K:Nat} (ha:a.natAbs < 10 ^ K) (hb:b.natAbs < 10 ^ K):(a+b).natAbs < 10 ^ (K+1):=by
 have:=Int.natAbs_add_le a b
 rw [Nat.pow_succ]; omega
theorem integer_Add_ok (hlib:Lib E) {a b:Int} {K L:Nat} (ha:a.natAbs < 10 ^ K) (hb:b.natAbs < 10 ^ L) (hK:K≤Lim) (hL:L≤Lim):Fn E z7k [.c (.str (B (decZ a))),.c (.str (B (decZ b)))] (.tup [.c (.str (B (decZ (a+b)))),.c (.i64 0)]):=by
 have hs:=abs_add_lt (pow_mono_lt ha (show K≤max K L by omega)) (pow_mono_lt hb (show L≤max K L by omega))
 have:1≤Lim:=by rw [Lim_val]; omega
 exact x7d (both_int hlib ha hb hK hL) rfl (plus_int hlib ha hb hK hL) (text_int hs (by omega))
theorem abs_mul_lt {a b:Int} {K L:Nat} (ha:a.natAbs < 10 ^ K) (hb:b.natAbs < 10 ^ L):(a*b).natAbs < 10 ^ (K+L):=by
 rw [Int.natAbs_mul]; exact mul_lt_pow ha hb
theorem integer_Mul_ok (hlib:Lib E) {a b:Int} {K L:Nat} (ha:a.natAbs < 10 ^ K) (hb:b.natAbs < 10 ^ L) (hKL:K+L≤Lim):Fn E V5 [.c (.str (B (decZ a))),.c (.str (B (decZ b)))] (.tup [.c (.str (B (decZ (a*b)))),.c (.i64 0)]) :=
 x7e (both_int hlib ha hb (by omega) (by omega)) rfl (times_int hlib ha hb hKL) (text_int (abs_mul_lt ha hb) (by omega))
theorem integer_Neg_ok (hlib:Lib E) {a:Int} {K:Nat} (ha:a.natAbs < 10 ^ K) (hK:K≤Lim):Fn E y0c [.c (.str (B (decZ a)))] (.tup [.c (.str (B (decZ (-a)))),.c (.i64 0)]) :=
 x7f (one_int hlib ha hK) rfl (opposite_ok a) (text_int (K:=K) (by rw [Int.natAbs_neg]; exact ha) (by omega))
theorem integer_Abs_ok (hlib:Lib E) {a:Int} {K:Nat} (ha:a.natAbs < 10 ^ K) (hK:K≤Lim):Fn E y0b [.c (.str (B (decZ a)))] (.tup [.c (.str (B (dec a.natAbs))),.c (.i64 0)]) :=
 x7c (one_int hlib ha hK) rfl
theorem integer_Sign_ok (hlib:Lib E) {a:Int} {K:Nat} (ha:a.natAbs < 10 ^ K) (hK:K≤Lim):Fn E z8h [.c (.str (B (decZ a)))] (.tup [.c (.i64 (cmpI a 0)),.c (.i64 0)]) :=
 x5n (one_int hlib ha hK) (sign_int a)
theorem cmpI_sub (a b:Int):cmpI (a+-b) 0=cmpI a b:=by unfold cmpI; split <;> split <;> (try split) <;> (try split) <;> omega
theorem integer_Compare_ok (hlib:Lib E) {a b:Int} {K L:Nat} (ha:a.natAbs < 10 ^ K) (hb:b.natAbs < 10 ^ L) (hK:K≤Lim) (hL:L≤Lim):Fn E z6y [.c (.str (B (decZ a))),.c (.str (B (decZ b)))] (.tup [.c (.i64 (cmpI a b)),.c (.i64 0)]):=by
 rw [← cmpI_sub a b]
 exact x0g (both_int hlib ha hb hK hL) (opposite_ok b) (plus_int hlib ha (b:=-b) (by rw [Int.natAbs_neg]; exact hb) hK hL) (sign_int _)
theorem divide_int (hlib:Lib E) {a:Int} {b K L:Nat} (ha:a.natAbs < 10 ^ K) (hb:b < 10 ^ L) (hK:K≤Lim) (hL:L≤Lim) (h0:b≠0):Fn E U9 [.agg (Zc a),.agg (Zc b)] (.tup [.agg (Zc (a / b)),.agg (Zc (a % b))]):=by
 have h:=natural_DivMod_ok hlib ha hb hK hL h0
 have eb:Zc (b:Int)=[.bool false,.str (B (dec b))]:=by unfold Zc; rw [decide_eq_false (by omega),Int.natAbs_natCast]
 have hdm:=Nat.div_add_mod a.natAbs b
 have hlt:=Nat.mod_lt a.natAbs (show 0 < b by omega)
 obtain ⟨q,eq⟩:∃ q,q=a.natAbs / b:=⟨_,rfl⟩
 obtain ⟨r,er⟩:∃ r,r=a.natAbs % b:=⟨_,rfl⟩
 rw [← eq,← er] at h hdm
 rw [← er] at hlt
 have hq:q < 10 ^ K:=by rw [eq]; exact Nat.lt_of_le_of_lt (Nat.div_le_self _ _) ha
 rw [eb]
 have uniq:∀ Q R:Int,a=b*Q+R→0≤R→R < b→a / b=Q∧a % b=R:=by
  intro Q R e h1 h2
  have:=(Int.ediv_emod_unique (show 0 < (b:Int) by omega) (a:=a) (r:=R) (q:=Q)).2 ⟨by rw [e]; omega,h1,h2⟩
  exact this
 have hdm':((b:Int))*q+r=a.natAbs:=by have:=congrArg (Nat.cast (R:=Int)) hdm; simpa using this
 by_cases c:a < 0
 · have ea:Zc a=[.bool true,.str (B (dec a.natAbs))]:=by unfold Zc; rw [decide_eq_true c]
   rw [ea]
   by_cases hr:r=0
   · obtain ⟨u1,u2⟩:=uniq (-(q:Int)) 0 (by rw [Int.mul_neg]; omega) (by omega) (by omega)
     rw [u1,u2]
     have w1:=with_ok (E:=E) true q
     have w2:=with_ok (E:=E) false r
     rw [show sgn true q=-(q:Int) from rfl] at w1
     rw [show sgn false r=(r:Int) from rfl,hr,show ((0:Nat):Int)=0 from rfl] at w2
     rw [hr] at h
     exact y0w rfl h (by rw [B48,dec_zero]) w1 w2
   · obtain ⟨u1,u2⟩:=uniq (-((q+1:Nat):Int)) ((b - r:Nat):Int) (by rw [Int.mul_neg,Int.natCast_add,Int.mul_add]; omega) (by omega) (by omega)
     rw [u1,u2]
     have w1:=with_ok (E:=E) true (q+1)
     have w2:=with_ok (E:=E) false (b - r)
     have h1:=natural_Add_ok hlib hq (show 1 < 10 ^ 1 by decide) hK (by rw [Lim_val]; omega)
     have h2:=natural_Sub_ok hlib hb (show r < 10 ^ L by omega) hL hL (by omega)
     rw [← dec_one'] at h1
     exact y0v rfl h (fun e=>hr (by rw [B48] at e; exact dec_eq_zero.1 (B_inj e))) h1 h2 w1 w2
 · have ea:Zc a=[.bool false,.str (B (dec a.natAbs))]:=by unfold Zc; rw [decide_eq_false c]
   rw [ea]
   obtain ⟨u1,u2⟩:=uniq q r (by omega) (by omega) (by omega)
   rw [u1,u2]
   exact y0x rfl h (with_ok false q) (with_ok false r)
theorem ediv_abs_le {a:Int} {b:Nat}:(a / b).natAbs≤a.natAbs:=Int.natAbs_ediv_le_natAbs a b
theorem integer_DivMod_ok (hlib:Lib E) {a:Int} {b K L:Nat} (ha:a.natAbs < 10 ^ K) (hb:b < 10 ^ L) (hK:K≤Lim) (hL:L≤Lim) (h0:b≠0):Fn E z7i [.c (.str (B (decZ a))),.c (.str (B (dec b)))] (.tup [.c (.str (B (decZ (a / b)))),.c (.str (B (decZ (a % b)))),.c (.i64 0)]):=by
 have hbo:=both_int hlib ha (show (b:Int).natAbs < 10 ^ L from hb) hK hL
 rw [decZ_nat] at hbo
 have hz:=isZero (b:Int)
 rw [decide_eq_false (show ¬ (b:Int)=0 by omega)] at hz
 have hr0:=Int.emod_nonneg a (show (b:Int)≠0 by omega)
 have hr1:=Int.emod_lt_of_pos a (show 0 < (b:Int) by omega)
 exact x2o hbo rfl zero_int hz (divide_int hlib ha hb hK hL h0) (text_int (Nat.lt_of_le_of_lt ediv_abs_le ha) (by omega)) (text_int (K:=L) (Nat.lt_of_le_of_lt (show (a % b).natAbs≤b by omega) hb) (by omega))
end Gev
namespace Gev
open Go Gb
variable {E:Env}
def Qc (q:Rat):List DV:=[.str (B (decZ q.num)),.str (B (dec q.den))]
theorem B47:(⟨#[47]⟩:ByteArray)=B [47]:=rfl
theorem Sz.num {q:Rat} {K:Nat} (h:Sz q K):q.num.natAbs < 10 ^ K:=h.1
theorem Sz.den {q:Rat} {K:Nat} (h:Sz q K):q.den < 10 ^ K:=h.2
theorem den_lt {q:Rat} {K:Nat} (h:Sz q K):(dec q.den).length≤K:=dec_length h.2 h.pos
theorem text_rat {q:Rat} {K:Nat} (h:Sz q K) (hK:K≤Lim):Fn E V1 [.agg (Qc q)] (.c (.str (B (decQ q)))):=by
 have h1:=decZ_le h.1
 have h2:=den_lt h
 rw [Lim_val] at hK
 by_cases hd:q.den=1
 · rw [decQ_int hd]
   exact y4y (by rw [hd,dec_one]; rfl)
 · rw [decQ_frac hd]
   exact y4z (v1:=B (decZ q.num++[47])) (by rw [B47,B_append]) (by rw [B_append]; simp) (fun e=>hd (by rw [B49] at e; exact dec_eq_one.1 (B_inj e))) (by rw [B47,B_size,B_size]; simp; omega) (by rw [B_size,B_size]; simp; omega)
theorem divisor_ok (hlib:Lib E) {z:Int} {d K L:Nat} (hz:z.natAbs < 10 ^ K) (hd:d < 10 ^ L) (hK:K≤Lim) (hL:L≤Lim) (h0:d≠0):Fn E Y9 [.c (.str (B (decZ z))),.c (.str (B (dec d)))] (.c (.str (B (dec (Nat.gcd z.natAbs d))))) :=
 y8t (integer_Abs_ok hlib hz hK) (natural_GCD_ok hlib hz hd hK hL (.inr (by omega)))
theorem gcd_ne {z:Int} {d:Nat} (h0:d≠0):Nat.gcd z.natAbs d≠0:=fun h=>h0 (Nat.eq_zero_of_gcd_eq_zero_right h)
theorem mkRat_num {z:Int} {d:Nat} (h0:d≠0):(mkRat z d).num=z / (Nat.gcd z.natAbs d:Nat):=by rw [Rat.num_mkRat,if_neg h0,Nat.gcd_comm]
theorem mkRat_den {z:Int} {d:Nat} (h0:d≠0):(mkRat z d).den=d / Nat.gcd z.natAbs d:=by rw [Rat.den_mkRat,if_neg h0,Nat.gcd_comm]
theorem Qc_mk {z:Int} {d:Nat} (h0:d≠0):Qc (mkRat z d)=[.str (B (decZ (z / (Nat.gcd z.natAbs d:Nat)))),.str (B (dec (d / Nat.gcd z.natAbs d)))]:=by unfold Qc; rw [mkRat_num h0,mkRat_den h0]
theorem lowest_ok (hlib:Lib E) {z:Int} {d K L:Nat} (hz:z.natAbs < 10 ^ K) (hd:d < 10 ^ L) (hK:K≤Lim) (hL:L≤Lim) (h0:d≠0):Fn E P6 [.c (.str (B (decZ z))),.c (.str (B (dec d)))] (.agg (Qc (mkRat z d))):=by
 have hg:=divisor_ok hlib hz hd hK hL h0
 rw [Qc_mk h0]
 obtain ⟨g,eg⟩:∃ g,g=Nat.gcd z.natAbs d:=⟨_,rfl⟩
 have hg0:g≠0:=by rw [eg]; exact gcd_ne h0
 have hgl:g < 10 ^ L:=by rw [eg]; exact Nat.lt_of_le_of_lt (Nat.gcd_le_right _ (by omega)) hd
 rw [← eg] at hg ⊢
 by_cases h1:g=1
 · rw [h1] at hg ⊢
   rw [show ((1:Nat):Int)=1 from rfl,Int.ediv_one,Nat.div_one]
   exact x0m hg (by rw [dec_one,B49])
 · exact x0l hg (fun e=>h1 (by rw [B49] at e; exact dec_eq_one.1 (B_inj e))) (integer_DivMod_ok hlib hz hgl hK hL hg0) (natural_DivMod_ok hlib hd hgl hL hL hg0)
theorem short_abs {z:Int} (h:(decZ z).length≤9):z.natAbs < 1000000000:=by
 have h1:(dec z.natAbs).length≤(decZ z).length:=by unfold decZ; split <;> simp
 have h2:=lt_dec_length z.natAbs
 have h3:(10:Nat) ^ (dec z.natAbs).length≤10 ^ 9:=Nat.pow_le_pow_right (by decide) (by omega)
 rw [ten_nine] at h3
 omega
theorem short_nat {n:Nat} (h:(dec n).length≤9):n < 1000000000:=by
 have:=short_abs (z:=(n:Int)) (by rw [decZ_nat]; exact h)
 omega
theorem little_yes (hlib:Lib E) {q:Rat} (h1:(decZ q.num).length≤9) (h2:(dec q.den).length≤9):Fn E C3 [.agg (Qc q)] (.tup [.c (.i64 q.num),.c (.i64 q.den),.c (.bool true)]):=by
 have p1:=hlib.parseInt q.num h1
 have p2:=hlib.parseInt (q.den:Int) (by rw [decZ_nat]; exact h2)
 rw [decZ_nat] at p2
 exact y2e (by rw [B_size]; omega) (by rw [B_size]; omega) p1 p2
theorem little_no {q:Rat} (h:¬ ((decZ q.num).length≤9∧(dec q.den).length≤9)):Fn E C3 [.agg (Qc q)] (.tup [.c (.i64 0),.c (.i64 0),.c (.bool false)]):=by
 by_cases h1:(decZ q.num).length≤9
 · exact y2d (by rw [B_size]; omega) (by rw [B_size]; have:¬ (dec q.den).length≤9:=fun x=>h ⟨h1,x⟩; omega)
 · exact y2c (by rw [B_size]; omega)
theorem of_loop {x0 x1:Int} {s:ByteArray}:∀ (t:Nat) (a b:Int),b.natAbs < t→∃ g:Int,Lp E 1 Z2 0 (z4l x0 x1 a b s s) (.exit 0) (z5h x0 x1 s s g)∧g.natAbs=Nat.gcd a.natAbs b.natAbs
 | 0,a,b,h=>by omega
 | t+1,a,b,h=>by
  by_cases h0:b=0
  · subst h0
    exact ⟨a,y6o rfl,by simp⟩
  · have hlt:(Int.tmod a b).natAbs < b.natAbs:=by
     rw [Int.natAbs_tmod]
     exact Nat.mod_lt _ (by omega)
    obtain ⟨g,h1,h2⟩:=of_loop t b (Int.tmod a b) (by omega)
    refine ⟨g,x0n rfl h0 h0 h1,?_⟩
    rw [h2,Int.natAbs_tmod]
    exact (Nat.gcd_comm _ _).trans ((Nat.gcd_rec _ _).symm.trans (Nat.gcd_comm _ _))
theorem of_rat (hlib:Lib E) {p:Int} {q:Nat} (hp:p.natAbs < 9000000000000000000) (hq:q < 9000000000000000000) (h0:q≠0):Fn E Z2 [.c (.i64 p),.c (.i64 q)] (.agg (Qc (mkRat p q))):=by
 obtain ⟨g,h1,h2⟩:=of_loop (E:=E) (x0:=p) (x1:=q) (s:=⟨#[]⟩) (q+1) p q (by omega)
 rw [Int.natAbs_natCast] at h2
 have hg0:=gcd_ne (z:=p) h0
 have hgle:Nat.gcd p.natAbs q≤q:=Nat.gcd_le_right _ (by omega)
 rw [Qc_mk h0]
 obtain ⟨G,eG⟩:∃ G,G=Nat.gcd p.natAbs q:=⟨_,rfl⟩
 have d1:((G:Nat):Int) ∣ p:=by rw [eG]; exact Int.ofNat_dvd_left.2 (Nat.gcd_dvd_left _ _)
 rw [← eG] at h2 hg0 hgle ⊢
 have hm:(if (if g < 0 then -g else -g) > g then (if g < 0 then -g else -g) else g)=(G:Int):=by split <;> split at*<;> omega
 have hq':((q / G:Nat):Int)=(q:Int) / G:=Int.natCast_ediv q G
 have f1:=hlib.formatInt (p / G) (by have:=Int.natAbs_ediv_le_natAbs p G; omega)
 have hqg:q / G≤q:=Nat.div_le_self _ _
 obtain ⟨Q,eQ⟩:∃ Q,Q=q / G:=⟨_,rfl⟩
 rw [← eQ] at hq' hqg ⊢
 have f2:=hlib.formatInt (Q:Int) (by omega)
 rw [decZ_nat] at f2
 have hpd:Int.tdiv p G=p / G:=Int.tdiv_eq_ediv_of_dvd d1
 have hpa:=Int.natAbs_ediv_le_natAbs p G
 refine x7q (v2:=-g) (v3:=(G:Int)) (v4:=p / G) (v6:=(Q:Int)) (wi (by omega)) (by split <;> omega) (wi ⟨hpd,by omega,by omega⟩) (wi ⟨(tdv (by omega) hq'.symm),by omega,by omega⟩) h1 (by omega) f1 f2
theorem plus_rat (hlib:Lib E) {x y:Rat} {K L:Nat} (hx:Sz x K) (hy:Sz y L) (hKL:K+L+1≤Lim):Fn E z0s [.agg (Qc x),.agg (Qc y)] (.agg (Qc (x+y))):=by
 rw [Rat.add_def']
 have hd:x.den*y.den≠0:=Nat.mul_ne_zero x.den_nz y.den_nz
 have low:Fn E P6 [.c (.str (B (decZ (x.num*y.den+y.num*x.den)))),.c (.str (B (dec (x.den*y.den))))] (.agg (Qc (mkRat (x.num*y.den+y.num*x.den) (x.den*y.den)))):=by
  refine lowest_ok hlib (K:=K+L+1) (L:=K+L) ?_ (mul_lt_pow hx.2 hy.2) hKL (by omega) hd
  have h1:=abs_mul_lt (b:=(y.den:Int)) hx.1 (show (y.den:Int).natAbs < 10 ^ L from hy.2)
  have h2:=abs_mul_lt (b:=(x.den:Int)) hy.1 (show (x.den:Int).natAbs < 10 ^ K from hx.2)
  exact abs_add_lt h1 (by rw [Nat.add_comm]; exact h2)
 have m1:=integer_Mul_ok hlib hx.1 (b:=(y.den:Int)) (show (y.den:Int).natAbs < 10 ^ L from hy.2) (by omega)
 have m2:=integer_Mul_ok hlib hy.1 (b:=(x.den:Int)) (show (x.den:Int).natAbs < 10 ^ K from hx.2) (by omega)
 rw [decZ_nat] at m1 m2
 have a1:=integer_Add_ok hlib (abs_mul_lt hx.1 (show (y.den:Int).natAbs < 10 ^ L from hy.2)) (abs_mul_lt hy.1 (show (x.den:Int).natAbs < 10 ^ K from hx.2)) (by omega) (by omega)
 have n1:=natural_Mul_ok hlib hx.2 hy.2 (by omega)
 by_cases c1:(decZ x.num).length≤9∧(dec x.den).length≤9
 · by_cases c2:(decZ y.num).length≤9∧(dec y.den).length≤9
   · have b1:=short_abs c1.1
     have b2:=short_nat c1.2
     have b3:=short_abs c2.1
     have b4:=short_nat c2.2
     have p1:(x.num*(y.den:Int)).natAbs≤999999999*999999999:=by rw [Int.natAbs_mul]; exact Nat.mul_le_mul (by omega) (by simp; omega)
     have p2:(y.num*(x.den:Int)).natAbs≤999999999*999999999:=by rw [Int.natAbs_mul]; exact Nat.mul_le_mul (by omega) (by simp; omega)
     have p3:x.den*y.den≤999999999*999999999:=Nat.mul_le_mul (by omega) (by omega)
     have e3:(x.den:Int)*y.den=((x.den*y.den:Nat):Int):=(Int.natCast_mul _ _).symm
     have o:=of_rat hlib (p:=x.num*y.den+y.num*x.den) (q:=x.den*y.den) (by omega) (by omega) hd
     exact x4i (v7:=x.num*y.den) (v8:=y.num*x.den) (v9:=x.num*y.den+y.num*x.den) (v10:=((x.den*y.den:Nat):Int)) (wi (by omega)) (wi (by omega)) (wi (by omega)) (wi ⟨e3,by omega,by omega⟩) (little_yes hlib c1.1 c1.2) (little_yes hlib c2.1 c2.2) o
   · exact x4j (little_yes hlib c1.1 c1.2) (little_no c2) m1 m2 a1 n1 low
 · have:∃ v w b,Fn E C3 [.agg (Qc y)] (.tup [.c (.i64 v),.c (.i64 w),.c (.bool b)]):=by
    by_cases c2:(decZ y.num).length≤9∧(dec y.den).length≤9
    · exact ⟨_,_,_,little_yes hlib c2.1 c2.2⟩
    · exact ⟨_,_,_,little_no c2⟩
   obtain ⟨v,w,b,hl⟩:=this
   exact x4k (little_no c1) hl m1 m2 a1 n1 low
theorem times_rat (hlib:Lib E) {x y:Rat} {K L:Nat} (hx:Sz x K) (hy:Sz y L) (hKL:K+L≤Lim):Fn E Z0 [.agg (Qc x),.agg (Qc y)] (.agg (Qc (x*y))):=by
 rw [Rat.mul_def']
 have hd:x.den*y.den≠0:=Nat.mul_ne_zero x.den_nz y.den_nz
 have low:=lowest_ok hlib (abs_mul_lt hx.1 hy.1) (mul_lt_pow hx.2 hy.2) (by omega) (by omega) hd
 have m1:=integer_Mul_ok hlib hx.1 hy.1 (by omega)
 have n1:=natural_Mul_ok hlib hx.2 hy.2 (by omega)
 by_cases c1:(decZ x.num).length≤9∧(dec x.den).length≤9
 · by_cases c2:(decZ y.num).length≤9∧(dec y.den).length≤9
   · have b1:=short_abs c1.1
     have b2:=short_nat c1.2
     have b3:=short_abs c2.1
     have b4:=short_nat c2.2
     have p1:(x.num*y.num).natAbs≤999999999*999999999:=by rw [Int.natAbs_mul]; exact Nat.mul_le_mul (by omega) (by omega)
     have p3:x.den*y.den≤999999999*999999999:=Nat.mul_le_mul (by omega) (by omega)
     have e3:(x.den:Int)*y.den=((x.den*y.den:Nat):Int):=(Int.natCast_mul _ _).symm
     have o:=of_rat hlib (p:=x.num*y.num) (q:=x.den*y.den) (by omega) (by omega) hd
     exact x2r (v7:=x.num*y.num) (v8:=((x.den*y.den:Nat):Int)) (wi (by omega)) (wi ⟨e3,by omega,by omega⟩) (little_yes hlib c1.1 c1.2) (little_yes hlib c2.1 c2.2) o
   · exact x2s (little_yes hlib c1.1 c1.2) (little_no c2) m1 n1 low
 · have:∃ v w b,Fn E C3 [.agg (Qc y)] (.tup [.c (.i64 v),.c (.i64 w),.c (.bool b)]):=by
    by_cases c2:(decZ y.num).length≤9∧(dec y.den).length≤9
    · exact ⟨_,_,_,little_yes hlib c2.1 c2.2⟩
    · exact ⟨_,_,_,little_no c2⟩
   obtain ⟨v,w,b,hl⟩:=this
   exact x2t (little_no c1) hl m1 n1 low
theorem opposite_rat (hlib:Lib E) {x:Rat} {K:Nat} (hx:Sz x K) (hK:K≤Lim):Fn E z5y [.agg (Qc x)] (.agg (Qc (-x))):=by
 have h:=integer_Neg_ok hlib hx.1 hK
 have e:Qc (-x)=[.str (B (decZ (-x.num))),.str (B (dec x.den))]:=by unfold Qc; rw [Rat.neg_num,Rat.neg_den]
 rw [e]
 exact y6p h
theorem inverse_rat (hlib:Lib E) {x:Rat} {K:Nat} (hx:Sz x K) (hK:K≤Lim) (h0:x≠0):Fn E z3f [.agg (Qc x)] (.agg (Qc x⁻¹)):=by
 have hn:x.num≠0:=fun h=>h0 (Rat.num_eq_zero.1 h)
 have h1:=decZ_le hx.1
 have h2:=den_lt hx
 rw [Lim_val] at hK
 have hc:=hlib.cutPrefix (decZ x.num) [45] (by omega) (by decide)
 rw [List.length_singleton,(decZ_pre x.num).2,(decZ_pre x.num).1] at hc
 have e:Qc x⁻¹=[.str (B (decZ (x.num.sign*x.den))),.str (B (dec x.num.natAbs))]:=by unfold Qc; rw [Rat.num_inv,Rat.den_inv,if_neg hn]
 rw [e]
 have hd:=Nat.pos_of_ne_zero x.den_nz
 by_cases c:x.num < 0
 · rw [decide_eq_true c] at hc
   rw [Int.sign_eq_neg_one_of_neg c,show (-1:Int)*x.den=-(x.den:Int) by omega,decZ_neg (by omega),Int.natAbs_neg,Int.natAbs_natCast]
   exact y8u (by rw [B45,B_append]; rfl) hc (by rw [B45,B_size,B_size]; simp; omega)
 · rw [decide_eq_false c] at hc
   rw [Int.sign_eq_one_of_pos (by omega),Int.one_mul,decZ_nat]
   have e2:Qc x=[.str (B (dec x.num.natAbs)),.str (B (dec x.den))]:=by unfold Qc; rw [decZ_nonneg (by omega)]
   rw [e2]
   rw [decZ_nonneg (by omega)] at hc
   exact y8v hc
open Classical in
noncomputable def rd (l:List UInt8):Option Rat:=if h:∃ q,l=decQ q then some (choose h) else none
theorem rd_decQ (q:Rat):rd (decQ q)=some q:=by
 unfold rd
 have h:∃ p,decQ q=decQ p:=⟨q,rfl⟩
 rw [dif_pos h]
 exact congrArg some (decQ_inj (Classical.choose_spec h).symm)
theorem rd_some {l:List UInt8} {q:Rat} (h:rd l=some q):l=decQ q:=by
 unfold rd at h
 split at h
 · rename_i hx
   cases h
   exact Classical.choose_spec hx
 · cases h
theorem rd_none {l:List UInt8} (h:rd l=none) (q:Rat):l≠decQ q:=fun e=>by rw [e,rd_decQ] at h; cases h
end Gev
namespace Gev
open Go Gb
variable {E:Env}
theorem num_ne_of_den {q:Rat} (h:q.den≠1):q.num≠0:=by
 intro h0
 have:=q.reduced
 rw [h0] at this
 simp [Nat.Coprime] at this
 exact h this
theorem read_rat (hlib:Lib E) {q:Rat} {K:Nat} (hq:Sz q K) (hK:K≤Lim):Fn E J3 [.c (.str (B (decQ q)))] (.tup [.agg (Qc q),.c (.bool true)]):=by
 have h1:=decZ_le hq.1
 have h2:=den_lt hq
 have hK':=hK
 rw [Lim_val] at hK'
 have hv:=integer_Valid_ok hlib (l:=decZ q.num) (by omega)
 rw [intB_decZ] at hv
 by_cases hd:q.den=1
 · rw [decQ_int hd]
   have e:Qc q=[.str (B (decZ q.num)),.str (B [49])]:=by unfold Qc; rw [hd,dec_one]
   rw [e]
   exact y2h (hlib.cutNo _ (not_mem_decZ _) (by omega)) hv
 · rw [decQ_frac hd]
   have hn:=num_ne_of_den hd
   have hnv:=natural_Valid_ok (E:=E) (dec q.den) (by omega)
   rw [natB_dec] at hnv
   have hg:=divisor_ok hlib hq.1 hq.2 hK hK q.den_nz
   have hg1:Nat.gcd q.num.natAbs q.den=1:=q.reduced
   rw [hg1] at hg
   exact x4l (hlib.cutYes _ _ (not_mem_decZ _) (by omega)) hv (fun e=>hn (by rw [B48] at e; exact decZ_inj ((B_inj e).trans decZ_zero.symm))) hnv (fun e=>q.den_nz (by rw [B48] at e; exact dec_eq_zero.1 (B_inj e))) (fun e=>hd (by rw [B49] at e; exact dec_eq_one.1 (B_inj e))) hg (by rw [dec_one,B49])
theorem first_slash:∀ (l:List UInt8),(47:UInt8)∈l→∃ p r,l=p++47::r∧(47:UInt8) ∉ p
 | [],h=>by cases h
 | c::l,h=>by
  by_cases hc:c=47
  · exact ⟨[],l,by rw [hc]; rfl,by simp⟩
  · have h':(47:UInt8)∈l:=by
     rcases List.mem_cons.1 h with h | h
     · exact absurd h.symm hc
     · exact h
    obtain ⟨p,r,e,hp⟩:=first_slash l h'
    exact ⟨c::p,r,by rw [e]; rfl,fun hx=>by
     rcases List.mem_cons.1 hx with hx | hx
     · exact hc hx.symm
     · exact hp hx⟩
theorem dec_len_abs (z:Int):(dec z.natAbs).length≤(decZ z).length:=by unfold decZ; split <;> simp
theorem read_no (hlib:Lib E) {l:List UInt8} (h:rd l=none) (hl:l.length≤Lim):∃ x y,Fn E J3 [.c (.str (B l))] (.tup [.agg [.str x,.str y],.c (.bool false)]):=by
 have hl':=hl
 rw [Lim_val] at hl'
 by_cases hs:(47:UInt8)∈l
 · obtain ⟨p,r,rfl,hp⟩:=first_slash l hs
   simp only [List.length_append,List.length_cons] at hl hl'
   have hc:=hlib.cutYes p r hp (by omega)
   have hv:=integer_Valid_ok hlib (l:=p) (by omega)
   have hnv:=natural_Valid_ok (E:=E) r (by omega)
   cases hi:intB p with
   | false=>rw [hi] at hv; exact ⟨_,_,x4r hc hv⟩
   | true =>
    rw [hi] at hv
    obtain ⟨z,rfl⟩:=(intB_iff.1 hi).eq_decZ
    by_cases hz:z=0
    · exact ⟨_,_,x4q hc hv (by rw [hz,decZ_zero]; rfl)⟩
    · have hz':¬ B (decZ z)=(⟨#[48]⟩:ByteArray):=fun e=>hz (by rw [B48] at e; exact decZ_inj ((B_inj e).trans decZ_zero.symm))
      cases hn:natB r with
      | false=>rw [hn] at hnv; exact ⟨_,_,x4p hc hv hz' hnv⟩
      | true =>
       rw [hn] at hnv
       have hr:=natB_iff.1 hn
       obtain ⟨n,rfl⟩:∃ n,r=dec n:=⟨_,hr.eq_dec⟩
       by_cases h0:n=0
       · exact ⟨_,_,x4o hc hv hz' hnv (by rw [h0,dec_zero]; rfl)⟩
       · have h0':¬ B (dec n)=(⟨#[48]⟩:ByteArray):=fun e=>h0 (by rw [B48] at e; exact dec_eq_zero.1 (B_inj e))
         by_cases h1:n=1
         · exact ⟨_,_,x4n hc hv hz' hnv h0' (by rw [h1,dec_one]; rfl)⟩
         · have h1':¬ B (dec n)=(⟨#[49]⟩:ByteArray):=fun e=>h1 (by rw [B49] at e; exact dec_eq_one.1 (B_inj e))
           have hzl:z.natAbs < 10 ^ (decZ z).length:=pow_mono_lt (lt_dec_length _) (dec_len_abs z)
           have hg:=divisor_ok hlib hzl (lt_dec_length n) (by omega) (by omega) h0
           by_cases hg1:Nat.gcd z.natAbs n=1
           · obtain ⟨q,_,_,e⟩:=decQ_mk z n (by omega) hg1
             exact absurd e.symm (rd_none h q)
           · exact ⟨_,_,x4m hc hv hz' hnv h0' h1' hg (fun e=>hg1 (by rw [B49] at e; exact dec_eq_one.1 (B_inj e)))⟩
 · have hc:=hlib.cutNo l hs (by omega)
   have hv:=integer_Valid_ok hlib (l:=l) (by omega)
   cases hi:intB l with
   | false=>rw [hi] at hv; exact ⟨_,_,y2h hc hv⟩
   | true =>
    obtain ⟨z,e⟩:=(intB_iff.1 hi).eq_decZ
    exact absurd (e.trans (decQ_intCast z).symm) (rd_none h z)
theorem rational_Valid_ok (hlib:Lib E) {l:List UInt8} (hl:l.length≤Lim):Fn E z7j [.c (.str (B l))] (.c (.bool (rd l).isSome)):=by
 cases h:rd l with
 | none =>
  obtain ⟨x,y,hr⟩:=read_no hlib h hl
  exact y1m hr
 | some q =>
  have:=rd_some h
  subst this
  exact y1m (read_rat hlib (Sz.of_len (Nat.le_refl _)) hl)
theorem both_rat (hlib:Lib E) {a b:Rat} {K L:Nat} (ha:Sz a K) (hb:Sz b L) (hK:K≤Lim) (hL:L≤Lim):Fn E X9 [.c (.str (B (decQ a))),.c (.str (B (decQ b)))] (.tup [.agg (Qc a),.agg (Qc b),.c (.i64 0)]) :=
 x4h (read_rat hlib ha hK) (read_rat hlib hb hL)
theorem rational_Add_ok (hlib:Lib E) {a b:Rat} {K L:Nat} (ha:Sz a K) (hb:Sz b L) (h:K+L+1≤Lim):Fn E z8i [.c (.str (B (decQ a))),.c (.str (B (decQ b)))] (.tup [.c (.str (B (decQ (a+b)))),.c (.i64 0)]) :=
 x5w (hlib.apply 43 _ (by simp) _ _ _ _ _ _ _ _ _ (both_rat hlib ha hb (by omega) (by omega)) (by omega) (plus_rat hlib ha hb h) (text_rat (ha.add hb) h))
theorem rational_Mul_ok (hlib:Lib E) {a b:Rat} {K L:Nat} (ha:Sz a K) (hb:Sz b L) (h:K+L≤Lim):Fn E z8k [.c (.str (B (decQ a))),.c (.str (B (decQ b)))] (.tup [.c (.str (B (decQ (a*b)))),.c (.i64 0)]) :=
 x5y (hlib.apply 42 _ (by simp) _ _ _ _ _ _ _ _ _ (both_rat hlib ha hb (by omega) (by omega)) (by omega) (times_rat hlib ha hb h) (text_rat (ha.mul hb) h))
theorem rational_Sub_ok (hlib:Lib E) {a b:Rat} {K L:Nat} (ha:Sz a K) (hb:Sz b L) (h:K+L+1≤Lim):Fn E z8l [.c (.str (B (decQ a))),.c (.str (B (decQ b)))] (.tup [.c (.str (B (decQ (a - b)))),.c (.i64 0)]):=by
 refine x5z (hlib.apply 45 V2 (by simp) _ _ _ _ _ _ _ _ _ (both_rat hlib ha hb (by omega) (by omega)) (by omega) (?_:Fn E V2 [.agg (Qc a),.agg (Qc b)] (.agg (Qc (a - b)))) (text_rat (ha.sub hb) h))
 rw [Rat.sub_eq_add_neg]
 exact y1n (opposite_rat hlib hb (by omega)) (plus_rat hlib ha hb.neg h)
theorem rational_Div_ok (hlib:Lib E) {a b:Rat} {K L:Nat} (ha:Sz a K) (hb:Sz b L) (h:K+L≤Lim) (h0:b≠0):Fn E z8j [.c (.str (B (decQ a))),.c (.str (B (decQ b)))] (.tup [.c (.str (B (decQ (a / b)))),.c (.i64 0)]):=by
 have hn:b.num≠0:=fun x=>h0 (Rat.num_eq_zero.1 x)
 refine x5x (hlib.apply 47 V3 (by simp) _ _ _ _ _ _ _ _ _ (both_rat hlib ha hb (by omega) (by omega)) (fun _ e=>hn (decZ_inj ((B_inj e).trans decZ_zero.symm))) (?_:Fn E V3 [.agg (Qc a),.agg (Qc b)] (.agg (Qc (a / b)))) (text_rat (ha.div hb) h))
 rw [Rat.div_def]
 exact y1o (inverse_rat hlib hb (by omega) h0) (times_rat hlib ha hb.inv h)
def cmpQ (a b:Rat):Int:=cmpI (a.num*b.den) (b.num*a.den)
theorem cmpQ_lt {a b:Rat}:cmpQ a b < 0↔a < b:=by unfold cmpQ; rw [cmpI_lt,Rat.lt_iff]
theorem cmpI_gt {a b:Int}:cmpI a b > 0↔b < a:=by unfold cmpI; split <;> (try split) <;> omega
theorem cmpQ_gt {a b:Rat}:cmpQ a b > 0↔b < a:=by unfold cmpQ; rw [cmpI_gt,Rat.lt_iff]
theorem cmpI_zero {a b:Int}:cmpI a b=0↔a=b:=by unfold cmpI; split <;> (try split) <;> omega
theorem cmpQ_self (a:Rat):cmpQ a a=0:=cmpI_eq rfl
theorem cmpQ_zero {a b:Rat}:cmpQ a b=0↔a=b:=by
 constructor
 · intro h
   have h1:¬ a < b:=fun x=>by have:=cmpQ_lt.2 x; omega
   have h2:¬ b < a:=fun x=>by have:=cmpQ_gt.2 x; omega
   exact Rat.le_antisymm (Rat.not_lt.1 h2) (Rat.not_lt.1 h1)
 · rintro rfl; exact cmpQ_self a
theorem cmpI_range (a b:Int):-1≤cmpI a b∧cmpI a b≤1:=by unfold cmpI; split <;> (try split) <;> omega
theorem frac_sign_ok (hlib:Lib E) {a:Rat} {K:Nat} (ha:Sz a K) (hK:K≤Lim):Fn E V0 [.agg (Qc a)] (.c (.i64 (cmpI a.num 0))):=y4x (integer_Sign_ok hlib ha.1 hK)
theorem cmpQ_signs {a b:Rat} (h:cmpI a.num 0≠cmpI b.num 0):cmpQ a b=(if cmpI a.num 0 < cmpI b.num 0 then -1 else 1):=by
 have pa:=Nat.pos_of_ne_zero a.den_nz
 have pb:=Nat.pos_of_ne_zero b.den_nz
 have sg:∀ (n:Int) (d:Nat),0 < d→cmpI (n*d) 0=cmpI n 0:=by
  intro n d hd
  rcases Int.lt_trichotomy n 0 with c | c | c
  · have:n*d < 0:=Int.mul_neg_of_neg_of_pos c (by omega)
    unfold cmpI; rw [if_pos this,if_pos c]
  · subst c; simp
  · have:0 < n*d:=Int.mul_pos c (by omega)
    unfold cmpI; rw [if_neg (by omega),if_pos (by omega),if_neg (by omega),if_pos (by omega)]
 have s1:=sg a.num b.den pb
 have s2:=sg b.num a.den pa
 rw [← s1,← s2] at h ⊢
 unfold cmpQ
 generalize a.num*(b.den:Int)=u at *
 generalize b.num*(a.den:Int)=v at *
 unfold cmpI at *
 split <;> (try split) <;> split at*<;> (try split at *) <;> (try split at *) <;> (try split at *) <;> omega
theorem rational_Compare_ok (hlib:Lib E) {a b:Rat} {K L:Nat} (ha:Sz a K) (hb:Sz b L) (h:K+L≤Lim):Fn E z1q [.c (.str (B (decQ a))),.c (.str (B (decQ b)))] (.tup [.c (.i64 (cmpQ a b)),.c (.i64 0)]):=by
 have hbo:=both_rat hlib ha hb (by omega) (by omega)
 by_cases he:a=b
 · subst he
   rw [cmpQ_self]
   exact y8q hbo rfl rfl
 · have hne:¬ B (decQ a)=B (decQ b):=fun e=>he (decQ_inj (B_inj e))
   have s1:=frac_sign_ok hlib ha (by omega)
   have s2:=frac_sign_ok hlib hb (by omega)
   have r1:=cmpI_range a.num 0
   have r2:=cmpI_range b.num 0
   by_cases hs:cmpI a.num 0=cmpI b.num 0
   · have m1:=integer_Mul_ok hlib ha.1 (b:=(b.den:Int)) (show (b.den:Int).natAbs < 10 ^ L from hb.2) h
     have m2:=integer_Mul_ok hlib hb.1 (b:=(a.den:Int)) (show (a.den:Int).natAbs < 10 ^ K from ha.2) (by omega)
     rw [decZ_nat] at m1 m2
     have c:=integer_Compare_ok hlib (abs_mul_lt ha.1 (show (b.den:Int).natAbs < 10 ^ L from hb.2)) (abs_mul_lt hb.1 (show (a.den:Int).natAbs < 10 ^ K from ha.2)) h (by omega)
     exact y8s hbo rfl hne s1 s2 hs m1 m2 c
   · rw [cmpQ_signs hs]
     refine y8r (v8:=cmpI a.num 0 - cmpI b.num 0) (v9:=if 1 < cmpI a.num 0 - cmpI b.num 0 then 1 else cmpI a.num 0 - cmpI b.num 0) (wi (by omega)) rfl ?_ hbo rfl hne s1 s2 hs
     split <;> split <;> (try split) <;> omega
end Gev
namespace Gev
open Go Gb
variable {E:Env}
theorem r1_trim_loop (ws:List Int):∀ k,k≤ws.length→k < 9223372036854775807→Lp E 1 I0 0 (z3u k (Wr ws)) (.exit 0) (z3p (Wr ws) (trimN ws k))
 | 0,_,_=>y9g (by omega)
 | k+1,hk,hb=>by
  unfold trimN
  by_cases h0:ws.getD k 0=0
  · rw [if_pos h0]
    exact x3e (v1:=(k:Int)) (v2:=ws.getD k 0) (v3:=k) (wi (by omega)) rfl (by omega) (by omega) (Wr_getD (by omega)) h0 (by omega) (r1_trim_loop ws k (by omega) (by omega))
  · rw [if_neg h0]
    exact y9f (v1:=(k:Int)) (v2:=ws.getD k 0) (wi (by omega)) (by omega) (by omega) (Wr_getD (by omega)) h0
theorem r1_trim {ws:List Int} {k:Nat} (hk:k≤ws.length) (hb:k < 9223372036854775807):Rn E I0 [.vec 0 k] [some (.vec A3 (Wr ws))] (.vec 0 (trimN ws k)) [some (.vec A3 (Wr ws))] :=
 x8y (r1_trim_loop ws k hk hb)
theorem trim_all {ws:List Int} (h:Wd ws) {n:Nat} (hv:wv ws=n):(Wr ws).take (trimN ws ws.length)=Wr (words n):=by
 rw [Wr_take,trimN_words h (Nat.le_refl _),List.take_length,hv,Int.toNat_natCast]
theorem r1_Small {n:Nat} (h:n < 4294967296):Fn E U3 [.c (.u32 n)] (.c (.list (Wr (words n)))):=by
 have hw:Wd [((n % 1000000000:Nat):Int),((n / 1000000000:Nat):Int)]:=Wd.cons (by omega) (by omega) (Wd.cons (by omega) (by omega) Wd.nil)
 have ht:=r1_trim (E:=E) (ws:=[((n % 1000000000:Nat):Int),((n / 1000000000:Nat):Int)]) (k:=2) (Nat.le_refl _) (by decide)
 exact x7s (v1:=((n % 1000000000:Nat):Int)) (v2:=((n / 1000000000:Nat):Int)) (tmd (by omega) (by omega)) (w32 ⟨tdv (by omega) (by omega),by omega,by omega⟩) (trim_all hw (by simp [wv]; omega)) ht
theorem r1_wide {n:Nat} (h:n < 18446744073709551616):Fn E y1x [.c (.u64 n)] (.c (.list (Wr (words n)))):=by
 have hw:Wd [((n % 1000000000:Nat):Int),((n / 1000000000 % 1000000000:Nat):Int),((n / 1000000000 / 1000000000:Nat):Int)]:=Wd.cons (by omega) (by omega) (Wd.cons (by omega) (by omega) (Wd.cons (by omega) (by omega) Wd.nil))
 have ht:=r1_trim (E:=E) (ws:=[((n % 1000000000:Nat):Int),((n / 1000000000 % 1000000000:Nat):Int),((n / 1000000000 / 1000000000:Nat):Int)]) (k:=3) (Nat.le_refl _) (by decide)
 exact x8z (v1:=((n % 1000000000:Nat):Int)) (v2:=((n % 1000000000:Nat):Int)) (v3:=((n / 1000000000:Nat):Int)) (v4:=((n / 1000000000 % 1000000000:Nat):Int)) (v5:=((n / 1000000000 % 1000000000:Nat):Int)) (v6:=((n / 1000000000 / 1000000000:Nat):Int)) (v7:=((n / 1000000000 / 1000000000:Nat):Int))
  (tmd (by omega) (by omega)) (w32 (by omega)) (wu ⟨tdv (by omega) (by omega),by omega,by omega⟩) (tmd (by omega) (by omega)) (w32 (by omega)) (wu ⟨tdv (by omega) (by omega),by omega,by omega⟩) (w32 (by omega)) (trim_all hw (by simp [wv]; omega)) ht
theorem r1_word_loop (xs:List Int) (hx:Wd xs) (hl:xs.length≤2):∀ k:Nat,k≤xs.length→Lp E 0 z0w 0 (z6e (Wr xs) (wv (xs.drop k)) ((k:Int) - 1)) (.exit 0) (z6k (wv xs))
 | 0,_=>by rw [List.drop_zero]; exact y9h (by omega)
 | k+1,hk=>by
  have h0:=hx.getD k
  have h1:=val_nonneg (hx.drop (k+1))
  have h2:=val_lt (hx.drop (k+1))
  rw [List.length_drop] at h2
  have h3:pw (xs.length - (k+1))≤pw 1:=pw_mono (by omega)
  rw [show pw 1=1000000000 by decide] at h3
  have e:=wv_drop xs k
  rw [show ((k+1:Nat):Int) - 1=(k:Int) by omega]
  exact x3f (v1:=wv (xs.drop (k+1))*1000000000) (v2:=xs.getD k 0) (v3:=xs.getD k 0) (v4:=wv (xs.drop k)) (v5:=(k:Int) - 1) (wu (by omega)) (wu (by omega)) (wu (by omega)) (wi (by omega)) (by omega) (by omega) (Wr_getD (by omega)) (r1_word_loop xs hx hl k (by omega))
theorem r1_word {n:Nat} (h:(words n).length≤2):Fn E z0w [.c (.list (Wr (words n)))] (.c (.u64 n)):=by
 have:=r1_word_loop (E:=E) (words n) (words_wd n) h (words n).length (Nat.le_refl _)
 rw [List.drop_length,words_val] at this
 exact x9a (v1:=((words n).length:Int) - 1) (wi (by rw [Wr_len]; omega)) this
theorem r1_cmp_loop (xs ys:List Int) (hx:Wd xs) (hy:Wd ys) (hl:xs.length=ys.length) (hb:xs.length < 9223372036854775807):∀ k:Nat,k≤xs.length→xs.drop k=ys.drop k →
    (xs=ys∧Lp E 0 F9 0 (z1b (Wr xs) (Wr ys) ((k:Int) - 1)) (.exit 0) z7c) ∨
    (xs≠ys∧Lp E 0 F9 0 (z1b (Wr xs) (Wr ys) ((k:Int) - 1)) .ret (z4m (cmpI (wv xs) (wv ys))))
 | 0,_,h=>.inl ⟨by simpa using h,x0q (by omega)⟩
 | k+1,hk,h=>by
  rw [show ((k+1:Nat):Int) - 1=(k:Int) by omega]
  have g1:(Wr xs)[Int.toNat (k:Int)]?=some [.u32 (xs.getD k 0)]:=Wr_getD (by omega)
  have g2:(Wr ys)[Int.toNat (k:Int)]?=some [.u32 (ys.getD k 0)]:=Wr_getD (by omega)
  rcases Int.lt_trichotomy (xs.getD k 0) (ys.getD k 0) with c | c | c
  · have:=val_lt_of_top hx hy (by omega) (by omega) c h
    refine .inr ⟨fun e=>by rw [e] at c; omega,?_⟩
    have e:cmpI (wv xs) (wv ys)=-1:=by unfold cmpI; rw [if_pos this]
    rw [e]
    exact x0o (by omega) (by omega) g1 g2 c
  · have hd:xs.drop k=ys.drop k:=by rw [drop_cons xs k (by omega),drop_cons ys k (by omega),c,h]
    rcases r1_cmp_loop xs ys hx hy hl hb k (by omega) hd with ⟨e,ih⟩ | ⟨e,ih⟩
    · exact .inl ⟨e,y2i (wi (by omega)) (by omega) (by omega) g1 g2 (by omega) (by omega) ih⟩
    · exact .inr ⟨e,y2i (wi (by omega)) (by omega) (by omega) g1 g2 (by omega) (by omega) ih⟩
  · have:=val_lt_of_top hy hx (by omega) (by omega) c h.symm
    refine .inr ⟨fun e=>by rw [e] at c; omega,?_⟩
    have e:cmpI (wv xs) (wv ys)=1:=by unfold cmpI; rw [if_neg (by omega),if_pos (by omega)]
    rw [e]
    exact x0p (by omega) (by omega) g1 g2 (by omega) c
theorem r1_Cmp {m n:Nat} (hm:(words m).length < 9223372036854775807):Fn E F9 [.c (.list (Wr (words m))),.c (.list (Wr (words n)))] (.c (.i64 (cmpI m n))):=by
 by_cases hl:(words m).length=(words n).length
 · rcases r1_cmp_loop (E:=E) (words m) (words n) (words_wd m) (words_wd n) hl hm (words m).length (Nat.le_refl _) (by rw [List.drop_length,hl,List.drop_length]) with ⟨e,h⟩ | ⟨e,h⟩
   · have:=words_inj e
     subst this
     rw [cmpI_eq rfl]
     exact k0k (wi (by rw [Wr_len]; omega)) (by rw [Wr_len]) h
   · rw [words_val,words_val] at h
     exact k0j (wi (by rw [Wr_len]; omega)) (by rw [Wr_len,Wr_len]; omega) h
 · rcases Nat.lt_or_gt_of_ne hl with c | c
   · have:m < n:=by
      rcases Nat.lt_or_ge m n with h | h
      · exact h
      · have:=(words_tr n).length_le (words_wd n) (words_wd m) (by rw [words_val,words_val]; omega)
        omega
     have e:cmpI (m:Int) n=-1:=by unfold cmpI; rw [if_pos (by omega)]
     rw [e]
     exact k0h (by rw [Wr_len,Wr_len]; omega) (by rw [Wr_len,Wr_len]; omega)
   · have:n < m:=by
      rcases Nat.lt_or_ge n m with h | h
      · exact h
      · have:=(words_tr m).length_le (words_wd m) (words_wd n) (by rw [words_val,words_val]; omega)
        omega
     have e:cmpI (m:Int) n=1:=by unfold cmpI; rw [if_neg (by omega),if_pos (by omega)]
     rw [e]
     exact k0i (by rw [Wr_len,Wr_len]; omega) (by rw [Wr_len,Wr_len]; omega)
theorem r1_plus_loop {xs ys:List Int} (hx:Wd xs) (hy:Wd ys) (hxl:xs.length < 17592186044000) (hyl:ys.length < 17592186044000):∀ (t i:Nat) (c:Int) (zs:List Int),xs.length+ys.length+2≤t+i→i≤xs.length+ys.length+1→0≤c∧c≤1→(xs.length+ys.length < i→c=0)→zs.length=i→Wd zs →
    ∃ zs',Lp E 0 N5 0 (U4 (Wr xs) (Wr ys) i c i (Wr zs)) (.exit 0) (z6j zs'.length (Wr zs'))∧Wd zs'∧zs'.length≤xs.length+ys.length+1∧wv zs'=wv zs+pw i*(c+wv (xs.drop i)+wv (ys.drop i))
 | 0,i,c,zs,ht,hi,_,_,_,_=>by omega
 | t+1,i,c,zs,ht,hi,hc,hc0,hz,hw=>by
  have ha:=hx.getD i
  have hb:=hy.getD i
  obtain ⟨a,ea⟩:∃ a,a=xs.getD i 0:=⟨_,rfl⟩
  obtain ⟨b,eb⟩:∃ b,b=ys.getD i 0:=⟨_,rfl⟩
  rw [← ea] at ha
  rw [← eb] at hb
  have gx:i < xs.length→(Wr xs)[Int.toNat (i:Int)]?=some [.u32 a]:=fun h=>by rw [ea]; exact Wr_getD h
  have gy:i < ys.length→(Wr ys)[Int.toNat (i:Int)]?=some [.u32 b]:=fun h=>by rw [eb]; exact Wr_getD h
  obtain ⟨S,eS⟩:∃ S,S=c+a+b:=⟨_,rfl⟩
  have hap:∀ w,(Wr zs).take i++[[DV.u32 w]]=Wr (zs++[w]):=fun w=>by rw [Wr_take,← hz,List.take_length,Wr_snoc]
  have stop:¬ i < xs.length→¬ i < ys.length→c=0→wv zs=wv zs+pw i*(c+wv (xs.drop i)+wv (ys.drop i)):=by
   intro h1 h2 h3
   rw [drop_nil (by omega),drop_nil (by omega),h3]
   simp [wv]
  by_cases hend:¬ i < xs.length∧¬ i < ys.length∧c=0
  · exact ⟨zs,by rw [hz]; exact y9b (by rw [Wr_len]; omega) (by rw [Wr_len]; omega) (by omega),hw,by omega,stop hend.1 hend.2.1 hend.2.2⟩
  · have hii:i≤xs.length+ys.length:=by
     rcases Nat.lt_or_ge (xs.length+ys.length) i with h | h
     · exact absurd ⟨by omega,by omega,hc0 h⟩ hend
     · exact h
    have ndone:xs.length+ys.length < i+1→S / 1000000000=0:=by
     intro h
     have h0:i=xs.length+ys.length:=by omega
     have:b=0∨a=0:=by
      rcases Nat.lt_or_ge i xs.length with h1 | h1
      · left; rw [eb]; exact getD_nil (by omega)
      · right; rw [ea]; exact getD_nil h1
     by_cases hcc:c=0
     · rcases this with h2 | h2 <;> omega
     · -- the last carry has no words beside it
       have h1:a=0:=by
        rcases Nat.lt_or_ge i xs.length with h1 | h1
        · omega
        · rw [ea]; exact getD_nil h1
       have h2:b=0:=by
        rcases Nat.lt_or_ge i ys.length with h1 | h1
        · omega
        · rw [eb]; exact getD_nil h1
       omega
    obtain ⟨zs',k1,k2,k3,k4⟩:=r1_plus_loop hx hy hxl hyl t (i+1) (S / 1000000000) (zs++[S % 1000000000]) (by omega) (by omega) (by omega) ndone (by simp [hz]) (hw.append (Wd.cons (by omega) (by omega) Wd.nil))
    refine ⟨zs',?_,k2,k3,?_⟩
    · have hlen:(i+1)*4≤140737488355328∧i+1≤140737488355328:=by omega
      by_cases c1:i < xs.length
      · by_cases c2:i < ys.length
        · exact x2y (v1:=a) (v2:=c+a) (v3:=b) (v4:=S) (v5:=S % 1000000000) (v6:=Wr (zs++[S % 1000000000])) (v7:=i+1) (v8:=S / 1000000000) (v9:=((i+1:Nat):Int)) (w32 (by omega)) (w32 (by omega)) (tmd (by omega) rfl) (hap _) rfl (w32 ⟨tdv (by omega) rfl,by omega,by omega⟩) (wi (by omega)) (by rw [Wr_len]; omega) (by omega) (gx c1) (by rw [Wr_len]; omega) (gy c2) hlen k1
        · have b0:b=0:=by rw [eb]; exact getD_nil (by omega)
          exact x2z (v1:=a) (v2:=S) (v3:=S % 1000000000) (v4:=Wr (zs++[S % 1000000000])) (v5:=i+1) (v6:=S / 1000000000) (v7:=((i+1:Nat):Int)) (w32 (by omega)) (tmd (by omega) rfl) (hap _) rfl (w32 ⟨tdv (by omega) rfl,by omega,by omega⟩) (wi (by omega)) (by rw [Wr_len]; omega) (by omega) (gx c1) (by rw [Wr_len]; omega) hlen k1
      · have a0:a=0:=by rw [ea]; exact getD_nil (by omega)
        by_cases c2:i < ys.length
        · exact x3a (v1:=b) (v2:=S) (v3:=S % 1000000000) (v4:=Wr (zs++[S % 1000000000])) (v5:=i+1) (v6:=S / 1000000000) (v7:=((i+1:Nat):Int)) (w32 (by omega)) (tmd (by omega) rfl) (hap _) rfl (w32 ⟨tdv (by omega) rfl,by omega,by omega⟩) (wi (by omega)) (by rw [Wr_len]; omega) (by rw [Wr_len]; omega) (by omega) (gy c2) hlen k1
        · have b0:b=0:=by rw [eb]; exact getD_nil (by omega)
          have e0:S=c:=by omega
          rw [e0] at k1
          exact x3b (v1:=c % 1000000000) (v2:=Wr (zs++[c % 1000000000])) (v3:=i+1) (v4:=c / 1000000000) (v5:=((i+1:Nat):Int)) (tmd (by omega) rfl) (hap _) rfl (w32 ⟨tdv (by omega) rfl,by omega,by omega⟩) (wi (by omega)) (by rw [Wr_len]; omega) (by rw [Wr_len]; omega) (by omega) hlen k1
    · rw [k4,val_snoc,hz,wv_drop xs i,wv_drop ys i,pw_succ,← ea,← eb]
      have e1:S % 1000000000=c+a+b - 1000000000*(S / 1000000000):=by omega
      rw [e1]; grind
theorem r1_Plus {m n:Nat} (h1:(words m).length < 17592186044000) (h2:(words n).length < 17592186044000):Fn E N5 [.c (.list (Wr (words m))),.c (.list (Wr (words n)))] (.c (.list (Wr (words (m+n))))):=by
 obtain ⟨zs,k1,k2,k3,k4⟩:=r1_plus_loop (E:=E) (words_wd m) (words_wd n) h1 h2 ((words m).length+(words n).length+2) 0 0 [] (by omega) (by omega) (by omega) (fun _=>rfl) rfl Wd.nil
 rw [List.drop_zero,List.drop_zero,words_val,words_val,pw_zero] at k4
 exact x8x (trim_all k2 (by simp [wv] at k4; omega)) k1 (r1_trim (Nat.le_refl _) (by omega))
theorem r1_minus_loop {xs ys:List Int} (hx:Wd xs) (hy:Wd ys) (hxl:xs.length < 17592186044000):∀ d i b zs,i+d=xs.length→(b=0∨b=1)→zs.length=i→Wd zs →
    ∃ b' zs',Lp E 0 H8 0 (J9 (Wr xs) (Wr ys) i b i (Wr zs)) (.exit 0) (z2r zs'.length (Wr zs'))∧Wd zs'∧zs'.length=xs.length∧(b'=0∨b'=1)∧wv zs'+pw i*(0 - wv (xs.drop i)+wv ((ys.take xs.length).drop i)+b)=wv zs+pw xs.length*b'
 | 0,i,b,zs,hi,hb,hz,hw=>by
  refine ⟨b,zs,by rw [hz]; exact y6r (by rw [Wr_len]; omega),hw,by omega,hb,?_⟩
  have:i=xs.length:=by omega
  subst this
  rw [drop_nil (Nat.le_refl _),drop_nil (by simp; omega)]
  simp [wv]
 | d+1,i,b,zs,hi,hb,hz,hw=>by
  have ha:=hx.getD i
  have hbb:=hy.getD i
  obtain ⟨a,ea⟩:∃ a,a=xs.getD i 0:=⟨_,rfl⟩
  obtain ⟨y,eb⟩:∃ y,y=ys.getD i 0:=⟨_,rfl⟩
  rw [← ea] at ha
  rw [← eb] at hbb
  have gx:(Wr xs)[Int.toNat (i:Int)]?=some [.u32 a]:=by rw [ea]; exact Wr_getD (by omega)
  have gy:i < ys.length→(Wr ys)[Int.toNat (i:Int)]?=some [.u32 y]:=fun h=>by rw [eb]; exact Wr_getD h
  have hap:∀ w,(Wr zs).take i++[[DV.u32 w]]=Wr (zs++[w]):=fun w=>by rw [Wr_take,← hz,List.take_length,Wr_snoc]
  have hlen:(i+1)*4≤140737488355328∧i+1≤140737488355328:=by omega
  have ey:(ys.take xs.length).getD i 0=y:=by rw [List.getD_eq_getElem?_getD,List.getElem?_take_of_lt (by omega),← List.getD_eq_getElem?_getD,eb]
  obtain ⟨dd,ed⟩:∃ dd,dd=a - b - y:=⟨_,rfl⟩
  have key:∀ b1 w,w=dd+1000000000*b1→0≤w∧w < 1000000000→(b1=0∨b1=1) →
      (∀ {st:St},Lp E 0 H8 0 (J9 (Wr xs) (Wr ys) (i+1) b1 ((i+1:Nat):Int) (Wr (zs++[w]))) (.exit 0) st→Lp E 0 H8 0 (J9 (Wr xs) (Wr ys) i b i (Wr zs)) (.exit 0) st) →
      ∃ b' zs',Lp E 0 H8 0 (J9 (Wr xs) (Wr ys) i b i (Wr zs)) (.exit 0) (z2r zs'.length (Wr zs'))∧Wd zs'∧zs'.length=xs.length∧(b'=0∨b'=1)∧wv zs'+pw i*(0 - wv (xs.drop i)+wv ((ys.take xs.length).drop i)+b)=wv zs+pw xs.length*b':=by
   intro b1 w hw1 hw0 hb1 st
   obtain ⟨b',zs',k1,k2,k3,k4,k5⟩:=r1_minus_loop hx hy hxl d (i+1) b1 (zs++[w]) (by omega) hb1 (by simp [hz]) (hw.append (Wd.cons hw0.1 hw0.2 Wd.nil))
   refine ⟨b',zs',st k1,k2,k3,k4,?_⟩
   rw [val_snoc,hz,pw_succ] at k5
   rw [wv_drop xs i,wv_drop (ys.take xs.length) i,← ea,ey]
   rw [hw1,ed] at k5
   grind
  by_cases c2:i < ys.length
  · by_cases c3:dd < 0
    · exact key 1 (dd+1000000000) (by omega) (by omega) (.inr rfl) fun k1=>x0s (v1:=a) (v2:=a) (v3:=a - b) (v4:=y) (v5:=y) (v6:=dd) (v7:=dd+1000000000) (v8:=dd+1000000000) (wi (by omega)) (wi (by omega)) (wi (by omega)) (wi (by omega)) (wi (by omega)) (w32 (by omega)) (hap _) rfl (wi (by omega)) (by rw [Wr_len]; omega) (by omega) gx (by rw [Wr_len]; omega) (gy c2) c3 hlen k1
    · exact key 0 dd (by omega) (by omega) (.inl rfl) fun k1=>x0t (v1:=a) (v2:=a) (v3:=a - b) (v4:=y) (v5:=y) (v6:=dd) (v7:=dd) (wi (by omega)) (wi (by omega)) (wi (by omega)) (wi (by omega)) (w32 (by omega)) (hap _) rfl (wi (by omega)) (by rw [Wr_len]; omega) (by omega) gx (by rw [Wr_len]; omega) (gy c2) c3 hlen k1
  · have y0:y=0:=by rw [eb]; exact getD_nil (by omega)
    by_cases c3:dd < 0
    · exact key 1 (dd+1000000000) (by omega) (by omega) (.inr rfl) fun k1=>x0u (v1:=a) (v2:=a) (v3:=dd) (v4:=dd+1000000000) (v5:=dd+1000000000) (wi (by omega)) (wi (by omega)) (wi (by omega)) (w32 (by omega)) (hap _) rfl (wi (by omega)) (by rw [Wr_len]; omega) (by omega) gx (by rw [Wr_len]; omega) c3 hlen k1
    · exact key 0 dd (by omega) (by omega) (.inl rfl) fun k1=>x0v (v1:=a) (v2:=a) (v3:=dd) (v4:=dd) (wi (by omega)) (wi (by omega)) (w32 (by omega)) (hap _) rfl (wi (by omega)) (by rw [Wr_len]; omega) (by omega) gx (by rw [Wr_len]; omega) c3 hlen k1
theorem r1_Minus {m n:Nat} (h1:(words m).length < 17592186044000) (hmn:n≤m):Fn E H8 [.c (.list (Wr (words m))),.c (.list (Wr (words n)))] (.c (.list (Wr (words (m - n))))):=by
 have hle:(words n).length≤(words m).length:=(words_tr n).length_le (words_wd n) (words_wd m) (by rw [words_val,words_val]; omega)
 obtain ⟨b,zs,k1,k2,k3,k4,k5⟩:=r1_minus_loop (E:=E) (words_wd m) (words_wd n) h1 (words m).length 0 0 [] (by omega) (.inl rfl) rfl Wd.nil
 rw [List.drop_zero,List.drop_zero,List.take_of_length_le hle,words_val,words_val,pw_zero] at k5
 have h2:=val_lt k2
 have h3:=pw_pos (words m).length
 have hv:=val_nonneg k2
 rw [k3] at h2
 have hb:b=0:=by
  rcases k4 with h | h
  · exact h
  · subst h
    simp [wv] at k5
    omega
 subst hb
 exact x7r (trim_all k2 (n:=m - n) (by simp [wv] at k5; omega)) k1 (r1_trim (Nat.le_refl _) (by omega))
theorem r1_valid_loop (l:List UInt8) (hl:l.length < 9223372036854775807):∀ d i:Nat,i+d=l.length →
    ((l.drop i).all isDig=true∧Lp E 0 D6 0 (M7 (B l) i) (.exit 0) (N0 (B l))) ∨
    ((l.drop i).all isDig=false∧Lp E 0 D6 0 (M7 (B l) i) .ret z2s)
 | 0,i,hi=>.inl ⟨by rw [List.drop_eq_nil_of_le (by omega)]; rfl,y6w (by rw [B_size]; omega)⟩
 | d+1,i,hi=>by
  have hd:l.drop i=l.getD i 0::l.drop (i+1):=by
   rw [List.drop_eq_getElem_cons (by omega),List.getD_eq_getElem?_getD,List.getElem?_eq_getElem (by omega)]; rfl
  have hlt:0≤(i:Int)∧(i:Int) < (B l).size:=by rw [B_size]; omega
  rw [hd,List.all_cons]
  by_cases c1:(l.getD i 0).toNat < 48
  · rw [isDig_false (.inl c1)]
    exact .inr ⟨rfl,y6u (byte_at l i) (by omega) hlt (by omega)⟩
  · by_cases c2:(l.getD i 0).toNat > 57
    · rw [isDig_false (.inr c2)]
      exact .inr ⟨rfl,y6v (byte_at l i) (by omega) hlt (by omega) (by omega)⟩
    · rw [isDig_iff.2 (by omega),Bool.true_and]
      rcases r1_valid_loop l hl d (i+1) (by omega) with ⟨h1,h2⟩ | ⟨h1,h2⟩
      · exact .inl ⟨h1,z9z (byte_at l i) (wi (by omega)) (by omega) hlt (by omega) (by omega) h2⟩
      · exact .inr ⟨h1,z9z (byte_at l i) (wi (by omega)) (by omega) hlt (by omega) (by omega) h2⟩
theorem r1_Valid (l:List UInt8) (hl:l.length < 9223372036854775807):Fn E D6 [.c (.str (B l))] (.c (.bool (natB l))):=by
 have hloop:=r1_valid_loop (E:=E) l hl l.length 0 (by omega)
 rw [List.drop_zero] at hloop
 cases l with
 | nil =>
  rcases hloop with ⟨_,g2⟩ | ⟨g1,_⟩
  · exact x8a g2 (by rw [B_size]; decide) (by rw [B_size]; decide)
  · cases g1
 | cons c m =>
  rcases hloop with ⟨g1,g2⟩ | ⟨g1,g2⟩
  · by_cases h1:(c::m).length=1
    · have e:natB (c::m)=true:=by
       unfold natB
       rw [g1,decide_eq_true (show (c::m).length≤1 by omega)]; rfl
      rw [e]
      exact x7x g2 (by rw [B_size]; omega)
    · have h2:(c::m).length > 1:=by have:(c::m).length=m.length+1:=rfl; omega
      have h0:(((B (c::m)).data.toList.getD 0 0).toNat:Int)=(c.toNat:Int):=by rw [B_list]; rfl
      have hlt:0≤(0:Int)∧(0:Int) < (B (c::m)).size:=by rw [B_size]; omega
      by_cases hc:c=48
      · have e:natB (c::m)=false:=by
         unfold natB
         rw [decide_eq_false (show ¬ (c::m).length≤1 by omega),hc]; simp
        rw [e]
        exact x7z h0 g2 (by rw [B_size]; omega) (by rw [B_size]; omega) hlt (by rw [hc]; rfl)
      · have hn:c.toNat≠48:=fun e=>hc (UInt8.toNat_inj.1 e)
        have e:natB (c::m)=true:=by
         unfold natB
         have:((c::m).head? == some 48)=false:=by simp [hc]
         rw [g1,this]; simp
        rw [e]
        exact x7y h0 g2 (by rw [B_size]; omega) (by rw [B_size]; omega) hlt (by omega)
  · have e:natB (c::m)=false:=by unfold natB; rw [g1]; simp
    rw [e]
    exact x7w g2
theorem r1_from_inner {l:List UInt8} (hd:Dg l) (hl:l.length < 9223372036854775807) {w0:List (List DV)} {i:Nat} {e s:Nat} (he:e≤l.length) (hes:e≤s+9):∀ (d k:Nat),k+d=e→s≤k →
    Lp E 1 H5 1 (z4n (B l) i e (dval ((l.take k).drop s):Int) k w0) (.exit 2) (z5i (B l) i e w0 (dval ((l.take e).drop s):Int))
 | 0,k,hk,hs=>by
  have:k=e:=by omega
  subst this
  exact y6q (by omega)
 | d+1,k,hk,hs=>by
  have hg:l.getD k 0=l[k]:=by rw [List.getD_eq_getElem?_getD,List.getElem?_eq_getElem (by omega)]; rfl
  have hc:=hd l[k] (List.getElem_mem _)
  have htk:(l.take (k+1)).drop s=(l.take k).drop s++[l[k]]:=by
   rw [List.take_succ_eq_append_getElem (by omega),List.drop_append_of_le_length (by simp; omega)]
  have hb:dval ((l.take k).drop s) < 100000000:=by
   have h1:=dval_lt (Dg.drop (Dg.take hd k) s)
   have h2:(10:Nat) ^ ((l.take k).drop s).length≤10 ^ 8:=Nat.pow_le_pow_right (by decide) (by simp; omega)
   have h3:(10:Nat) ^ 8=100000000:=by decide
   omega
  have hv:dval ((l.take (k+1)).drop s)=10*dval ((l.take k).drop s)+(l[k].toNat - 48):=by rw [htk,dval_snoc]
  exact x0r (v1:=10*(dval ((l.take k).drop s):Int)) (v2:=(l[k].toNat:Int)) (v3:=(l[k].toNat:Int) - 48) (v4:=(l[k].toNat:Int) - 48) (v5:=(dval ((l.take (k+1)).drop s):Int)) (v6:=((k+1:Nat):Int))
   (w32 (by omega)) (by rw [byte_at,hg]) (w8 (by omega)) (w32 (by omega)) (w32 (by omega)) (wi (by omega)) (by omega) (by rw [B_size]; omega) (r1_from_inner hd hl he hes d (k+1) (by omega) (by omega))
theorem r1_from_loop {l:List UInt8} (hd:Dg l) (hl:l.length < 10000000000000):∀ (t i:Nat) (ws:List Int) (n:Int),n≤t→n≤l.length→-9 < n→9*(i:Int)≤l.length+8→ws.length=i→(0 < n→n+9*i=l.length)→Wd ws→wv ws+pw i*(dval (l.take n.toNat):Int)=dval l →
    ∃ ws',Lp E 0 H5 0 (z6c (B l) i n (Wr ws)) (.exit 0) (z6h ws'.length (Wr ws'))∧Wd ws'∧wv ws'=dval l∧ws'.length≤l.length+8
 | t,i,ws,n,ht,hnl,hn9,hi,hw,hni,hwd,hv=>by
  by_cases h0:n≤0
  · rw [show n.toNat=0 by omega,List.take_zero,show dval []=0 from rfl] at hv
    exact ⟨ws,by rw [hw]; exact y8x (by omega),hwd,by simpa using hv,by omega⟩
  · cases t with
    | zero=>omega
    | succ t =>
     obtain ⟨e,he⟩:∃ e:Nat,n=e:=⟨n.toNat,by omega⟩
     subst he
     rw [Int.toNat_natCast] at hv
     obtain ⟨s,hs⟩:∃ s,s=e - 9:=⟨_,rfl⟩
     obtain ⟨p,hp⟩:∃ p,p=(l.take e).drop s:=⟨_,rfl⟩
     have hlen:(l.take e).length=e:=by simp; omega
     have hpd:Dg p:=by rw [hp]; exact Dg.drop (Dg.take hd _) _
     have hpl:p.length=e - s:=by rw [hp,List.length_drop,hlen]
     have hval:dval p < 1000000000:=by
      have:=dval_lt hpd
      have h9:(10:Nat) ^ p.length≤10 ^ 9:=Nat.pow_le_pow_right (by decide) (by omega)
      rw [ten_nine] at h9
      omega
     have hsplit:l.take e=l.take s++p:=by
      rw [hp]
      have:=(List.take_append_drop s (l.take e)).symm
      rwa [List.take_take,Nat.min_eq_left (by omega)] at this
     have hvs:wv (ws++[(dval p:Int)])+pw (i+1)*(dval (l.take ((e:Int) - 9).toNat):Int)=dval l:=by
      rw [show ((e:Int) - 9).toNat=s by omega,val_snoc,hw,pw_succ]
      rw [hsplit,dval_append] at hv
      by_cases h9:p.length=9
      · rw [h9,ten_nine] at hv
        have e2:((dval (l.take s)*1000000000+dval p:Nat):Int)=1000000000*(dval (l.take s):Int)+dval p:=by omega
        rw [e2] at hv
        grind
      · have hs0:s=0:=by omega
        rw [hs0,List.take_zero,show dval []=0 from rfl] at hv ⊢
        rw [show ((0*10 ^ p.length+dval p:Nat):Int)=(dval p:Int) by simp] at hv
        simp
        omega
     obtain ⟨ws',k1,k2,k3,k4⟩:=r1_from_loop hd hl t (i+1) (ws++[(dval p:Int)]) ((e:Int) - 9) (by omega) (by omega) (by omega) (by omega) (by simp [hw]) (by omega) (hwd.append (Wd.cons (by omega) (by omega) Wd.nil)) hvs
     refine ⟨ws',?_,k2,k3,k4⟩
     have hin:=r1_from_inner (E:=E) hd (by omega) (w0:=Wr ws) (i:=i) (e:=e) (s:=s) (by omega) (by omega) (e - s) s (by omega) (Nat.le_refl _)
     rw [List.drop_eq_nil_of_le (by simp; omega),show dval []=0 from rfl,← hp] at hin
     exact x2u (v1:=(e:Int) - 9) (v2:=(s:Int)) (v3:=(dval p:Int)) (v4:=Wr (ws++[(dval p:Int)])) (v5:=i+1) (wi (by omega)) (by split <;> omega) (by rw [Wr_take,← hw,List.take_length,Wr_snoc]) rfl (by omega) hin (by omega) k1
theorem r1_From {l:List UInt8} (hd:Dg l) (hl:l.length < 10000000000000):Fn E H5 [.c (.str (B l))] (.c (.list (Wr (words (dval l))))):=by
 obtain ⟨ws,k1,k2,k3,k4⟩:=r1_from_loop (E:=E) hd hl l.length 0 [] l.length (by omega) (by omega) (by omega) (by omega) rfl (fun _=>by omega) Wd.nil (by rw [Int.toNat_natCast,List.take_length,pw_zero]; simp [wv])
 rw [← B_size] at k1
 exact x8t (trim_all k2 k3) k1 (r1_trim (Nat.le_refl _) (by omega))
theorem r1_From_dec {n K:Nat} (h:n < 10 ^ K) (hK:K≤Lim):Fn E H5 [.c (.str (B (dec n)))] (.c (.list (Wr (words n)))):=by
 have h1:=dec_le h
 rw [Lim_val] at hK
 have:=r1_From (E:=E) (dec_dg n) (by omega)
 rwa [dval_dec] at this
end Gev
namespace Gev
open Go Gb
variable {E:Env}
theorem r1_times_inner {xs ys:List Int} (hy:Wd ys) {N i:Nat} {x:Int} (hi:i < xs.length) (hxi:x=xs.getD i 0) (hx:0≤x∧x < 1000000000) (hN:N < 4611686018427387904) (hiN:i+ys.length≤N) {out0:List Int} :
    ∀ d k c out,k+d=ys.length→0≤c∧c < 1000000000→Wd out→out.length=N→(∀ j,i+k≤j→out.getD j 0=out0.getD j 0) →
    wv out+pw (i+k)*c=wv out0+pw i*(x*wv (ys.take k)) →
    ∃ c' out',Lp E 1 F2 1 (z4p (Wr xs) (Wr ys) N i c k (Wr out)) (.exit 2) (z5k (Wr xs) (Wr ys) N i c' (Wr out')) ∧
     (0≤c'∧c' < 1000000000)∧Wd out'∧out'.length=N∧(∀ j,i+ys.length≤j→out'.getD j 0=out0.getD j 0)∧wv out'+pw (i+ys.length)*c'=wv out0+pw i*(x*wv ys)
 | 0,k,c,out,hk,hc,hw,hl,hj,hv=>by
  have:k=ys.length:=by omega
  subst this
  rw [List.take_length] at hv
  exact ⟨c,out,y6t (by rw [Wr_len]; omega),hc,hw,hl,hj,hv⟩
 | d+1,k,c,out,hk,hc,hw,hl,hj,hv=>by
  have hyk:=hy.getD k
  obtain ⟨y,ey⟩:∃ y,y=ys.getD k 0:=⟨_,rfl⟩
  rw [← ey] at hyk
  have ho:=hw.getD (i+k)
  obtain ⟨w,ew⟩:∃ w,w=out.getD (i+k) 0:=⟨_,rfl⟩
  rw [← ew] at ho
  have hxy:=mul_bound hx hyk
  obtain ⟨p,ep⟩:∃ p,p=x*y:=⟨_,rfl⟩
  rw [← ep] at hxy
  obtain ⟨S,eS⟩:∃ S,S=c+(p+w):=⟨_,rfl⟩
  have hS:0≤S∧S≤999999999999999999:=by omega
  have hik:i+k < out.length:=by omega
  obtain ⟨c',out',k1,k2,k3,k4,k5,k6⟩:=r1_times_inner hy hi hxi hx hN hiN (out0:=out0) d (k+1) (S / 1000000000) (out.set (i+k) (S % 1000000000)) (by omega) (by omega) (hw.set _ (by omega) (by omega)) (by simpa using hl)
   (fun j h=>by rw [getD_set_ne (by omega)]; exact hj j (by omega)) (by
    rw [val_set out (i+k) hik,← ew,val_take_succ ys k (by omega),← ey,← Nat.add_assoc,pw_succ,pw_add]
    rw [pw_add] at hv
    exact alg1 hv ep eS (Int.emod_add_mul_ediv S 1000000000))
  refine ⟨c',out',?_,k2,k3,k4,k5,k6⟩
  exact x0x (v1:=((i+k:Nat):Int)) (v2:=w) (v3:=w) (v4:=x) (v5:=x) (v6:=y) (v7:=y) (v8:=p) (v9:=w+p) (v10:=S) (v11:=S % 1000000000) (v12:=S % 1000000000) (v13:=Wr (out.set (i+k) (S % 1000000000))) (v14:=S / 1000000000) (v15:=((k+1:Nat):Int))
   (wi (by omega)) (wu (by omega)) (wu (by omega)) (wu (by omega)) (wu (by omega)) (wu (by omega)) (wu (by omega)) (tmd hS.1 rfl) (w32 (by omega)) (by rw [Int.toNat_natCast,Wr_set]) (wu ⟨tdv hS.1 rfl,by omega,by omega⟩) (wi (by omega))
   (by rw [Wr_len]; omega) (by omega) (by rw [ew]; exact Wr_getD hik) (by omega) (by rw [hxi]; exact Wr_getD (by omega)) (by omega) (by rw [ey]; exact Wr_getD (by omega)) k1
theorem r1_times_outer {xs ys:List Int} (hx:Wd xs) (hy:Wd ys) {N:Nat} (hN:N < 4611686018427387904) (hl:N=xs.length+ys.length) :
    ∀ d i out,i+d=xs.length→Wd out→out.length=N→(∀ j,i+ys.length≤j→out.getD j 0=0)→wv out=wv (xs.take i)*wv ys →
    ∃ out',Lp E 1 F2 0 (z4o (Wr xs) (Wr ys) N i (Wr out)) (.exit 0) (z5j N (Wr out'))∧Wd out'∧out'.length=N∧wv out'=wv xs*wv ys
 | 0,i,out,hi,hw,ho,_,hv=>by
  have:i=xs.length:=by omega
  subst this
  rw [List.take_length] at hv
  exact ⟨out,y6s (by rw [Wr_len]; omega),hw,ho,hv⟩
 | d+1,i,out,hi,hw,ho,hj,hv=>by
  have hxi:=hx.getD i
  obtain ⟨x,ex⟩:∃ x,x=xs.getD i 0:=⟨_,rfl⟩
  rw [← ex] at hxi
  obtain ⟨c',out1,k1,k2,k3,k4,k5,k6⟩:=r1_times_inner (E:=E) hy (show i < xs.length by omega) ex hxi hN (by omega) (out0:=out) ys.length 0 0 out (by omega) (by omega) hw ho (fun _ _=>rfl) (by simp [wv])
  have hik:i+ys.length < out1.length:=by omega
  have h0:out1.getD (i+ys.length) 0=0:=by rw [k5 _ (Nat.le_refl _)]; exact hj _ (Nat.le_refl _)
  obtain ⟨out',g1,g2,g3,g4⟩:=r1_times_outer hx hy hN hl d (i+1) (out1.set (i+ys.length) c') (by omega) (k3.set _ k2.1 k2.2) (by simpa using k4)
   (fun j h=>by rw [getD_set_ne (by omega),k5 j (by omega)]; exact hj j (by omega)) (by
    rw [val_set out1 _ hik,h0,val_take_succ xs i (by omega),← ex,Int.sub_zero,k6,hv]
    grind)
  refine ⟨out',?_,g2,g3,g4⟩
  exact x0w (v1:=c') (v2:=Wr out1) (v3:=((i+ys.length:Nat):Int)) (v4:=c') (v5:=0) (v6:=Wr (out1.set (i+ys.length) c')) (v7:=((i+1:Nat):Int))
   (wi (by rw [Wr_len]; omega)) (w32 (by omega)) (by rw [Int.toNat_natCast,Wr_set]) (wi (by omega)) (by rw [Wr_len]; omega) k1 (by omega) (by rw [← h0]; exact Wr_getD hik) g1
theorem r1_Times {m n:Nat} (hl:(words m).length+(words n).length < 35184372088000):Fn E F2 [.c (.list (Wr (words m))),.c (.list (Wr (words n)))] (.c (.list (Wr (words (m*n))))):=by
 by_cases hm:m=0
 · subst hm
   rw [Nat.zero_mul,words_zero]
   exact x7t rfl
 · by_cases hn:n=0
   · subst hn
     rw [Nat.mul_zero,words_zero]
     have:words m≠[]:=fun h=>hm (words_nil.1 h)
     have:=len_pos this
     exact x7u (by rw [Wr_len]; omega) rfl
   · obtain ⟨out,k1,k2,k3,k4⟩:=r1_times_outer (E:=E) (words_wd m) (words_wd n) (N:=(words m).length+(words n).length) (by omega) rfl (words m).length 0 (List.replicate ((words m).length+(words n).length) 0) (by omega) (Wd.replicate _) (by simp)
      (fun j _=>by rw [List.getD_eq_getElem?_getD,List.getElem?_replicate]; split <;> rfl) (by rw [val_replicate]; simp [wv])
     have p1:=len_pos (fun h=>hm (words_nil.1 h):words m≠[])
     have p2:=len_pos (fun h=>hn (words_nil.1 h):words n≠[])
     have ht:=r1_trim (E:=E) (ws:=out) (k:=(words m).length+(words n).length) (by omega) (by omega)
     have ha:=trim_all k2 (n:=m*n) (by rw [k4,words_val,words_val,Int.natCast_mul])
     rw [k3] at ha
     exact x7v (v1:=(((words m).length+(words n).length:Nat):Int)) (v2:=(words m).length+(words n).length) (v3:=Wr (List.replicate ((words m).length+(words n).length) 0)) (v4:=Wr out) (wi (by rw [Wr_len,Wr_len]; omega)) (Int.toNat_natCast _) (Wr_replicate _ _) ha (by rw [Wr_len]; omega) (by rw [Wr_len]; omega) (by omega) k1 ht
theorem r1_small_loop {xs:List Int} (hx:Wd xs) {N:Nat} (hN:xs.length=N) (hb:N < 4611686018427387904) {w:Int} (hw:0 < w∧w < 1000000000):∀ k rest out,k≤N→0≤rest∧rest < w→Wd out→out.length=N →
    wv (out.drop k)*w+rest=wv (xs.drop k) →
    ∃ rest' out',Lp E 1 Z3 0 (z4r (Wr xs) w N rest ((k:Int) - 1) (Wr out)) (.exit 0) (z5l N rest' (Wr out'))∧(0≤rest'∧rest' < w)∧Wd out'∧out'.length=N∧wv out'*w+rest'=wv xs
 | 0,rest,out,_,hr,ho,hl,hv=>by
  rw [List.drop_zero,List.drop_zero] at hv
  exact ⟨rest,out,y6x (by omega),hr,ho,hl,hv⟩
 | k+1,rest,out,hk,hr,ho,hl,hv=>by
  rw [show ((k+1:Nat):Int) - 1=(k:Int) by omega]
  have hxk:=hx.getD k
  obtain ⟨x,ex⟩:∃ x,x=xs.getD k 0:=⟨_,rfl⟩
  rw [← ex] at hxk
  obtain ⟨S,eS⟩:∃ S,S=rest*1000000000+x:=⟨_,rfl⟩
  have hS:0≤S∧S < w*1000000000:=by omega
  have hq0:0≤S / w:=Int.ediv_nonneg hS.1 (by omega)
  have hq:S / w < 1000000000:=Int.ediv_lt_of_lt_mul (by omega) (by rw [Int.mul_comm]; exact hS.2)
  have hm0:=Int.emod_nonneg S (show w≠0 by omega)
  have hm1:=Int.emod_lt_of_pos S (show 0 < w by omega)
  have hdm:=Int.emod_add_mul_ediv S w
  have hkl:k < out.length:=by omega
  have hd:(out.set k (S / w)).drop (k+1)=out.drop (k+1):=List.drop_set_of_lt (Nat.lt_succ_self k)
  obtain ⟨rest',out',k1,k2,k3,k4,k5⟩:=r1_small_loop hx hN hb hw k (S % w) (out.set k (S / w)) (by omega) ⟨hm0,hm1⟩ (ho.set _ hq0 hq) (by simpa using hl) (by
   rw [wv_drop _ k,wv_drop xs k,← ex,getD_set_same hkl,hd,← hv]
   exact alg2 eS hdm)
  refine ⟨rest',out',?_,k2,k3,k4,k5⟩
  exact x1a (v1:=rest*1000000000) (v2:=x) (v3:=x) (v4:=S) (v5:=w) (v6:=S / w) (v7:=S / w) (v8:=out.getD k 0) (v9:=Wr (out.set k (S / w))) (v10:=S % w) (v11:=(k:Int) - 1)
   (wu (by omega)) (wu (by omega)) (wu (by omega)) (wu (by omega)) (wu ⟨tdv hS.1 rfl,hq0,by omega⟩) (w32 (by omega)) (by rw [Int.toNat_natCast,Wr_set]) (tmd hS.1 rfl) (wi (by omega))
   (by omega) (by omega) (by rw [ex]; exact Wr_getD (by omega)) (by omega) (by omega) (Wr_getD hkl) k1
theorem r1_small {n w:Nat} (hw:0 < w∧w < 1000000000) (hl:(words n).length < 35184372088000):Fn E Z3 [.c (.list (Wr (words n))),.c (.u32 w)] (.tup [.c (.list (Wr (words (n / w)))),.c (.u32 ((n % w:Nat):Int))]):=by
 obtain ⟨rest,out,k1,k2,k3,k4,k5⟩:=r1_small_loop (E:=E) (words_wd n) (N:=(words n).length) rfl (by omega) (w:=w) (by omega) (words n).length 0 (List.replicate (words n).length 0) (Nat.le_refl _) (by omega) (Wd.replicate _) (by simp)
  (by rw [drop_nil (by simp),drop_nil (Nat.le_refl _)]; simp [wv])
 rw [words_val] at k5
 have h0:=val_nonneg k3
 obtain ⟨q,hq⟩:∃ q:Nat,wv out=q:=⟨(wv out).toNat,by omega⟩
 obtain ⟨r,hr⟩:∃ r:Nat,rest=r:=⟨rest.toNat,by omega⟩
 rw [hq,hr] at k5
 subst hr
 have hn:n=q*w+r:=by
  have:((q*w+r:Nat):Int)=n:=by rw [Int.natCast_add,Int.natCast_mul]; exact k5
  omega
 obtain ⟨e1,e2⟩:=divmod_unique hn (by omega)
 rw [e1,e2]
 have ht:=r1_trim (E:=E) (ws:=out) (k:=(words n).length) (by omega) (by omega)
 have ha:=trim_all k3 hq
 rw [k4] at ha
 exact x8b (v1:=(words n).length) (v2:=Wr (List.replicate (words n).length 0)) (v3:=((words n).length:Int) - 1) (v4:=(r:Int)) (v5:=Wr out) (by rw [Wr_len]; rfl) (Wr_replicate _ _) (wi (by rw [Wr_len]; omega)) (w32 (by omega)) ha (by rw [Wr_len]; omega) k1 ht
theorem r1_sub {lu k j ln:Nat} {u v:List Int} (D:Dv u v lu k j) (hln:j+k < ln) (hls:ln < 35184372088832) {g:Int} (hg:0≤g∧g < 1000000000) :
    ∀ d i c b u',i+d=k→0≤c∧c < 1000000000→b=0∨b=1→Wd u'→u'.length=lu→(∀ n,n < j∨j+i≤n→u'.getD n 0=u.getD n 0)→wv u'=wv u - pw j*(g*wv (v.take i))+pw j*pw i*(c+b) →
    ∃ c' b' u'',Lp E 1 F0 0 (K7 ln (Wr v) j g k b c i (Wr u')) (.exit 0) (P9 ln (Wr v) j g k b' c' (Wr u''))∧(0≤c'∧c' < 1000000000)∧(b'=0∨b'=1)∧Wd u''∧u''.length=lu∧(∀ n,n < j∨j+k≤n→u''.getD n 0=u.getD n 0)∧wv u''=wv u - pw j*(g*wv v)+pw j*pw k*(c'+b')
 | 0,i,c,b,u',hi,hc,hb,hw,hl,hn,hv=>by
  have:i=k:=by omega
  subst this
  have:=D.elv
  rw [List.take_of_length_le (by omega)] at hv
  exact ⟨c,b,u',y5d (by omega),hc,hb,hw,hl,hn,hv⟩
 | d+1,i,c,b,u',hi,hc,hb,hw,hl,hn,hv=>by
  have hjk:=D.jk
  have hsm:=D.small
  have hlv:=D.elv
  have a0:=D.hv.getD i
  have b0:=hw.getD (j+i)
  have gk:(Wr v)[Int.toNat (i:Int)]?=some [.u32 (v.getD i 0)]:=Wr_getD (by omega)
  have gu:(Wr u')[Int.toNat ((j+i:Nat):Int)]?=some [.u32 (u'.getD (j+i) 0)]:=Wr_getD (by omega)
  have et:=val_take_succ v i (by omega)
  have es:=val_set u' (j+i) (by omega)
  obtain ⟨x,ex⟩:∃ x,x=v.getD i 0:=⟨_,rfl⟩
  obtain ⟨w,ew⟩:∃ w,w=u'.getD (j+i) 0:=⟨_,rfl⟩
  rw [← ex] at a0 gk et
  rw [← ew] at b0 gu es
  have hgx:0≤g*x∧g*x≤999999998000000001:=mul_bound hg a0
  obtain ⟨S,eS⟩:∃ S,S=g*x+c:=⟨_,rfl⟩
  have hS:0≤S∧S≤999999999000000000:=by omega
  obtain ⟨dd,ed⟩:∃ dd,dd=w - S % 1000000000 - b:=⟨_,rfl⟩
  have key:∀ b' d',d'=dd+1000000000*b'→0≤d'∧d' < 1000000000→(b'=0∨b'=1) →
      (∀ {st:St},Lp E 1 F0 0 (K7 ln (Wr v) j g k b' (S / 1000000000) ((i+1:Nat):Int) (Wr (u'.set (j+i) d'))) (.exit 0) st→Lp E 1 F0 0 (K7 ln (Wr v) j g k b c i (Wr u')) (.exit 0) st) →
      ∃ c' b' u'',Lp E 1 F0 0 (K7 ln (Wr v) j g k b c i (Wr u')) (.exit 0) (P9 ln (Wr v) j g k b' c' (Wr u''))∧(0≤c'∧c' < 1000000000)∧(b'=0∨b'=1)∧Wd u''∧u''.length=lu∧(∀ n,n < j∨j+k≤n→u''.getD n 0=u.getD n 0)∧wv u''=wv u - pw j*(g*wv v)+pw j*pw k*(c'+b'):=by
   intro b' d' hd' hd0 hb' hstep
   obtain ⟨c2,b2,u2,k1,k2⟩:=r1_sub D hln hls hg d (i+1) (S / 1000000000) b' (u'.set (j+i) d') (by omega) (by omega) hb' (hw.set _ hd0.1 hd0.2) (by simpa using hl)
    (fun n h=>by rw [getD_set_ne (by omega)]; exact hn n (by omega)) (by
     rw [es d',et,pw_succ,pw_add]
     have:=sub_step hv eS (Int.emod_add_mul_ediv S 1000000000) ed hd'
     rw [this]; grind)
   exact ⟨c2,b2,u2,hstep k1,k2⟩
  by_cases c1:dd < 0
  · refine key 1 (dd+1000000000) (by omega) (by omega) (.inr rfl) fun k1=>?_
    exact y9c (v1:=x) (v2:=x) (v3:=g*x) (v4:=S) (v5:=S / 1000000000) (v6:=((j+i:Nat):Int)) (v7:=w) (v8:=w) (v9:=S % 1000000000) (v10:=S % 1000000000) (v11:=w - S % 1000000000) (v12:=dd) (v13:=dd+1000000000) (v14:=dd+1000000000) (v15:=Wr (u'.set (j+i) (dd+1000000000))) (v16:=((i+1:Nat):Int))
     (wu (by omega)) (wu (by omega)) (wu (by omega)) (wu ⟨tdv hS.1 rfl,by omega,by omega⟩) (wi (by omega)) (wi (by omega)) (tmd hS.1 rfl) (wi (by omega)) (wi (by omega)) (wi (by omega)) (wi (by omega)) (w32 (by omega)) (by rw [Int.toNat_natCast,Wr_set]) (wi (by omega))
     (by omega) (by omega) gk (by omega) gu c1 k1
  · refine key 0 dd (by omega) (by omega) (.inl rfl) fun k1=>?_
    exact y9d (v1:=x) (v2:=x) (v3:=g*x) (v4:=S) (v5:=S / 1000000000) (v6:=((j+i:Nat):Int)) (v7:=w) (v8:=w) (v9:=S % 1000000000) (v10:=S % 1000000000) (v11:=w - S % 1000000000) (v12:=dd) (v13:=dd) (v14:=Wr (u'.set (j+i) dd)) (v15:=((i+1:Nat):Int))
     (wu (by omega)) (wu (by omega)) (wu (by omega)) (wu ⟨tdv hS.1 rfl,by omega,by omega⟩) (wi (by omega)) (wi (by omega)) (tmd hS.1 rfl) (wi (by omega)) (wi (by omega)) (wi (by omega)) (w32 (by omega)) (by rw [Int.toNat_natCast,Wr_set]) (wi (by omega))
     (by omega) (by omega) gk (by omega) gu c1 k1
theorem r1_add {lu k j ln:Nat} {u v:List Int} (D:Dv u v lu k j) (hln:j+k < ln) (hls:ln < 35184372088832) {g:Int} {u1:List Int} :
    ∀ d i up u',i+d=k→0≤up∧up≤1→Wd u'→u'.length=lu→(∀ n,n < j∨j+i≤n→u'.getD n 0=u1.getD n 0)→wv u'=wv u1+pw j*wv (v.take i) - pw j*pw i*up →
    ∃ up' u'',Lp E 1 F0 1 (z1z ln (Wr v) j g k up i (Wr u')) (.exit 2) (z2i ln j g k up' (Wr u''))∧(0≤up'∧up'≤1)∧Wd u''∧u''.length=lu∧(∀ n,n < j∨j+k≤n→u''.getD n 0=u1.getD n 0)∧wv u''=wv u1+pw j*wv v - pw j*pw k*up'
 | 0,i,up,u',hi,hc,hw,hl,hn,hv=>by
  have:i=k:=by omega
  subst this
  have:=D.elv
  rw [List.take_of_length_le (by omega)] at hv
  exact ⟨up,u',y5e (by omega),hc,hw,hl,hn,hv⟩
 | d+1,i,up,u',hi,hc,hw,hl,hn,hv=>by
  have hjk:=D.jk
  have hsm:=D.small
  have hlv:=D.elv
  have a0:=D.hv.getD i
  have b0:=hw.getD (j+i)
  have gk:(Wr v)[Int.toNat (i:Int)]?=some [.u32 (v.getD i 0)]:=Wr_getD (by omega)
  have gu:(Wr u')[Int.toNat ((j+i:Nat):Int)]?=some [.u32 (u'.getD (j+i) 0)]:=Wr_getD (by omega)
  have et:=val_take_succ v i (by omega)
  have es:=val_set u' (j+i) (by omega)
  obtain ⟨x,ex⟩:∃ x,x=v.getD i 0:=⟨_,rfl⟩
  obtain ⟨w,ew⟩:∃ w,w=u'.getD (j+i) 0:=⟨_,rfl⟩
  rw [← ex] at a0 gk et
  rw [← ew] at b0 gu es
  obtain ⟨S,eS⟩:∃ S,S=up+(w+x):=⟨_,rfl⟩
  have hS:0≤S∧S≤1999999999:=by omega
  obtain ⟨up2,u2,k1,k2⟩:=r1_add (g:=g) D hln hls (u1:=u1) d (i+1) (S / 1000000000) (u'.set (j+i) (S % 1000000000)) (by omega) (by omega) (hw.set _ (by omega) (by omega)) (by simpa using hl)
   (fun n h=>by rw [getD_set_ne (by omega)]; exact hn n (by omega)) (by
    rw [es,et,pw_succ,pw_add]
    have:=add_step hv eS (Int.emod_add_mul_ediv S 1000000000)
    rw [this]; grind)
  refine ⟨up2,u2,?_,k2⟩
  exact y9e (v1:=((j+i:Nat):Int)) (v2:=w) (v3:=x) (v4:=w+x) (v5:=S) (v6:=S % 1000000000) (v7:=Wr (u'.set (j+i) (S % 1000000000))) (v8:=S / 1000000000) (v9:=((i+1:Nat):Int))
   (wi (by omega)) (w32 (by omega)) (w32 (by omega)) (tmd hS.1 rfl) (by rw [Int.toNat_natCast,Wr_set]) (w32 ⟨tdv hS.1 rfl,by omega,by omega⟩) (wi (by omega))
   (by omega) (by omega) gu (by omega) gk k1
theorem same_above {xs ys:List Int} {n:Nat} (hl:xs.length=ys.length) (h:∀ i,n≤i→xs.getD i 0=ys.getD i 0):xs.drop n=ys.drop n:=by
 apply List.ext_getElem?
 intro i
 rw [List.getElem?_drop,List.getElem?_drop]
 rcases Nat.lt_or_ge (n+i) xs.length with h1 | h1
 · rw [getD_some h1,getD_some (by omega),h _ (by omega)]
 · rw [List.getElem?_eq_none h1,List.getElem?_eq_none (by omega)]
theorem r1_reduce {lu k j ln:Nat} {u v:List Int} (D:Dv u v lu k j) (hln:j+k < ln) (hls:ln < 35184372088832) {g:Int} (hg:0≤g∧g < 1000000000) (hup:wv (u.drop j) < (g+1)*wv v) (hlo:(g - 1)*wv v≤wv (u.drop j)) :
    ∃ u' q,Rn E F0 [.vec 0 ln,.c (.list (Wr v)),.c (.i64 j),.c (.u64 g)] [some (.vec A3 (Wr u))] (.c (.u32 q)) [some (.vec A3 (Wr u'))] ∧
     (0≤q∧q < 1000000000)∧Wd u'∧u'.length=lu∧wv u'=wv u - pw j*(q*wv v)∧0≤wv (u'.drop j)∧wv (u'.drop j) < wv v:=by
 have h2:=D.two
 have hjk:=D.jk
 have hsm:=D.small
 have hlu:=D.elu
 have hlv:=D.elv
 have hV:=D.vpos
 have hVk:=D.vk
 have b0:=D.hu.getD (j+k)
 have hz:=D.zero
 obtain ⟨u0,e3⟩:∃ x,x=u.getD (j+k) 0:=⟨_,rfl⟩
 rw [← e3] at b0
 obtain ⟨c,b,us,s1,s2,s3,s4,s5,s6,s7⟩:=r1_sub (E:=E) D hln hls hg k 0 0 0 u (by omega) (by omega) (.inl rfl) D.hu D.elu (fun _ _=>rfl) (by simp [wv])
 have hsu:us.getD (j+k) 0=u0:=by rw [s6 _ (.inr (Nat.le_refl _)),← e3]
 have gs0:(Wr us)[Int.toNat ((j+k:Nat):Int)]?=some [.u32 u0]:=by rw [← hsu]; exact Wr_getD (by omega)
 obtain ⟨last,hlast⟩:∃ x,x=u0 - c - b:=⟨_,rfl⟩
 have hset:=val_set us (j+k) (by omega)
 rw [hsu] at hset
 have sv:wv us=wv u - pw j*(g*wv v - pw k*(c+b)):=by rw [s7]; grind
 have sd:=drop_val (xs:=us) (ys:=u) (by omega) (j:=j) (by omega) (fun n hn=>s6 n (.inl hn)) sv
 have sk:=val_take_drop (us.drop j) k (by simp; omega)
 have sz:wv (us.drop (j+k+1))=0:=by
  rw [same_above (ys:=u) (by omega) (fun i hi=>s6 i (.inr (by omega)))]; exact hz
 rw [List.drop_drop,val_drop us (j+k) (by omega),sz,hsu] at sk
 have sk0:=val_nonneg ((s4.drop j).take k)
 have sk1:=(s4.drop j).val_take_lt k (by simp; omega)
 have hpk:=pw_pos k
 have hpj:=pw_pos j
 have hXV:(g+1)*wv v=g*wv v+wv v:=by grind
 have hwl:((Wr v).length:Int)=k:=by rw [Wr_len,hlv]
 have s1':Lp E 1 F0 0 (K7 ln (Wr v) j g ((Wr v).length:Int) 0 0 0 (Wr u)) (.exit 0) (P9 ln (Wr v) j g ((Wr v).length:Int) b c (Wr us)):=by rw [hwl]; exact s1
 by_cases c1:last < 0
 · have hneg:wv (u.drop j) < g*wv v:=by
    have h5:pw k*last≤pw k*(-1):=Int.mul_le_mul_of_nonneg_left (by omega) (by omega)
    have h6:pw k*last=pw k*u0 - pw k*(c+b):=by rw [hlast]; grind
    simp at sk
    omega
   have hg1:1≤g:=by
    rcases Int.lt_or_le g 1 with h | h
    · have:g=0:=by omega
      subst this
      have:=val_nonneg (D.hu.drop j)
      omega
    · exact h
   obtain ⟨m,hm⟩:∃ m,m=us.set (j+k) (last+1000000000):=⟨_,rfl⟩
   have hlb:-1000000000≤last:=by rcases s3 with h | h <;> omega
   have mw:Wd m:=by rw [hm]; exact s4.set _ (by omega) (by omega)
   have ml:m.length=lu:=by rw [hm]; simpa using s5
   have mv:wv m=wv us+pw (j+k)*(last+1000000000 - u0):=by rw [hm,hset]
   have mj:m.getD (j+k) 0=last+1000000000:=by rw [hm]; exact getD_set_same (by omega) _
   obtain ⟨up,ua,t1,t2,t3,t4,t5,t6⟩:=r1_add (E:=E) (g:=g) D hln hls (u1:=m) k 0 0 m (by omega) (by omega) mw ml (fun _ _=>rfl) (by simp [wv])
   have hau:ua.getD (j+k) 0=last+1000000000:=by rw [t5 _ (.inr (Nat.le_refl _)),mj]
   have ga0:(Wr ua)[Int.toNat ((j+k:Nat):Int)]?=some [.u32 (last+1000000000)]:=by rw [← hau]; exact Wr_getD (by omega)
   have hset2:=val_set ua (j+k) (by omega)
   rw [hau] at hset2
   have tv:wv ua=wv u - pw j*((g - 1)*wv v - pw k*(last+1000000000 - u0) - pw k*(c+b)+pw k*up):=by rw [t6,mv,s7,pw_add]; grind
   have td:=drop_val (xs:=ua) (ys:=u) (by omega) (j:=j) (by omega) (fun n hn=>by rw [t5 n (.inl hn),hm,getD_set_ne (by omega)]; exact s6 n (.inl hn)) tv
   have tk:=val_take_drop (ua.drop j) k (by simp; omega)
   have tz:wv (ua.drop (j+k+1))=0:=by
    rw [same_above (ys:=us) (by omega) (fun i hi=>by rw [t5 i (.inr (by omega)),hm,getD_set_ne (by omega)])]; exact sz
   rw [List.drop_drop,val_drop ua (j+k) (by omega),tz,hau] at tk
   have tk0:=val_nonneg ((t3.drop j).take k)
   have tk1:=(t3.drop j).val_take_lt k (by simp; omega)
   have hg1V:(g - 1)*wv v=g*wv v - wv v:=by grind
   have hzero:last+up=0:=by
    have h5:pw k*(last+up)=pw k*last+pw k*up:=by grind
    have h6:pw k*(last+1000000000 - u0)=pw k*last+pw k*1000000000 - pw k*u0:=by grind
    have h7:pw k*last=pw k*u0 - pw k*(c+b):=by rw [hlast]; grind
    have h8:pw k*(last+1000000000)=pw k*last+pw k*1000000000:=by grind
    have h9:-pw k < pw k*(last+up)∧pw k*(last+up) < pw k:=by
     simp at tk
     omega
    rcases Int.lt_trichotomy (last+up) 0 with h | h | h
    · have:pw k*(last+up)≤pw k*(-1):=Int.mul_le_mul_of_nonneg_left (by omega) (by omega)
      omega
    · exact h
    · have:pw k*1≤pw k*(last+up):=Int.mul_le_mul_of_nonneg_left (by omega) (by omega)
      omega
   have hfin:wv (ua.set (j+k) 0)=wv u - pw j*((g - 1)*wv v):=by
    rw [hset2,tv,pw_add]
    have e1:u0=c+b+last:=by omega
    have e2:up=-last:=by omega
    rw [e1,e2]; grind
   have hd:=drop_val (xs:=ua.set (j+k) 0) (ys:=u) (by simp; omega) (j:=j) (by simp; omega) (fun n hn=>by rw [getD_set_ne (by omega),t5 n (.inl hn),hm,getD_set_ne (by omega)]; exact s6 n (.inl hn)) hfin
   refine ⟨ua.set (j+k) 0,g - 1,?_,by omega,t3.set _ (by omega) (by omega),by simpa using t4,hfin,by rw [hd]; omega,by rw [hd]; omega⟩
   have t1':Lp E 1 F0 1 (z1z ln (Wr v) j g ((Wr v).length:Int) 0 0 (Wr m)) (.exit 2) (z2i ln j g ((Wr v).length:Int) up (Wr ua)):=by rw [hwl]; exact t1
   exact x6f (v1:=b) (v2:=c) (v3:=Wr us) (v4:=((j+k:Nat):Int)) (v5:=u0) (v6:=u0) (v7:=c) (v8:=u0 - c) (v9:=last) (v10:=last+1000000000) (v11:=last+1000000000) (v12:=Wr m) (v13:=up) (v14:=Wr ua) (v15:=last+1000000000) (v16:=1000000000) (v17:=0) (v18:=Wr (ua.set (j+k) 0)) (v19:=g - 1) (v20:=g - 1)
    (wi (by rw [hwl]; omega)) (wi (by omega)) (wi (by omega)) (wi (by omega)) (wi (by omega)) (wi (by omega)) (w32 (by omega)) (by rw [Int.toNat_natCast,Wr_set,hm]) (w32 (by omega)) (tmd (by omega) rfl) (by rw [Int.toNat_natCast,Wr_set]) (wu (by omega)) (w32 (by omega))
    s1' (by omega) gs0 (by omega) t1' ga0
 · have hfin:wv (us.set (j+k) last)=wv u - pw j*(g*wv v):=by
    rw [hset,sv,pw_add,hlast]; grind
   have hd:=drop_val (xs:=us.set (j+k) last) (ys:=u) (by simp; omega) (j:=j) (by simp; omega) (fun n hn=>by rw [getD_set_ne (by omega)]; exact s6 n (.inl hn)) hfin
   have hl9:last < 1000000000:=by rcases s3 with h | h <;> omega
   refine ⟨us.set (j+k) last,g,?_,hg,s4.set _ (by omega) hl9,by simpa using s5,hfin,val_nonneg ((s4.set (j+k) (show 0≤last by omega) hl9).drop j),by rw [hd]; omega⟩
   exact x6e (v1:=b) (v2:=c) (v3:=Wr us) (v4:=((j+k:Nat):Int)) (v5:=u0) (v6:=u0) (v7:=c) (v8:=u0 - c) (v9:=last) (v10:=last) (v11:=Wr (us.set (j+k) last)) (v12:=g)
    (wi (by rw [hwl]; omega)) (wi (by omega)) (wi (by omega)) (wi (by omega)) (wi (by omega)) (w32 (by omega)) (by rw [Int.toNat_natCast,Wr_set]) (w32 (by omega)) s1' (by omega) gs0 (by omega)
end Gev
namespace Gev
open Go Gb
variable {E:Env}
theorem r1_guess {sc w2 w4:List (List DV)} {lq lu k j ln:Nat} {u v:List Int} (D:Dv u v lu k j) (hln:j+k < ln) (hls:ln < 35184372088832) :
    ∀ (t:Nat) (g rest:Int),0≤g→g < t→g≤1000000001→0≤rest∧rest < 2000000000→g*v.getD (k - 1) 0+rest=u.getD (j+k) 0*1000000000+u.getD (j+k - 1) 0→wv (u.drop j) < (g+1)*wv v→(g=1000000001→rest+v.getD (k - 1) 0 < 1000000000)→(rest≥1000000000→g < 1000000000) →
    ∃ g',Lp E 5 G1 1 (Z8 k sc (Wr v) ln lq j g rest w2 (Wr u) w4) (.exit 2) (z1y k sc (Wr v) ln lq j w2 (Wr u) w4 g')∧(0≤g'∧g' < 1000000000)∧wv (u.drop j) < (g'+1)*wv v∧(g' - 1)*wv v≤wv (u.drop j)
 | 0,g,rest,h0,ht,_,_,_,_,_,_=>by omega
 | t+1,g,rest,h0,ht,hg,hr,he,hX,hbig,hrg=>by
  have h2:=D.two
  have hjk:=D.jk
  have hsm:=D.small
  have hlu:=D.elu
  have hlv:=D.elv
  have a1:=D.hv.getD (k - 1)
  have a2:=D.hv.getD (k - 2)
  have b2:=D.hu.getD (j+k - 2)
  have b1:=D.hu.getD (j+k - 1)
  have b0:=D.hu.getD (j+k)
  have hnorm:=D.norm
  have eV:=split_two D.elv D.two
  have eX:=split_three (u:=u) (j:=j) (k:=k) D.two (by omega) D.zero
  have vl0:=val_nonneg (D.hv.take (k - 2))
  have vl1:=D.hv.val_take_lt (k - 2) (by omega)
  have xl0:=val_nonneg ((D.hu.drop j).take (k - 2))
  have xl1:=(D.hu.drop j).val_take_lt (k - 2) (by simp; omega)
  have hP:=pw_pos (k - 2)
  have gk1:(Wr v)[Int.toNat ((k:Int) - 1)]?=some [.u32 (v.getD (k - 1) 0)]:=by
   rw [show Int.toNat ((k:Int) - 1)=k - 1 by omega]; exact Wr_getD (by omega)
  have gk2:(Wr v)[Int.toNat ((k:Int) - 2)]?=some [.u32 (v.getD (k - 2) 0)]:=by
   rw [show Int.toNat ((k:Int) - 2)=k - 2 by omega]; exact Wr_getD (by omega)
  have gu:(Wr u)[Int.toNat ((j:Int)+k - 2)]?=some [.u32 (u.getD (j+k - 2) 0)]:=by
   rw [show Int.toNat ((j:Int)+k - 2)=j+k - 2 by omega]; exact Wr_getD (by omega)
  obtain ⟨v1,e1⟩:∃ x,x=v.getD (k - 1) 0:=⟨_,rfl⟩
  obtain ⟨v2,e2⟩:∃ x,x=v.getD (k - 2) 0:=⟨_,rfl⟩
  obtain ⟨u2,e3⟩:∃ x,x=u.getD (j+k - 2) 0:=⟨_,rfl⟩
  obtain ⟨top,e4⟩:∃ x,x=u.getD (j+k) 0*1000000000+u.getD (j+k - 1) 0:=⟨_,rfl⟩
  rw [← e1] at a1 hnorm eV gk1 he hbig
  rw [← e2] at a2 eV gk2
  rw [← e3] at b2 eX gu
  rw [← e4] at eX he
  have hg2:0≤g*v2∧g*v2≤1000000001*999999999:=⟨Int.mul_nonneg h0 a2.1,Int.mul_le_mul hg (by omega) a2.1 (by decide)⟩
  by_cases c0:rest≥1000000000
  · have hgB:=hrg c0
    refine ⟨g,y9a (by omega),⟨h0,hgB⟩,hX,?_⟩
    refine guess_high hP ⟨vl0,vl1⟩ xl0 eV eX he ⟨h0,hgB⟩ ?_ hnorm a2.1
    have h5:g*v2≤999999999*999999999:=Int.mul_le_mul (by omega) (by omega) a2.1 (by decide)
    omega
  · have down:1≤g→wv (u.drop j) < g*wv v→(g≤1000000000∨rest+v1 < 1000000000) →
        ∃ g',Lp E 5 G1 1 (Z8 k sc (Wr v) ln lq j (g - 1) (rest+v1) w2 (Wr u) w4) (.exit 2) (z1y k sc (Wr v) ln lq j w2 (Wr u) w4 g')∧(0≤g'∧g' < 1000000000)∧wv (u.drop j) < (g'+1)*wv v∧(g' - 1)*wv v≤wv (u.drop j):=by
     intro hg1 hlt hb
     have hmul:(g - 1)*v1+(rest+v1)=top:=by
      have:(g - 1)*v1=g*v1 - v1:=by grind
      omega
     refine r1_guess D hln hls t (g - 1) (rest+v1) (by omega) (by omega) (by omega) (by omega) ?_ (by rw [show g - 1+1=g by omega]; exact hlt) (fun h=>by omega) (fun h=>by omega)
     rw [← e1,← e4]; exact hmul
    by_cases c1:g≥1000000000
    · have hlt:wv (u.drop j) < g*wv v:=by
       have h6:=val_drop u j (by omega)
       have h7:=D.hu.getD j
       have h8:=D.low
       have h9:1000000000*wv v≤g*wv v:=Int.mul_le_mul_of_nonneg_right c1 (by have:=D.vpos; omega)
       omega
      have hb:g≤1000000000∨rest+v1 < 1000000000:=by
       rcases Int.lt_or_le 1000000000 g with h | h
       · exact .inr (hbig (by omega))
       · exact .inl h
      obtain ⟨g',d3,d4⟩:=down (by omega) hlt hb
      exact ⟨g',x2w (v2:=(k:Int) - 1) (v3:=v1) (v4:=v1) (wu (by omega)) (wi (by omega)) (wu (by omega)) (wu (by omega)) (by omega) c1 (by omega) gk1 d3,d4⟩
    · by_cases c3:g*v2 > rest*1000000000+u2
      · have hlt:=guess_low hP vl0 xl1 eV eX he h0 c3
        have hg1:1≤g:=by
         rcases Int.lt_or_le g 1 with h | h
         · have:g=0:=by omega
           subst this
           rw [Int.zero_mul] at c3
           omega
         · exact h
        obtain ⟨g',d3,d4⟩:=down hg1 hlt (.inl (by omega))
        exact ⟨g',x2x (v1:=(k:Int) - 2) (v2:=v2) (v3:=v2) (v4:=g*v2) (v5:=rest*1000000000) (v6:=(j:Int)+k) (v7:=(j:Int)+k - 2) (v8:=u2) (v9:=u2) (v10:=rest*1000000000+u2) (v12:=(k:Int) - 1) (v13:=v1) (v14:=v1)
         (wi (by omega)) (wu (by omega)) (wu (by omega)) (wu (by omega)) (wi (by omega)) (wi (by omega)) (wu (by omega)) (wu (by omega)) (wu (by omega)) (wi (by omega)) (wu (by omega)) (wu (by omega)) (by omega) c1 (by omega) gk2 (by omega) gu c3 (by omega) gk1 d3,d4⟩
      · refine ⟨g,y8z (v1:=(k:Int) - 2) (v2:=v2) (v3:=v2) (v4:=g*v2) (v5:=rest*1000000000) (v6:=(j:Int)+k) (v7:=(j:Int)+k - 2) (v8:=u2) (v9:=u2) (v10:=rest*1000000000+u2)
            (wi (by omega)) (wu (by omega)) (wu (by omega)) (wu (by omega)) (wi (by omega)) (wi (by omega)) (wu (by omega)) (wu (by omega)) (by omega) c1 (by omega) gk2 (by omega) gu c3,⟨h0,by omega⟩,hX,?_⟩
        exact guess_high hP ⟨vl0,vl1⟩ xl0 eV eX he ⟨h0,by omega⟩ (by omega) hnorm a2.1
theorem first_guess {lu k j:Nat} {u v:List Int} (D:Dv u v lu k j) {top:Int} (et:top=u.getD (j+k) 0*1000000000+u.getD (j+k - 1) 0) :
    0≤top∧0≤top / v.getD (k - 1) 0∧top / v.getD (k - 1) 0≤1000000001∧(0≤top % v.getD (k - 1) 0∧top % v.getD (k - 1) 0 < v.getD (k - 1) 0)∧top / v.getD (k - 1) 0*v.getD (k - 1) 0+top % v.getD (k - 1) 0=top∧wv (u.drop j) < (top / v.getD (k - 1) 0+1)*wv v∧(top / v.getD (k - 1) 0=1000000001→top % v.getD (k - 1) 0+v.getD (k - 1) 0 < 1000000000):=by
 have h2:=D.two
 have hjk:=D.jk
 have hlu:=D.elu
 have hlv:=D.elv
 have hnorm:=D.norm
 have hV:=D.vpos
 have a1:=D.hv.getD (k - 1)
 have b1:=D.hu.getD (j+k - 1)
 have b0:=D.hu.getD (j+k)
 have hlow:=D.low
 have hz:=D.zero
 obtain ⟨v1,e1⟩:∃ x,x=v.getD (k - 1) 0:=⟨_,rfl⟩
 obtain ⟨u0,e3⟩:∃ x,x=u.getD (j+k) 0:=⟨_,rfl⟩
 obtain ⟨u1',e4⟩:∃ x,x=u.getD (j+k - 1) 0:=⟨_,rfl⟩
 have hX3:=split_three (u:=u) (j:=j) (k:=k) h2 (by omega) hz
 have hV2:=split_two hlv h2
 rw [← e3,← e4] at et hX3
 rw [← et] at hX3
 rw [← e1] at a1 hnorm hV2 ⊢
 rw [← e3] at b0
 rw [← e4] at b1
 have htop:0≤top:=by omega
 have hdm:=Int.emod_add_mul_ediv top v1
 have hr0:=Int.emod_nonneg top (show v1≠0 by omega)
 have hr1:=Int.emod_lt_of_pos top (show 0 < v1 by omega)
 have hg0:0≤top / v1:=Int.ediv_nonneg htop (by omega)
 have hmul:top / v1*v1+top % v1=top:=by rw [Int.mul_comm]; omega
 have a2:=D.hv.getD (k - 2)
 have vl1:=D.hv.val_take_lt (k - 2) (by omega)
 have xl0:=val_nonneg ((D.hu.drop j).take (k - 2))
 have hP:=pw_pos (k - 2)
 have b2:=D.hu.getD (j+k - 2)
 have hu0:u0≤v1:=by
  rcases Int.lt_or_le v1 u0 with h | h
  · exfalso
    have e5:=val_take_drop (u.drop (j+1)) (k - 1) (by simp; omega)
    rw [List.drop_drop,show j+1+(k - 1)=j+k by omega,val_drop u (j+k) (by omega),hz,← e3] at e5
    have h6:=val_nonneg ((D.hu.drop (j+1)).take (k - 1))
    have e7:=val_take_drop v (k - 1) (by omega)
    rw [val_drop v (k - 1) (by omega),← e1,show k - 1+1=k by omega,List.drop_eq_nil_of_le (by omega),show wv []=0 from rfl] at e7
    have h8:=D.hv.val_take_lt (k - 1) (by omega)
    have h9:pw (k - 1)*(v1+1)≤pw (k - 1)*u0:=Int.mul_le_mul_of_nonneg_left (by omega) (by have:=pw_pos (k - 1); omega)
    rw [Int.mul_add,Int.mul_one] at h9
    simp at e5 e7
    omega
  · exact h
 refine ⟨htop,hg0,?_,⟨hr0,hr1⟩,hmul,?_,fun h=>by rw [h] at hmul; omega⟩
 · have:top / v1 < 1000000002:=Int.ediv_lt_of_lt_mul (by omega) (by omega)
   omega
 · have h5:top+1≤(top / v1+1)*v1:=by
    have:(top / v1+1)*v1=top / v1*v1+v1:=by grind
    omega
   have h6:=Int.mul_le_mul_of_nonneg_right h5 (show 0≤1000000000*pw (k - 2) by omega)
   have h7:(top / v1+1)*(v1*(1000000000*pw (k - 2)))≤(top / v1+1)*wv v:=by
    refine Int.mul_le_mul_of_nonneg_left ?_ (by omega)
    have h8:(v1*1000000000+v.getD (k - 2) 0)*pw (k - 2)=v1*(1000000000*pw (k - 2))+v.getD (k - 2) 0*pw (k - 2):=by grind
    have h9:0≤v.getD (k - 2) 0*pw (k - 2):=Int.mul_nonneg a2.1 (by omega)
    have h10:=val_nonneg (D.hv.take (k - 2))
    omega
   have h8:(top / v1+1)*v1*(1000000000*pw (k - 2))=(top / v1+1)*(v1*(1000000000*pw (k - 2))):=by grind
   have h9:(top+1)*(1000000000*pw (k - 2))=top*1000000000*pw (k - 2)+1000000000*pw (k - 2):=by grind
   have h10:(top*1000000000+u.getD (j+k - 2) 0)*pw (k - 2)=top*1000000000*pw (k - 2)+u.getD (j+k - 2) 0*pw (k - 2):=by grind
   have h11:u.getD (j+k - 2) 0*pw (k - 2)≤999999999*pw (k - 2):=Int.mul_le_mul_of_nonneg_right (by omega) (by omega)
   have h12:=(D.hu.drop j).val_take_lt (k - 2) (by simp; omega)
   omega
theorem r1_over_loop {sc w2:List (List DV)} {lq lu k ln:Nat} {v:List Int} (hv:Wd v) (hlv:v.length=k) (h2:2≤k) (hn:1000000000≤2*v.getD (k - 1) 0) (hsm:lu < 35184372088832) (hlnu:ln≤lu) :
    ∀ j u q,Wd u→u.length=lu→Wd q→q.length=lq→j≤lq→(0 < j→j - 1+k < ln)→wv (u.drop j) < wv v →
    ∃ u' q',Lp E 5 G1 0 (z6d k sc (Wr v) ln lq ((j:Int) - 1) w2 (Wr u) (Wr q)) (.exit 0) (z6i k sc ln lq w2 (Wr u') (Wr q'))∧Wd u'∧u'.length=lu∧Wd q'∧q'.length=lq∧wv u' < wv v∧wv u'+wv v*wv q'=wv u+wv v*(pw j*wv (q.drop j))
 | 0,u,q,hu,hlu,hq,hlq,_,_,hlow=>⟨u,q,y8y (by omega),hu,hlu,hq,hlq,by simpa using hlow,by simp [pw_zero]⟩
 | j+1,u,q,hu,hlu,hq,hlq,hj,hjk,hlow=>by
  have hjk':=hjk (by omega)
  have D:Dv u v lu k j:=⟨hu,hv,hlu,hlv,h2,hn,by omega,hsm,hlow⟩
  rw [show ((j+1:Nat):Int) - 1=(j:Int) by omega]
  have a1:=hv.getD (k - 1)
  have b1:=hu.getD (j+k - 1)
  have b0:=hu.getD (j+k)
  obtain ⟨top,et⟩:∃ x,x=u.getD (j+k) 0*1000000000+u.getD (j+k - 1) 0:=⟨_,rfl⟩
  obtain ⟨f1,f2,f3,f4,f5,f6,f7⟩:=first_guess D et
  obtain ⟨g,k1,k2,k3,k4⟩:=r1_guess (E:=E) (sc:=sc) (w2:=w2) (w4:=Wr q) (lq:=lq) (ln:=ln) D (by omega) (by omega) 1000000002 _ _ f2 (by omega) f3 (by omega) (by rw [← et]; exact f5) f6 f7 (by omega)
  obtain ⟨u1,qd,r1,r2,r3,r4,r5,r6,r7⟩:=r1_reduce (E:=E) (ln:=ln) D (by omega) (by omega) k2 k3 k4
  obtain ⟨u',q',s1,s2,s3,s4,s5,s6,s7⟩:=r1_over_loop hv hlv h2 hn hsm hlnu j u1 (q.set j qd) r3 r4 (hq.set _ r2.1 r2.2) (by simpa using hlq) (by omega) (fun h=>by omega) r7
  refine ⟨u',q',?_,s2,s3,s4,s5,s6,?_⟩
  · have hred:=r1.at rfl rfl rfl rfl (objs:=[some .dead,some .dead,some (.vec A3 w2),some (.vec A3 (Wr u)),some (.vec A3 (Wr q))]) (l:=3) rfl
    exact x2v (v1:=((j+k:Nat):Int)) (v2:=u.getD (j+k) 0) (v3:=u.getD (j+k) 0) (v4:=u.getD (j+k) 0*1000000000) (v5:=((j+k - 1:Nat):Int)) (v6:=u.getD (j+k - 1) 0) (v7:=u.getD (j+k - 1) 0) (v8:=top) (v9:=((k - 1:Nat):Int)) (v10:=v.getD (k - 1) 0) (v11:=v.getD (k - 1) 0) (v12:=top / v.getD (k - 1) 0) (v13:=top % v.getD (k - 1) 0) (v14:=g) (v15:=Wr u1) (v16:=qd) (v17:=q.getD j 0) (v18:=Wr (q.set j qd)) (v19:=(j:Int) - 1)
     (wi (by omega)) (wu (by omega)) (wu (by omega)) (wi (by omega)) (wu (by omega)) (wu (by omega)) (wi (by omega)) (wu (by omega)) (wu ⟨tdv f1 rfl,f2,by omega⟩) (tmd f1 rfl) (by rw [Int.toNat_natCast,Wr_set]) (wi (by omega))
     (by omega) (by omega) (Wr_getD (by omega)) (by omega) (Wr_getD (by omega)) (by omega) (Wr_getD (by omega)) (by omega) k1 hred (by omega) (Wr_getD (by omega)) s1
  · have hd:(q.set j qd).drop (j+1)=q.drop (j+1):=List.drop_set_of_lt (Nat.lt_succ_self j)
    rw [s7,r5,wv_drop (q.set j qd) j,getD_set_same (by omega),hd,pw_succ]
    grind
theorem trimN_zeros (xs:List Int):∀ k,trimN (xs++List.replicate k 0) (xs.length+k)=trimN xs xs.length
 | 0=>by simp
 | k+1=>by
  have ih:=trimN_zeros xs k
  have h0:(xs++List.replicate (k+1) 0).getD (xs.length+k) 0=0:=by
   rw [List.getD_eq_getElem?_getD,List.getElem?_append_right (by omega),List.getElem?_replicate]; split <;> rfl
  have hpre:∀ m,m≤xs.length+k→trimN (xs++List.replicate (k+1) 0) m=trimN (xs++List.replicate k 0) m:=by
   intro m hm
   induction m with
   | zero=>rfl
   | succ m ih =>
    have e:(xs++List.replicate (k+1) 0).getD m 0=(xs++List.replicate k 0).getD m 0:=by
     rw [List.getD_eq_getElem?_getD,List.getD_eq_getElem?_getD,List.replicate_succ',← List.append_assoc,List.getElem?_append_left (by simp; omega)]
    unfold trimN
    rw [e,ih (by omega)]
  show trimN (xs++List.replicate (k+1) 0) (xs.length+k+1)=_
  have step:trimN (xs++List.replicate (k+1) 0) (xs.length+k+1)=trimN (xs++List.replicate (k+1) 0) (xs.length+k):=by
   conv=>lhs; unfold trimN
   rw [if_pos h0]
  rw [step,hpre _ (Nat.le_refl _),ih]
theorem trimN_canon {n:Nat}:trimN (words n) (words n).length=(words n).length:=by
 have h:=trimN_words (words_wd n) (Nat.le_refl (words n).length)
 rw [List.take_length,words_val,Int.toNat_natCast] at h
 have h2:=congrArg List.length h
 rw [List.length_take] at h2
 have:=trimN_le (words n) (words n).length
 omega
theorem r1_Over {m n:Nat} (hm0:m≠0) (hl:(words n).length < 1099511627776):Fn E G1 [.c (.list (Wr (words n))),.c (.list (Wr (words m)))] (.tup [.c (.list (Wr (words (n / m)))),.c (.list (Wr (words (n % m))))]):=by
 have hc:=r1_Cmp (E:=E) (m:=n) (n:=m) (by omega)
 by_cases h1:n < m
 · rw [Nat.div_eq_of_lt h1,Nat.mod_eq_of_lt h1,words_zero]
   exact x8u hc (cmpI_lt.2 (by omega))
 · have hc':¬ cmpI n m < 0:=fun h=>h1 (by have:=cmpI_lt.1 h; omega)
   have hmne:words m≠[]:=fun h=>hm0 (words_nil.1 h)
   have hmp:=len_pos hmne
   by_cases h3:(words m).length=1
   · have hm1:m < 1000000000:=by
      have:=val_lt (words_wd m)
      rw [words_val,h3,show pw 1=1000000000 by decide] at this
      omega
     have e:words m=[(m:Int)]:=by
      rcases words_two (n:=m) (by omega) with ⟨_,h⟩ | ⟨e,_,_⟩ | ⟨_,h⟩
      · exact absurd h hm0
      · exact e
      · omega
     have hs:=r1_small (E:=E) (n:=n) (w:=m) ⟨by omega,hm1⟩ (by omega)
     have hr:=Nat.mod_lt n (show 0 < m by omega)
     exact x8v (v2:=(m:Int)) hc hc' (by rw [Wr_len,h3]; rfl) (by rw [e]; rfl) hs (r1_Small (by omega))
   · have hlm:(words m).length≤(words n).length:=(words_tr m).length_le (words_wd m) (words_wd n) (by rw [words_val,words_val]; omega)
     obtain ⟨k,hk⟩:∃ k,k=(words m).length:=⟨_,rfl⟩
     rw [← hk] at hlm h3 hmp
     have hk2:2≤k:=by omega
     have ht:=(words_wd m).getD (k - 1)
     obtain ⟨t,et⟩:∃ t,t=(words m).getD (k - 1) 0:=⟨_,rfl⟩
     rw [← et] at ht
     obtain ⟨f,hf⟩:∃ f:Nat,(f:Int)=1000000000 / (t+1):=⟨(1000000000 / (t+1)).toNat,by have:0≤1000000000 / (t+1):=Int.ediv_nonneg (by decide) (by omega); omega⟩
     obtain ⟨f1,f2,lv,nv⟩:=norm_factor (n:=m) rfl hk.symm (by omega) (f:=f) (by rw [← et]; exact hf)
     have hfl:(words f).length≤1:=words_length_le (by rw [show pw 1=1000000000 by decide]; omega)
     have hfe:words f=[(f:Int)]:=by
      rcases words_two (n:=f) (by omega) with ⟨_,h⟩ | ⟨e,_,_⟩ | ⟨_,h⟩
      · omega
      · exact e
      · omega
     have hnf:n≤n*f:=by have:=Nat.mul_le_mul_left n f1; omega
     have hun:=(words_tr n).length_le (words_wd n) (words_wd (n*f)) (by rw [words_val,words_val]; omega)
     have hnp:(n:Int) < pw (words n).length:=by have:=val_lt (words_wd n); rwa [words_val] at this
     have hun2:(words (n*f)).length≤(words n).length+1:=by
      refine words_length_le ?_
      rw [pw_succ,Int.natCast_mul,Int.mul_comm]
      have h5:(f:Int)*n≤1000000000*n:=Int.mul_le_mul_of_nonneg_right (by omega) (by omega)
      have h6:1000000000*(n:Int) < 1000000000*pw (words n).length:=Int.mul_lt_mul_of_pos_left hnp (by decide)
      omega
     obtain ⟨L,hL⟩:∃ L,L=(words (n*f)).length:=⟨_,rfl⟩
     rw [← hL] at hun hun2
     have hu0:Wd (words (n*f)++[0,0]):=(words_wd _).append (Wd.cons (by omega) (by omega) (Wd.cons (by omega) (by omega) Wd.nil))
     have hu0l:(words (n*f)++[0,0]).length=L+2:=by simp [hL]
     have hval0:wv (words (n*f)++[0,0])=((n*f:Nat):Int):=by rw [val_append,words_val]; simp [wv]
     have hvv:wv (words (m*f))=((m*f:Nat):Int):=words_val _
     have hlow:wv ((words (n*f)++[0,0]).drop ((words n).length+1 - k)) < wv (words (m*f)):=by
      have e5:=val_take_drop (words (n*f)++[0,0]) ((words n).length+1 - k) (by rw [hu0l]; omega)
      have h6:=val_nonneg (hu0.take ((words n).length+1 - k))
      rw [hval0] at e5
      rw [hvv]
      have h7:pw (k - 1)≤m:=by have:=(words_tr m).val_ge (words_wd m) hmne; rwa [words_val,← hk] at this
      have h8:pw (words n).length=pw ((words n).length+1 - k)*pw (k - 1):=by rw [← pw_add]; congr 1; omega
      have h9:((n*f:Nat):Int) < pw ((words n).length+1 - k)*((m*f:Nat):Int):=by
       rw [Int.natCast_mul,Int.natCast_mul]
       have h10:(n:Int)*f < pw (words n).length*f:=Int.mul_lt_mul_of_pos_right hnp (by omega)
       have h11:pw ((words n).length+1 - k)*(pw (k - 1)*f)≤pw ((words n).length+1 - k)*((m:Int)*f) :=
        Int.mul_le_mul_of_nonneg_left (Int.mul_le_mul_of_nonneg_right h7 (by omega)) (by have:=pw_pos ((words n).length+1 - k); omega)
       rw [h8,Int.mul_assoc] at h10
       omega
      have hp:=pw_pos ((words n).length+1 - k)
      rcases Int.lt_or_le (wv ((words (n*f)++[0,0]).drop ((words n).length+1 - k))) ((m*f:Nat):Int) with h | h
      · exact h
      · have:=Int.mul_le_mul_of_nonneg_left h (show 0≤pw ((words n).length+1 - k) by omega)
        omega
     obtain ⟨u',q',r1,r2,r3,r4,r5,r6,r7⟩:=r1_over_loop (E:=E) (sc:=Wr (words f)) (w2:=[[.u32 0],[.u32 0]]) (lq:=(words n).length+1 - k) (lu:=L+2) (ln:=(words n).length+1) (words_wd (m*f)) lv hk2 nv (by omega) (by omega) ((words n).length+1 - k) (words (n*f)++[0,0]) (List.replicate ((words n).length+1 - k) 0) hu0 hu0l (Wd.replicate _) (by simp) (Nat.le_refl _) (fun _=>by omega) hlow
     rw [drop_nil (by simp),hval0,hvv,show wv []=0 from rfl] at r7
     rw [hvv] at r6
     have hq0:=val_nonneg r4
     have hr0:=val_nonneg r2
     obtain ⟨Q,hQ⟩:∃ Q:Nat,wv q'=Q:=⟨(wv q').toNat,by omega⟩
     obtain ⟨R,hR⟩:∃ R:Nat,wv u'=R:=⟨(wv u').toNat,by omega⟩
     rw [hQ,hR] at r7
     rw [hR] at r6
     have e1:n*f=Q*(m*f)+R:=by
      have:((n*f:Nat):Int)=((Q*(m*f)+R:Nat):Int):=by
       rw [Int.natCast_add,Int.natCast_mul Q]
       have:((Q:Int))*((m*f:Nat):Int)=((m*f:Nat):Int)*Q:=Int.mul_comm _ _
       simp at r7
       simp at this ⊢
       omega
      omega
     have hfR:f ∣ R:=by
      have h5:f ∣ Q*(m*f):=⟨Q*m,by rw [← Nat.mul_assoc,Nat.mul_comm]⟩
      exact (Nat.dvd_add_right h5).1 (by rw [← e1]; exact ⟨n,Nat.mul_comm _ _⟩)
     obtain ⟨R',hR'⟩:=hfR
     have e2:n=Q*m+R':=by
      have:f*n=f*(Q*m+R'):=by
       rw [Nat.mul_add,← hR',Nat.mul_comm f n,e1,← Nat.mul_assoc,Nat.mul_comm f]
      exact Nat.eq_of_mul_eq_mul_left (by omega) this
     have e3:R' < m:=by
      have:f*R' < f*m:=by rw [← hR',Nat.mul_comm f m]; omega
      exact Nat.lt_of_mul_lt_mul_left this
     obtain ⟨d1,d2⟩:=divmod_unique e2 e3
     have hRf:R / f=R':=by rw [hR',Nat.mul_div_cancel_left _ (by omega)]
     have hvk:=val_lt (words_wd (m*f))
     rw [lv,hvv] at hvk
     have hul:wv (u'.take k)=R:=by
      have h5:=val_take_drop u' k (by omega)
      have h6:=val_nonneg (r2.take k)
      have h7:=val_nonneg (r2.drop k)
      rcases Int.lt_or_le 0 (wv (u'.drop k)) with h | h
      · have h8:pw k*1≤pw k*wv (u'.drop k):=Int.mul_le_mul_of_nonneg_left (by omega) (by have:=pw_pos k; omega)
        omega
      · have:wv (u'.drop k)=0:=by omega
        rw [this,Int.mul_zero] at h5
        omega
     have t0:=(r1_trim (E:=E) (ws:=words (n*f)++[0,0]) (k:=L+2) (by omega) (by omega)).at (args:=[]) rfl rfl rfl rfl (objs:=[some .dead,some .dead,some (.vec A3 [[.u32 0],[.u32 0]]),some (.vec A3 (Wr (words (n*f)++[0,0])))]) (l:=3) rfl
     have ht0:trimN (words (n*f)++[0,0]) (L+2)=L:=by
      have:=trimN_zeros (words (n*f)) 2
      rw [← hL,show List.replicate 2 (0:Int)=[0,0] from rfl] at this
      rw [this,hL,trimN_canon]
     rw [ht0] at t0
     have t1:=(r1_trim (E:=E) (ws:=u') (k:=k) (by omega) (by omega)).at (args:=[]) rfl rfl rfl rfl (objs:=[some .dead,some .dead,some (.vec A3 [[.u32 0],[.u32 0]]),some (.vec A3 (Wr u')),some (.vec A3 (Wr q'))]) (l:=3) rfl
     have t2:=(r1_trim (E:=E) (ws:=q') (k:=(words n).length+1 - k) (by omega) (by omega)).at (args:=[]) rfl rfl rfl rfl (objs:=[some .dead,some .dead,some (.vec A3 [[.u32 0],[.u32 0]]),some (.fro (Wr u')),some (.vec A3 (Wr q'))]) (l:=4) rfl
     have w1:=trimN_words r2 (k:=k) (by omega)
     rw [hul,Int.toNat_natCast] at w1
     have w2:=trimN_words r4 (k:=(words n).length+1 - k) (by omega)
     rw [← r5,List.take_length,hQ,r5,Int.toNat_natCast] at w2
     have hRl:(words R).length < 35184372088000:=by
      have:=congrArg List.length w1
      rw [List.length_take] at this
      have:=trimN_le u' k
      omega
     have hby:=r1_small (E:=E) (n:=R) (w:=f) ⟨by omega,by omega⟩ hRl
     rw [hRf,show words R=u'.take (trimN u' k) from w1.symm,← Wr_take] at hby
     rw [d1,d2]
     have hTm:=r1_Times (E:=E) (m:=m) (n:=f) (by omega)
     have hTn:=r1_Times (E:=E) (m:=n) (n:=f) (by omega)
     have hWl:((Wr (words m)).length:Int)=k:=by rw [Wr_len,← hk]
     have hlq:(((words n).length+1 - k:Nat):Int)=(words n).length+1 - k:=by omega
     exact x8w (v2:=(k:Int) - 1) (v3:=t) (v4:=t) (v5:=t+1) (v6:=(f:Int)) (v7:=(f:Int)) (v8:=Wr (words f)) (v9:=Wr (words (m*f))) (v10:=Wr (words (n*f))) (v11:=Wr (words (n*f))) (v12:=L) (v13:=Wr (words (n*f)++[0,0])) (v14:=L+2) (v15:=((words n).length:Int)+1) (v16:=L) (v17:=((words n).length:Int)+1) (v18:=(words n).length+1) (v19:=(((words n).length+1 - k:Nat):Int)) (v20:=(words n).length+1 - k) (v21:=Wr (List.replicate ((words n).length+1 - k) 0)) (v22:=(((words n).length+1 - k:Nat):Int) - 1) (v23:=Wr u') (v24:=Wr q') (v25:=k) (v26:=trimN u' k) (v27:=(f:Int)) (v31:=trimN q' ((words n).length+1 - k))
      (wi (by rw [hWl]; omega)) (wi (by omega)) (wi (by omega)) (wi ⟨tdv (by omega) hf.symm,by omega,by omega⟩) (w32 (by omega)) rfl (by rw [Wr_len,← hL,Nat.zero_add]) (by
       rw [Wr_take,hL,List.take_length]
       show Wr (words (n*f))++Wr [0,0]=_
       exact Wr_append _ _) rfl (wi (by rw [Wr_len]; omega)) (by split <;> omega) (by omega) (wi (by rw [hWl]; omega)) (Int.toNat_natCast _) (Wr_replicate _ _) (wi (by omega)) (by rw [hWl,Int.toNat_natCast]) rfl (by rw [Wr_take,w2])
      hc hc' (by rw [hWl]; omega) (by omega) (by rw [show Int.toNat ((k:Int) - 1)=k - 1 by omega,et]; exact Wr_getD (by omega)) (by omega) (r1_Small (by omega)) hTm hTn (Wr_one _) (by rw [Wr_len]; omega) (by omega) t0 (by omega) (by omega) (by rw [hWl]; exact r1) (by rw [hWl]; omega) t1 (by rw [hfe]; rfl) hby t2
theorem r1_gcd_small:∀ (t y x:Nat),y < t→Lp E 0 D9 1 (z3o x y) (.exit 2) (z4c (Nat.gcd x y:Nat))
 | 0,y,x,h=>by omega
 | t+1,y,x,h=>by
  by_cases h0:y=0
  · subst h0
    rw [Nat.gcd_zero_right]
    exact y5c rfl
  · have hm:=Nat.mod_lt x (show 0 < y by omega)
    have e:Nat.gcd x y=Nat.gcd y (x % y):=(Nat.gcd_comm x y).trans ((Nat.gcd_rec y x).trans (Nat.gcd_comm _ _))
    rw [e]
    exact y8w (v1:=((x % y:Nat):Int)) (tmd (by omega) rfl) (by omega) (by omega) (r1_gcd_small t (x % y) y (by omega))
theorem r1_gcd_loop {L:Nat} (hL:L < 1099511627776):∀ (t n m:Nat),n < t→(words m).length≤L→(words n).length≤L →
    (Lp E 0 D9 0 (O5 (Wr (words m)) (Wr (words n))) .ret (z4a (Wr (words (Nat.gcd m n))))) ∨
    (Lp E 0 D9 0 (O5 (Wr (words m)) (Wr (words n))) (.exit 0) (z4b (Wr (words (Nat.gcd m n)))))
 | 0,n,m,h,_,_=>by omega
 | t+1,n,m,h,hm,hn=>by
  by_cases h0:n=0
  · subst h0
    rw [Nat.gcd_zero_right,words_zero]
    exact .inr (y5b (by simp [Wr]))
  · have hpos:((Wr (words n)).length:Int) > 0:=by
     have:words n≠[]:=fun h=>h0 (words_nil.1 h)
     have:=len_pos this
     rw [Wr_len]; omega
    have hr:=Nat.mod_lt m (show 0 < n by omega)
    have e:Nat.gcd m n=Nat.gcd n (m % n):=(Nat.gcd_comm m n).trans ((Nat.gcd_rec n m).trans (Nat.gcd_comm _ _))
    have hrl:(words (m % n)).length≤L:=Nat.le_trans ((words_tr _).length_le (words_wd _) (words_wd n) (by rw [words_val,words_val]; omega)) hn
    have hd:=r1_Over (E:=E) (m:=n) (n:=m) h0 (by omega)
    by_cases s1:(words m).length≤2
    · by_cases s2:(words n).length≤2
      · have hg:Nat.gcd m n≤n:=Nat.gcd_le_right m (by omega)
        have hn2:=words_len.1 s2
        exact .inl (y5a hpos (by rw [Wr_len]; omega) (by rw [Wr_len]; omega) (r1_word s1) (r1_word s2) (r1_gcd_small (n+1) n m (by omega)) (r1_wide (by omega)))
      · rw [e]
        rcases r1_gcd_loop hL t (m % n) n (by omega) hn hrl with ih | ih
        · exact .inl (z8u hpos (by rw [Wr_len]; omega) (by rw [Wr_len]; omega) hd ih)
        · exact .inr (z8u hpos (by rw [Wr_len]; omega) (by rw [Wr_len]; omega) hd ih)
    · rw [e]
      rcases r1_gcd_loop hL t (m % n) n (by omega) hn hrl with ih | ih
      · exact .inl (z8v hpos (by rw [Wr_len]; omega) hd ih)
      · exact .inr (z8v hpos (by rw [Wr_len]; omega) hd ih)
theorem r1_Common {m n L:Nat} (hL:L < 1099511627776) (hm:(words m).length≤L) (hn:(words n).length≤L):Fn E D9 [.c (.list (Wr (words m))),.c (.list (Wr (words n)))] (.c (.list (Wr (words (Nat.gcd m n))))):=by
 rcases r1_gcd_loop (E:=E) hL (n+1) n m (by omega) hm hn with h | h
 · exact x6a h
 · exact x6b h
end Gev
namespace Gev
open Go Gb
variable {E:Env}
def Br (l:List UInt8):List (List DV):=l.map fun c=>[.u8 (c.toNat:Int)]
theorem Br_take (l:List UInt8) (n:Nat):(Br l).take n=Br (l.take n):=by simp [Br,List.map_take]
theorem Br_snoc (l:List UInt8) (c:UInt8):Br l++[[.u8 (c.toNat:Int)]]=Br (l++[c]):=by simp [Br]
theorem Br_set (l:List UInt8) (n:Nat) (c:UInt8):(Br l).set n [.u8 (c.toNat:Int)]=Br (l.set n c):=by simp [Br,List.map_set]
theorem Br_get {l:List UInt8} {i:Nat} {c:UInt8} (h:l[i]?=some c):(Br l)[i]?=some [.u8 (c.toNat:Int)]:=by simp [Br,h]
theorem Br_byte (l:List UInt8):∀ x∈Br l,IsByte x:=by intro x hx; simp [Br] at hx; obtain ⟨_,_,rfl⟩:=hx; trivial
theorem Br_text (l:List UInt8):ByteArray.mk (((Br l).map byteOf).toArray)=B l:=by
 have:(Br l).map byteOf=l:=by
  unfold Br
  rw [List.map_map]
  conv=>rhs; rw [← List.map_id l]
  refine List.map_congr_left fun c _=>?_
  show UInt8.ofNat (Int.toNat (c.toNat:Int))=c
  rw [Int.toNat_natCast]
  exact UInt8.ofNat_toNat
 rw [this]; rfl
def rdig (m:Nat):List UInt8:=if m=0 then [] else (dec m).reverse
theorem rdig_step {m:Nat} (h:m≠0):rdig m=UInt8.ofNat (48+m % 10)::rdig (m / 10):=by
 unfold rdig
 rw [if_neg h]
 by_cases h1:m < 10
 · rw [dec_small h1,if_pos (by omega),Nat.mod_eq_of_lt h1]; rfl
 · rw [dec_big (by omega),if_neg (by omega),List.reverse_append]; rfl
theorem r1_digits {x0:List (List DV)} {i:Nat} {last:Bool} (hlast:if last then (i:Int)+1=x0.length else (i:Int)+1 < x0.length) (hx:x0.length < 4611686018427387904) {H T:Nat} (hH:if last then H=0 else 0 < H) (hT:T < 35184372088832) :
    ∀ (d k w:Nat) (out:List UInt8),k+d=9→w < 10 ^ d→out.length+(rdig (w+10 ^ d*H)).length=T →
    ∃ out',Lp E 1 H9 1 (z2h x0 out.length i w k (Br out)) (.exit 2) (z4q x0 i out'.length (Br out'))∧out'++rdig H=out++rdig (w+10 ^ d*H)
 | 0,k,w,out,hk,hw,_=>by
  have:w=0:=by simpa using hw
  subst this
  exact ⟨out,x0z (by omega),by simp⟩
 | d+1,k,w,out,hk,hw,hT'=>by
  obtain ⟨m,em⟩:∃ m,m=w+10 ^ (d+1)*H:=⟨_,rfl⟩
  rw [← em] at hT' ⊢
  have e10:10 ^ (d+1)*H=10*(10 ^ d*H):=by rw [Nat.pow_succ]; grind
  by_cases hstop:m=0
  · -- nothing is left
    have hw0:w=0:=by omega
    have hlt:last=true:=by
     cases last with
     | true=>rfl
     | false =>
      simp only [Bool.false_eq_true,if_false] at hH
      have:0 < 10 ^ (d+1)*H:=Nat.mul_pos (Nat.pow_pos (by decide)) hH
      omega
    subst hlt
    simp only [if_true] at hlast hH
    refine ⟨out,x0y (v1:=(i:Int)+1) (wi (by omega)) (by omega) (by omega) (by omega),?_⟩
    rw [hH,hstop]
  · have hrs:=rdig_step hstop
    have hm10:m % 10=w % 10:=by omega
    have hmd:m / 10=w / 10+10 ^ d*H:=by omega
    rw [hm10,hmd] at hrs
    have hlen:out.length+1≤T:=by rw [hrs] at hT'; simp at hT'; omega
    obtain ⟨out',k1,k2⟩:=r1_digits hlast hx hH hT d (k+1) (w / 10) (out++[UInt8.ofNat (48+w % 10)]) (by omega) (by rw [Nat.pow_succ] at hw; omega) (by rw [hrs] at hT'; simp at hT' ⊢; omega)
    refine ⟨out',?_,by rw [k2,hrs]; simp⟩
    have hdt:(UInt8.ofNat (48+w % 10)).toNat=48+w % 10:=digit_toNat _ (by omega)
    have hbr:((Br out).take out.length)++[[DV.u8 ((48:Int)+((w % 10:Nat):Int))]]=Br (out++[UInt8.ofNat (48+w % 10)]):=by
     rw [Br_take,List.take_length,← Br_snoc,hdt]
     have:((48+w % 10:Nat):Int)=48+((w % 10:Nat):Int):=by omega
     rw [this]
    have hwb:w < 1000000000:=by
     have:(10:Nat) ^ (d+1)≤10 ^ 9:=Nat.pow_le_pow_right (by decide) (by omega)
     rw [ten_nine] at this
     omega
    rw [show (out++[UInt8.ofNat (48+w % 10)]).length=out.length+1 by simp] at k1
    have hcap:(out.length+1)*1≤140737488355328∧out.length+1≤140737488355328:=by omega
    cases last with
    | true =>
     simp only [if_true] at hlast hH
     have hwp:w≠0:=by rw [hH] at em; simp at em; omega
     exact x4t (v1:=(i:Int)+1) (v2:=((w % 10:Nat):Int)) (v3:=48+((w % 10:Nat):Int)) (v4:=48+((w % 10:Nat):Int)) (v7:=((w / 10:Nat):Int)) (v8:=((k+1:Nat):Int)) (wi (by omega)) (tmd (by omega) (by omega)) (w32 (by omega)) (w8 (by omega)) hbr rfl (w32 ⟨tdv (by omega) (by omega),by omega,by omega⟩) (wi (by omega)) (by omega) (by omega) (by omega) hcap k1
    | false =>
     simp only [Bool.false_eq_true,if_false] at hlast
     exact x4s (v1:=(i:Int)+1) (v2:=((w % 10:Nat):Int)) (v3:=48+((w % 10:Nat):Int)) (v4:=48+((w % 10:Nat):Int)) (v7:=((w / 10:Nat):Int)) (v8:=((k+1:Nat):Int)) (wi (by omega)) (tmd (by omega) (by omega)) (w32 (by omega)) (w8 (by omega)) hbr rfl (w32 ⟨tdv (by omega) (by omega),by omega,by omega⟩) (wi (by omega)) (by omega) (by omega) hcap k1
theorem words_drop {n i:Nat} (hi:i < (words n).length):∃ H:Nat,wv ((words n).drop (i+1))=H∧(i+1 < (words n).length→0 < H)∧(i+1=(words n).length→H=0):=by
 have h0:=val_nonneg ((words_wd n).drop (i+1))
 refine ⟨(wv ((words n).drop (i+1))).toNat,by omega,fun h=>?_,fun h=>?_⟩
 · have ht:Gb.Tr ((words n).drop (i+1)):=by
    have:=words_tr n
    unfold Gb.Tr at this ⊢
    rw [List.getLast?_drop,if_neg (by omega)]
    exact this
   have hp:=ht.val_pos ((words_wd n).drop (i+1)) (by intro e; have:=congrArg List.length e; simp at this; omega)
   omega
 · rw [List.drop_eq_nil_of_le (by omega)]; rfl
theorem r1_to_loop {n T:Nat} (hT:T < 35184372088832) (hl:(words n).length < 4611686018427387904):∀ (d i m:Nat) (out:List UInt8),i+d=(words n).length→wv ((words n).drop i)=m→out.length+(rdig m).length=T →
    ∃ out',Lp E 0 H9 0 (z7r (Wr (words n)) out.length i (Br out)) (.exit 0) (z7o out'.length (Br out'))∧out'=out++rdig m
 | 0,i,m,out,hi,hm,hT'=>by
  rw [List.drop_eq_nil_of_le (by omega)] at hm
  have:m=0:=by simp [wv] at hm; omega
  subst this
  exact ⟨out,x3c (by rw [Wr_len]; omega),by simp [rdig]⟩
 | d+1,i,m,out,hi,hm,hT'=>by
  obtain ⟨H,hH,hpos,hz⟩:=words_drop (n:=n) (i:=i) (by omega)
  have hw:=(words_wd n).getD i
  obtain ⟨w,ew⟩:∃ w:Nat,(words n).getD i 0=w:=⟨((words n).getD i 0).toNat,by omega⟩
  rw [ew] at hw
  rw [wv_drop,ew,hH] at hm
  have em:m=w+10 ^ 9*H:=by rw [ten_nine]; omega
  have hcl:(if decide (i+1=(words n).length) then (i:Int)+1=(Wr (words n)).length else (i:Int)+1 < (Wr (words n)).length):=by
   rw [Wr_len]; split <;> rename_i h <;> simp at h <;> omega
  have hch:(if decide (i+1=(words n).length) then H=0 else 0 < H):=by
   split <;> rename_i h <;> simp at h
   · exact hz h
   · exact hpos (by omega)
  obtain ⟨out1,k1,k2⟩:=r1_digits (E:=E) (x0:=Wr (words n)) (i:=i) hcl (by rw [Wr_len]; omega) hch hT 9 0 w out (by omega) (by rw [ten_nine]; omega) (by rw [← em]; exact hT')
  rw [← em] at k2
  have hl1:out1.length+(rdig H).length=T:=by
   have:=congrArg List.length k2
   simp at this
   omega
  obtain ⟨out2,g1,g2⟩:=r1_to_loop hT hl d (i+1) H out1 (by omega) hH hl1
  refine ⟨out2,?_,by rw [g2,k2]⟩
  exact x6c (v1:=(w:Int)) (v4:=((i+1:Nat):Int)) (wi (by omega)) (by rw [Wr_len]; omega) (by omega) (by rw [← ew]; exact Wr_getD (by omega)) k1 g1
theorem rev_loop {o:List UInt8} {L:Nat} (hL:o.length=L) (hb:L < 35184372088832):∀ (t i:Nat) (cur:List UInt8),L≤t+2*i→2*i≤L+1→cur.length=L →
    (∀ j,j < L→cur[j]?=if j < i∨L - 1 - i < j then o[L - 1 - j]? else o[j]?) →
    ∃ cur',Lp E 1 H9 2 (z7s L i ((L:Int) - 1 - i) (Br cur)) (.exit 4) (z7p L (Br cur'))∧cur'=o.reverse
 | t,i,cur,ht,hi,hc,hinv=>by
  by_cases hend:(i:Int) < (L:Int) - 1 - i
  · cases t with
    | zero=>omega
    | succ t =>
     have hk:L - 1 - i < L:=by omega
     have e1:(L:Int) - 1 - i=((L - 1 - i:Nat):Int):=by omega
     obtain ⟨a,ha⟩:∃ a,cur[i]?=some a:=⟨cur[i],List.getElem?_eq_getElem (by omega)⟩
     obtain ⟨b,hb'⟩:∃ b,cur[L - 1 - i]?=some b:=⟨cur[L - 1 - i],List.getElem?_eq_getElem (by omega)⟩
     have hoa:o[i]?=some a:=by
      have:=hinv i (by omega)
      rw [ha,if_neg (by omega)] at this
      exact this.symm
     have hob:o[L - 1 - i]?=some b:=by
      have:=hinv (L - 1 - i) hk
      rw [hb',if_neg (by omega)] at this
      exact this.symm
     obtain ⟨cur',k1,k2⟩:=rev_loop hL hb t (i+1) ((cur.set i b).set (L - 1 - i) a) (by omega) (by omega) (by simpa using hc) (fun j hj=>by
      rw [List.getElem?_set,List.getElem?_set]
      by_cases c1:L - 1 - i=j
      · subst c1
        rw [if_pos rfl,if_pos (by simp; omega),if_pos (by omega),show L - 1 - (L - 1 - i)=i by omega]
        exact hoa.symm
      · rw [if_neg c1]
        by_cases c2:i=j
        · subst c2
          rw [if_pos rfl,if_pos (by omega),if_pos (by omega)]
          exact hob.symm
        · rw [if_neg c2,hinv j hj]
          by_cases c3:j < i∨L - 1 - i < j
          · rw [if_pos c3,if_pos (by omega)]
          · rw [if_neg c3,if_neg (by omega)])
     refine ⟨cur',?_,k2⟩
     have g1:(Br cur)[Int.toNat (i:Int)]?=some [.u8 (a.toNat:Int)]:=by rw [Int.toNat_natCast]; exact Br_get ha
     have g2:(Br cur)[Int.toNat ((L:Int) - 1 - i)]?=some [.u8 (b.toNat:Int)]:=by rw [e1,Int.toNat_natCast]; exact Br_get hb'
     obtain ⟨c,hcc⟩:∃ c,(cur.set i b)[L - 1 - i]?=some c:=⟨(cur.set i b)[L - 1 - i]'(by simp; omega),List.getElem?_eq_getElem _⟩
     exact x6d (v1:=(b.toNat:Int)) (v2:=(a.toNat:Int)) (v3:=Br (cur.set i b)) (v4:=(c.toNat:Int)) (v5:=Br ((cur.set i b).set (L - 1 - i) a)) (v6:=((i+1:Nat):Int)) (v7:=(L:Int) - 1 - ((i+1:Nat):Int))
      (by rw [Int.toNat_natCast,Br_set]) (by rw [e1,Int.toNat_natCast,Br_set]) (wi (by omega)) (wi (by omega)) (by omega) (by omega) g2 (by omega) g1 (by rw [e1,Int.toNat_natCast]; exact Br_get hcc) k1
  · refine ⟨cur,x3d (by omega),?_⟩
    apply List.ext_getElem?
    intro j
    rcases Nat.lt_or_ge j L with hj | hj
    · rw [hinv j hj,List.getElem?_reverse (by omega),hL]
      by_cases c:j < i∨L - 1 - i < j
      · rw [if_pos c]
      · rw [if_neg c]
        have:L - 1 - j=j:=by omega
        rw [this]
    · rw [List.getElem?_eq_none (by omega),List.getElem?_eq_none (by simp; omega)]
theorem r1_To {n K:Nat} (h:n < 10 ^ K) (hK:K≤Lim+Lim):Fn E H9 [.c (.list (Wr (words n)))] (.c (.str (B (dec n)))):=by
 have h1:=dec_le h
 have h2:=words_le h
 rw [Lim_val] at hK
 by_cases h0:n=0
 · subst h0
   rw [words_zero,dec_zero]
   exact k1p rfl
 · have hne:words n≠[]:=fun h=>h0 (words_nil.1 h)
   have hp:=len_pos hne
   have hr:rdig n=(dec n).reverse:=by unfold rdig; rw [if_neg h0]
   obtain ⟨out,k1,k2⟩:=r1_to_loop (E:=E) (n:=n) (T:=(dec n).length) (by omega) (by omega) (words n).length 0 n [] (by omega) (by rw [List.drop_zero,words_val]) (by rw [hr]; simp)
   rw [List.nil_append,hr] at k2
   have hol:out.length=(dec n).length:=by rw [k2]; simp
   obtain ⟨cur,g1,g2⟩:=rev_loop (E:=E) (o:=out) (L:=out.length) rfl (by omega) out.length 0 out (by omega) (by omega) rfl (fun j hj=>by rw [if_neg (by omega)])
   rw [show (out.length:Int) - 1 - ((0:Nat):Int)=(out.length:Int) - 1 by omega] at g1
   have hcur:cur=dec n:=by rw [g2,k2,List.reverse_reverse]
   refine k1q (v1:=out.length) (v2:=Br out) (v3:=(out.length:Int) - 1) (v4:=Br cur) (wi (by omega)) ?_ (by rw [Wr_len]; omega) k1 g1 ?_
   · rw [Br_take,List.take_of_length_le (by rw [hcur]; omega),hcur,Br_text]
   · rw [Br_take]; exact Br_byte _
end Gev
namespace Gev
open Go Gb
variable {E:Env}
def Zr (z:Int):List DV:=[.bool (decide (z < 0)),.list (Wr (words z.natAbs))]
theorem Zr_nat (n:Nat):Zr (n:Int)=[.bool false,.list (Wr (words n))]:=by unfold Zr; rw [decide_eq_false (by omega),Int.natAbs_natCast]
theorem Wr_pos {n:Nat}:((Wr (words n)).length:Int) > 0↔n≠0:=by
 rw [Wr_len]
 constructor
 · rintro h rfl; rw [words_zero] at h; simp at h
 · intro h
   have:=len_pos (fun e=>h (words_nil.1 e):words n≠[])
   omega
theorem r2_Make (neg:Bool) (n:Nat):Fn E I1 [.c (.bool neg),.c (.list (Wr (words n)))] (.agg (Zr (sgn neg n))):=by
 cases neg with
 | false =>
  have:Zr (sgn false n)=[.bool false,.list (Wr (words n))]:=by unfold sgn; simp [Zr_nat]
  rw [this]; exact x9d
 | true =>
  by_cases h:n=0
  · subst h
    have:Zr (sgn true 0)=[.bool false,.list (Wr (words 0))]:=by unfold Zr sgn; simp
    rw [this]; exact x9c (fun x=>Wr_pos.1 x rfl)
  · have:Zr (sgn true n)=[.bool true,.list (Wr (words n))]:=by
     unfold Zr sgn
     simp only [if_true,Int.natAbs_neg,Int.natAbs_natCast]
     rw [decide_eq_true (by omega)]
    rw [this]; exact x9b (Wr_pos.2 h)
theorem sgn_opp (z:Int):sgn (!decide (z < 0)) z.natAbs=-z:=by unfold sgn; split <;> rename_i h <;> simp at h <;> omega
theorem sgn_mul (a b:Int):sgn (!(decide (a < 0) == decide (b < 0))) (a.natAbs*b.natAbs)=a*b:=by
 unfold sgn
 have ea:(a.natAbs:Int)=if a < 0 then -a else a:=by split <;> omega
 have eb:(b.natAbs:Int)=if b < 0 then -b else b:=by split <;> omega
 rw [Int.natCast_mul,ea,eb]
 by_cases c:a < 0 <;> by_cases d:b < 0 <;> simp [c,d] <;> grind
theorem sgn_mul_nat (a:Int) (b:Nat):sgn (decide (a < 0)) (a.natAbs*b)=a*b:=by
 unfold sgn
 have ea:(a.natAbs:Int)=if a < 0 then -a else a:=by split <;> omega
 rw [Int.natCast_mul,ea]
 by_cases c:a < 0 <;> simp [c] <;> grind
theorem r2_Opposite (z:Int):Fn E z5f [.agg (Zr z)] (.agg (Zr (-z))):=by
 have:=r2_Make (E:=E) (!decide (z < 0)) z.natAbs
 rw [sgn_opp] at this
 exact x3g this
theorem wl {n K:Nat} (h:n < 10 ^ K):(words n).length≤K:=words_le h
theorem r2_Times {a b:Int} {K L:Nat} (ha:a.natAbs < 10 ^ K) (hb:b.natAbs < 10 ^ L) (h:K+L≤4*Lim):Fn E y0g [.agg (Zr a),.agg (Zr b)] (.agg (Zr (a*b))):=by
 rw [Lim_val] at h
 have h1:=wl ha
 have h2:=wl hb
 have hm:=r2_Make (E:=E) (!(decide (a < 0) == decide (b < 0))) (a.natAbs*b.natAbs)
 rw [sgn_mul] at hm
 exact x8f rfl (r1_Times (by omega)) hm
theorem r2_Plus {a b:Int} {K L:Nat} (ha:a.natAbs < 10 ^ K) (hb:b.natAbs < 10 ^ L) (hK:K≤4*Lim) (hL:L≤4*Lim):Fn E z3g [.agg (Zr a),.agg (Zr b)] (.agg (Zr (a+b))):=by
 rw [Lim_val] at hK hL
 have h1:=wl ha
 have h2:=wl hb
 by_cases hs:decide (a < 0)=decide (b < 0)
 · have hw:=r2_Make (E:=E) (decide (a < 0)) (a.natAbs+b.natAbs)
   have e:sgn (decide (a < 0)) (a.natAbs+b.natAbs)=a+b:=by
    unfold sgn
    rw [decide_eq_decide] at hs
    by_cases c:a < 0
    · have:=hs.1 c; rw [decide_eq_true c,if_pos rfl]; omega
    · have:¬ b < 0:=fun x=>c (hs.2 x)
      rw [decide_eq_false c,if_neg (by simp)]; omega
   rw [e] at hw
   exact x9e hs (r1_Plus (by omega) (by omega)) hw
 · have hc:=r1_Cmp (E:=E) (m:=a.natAbs) (n:=b.natAbs) (by omega)
   have hs':¬ (a < 0↔b < 0):=fun h=>hs (decide_eq_decide.2 h)
   by_cases c:a.natAbs < b.natAbs
   · have hw:=r2_Make (E:=E) (decide (b < 0)) (b.natAbs - a.natAbs)
     have e:sgn (decide (b < 0)) (b.natAbs - a.natAbs)=a+b:=by
      unfold sgn
      by_cases d:b < 0
      · have:¬ a < 0:=fun x=>hs' ⟨fun _=>d,fun _=>x⟩
        rw [decide_eq_true d,if_pos rfl]; omega
      · have:a < 0:=Classical.byContradiction fun x=>hs' ⟨fun y=>absurd y x,fun y=>absurd y d⟩
        rw [decide_eq_false d,if_neg (by simp)]; omega
     rw [e] at hw
     exact x9g hs hc (by have:=(cmpI_lt (a:=(a.natAbs:Int)) (b:=b.natAbs)).2 (by omega); omega) (r1_Minus (by omega) (by omega)) hw
   · have hw:=r2_Make (E:=E) (decide (a < 0)) (a.natAbs - b.natAbs)
     have e:sgn (decide (a < 0)) (a.natAbs - b.natAbs)=a+b:=by
      unfold sgn
      by_cases d:a < 0
      · have:¬ b < 0:=fun x=>hs' ⟨fun _=>x,fun _=>d⟩
        rw [decide_eq_true d,if_pos rfl]; omega
      · have:b < 0:=Classical.byContradiction fun x=>hs' ⟨fun y=>absurd y d,fun y=>absurd y x⟩
        rw [decide_eq_false d,if_neg (by simp)]; omega
     rw [e] at hw
     refine x9f hs hc ?_ (r1_Minus (by omega) (by omega)) hw
     have:¬ cmpI (a.natAbs:Int) b.natAbs < 0:=fun x=>by have:=cmpI_lt.1 x; omega
     omega
theorem r2_Minus {a b:Int} {K L:Nat} (ha:a.natAbs < 10 ^ K) (hb:b.natAbs < 10 ^ L) (hK:K≤4*Lim) (hL:L≤4*Lim):Fn E y0f [.agg (Zr a),.agg (Zr b)] (.agg (Zr (a - b))):=by
 rw [Int.sub_eq_add_neg]
 exact x8c (r2_Opposite b) (r2_Plus ha (b:=-b) (by rw [Int.natAbs_neg]; exact hb) hK hL)
theorem r2_Signum (z:Int):Fn E V8 [.agg (Zr z)] (.c (.i64 (cmpI z 0))):=by
 rcases Int.lt_trichotomy z 0 with c | c | c
 · have:Zr z=[.bool true,.list (Wr (words z.natAbs))]:=by unfold Zr; rw [decide_eq_true c]
   have e:cmpI z 0=-1:=by unfold cmpI; rw [if_pos c]
   rw [this,e]; exact x6g
 · subst c
   have e:cmpI 0 0=0:=rfl
   rw [e]; exact x6i (fun h=>Wr_pos.1 h rfl)
 · have:Zr z=[.bool false,.list (Wr (words z.natAbs))]:=by unfold Zr; rw [decide_eq_false (by omega)]
   have e:cmpI z 0=1:=by unfold cmpI; rw [if_neg (by omega),if_pos (by omega)]
   rw [this,e]; exact x6h (Wr_pos.2 (by omega))
theorem r2_Cmp {a b:Int} {K L:Nat} (ha:a.natAbs < 10 ^ K) (hb:b.natAbs < 10 ^ L) (hK:K≤4*Lim) (hL:L≤4*Lim):Fn E y3n [.agg (Zr a),.agg (Zr b)] (.c (.i64 (cmpI a b))):=by
 have h:=r2_Signum (E:=E) (a - b)
 rw [Int.sub_eq_add_neg,cmpI_sub] at h
 rw [← Int.sub_eq_add_neg] at h
 exact k0l (r2_Minus ha hb hK hL) h
theorem r2_Small {z:Int} (h:z.natAbs < 4294967296):Fn E z7n [.c (.i64 z)] (.agg (Zr z)):=by
 have hs:=r1_Small (E:=E) h
 by_cases c:z < 0
 · have hm:=r2_Make (E:=E) true z.natAbs
   rw [show sgn true z.natAbs=z by unfold sgn; simp; omega] at hm
   exact x8d (v1:=z.natAbs) (v2:=z.natAbs) (wi (by omega)) (w32 (by omega)) c hs hm
 · have hm:=r2_Make (E:=E) false z.natAbs
   rw [show sgn false z.natAbs=z by unfold sgn; simp; omega] at hm
   exact x8e (v1:=z.natAbs) (w32 (by omega)) c hs hm
theorem head0 (c:UInt8) (m:List UInt8):(((B (c::m)).data.toList.getD 0 0).toNat:Int)=(c.toNat:Int):=by rw [B_list]; rfl
theorem r2_Valid (l:List UInt8) (hl:l.length < 9223372036854775807):Fn E O3 [.c (.str (B l))] (.c (.bool (intB l))):=by
 unfold intB
 match l,hl with
 | [],hl=>exact y8c (by rw [B_size]; decide) (r1_Valid [] hl)
 | [c],hl =>
  have h0:=y8c (a0:=B [c]) (by rw [B_size]; simp) (r1_Valid (E:=E) [c] hl)
  rw [pre45]
  by_cases hc:c=45
  · subst hc; exact h0
  · rw [beq_eq_false_iff_ne.2 hc]; exact h0
 | c::d::m,hl =>
  rw [pre45]
  simp only [List.length_cons] at hl
  by_cases hc:c=45
  · subst hc
    simp only [beq_self_eq_true,if_true,List.drop_succ_cons,List.drop_zero]
    by_cases h48:d::m=[48]
    · rw [h48]
      exact x8h (head0 _ _) (by rw [B_size]; decide) (by rw [B_size]; decide) (by decide) rfl
    · rw [beq_eq_false_iff_ne.2 h48,Bool.not_false,Bool.and_true]
      refine x8g (v2:=B (d::m)) (head0 _ _) ?_ (by rw [B_size]; simp; omega) (by rw [B_size]; simp; omega) (by decide) (fun e=>h48 ?_) (by rw [B_size]; simp; omega) (r1_Valid (d::m) (by simp; omega))
      · rw [B_size,Int.toNat_natCast,B_extract,List.take_length]; rfl
      · have:=B_inj (l:=45::d::m) (m:=[45,48]) e
        exact (List.cons.inj this).2
  · rw [beq_eq_false_iff_ne.2 hc]
    exact x8i (head0 _ _) (by rw [B_size]; simp; omega) (by rw [B_size]; simp; omega) (fun e=>hc (UInt8.toNat_inj.1 (by simpa using Int.ofNat.inj e))) (r1_Valid (c::d::m) (by simp; omega))
theorem r2_Read {z:Int} {K:Nat} (hz:z.natAbs < 10 ^ K) (hK:K≤Lim):Fn E z2b [.c (.str (B (decZ z)))] (.agg (Zr z)):=by
 have hf:=r1_From_dec (E:=E) hz hK
 by_cases c:z < 0
 · have:Zr z=[.bool true,.list (Wr (words z.natAbs))]:=by unfold Zr; rw [decide_eq_true c]
   rw [this,decZ_neg c]
   refine x9h (v2:=B (dec z.natAbs)) (head0 _ _) ?_ (by rw [B_size]; simp) (by decide) (by rw [B_size]; simp; omega) hf
   rw [B_size,Int.toNat_natCast,B_extract,List.take_length]; rfl
 · have:Zr z=[.bool false,.list (Wr (words z.natAbs))]:=by unfold Zr; rw [decide_eq_false c]
   rw [this,decZ_nonneg (by omega)]
   cases hd:dec z.natAbs with
   | nil=>exact absurd hd (dec_ne _)
   | cons d m =>
    rw [hd] at hf
    refine x9i (head0 _ _) (by rw [B_size]; simp) (fun e=>?_) hf
    have:=dec_dg z.natAbs d (by rw [hd]; simp)
    omega
theorem r2_To {z:Int} {K:Nat} (hz:z.natAbs < 10 ^ K) (hK:K≤Lim+Lim):Fn E z8m [.agg (Zr z)] (.c (.str (B (decZ z)))):=by
 have ht:=r1_To (E:=E) hz hK
 have h1:=dec_le hz
 rw [Lim_val] at hK
 by_cases c:z < 0
 · have:Zr z=[.bool true,.list (Wr (words z.natAbs))]:=by unfold Zr; rw [decide_eq_true c]
   rw [this,decZ_neg c]
   exact k1r (by rw [B45,B_append]; rfl) ht (by rw [B45,B_size,B_size]; simp; omega)
 · have:Zr z=[.bool false,.list (Wr (words z.natAbs))]:=by unfold Zr; rw [decide_eq_false c]
   rw [this,decZ_nonneg (by omega)]
   exact k1s ht
end Gev
namespace Gev
open Go Gb
variable {E:Env}
def Qr (q:Rat):List DV:=[.bool (decide (q.num < 0)),.list (Wr (words q.num.natAbs)),.list (Wr (words q.den))]
theorem abs_cast (n:Nat):(n:Int).natAbs=n:=Int.natAbs_natCast n
theorem words_one:words 1=[1]:=by rw [words_pos (by decide)]; rw [show 1 / 1000000000=0 from rfl,words_zero]; rfl
theorem sgn_div (z:Int) {g:Nat} (hg:g≠0) (hd:(g:Int) ∣ z):sgn (decide (z < 0)) (z.natAbs / g)=z / (g:Int):=by
 obtain ⟨k,rfl⟩:=hd
 rw [Int.mul_ediv_cancel_left _ (by omega),Int.natAbs_mul,abs_cast,Nat.mul_div_cancel_left _ (by omega)]
 unfold sgn
 have hs:(g:Int)*k < 0↔k < 0:=by
  constructor
  · intro h
    refine Classical.byContradiction fun c=>?_
    have:=Int.mul_nonneg (show 0≤(g:Int) by omega) (show 0≤k by omega)
    omega
  · intro h; exact Int.mul_neg_of_pos_of_neg (by omega) h
 by_cases c:k < 0
 · rw [decide_eq_true (hs.2 c),if_pos rfl]; omega
 · rw [decide_eq_false (fun x=>c (hs.1 x)),if_neg (by simp)]; omega
theorem r3_lowest {z:Int} {d K L:Nat} (hz:z.natAbs < 10 ^ K) (hd:d < 10 ^ L) (hK:K≤4*Lim) (hL:L≤4*Lim) (h0:d≠0):Fn E z1r [.agg (Zr z),.c (.list (Wr (words d)))] (.agg (Qr (mkRat z d))):=by
 have w1:=wl hz
 have w2:=wl hd
 rw [Lim_val] at hK hL
 have hc:=r1_Common (E:=E) (m:=z.natAbs) (n:=d) (L:=max K L) (by omega) (by omega) (by omega)
 have e:Qr (mkRat z d)=[.bool (decide (z / (Nat.gcd z.natAbs d:Nat) < 0)),.list (Wr (words (z / (Nat.gcd z.natAbs d:Nat)).natAbs)),.list (Wr (words (d / Nat.gcd z.natAbs d)))]:=by
  unfold Qr; rw [mkRat_num h0,mkRat_den h0]
 have hg:Nat.gcd z.natAbs d≠0:=gcd_ne h0
 have hdv:((Nat.gcd z.natAbs d:Nat):Int) ∣ z:=by
  have:=Int.gcd_dvd_left z d
  exact this
 rw [e]
 generalize Nat.gcd z.natAbs d=g at *
 have hm:=r2_Make (E:=E) (decide (z < 0)) (z.natAbs / g)
 rw [sgn_div z hg hdv] at hm
 have o1:=r1_Over (E:=E) (m:=g) (n:=z.natAbs) hg (by omega)
 have o2:=r1_Over (E:=E) (m:=g) (n:=d) hg (by omega)
 by_cases h1:g=1
 · subst h1
   rw [show ((1:Nat):Int)=1 from rfl,Int.ediv_one,Nat.div_one]
   exact x6j (v2:=1) hc (by rw [words_one]; rfl) (by rw [words_one]; rfl) rfl
 · by_cases hl:((Wr (words g)).length:Int)=1
   · rw [Wr_len] at hl
     obtain ⟨w,hw⟩:∃ w,words g=[w]:=by
      cases hx:words g with
      | nil=>rw [hx] at hl; simp at hl
      | cons w m =>
       rw [hx] at hl
       cases m with
       | nil=>exact ⟨w,rfl⟩
       | cons=>simp at hl; omega
     refine x6k (v2:=w) hc (by rw [Wr_len]; exact hl) (by rw [hw]; rfl) (fun e=>h1 ?_) o1 o2 hm
     have:=words_val g
     rw [hw,e] at this
     have hv:wv [(1:Int)]=1:=by decide
     omega
   · exact x6l hc hl o1 o2 hm
theorem r3_Int {z:Int} (h:z.natAbs < 4294967296):Fn E J0 [.c (.i64 z)] (.agg (Qr (z:Rat))):=by
 have e:Qr (z:Rat)=[.bool (decide (z < 0)),.list (Wr (words z.natAbs)),.list (Wr (words 1))]:=by unfold Qr; rw [Rat.num_intCast,Rat.den_intCast]
 rw [e]
 exact k0s (r2_Small h) (r1_Small (n:=1) (by decide))
theorem r3_Neg (q:Rat):Fn E y3p [.agg (Qr q)] (.agg (Qr (-q))):=by
 have e:Qr (-q)=[.bool (decide (-q.num < 0)),.list (Wr (words (-q.num).natAbs)),.list (Wr (words q.den))]:=by unfold Qr; rw [Rat.neg_num,Rat.neg_den]
 rw [e]
 exact k0v (r2_Opposite q.num)
theorem r3_Mul {x y:Rat} {K L:Nat} (hx:Sz x K) (hy:Sz y L) (h:K+L≤4*Lim):Fn E P7 [.agg (Qr x),.agg (Qr y)] (.agg (Qr (x*y))):=by
 rw [Rat.mul_def']
 have w1:=wl hx.2
 have w2:=wl hy.2
 have hl:Lim=1000000000:=rfl
 exact k0u (r2_Times hx.1 hy.1 h) (r1_Times (by omega)) (r3_lowest (abs_mul_lt hx.1 hy.1) (mul_lt_pow hx.2 hy.2) (by omega) (by omega) (Nat.mul_ne_zero x.den_nz y.den_nz))
theorem r3_cross {x y:Rat} {K L:Nat} (hx:Sz x K) (hy:Sz y L) (h:K+L≤4*Lim):Fn E F2 [.c (.list (Wr (words x.num.natAbs))),.c (.list (Wr (words y.den)))] (.c (.list (Wr (words (x.num.natAbs*y.den)))))∧Fn E I1 [.c (.bool (decide (x.num < 0))),.c (.list (Wr (words (x.num.natAbs*y.den))))] (.agg (Zr (x.num*y.den))):=by
 have w1:=wl hx.1
 have w2:=wl hy.2
 have hl:Lim=1000000000:=rfl
 have hm:=r2_Make (E:=E) (decide (x.num < 0)) (x.num.natAbs*y.den)
 rw [sgn_mul_nat] at hm
 exact ⟨r1_Times (by omega),hm⟩
theorem cmpI_nat {m n:Nat}:cmpI m n=0↔m=n:=by rw [cmpI_zero]; omega
theorem r3_Add {x y:Rat} {K L:Nat} (hx:Sz x K) (hy:Sz y L) (h:K+L+1≤4*Lim):Fn E N3 [.agg (Qr x),.agg (Qr y)] (.agg (Qr (x+y))):=by
 have w1:=wl hx.2
 have w2:=wl hy.2
 have hl:Lim=1000000000:=rfl
 have hc:=r1_Cmp (E:=E) (m:=x.den) (n:=y.den) (by omega)
 by_cases c:x.den=y.den
 · have hp:=r2_Plus (E:=E) hx.1 hy.1 (by omega) (by omega)
   have e:x+y=mkRat (x.num+y.num) x.den:=by
    rw [Rat.add_def',← c,← Int.add_mul]
    have:=Rat.mkRat_mul_right (n:=x.num+y.num) (d:=x.den) (a:=x.den) x.den_nz
    exact this
   rw [e]
   exact k0m hc (cmpI_nat.2 c) hp (r3_lowest (abs_add_lt (pow_mono_lt hx.1 (show K≤max K L by omega)) (pow_mono_lt hy.1 (show L≤max K L by omega))) hx.2 (by omega) (by omega) x.den_nz)
 · rw [Rat.add_def']
   obtain ⟨t1,m1⟩:=r3_cross (E:=E) hx hy (by omega)
   obtain ⟨t2,m2⟩:=r3_cross (E:=E) hy hx (by omega)
   have a1:=abs_mul_lt (b:=(y.den:Int)) hx.1 (show (y.den:Int).natAbs < 10 ^ L from hy.2)
   have a2:=abs_mul_lt (b:=(x.den:Int)) hy.1 (show (x.den:Int).natAbs < 10 ^ K from hx.2)
   exact k0n hc (fun e=>c (cmpI_nat.1 e)) t1 m1 t2 m2 (r2_Plus a1 a2 (by omega) (by omega)) (r1_Times (by omega)) (r3_lowest (abs_add_lt a1 (by rw [Nat.add_comm K L]; exact a2)) (mul_lt_pow hx.2 hy.2) (by omega) (by omega) (Nat.mul_ne_zero x.den_nz y.den_nz))
theorem r3_Sub {x y:Rat} {K L:Nat} (hx:Sz x K) (hy:Sz y L) (h:K+L+1≤4*Lim):Fn E z6v [.agg (Qr x),.agg (Qr y)] (.agg (Qr (x - y))):=by
 rw [Rat.sub_eq_add_neg]
 exact k0w (r3_Neg y) (r3_Add hx hy.neg h)
theorem r3_Inv {x:Rat} (h:x≠0):Fn E y3o [.agg (Qr x)] (.agg (Qr x⁻¹)):=by
 have hn:x.num≠0:=fun e=>h (Rat.num_eq_zero.1 e)
 have hd:=Nat.pos_of_ne_zero x.den_nz
 have hm:=r2_Make (E:=E) (decide (x.num < 0)) x.den
 have e1:sgn (decide (x.num < 0)) x.den=x.num.sign*x.den:=by
  unfold sgn
  by_cases c:x.num < 0
  · rw [decide_eq_true c,if_pos rfl,Int.sign_eq_neg_one_of_neg c]; omega
  · rw [decide_eq_false c,if_neg (by simp),Int.sign_eq_one_of_pos (by omega)]; omega
 rw [e1] at hm
 have e:Qr x⁻¹=[.bool (decide (x.num.sign*x.den < 0)),.list (Wr (words (x.num.sign*x.den).natAbs)),.list (Wr (words x.num.natAbs))]:=by
  unfold Qr; rw [Rat.num_inv,Rat.den_inv,if_neg hn]
 rw [e]
 exact k0t hm
theorem r3_Div {x y:Rat} {K L:Nat} (hx:Sz x K) (hy:Sz y L) (h:K+L≤4*Lim) (h0:y≠0):Fn E z6u [.agg (Qr x),.agg (Qr y)] (.agg (Qr (x / y))):=by
 rw [Rat.div_def]
 exact k0r (r3_Inv h0) (r3_Mul hx hy.inv h)
theorem r3_Sign (x:Rat):Fn E H6 [.agg (Qr x)] (.c (.i64 (cmpI x.num 0))):=x9r (r2_Signum x.num)
theorem r3_Cmp {x y:Rat} {K L:Nat} (hx:Sz x K) (hy:Sz y L) (h:K+L≤4*Lim):Fn E z6t [.agg (Qr x),.agg (Qr y)] (.c (.i64 (cmpQ x y))):=by
 have s1:=r3_Sign (E:=E) x
 have s2:=r3_Sign (E:=E) y
 by_cases hs:cmpI x.num 0=cmpI y.num 0
 · obtain ⟨t1,m1⟩:=r3_cross (E:=E) hx hy (by omega)
   obtain ⟨t2,m2⟩:=r3_cross (E:=E) hy hx (by omega)
   have a1:=abs_mul_lt (b:=(y.den:Int)) hx.1 (show (y.den:Int).natAbs < 10 ^ L from hy.2)
   have a2:=abs_mul_lt (b:=(x.den:Int)) hy.1 (show (x.den:Int).natAbs < 10 ^ K from hx.2)
   exact k0q s1 s2 hs t1 m1 t2 m2 (r2_Cmp a1 a2 (by omega) (by omega))
 · rw [cmpQ_signs hs]
   by_cases c:cmpI x.num 0 < cmpI y.num 0
   · rw [if_pos c]; exact k0o s1 s2 hs c
   · rw [if_neg c]; exact k0p s1 s2 hs c
theorem r3_Less {x y:Rat} {K L:Nat} (hx:Sz x K) (hy:Sz y L) (h:K+L≤4*Lim):Fn E G2 [.agg (Qr x),.agg (Qr y)] (.c (.bool (decide (x < y)))):=by
 have hc:=r3_Cmp (E:=E) hx hy h
 by_cases c:x < y
 · rw [decide_eq_true c]; exact x9p hc (cmpQ_lt.2 c)
 · rw [decide_eq_false c]; exact x9q hc (fun e=>c (cmpQ_lt.1 e))
theorem r3_To {q:Rat} {K:Nat} (h:Sz q K) (hK:K≤Lim+Lim):Fn E P2 [.agg (Qr q)] (.c (.str (B (decQ q)))):=by
 have h1:=decZ_le h.1
 have h2:=den_lt h
 have t1:=r2_To (E:=E) h.1 hK
 have t2:=r1_To (E:=E) h.2 hK
 rw [Lim_val] at hK
 by_cases hd:q.den=1
 · rw [decQ_int hd]
   exact k1u t1 t2 (by rw [hd,dec_one]; rfl)
 · rw [decQ_frac hd]
   exact k1t (v3:=B (47::dec q.den)) (by rw [B47,B_append]; rfl) (by rw [B_append]) t1 t2 (fun e=>hd (by rw [B49] at e; exact dec_eq_one.1 (B_inj e))) (by rw [B47,B_size,B_size]; simp; omega) (by rw [B_size,B_size]; simp; omega)
theorem getD_byte {l:List UInt8} {i:Nat} {c:UInt8} (h:l[i]?=some c):(((B l).data.toList.getD (Int.toNat (i:Int)) 0).toNat:Int)=(c.toNat:Int):=by
 rw [B_list,Int.toNat_natCast,List.getD_eq_getElem?_getD,h]; rfl
theorem split_no {l:List UInt8} (h:(47:UInt8) ∉ l) (hl:l.length < 9223372036854775807):∀ d i,i+d=l.length→Lp E 0 I3 0 (z0g (B l) (i:Nat)) (.exit 0) (z5n (B l))
 | 0,i,hi=>y6z (by rw [B_size]; omega)
 | d+1,i,hi=>by
  obtain ⟨c,hc⟩:∃ c,l[i]?=some c:=⟨l[i]'(by omega),List.getElem?_eq_getElem _⟩
  refine y0a (v2:=((i+1:Nat):Int)) (getD_byte hc) (wi (by omega)) (by rw [B_size]; omega) (by rw [B_size]; omega) (fun e=>h ?_) (split_no h hl d (i+1) (by omega))
  have:c=47:=UInt8.toNat_inj.1 (by simpa using Int.ofNat.inj e)
  subst this
  exact List.mem_of_getElem? hc
theorem split_yes {p r:List UInt8} (h:(47:UInt8) ∉ p) (hl:(p++47::r).length < 9223372036854775807):∀ d i,i+d=p.length→Lp E 0 I3 0 (z0g (B (p++47::r)) (i:Nat)) .ret (z5m (B p) (B r))
 | 0,i,hi=>by
  simp only [List.length_append,List.length_cons] at hl
  have hc:(p++47::r)[i]?=some 47:=by rw [List.getElem?_append_right (by omega),show i - p.length=0 by omega]; rfl
  refine y6y (v3:=((i+1:Nat):Int)) (getD_byte hc) ?_ (wi (by omega)) ?_ (by rw [B_size]; simp; omega) (by rw [B_size]; simp; omega) (by decide) (by rw [B_size]; simp; omega) (by rw [B_size]; simp; omega)
  · rw [B_extract,Int.toNat_natCast,List.drop_zero,show i=p.length by omega,List.take_left]
  · rw [B_extract,B_size,Int.toNat_natCast,Int.toNat_natCast,List.take_length,show i+1=p.length+1 by omega,List.drop_append,List.drop_eq_nil_of_le (by omega)]
    rw [show p.length+1 - p.length=1 by omega]; rfl
 | d+1,i,hi=>by
  have hl':=hl
  simp only [List.length_append,List.length_cons] at hl'
  obtain ⟨c,hc⟩:∃ c,p[i]?=some c:=⟨p[i]'(by omega),List.getElem?_eq_getElem _⟩
  have hc':(p++47::r)[i]?=some c:=by rw [List.getElem?_append_left (by omega)]; exact hc
  refine y0a (v2:=((i+1:Nat):Int)) (getD_byte hc') (wi (by omega)) (by rw [B_size]; simp; omega) (by rw [B_size]; simp; omega) (fun e=>h ?_) (split_yes h hl d (i+1) (by omega))
  have:c=47:=UInt8.toNat_inj.1 (by simpa using Int.ofNat.inj e)
  subst this
  exact List.mem_of_getElem? hc
theorem cmp_one (n:Nat):(cmpI n 1 > 0↔1 < n)∧(cmpI n 1=0↔n=1):=by
 constructor
 · rw [cmpI_gt]; omega
 · rw [cmpI_zero]; omega
theorem r3_From {l:List UInt8} (hl:l.length≤Lim):Fn E D2 [.c (.str (B l))] (.tup [.agg (Qr ((rd l).getD 0)),.c (.bool (rd l).isSome)]):=by
 have hl':=hl
 rw [Lim_val] at hl'
 have hz:=r3_Int (E:=E) (z:=0) (by decide)
 rw [show ((0:Int):Rat)=0 from rfl] at hz
 have h1:=r1_Small (E:=E) (n:=1) (by decide)
 by_cases hs:(47:UInt8)∈l
 · obtain ⟨p,r,rfl,hp⟩:=first_slash l hs
   have hll:=hl
   simp only [List.length_append,List.length_cons] at hl hl'
   have hc:=x8j (split_yes (E:=E) (p:=p) (r:=r) hp (by simp; omega) p.length 0 (by omega))
   have hv:=r2_Valid (E:=E) p (by omega)
   have hnv:=r1_Valid (E:=E) r (by omega)
   have none_of:(∀ q,p++47::r≠decQ q)→rd (p++47::r)=none:=fun hq=>by
    cases e:rd (p++47::r) with
    | none=>rfl
    | some q=>exact absurd (rd_some e) (hq q)
   have shape:∀ q,p++47::r=decQ q→p=decZ q.num∧r=dec q.den∧q.den≠1:=by
    intro q e
    by_cases hd:q.den=1
    · rw [decQ_int hd] at e
      exact absurd (show (47:UInt8)∈decZ q.num by rw [← e]; simp) (not_mem_decZ _)
    · rw [decQ_frac hd] at e
      have:=cut_inj e hp (not_mem_decZ _)
      exact ⟨this.1,this.2,hd⟩
   cases hi:intB p with
   | false =>
    rw [none_of (fun q e=>by rw [(shape q e).1,intB_decZ] at hi; cases hi)]
    rw [hi] at hv
    exact x1b hc hv hz
   | true =>
    rw [hi] at hv
    cases hn:natB r with
    | false =>
     rw [none_of (fun q e=>by rw [(shape q e).2.1,natB_dec] at hn; cases hn)]
     rw [hn] at hnv
     exact x9o hc hv hnv hz
    | true =>
     rw [hn] at hnv
     obtain ⟨z,rfl⟩:=(intB_iff.1 hi).eq_decZ
     obtain ⟨n,rfl⟩:∃ n,r=dec n:=⟨_,(natB_iff.1 hn).eq_dec⟩
     have hzl:z.natAbs < 10 ^ (decZ z).length:=pow_mono_lt (lt_dec_length _) (dec_len_abs z)
     have hnl:=lt_dec_length n
     have r1:=r2_Read (E:=E) hzl (by omega)
     have r2:=r1_From_dec (E:=E) hnl (by omega)
     have w1:=wl hzl
     have w2:=wl hnl
     have c1:=r1_Cmp (E:=E) (m:=n) (n:=1) (by omega)
     have sg:=r2_Signum (E:=E) z
     have uq:∀ q,decZ z++47::dec n=decQ q→z=q.num∧n=q.den∧q.den≠1:=fun q e=>⟨decZ_inj (shape q e).1,dec_inj (shape q e).2.1,(shape q e).2.2⟩
     by_cases hn1:1 < n
     · by_cases hz0:z=0
       · rw [none_of (fun q e=>by
          obtain ⟨e1,e2,e3⟩:=uq q e
          have hr:=q.reduced
          rw [← e1,hz0] at hr
          simp at hr
          exact e3 hr)]
         exact x9l hc hv hnv r1 r2 h1 c1 ((cmp_one n).1.2 hn1) sg (by rw [cmpI_zero]; exact hz0) hz
       · have g:=r1_Common (E:=E) (m:=z.natAbs) (n:=n) (L:=max (decZ z).length (dec n).length) (by omega) (by omega) (by omega)
         have hgl:Nat.gcd z.natAbs n < 10 ^ (dec n).length:=Nat.lt_of_le_of_lt (Nat.gcd_le_right _ (by omega)) hnl
         have c2:=r1_Cmp (E:=E) (m:=Nat.gcd z.natAbs n) (n:=1) (by have:=wl hgl; omega)
         by_cases hg1:Nat.gcd z.natAbs n=1
         · obtain ⟨q,e1,e2,e3⟩:=decQ_mk z n hn1 hg1
           rw [← e3,rd_decQ,e3]
           have eq:Qr q=[.bool (decide (z < 0)),.list (Wr (words z.natAbs)),.list (Wr (words n))]:=by unfold Qr; rw [e1,e2]
           show Fn E D2 _ (.tup [.agg (Qr q),.c (.bool true)])
           rw [eq]
           exact x9j hc hv hnv r1 r2 h1 c1 ((cmp_one n).1.2 hn1) sg (by rw [cmpI_zero]; exact hz0) g c2 ((cmp_one _).2.2 hg1)
         · rw [none_of (fun q e=>by
            obtain ⟨e1,e2,e3⟩:=uq q e
            have hr:=q.reduced
            rw [← e1,← e2] at hr
            exact hg1 hr)]
           exact x9k hc hv hnv r1 r2 h1 c1 ((cmp_one n).1.2 hn1) sg (by rw [cmpI_zero]; exact hz0) g c2 (fun e=>hg1 ((cmp_one _).2.1 e)) hz
     · rw [none_of (fun q e=>by
        obtain ⟨e1,e2,e3⟩:=uq q e
        have:=q.den_nz
        omega)]
       exact x9m hc hv hnv r1 r2 h1 c1 (fun e=>hn1 ((cmp_one n).1.1 e)) hz
 · have hc:=x8k (split_no (E:=E) hs (by omega) l.length 0 (by omega))
   have hv:=r2_Valid (E:=E) l (by omega)
   have hnv:=r1_Valid (E:=E) [49] (by decide)
   rw [show natB [49]=true from by decide] at hnv
   cases hi:intB l with
   | false =>
    have:rd l=none:=by
     cases e:rd l with
     | none=>rfl
     | some q =>
      have e2:=rd_some e
      by_cases hd:q.den=1
      · rw [decQ_int hd] at e2; rw [e2,intB_decZ] at hi; cases hi
      · rw [decQ_frac hd] at e2; exact absurd (by rw [e2]; simp) hs
    rw [this]
    rw [hi] at hv
    exact x1b hc hv hz
   | true =>
    obtain ⟨z,rfl⟩:=(intB_iff.1 hi).eq_decZ
    rw [hi] at hv
    have hzl:z.natAbs < 10 ^ (decZ z).length:=pow_mono_lt (lt_dec_length _) (dec_len_abs z)
    have r2:=r1_From_dec (E:=E) (n:=1) (K:=1) (by decide) (by rw [Lim_val]; omega)
    rw [dec_one] at r2
    have e:rd (decZ z)=some (z:Rat):=by rw [← decQ_intCast,rd_decQ]
    rw [e]
    have eq:Qr ((some (z:Rat)).getD 0)=[.bool (decide (z < 0)),.list (Wr (words z.natAbs)),.list (Wr (words 1))]:=by
     show Qr (z:Rat)=_
     unfold Qr; rw [Rat.num_intCast,Rat.den_intCast]
    rw [eq]
    exact x9n hc hv hnv (r2_Read hzl (by omega)) r2
theorem r47_Num {l:List UInt8} (hl:l.length≤Lim):Fn E y3q [.c (.str (B l))] (.agg (Qr ((rd l).getD 0))):=k0x (r3_From hl)
end Gev
namespace Gev
open Go Gb
variable {E:Env}
abbrev Sq (q:Rat):AV:=.c (.str (B (decQ q)))
def R1 (l:List (List UInt8)):RW:=l.map fun p=>[.str (B p)]
def Q1 (l:List Rat):RW:=l.map fun p=>[.str (B (decQ p))]
theorem R1_len (l:List (List UInt8)):(R1 l).length=l.length:=by simp [R1]
theorem Q1_len (l:List Rat):(Q1 l).length=l.length:=by simp [Q1]
theorem R1_get {l:List (List UInt8)} {i:Nat} {x} (h:l[i]?=some x):(R1 l)[i]?=some [.str (B x)]:=by simp [R1,h]
theorem Q1_get {l:List Rat} {i:Nat} {x} (h:l[i]?=some x):(Q1 l)[i]?=some [.str (B (decQ x))]:=by simp [Q1,h]
noncomputable def ok1 (l:List UInt8):Bool:=(rd l).isSome
theorem ok1_dec (q:Rat):ok1 (decQ q)=true:=by unfold ok1; rw [rd_decQ]; rfl
theorem get_ex {α:Type} {l:List α} {i:Nat} (h:i < l.length):∃ c,l[i]?=some c:=⟨l[i],List.getElem?_eq_getElem h⟩
theorem drop_get {α:Type} {l:List α} {i:Nat} {c:α} (h:l[i]?=some c):l.drop i=c::l.drop (i+1):=by
 obtain ⟨h1,h2⟩:=List.getElem?_eq_some_iff.1 h
 rw [← h2]; exact List.drop_eq_getElem_cons h1
theorem take_get {α:Type} {l:List α} {i:Nat} {c:α} (h:l[i]?=some c):l.take (i+1)=l.take i++[c]:=by
 rw [List.take_add_one,h]; rfl
theorem sur_add (hlib:Lib E) {a b:Rat} {K L:Nat} (ha:Sz a K) (hb:Sz b L) (h:K+L+1≤Lim):Fn E I7 [Sq a,Sq b] (Sq (a+b)):=k0a (rational_Add_ok hlib ha hb h)
theorem sur_sub (hlib:Lib E) {a b:Rat} {K L:Nat} (ha:Sz a K) (hb:Sz b L) (h:K+L+1≤Lim):Fn E z0y [Sq a,Sq b] (Sq (a - b)):=k0f (rational_Sub_ok hlib ha hb h)
theorem sur_mul (hlib:Lib E) {a b:Rat} {K L:Nat} (ha:Sz a K) (hb:Sz b L) (h:K+L≤Lim):Fn E J6 [Sq a,Sq b] (Sq (a*b)):=k0e (rational_Mul_ok hlib ha hb h)
theorem sur_div (hlib:Lib E) {a b:Rat} {K L:Nat} (ha:Sz a K) (hb:Sz b L) (h:K+L≤Lim) (h0:b≠0):Fn E z5g [Sq a,Sq b] (Sq (a / b)):=k0b (rational_Div_ok hlib ha hb h h0)
theorem sur_compare (hlib:Lib E) {a b:Rat} {K L:Nat} (ha:Sz a K) (hb:Sz b L) (h:K+L≤Lim):Fn E G0 [Sq a,Sq b] (.c (.i64 (cmpQ a b))):=x3j (rational_Compare_ok hlib ha hb h)
theorem cell_zero:(AV.c (.str (⟨#[48]⟩:BA)))=Sq 0:=by unfold Sq; rw [decQ_zero]; rfl
theorem sur_sign (hlib:Lib E) {a:Rat} {K:Nat} (ha:Sz a K) (h:K+1≤Lim):Fn E M8 [Sq a] (.c (.i64 (cmpQ a 0))):=by
 have:=sur_compare hlib ha Sz.zero h
 rw [← cell_zero] at this
 exact x8q this
theorem index_Rat_loop (hlib:Lib E) {l:List (List UInt8)} (hl:l.length < 9223372036854775807) (hf:∀ x∈l,Fn E H7 [.c (.str (B x))] (.c (.bool (!ok1 x)))):∀ d i:Nat,i+d=l.length →
    (l.drop i).all ok1=true∧Lp E 0 D8 0 (G7 (R1 l) (l.length:Nat) (i:Nat)) (.exit 0) Y4 ∨
    (l.drop i).all ok1=false∧∃ v:Int,v≥0∧Lp E 0 D8 0 (G7 (R1 l) (l.length:Nat) (i:Nat)) .ret (Y3 v)
 | 0,i,hi=>.inl ⟨by rw [List.drop_eq_nil_of_le (by omega)]; rfl,z7u (by omega)⟩
 | d+1,i,hi=>by
  obtain ⟨c,hc⟩:=get_ex (l:=l) (i:=i) (by omega)
  have g:=R1_get hc
  rw [← Int.toNat_natCast i] at g
  have hx:=hf c (List.mem_of_getElem? hc)
  rw [drop_get hc,List.all_cons]
  cases ho:ok1 c with
  | false =>
   rw [ho] at hx
   exact .inr ⟨rfl,i,by omega,z7t (by omega) (by omega) g hx⟩
  | true =>
   rw [ho] at hx
   rw [Bool.true_and]
   have st:∀ {o s},Lp E 0 D8 0 (G7 (R1 l) (l.length:Nat) ((i+1:Nat):Int)) o s→Lp E 0 D8 0 (G7 (R1 l) (l.length:Nat) (i:Nat)) o s:=fun h=>z8w (wi (by omega)) (by omega) (by omega) g hx h
   rcases index_Rat_loop hlib hl hf d (i+1) (by omega) with ⟨h1,h2⟩ | ⟨h1,v,h2,h3⟩
   · exact .inl ⟨h1,st h2⟩
   · exact .inr ⟨h1,v,h2,st h3⟩
theorem contains_Rat (hlib:Lib E) {l:List (List UInt8)} (hl:l.length < 9223372036854775807) (hf:∀ x∈l,Fn E H7 [.c (.str (B x))] (.c (.bool (!ok1 x)))):Fn E Y2 [.c (.list (R1 l)),.fn H7 []] (.c (.bool (!l.all ok1))):=by
 have h:=index_Rat_loop hlib hl hf l.length 0 (by omega)
 rw [List.drop_zero,← R1_len l] at h
 rcases h with ⟨h1,h2⟩ | ⟨h1,v,h2,h3⟩
 · rw [h1]; exact z3r (z4t h2) (by decide)
 · rw [h1]; exact z3q (z4s h3) h2
theorem sur_valid (hlib:Lib E) {l:List (List UInt8)} (hl:l.length < 9223372036854775807) (hb:∀ x∈l,x.length≤Lim):Fn E D0 [.c (.list (R1 l))] (.c (.bool (l.all ok1))):=by
 have:=x7b (contains_Rat hlib hl fun x hx=>x3y (rational_Valid_ok hlib (hb x hx)))
 rwa [Bool.not_not] at this
def qsum {α:Type} (g:α→Rat):List α→Rat
 | []=>0
 | a::l=>g a+qsum g l
theorem qsum_cons {α:Type} (g:α→Rat) (a:α) (l:List α):qsum g (a::l)=g a+qsum g l:=rfl
theorem qsum_snoc {α:Type} (g:α→Rat) (l:List α) (a:α):qsum g (l++[a])=qsum g l+g a:=by
 induction l with
 | nil=>show g a+0=0+g a; rw [Rat.add_zero,Rat.zero_add]
 | cons b l ih=>show g b+qsum g (l++[a])=g b+qsum g l+g a; rw [ih,Rat.add_assoc]
theorem Sz_qsum {α:Type} {g:α→Rat} {K:Nat}:∀ {l:List α},(∀ a∈l,Sz (g a) K)→Sz (qsum g l) (1+l.length*(K+1))
 | [],_=>by rw [List.length_nil,Nat.zero_mul]; exact Sz.zero
 | a::l,h=>by
  have h1:=h a (by simp)
  have h2:=Sz_qsum (g:=g) (K:=K) (l:=l) (fun b hb=>h b (by simp [hb]))
  refine (h1.add h2).mono ?_
  rw [List.length_cons,Nat.add_mul]; omega
theorem Sz16 {α:Type} {g:α→Rat} {K M:Nat} {l:List α} (hn:l.length≤16) (h:∀ a∈l,Sz (g a) K) (hM:1+16*(K+1)≤M):Sz (qsum g l) M:=by
 refine (Sz_qsum h).mono ?_
 have:=Nat.mul_le_mul_right (K+1) hn
 omega
theorem qsum_congr {α:Type} {f g:α→Rat}:∀ {l:List α},(∀ a∈l,f a=g a)→qsum f l=qsum g l
 | [],_=>rfl
 | a::l,h=>by
  show f a+qsum f l=g a+qsum g l
  rw [h a (by simp),qsum_congr fun b hb=>h b (by simp [hb])]
theorem cmpQ_ne {a:Rat}:cmpQ a 0=0↔a=0:=cmpQ_zero
theorem Sz_len {n:Nat} (h:n≤16):Sz ((n:Int):Rat) 2:=Sz.int (by omega) (by rw [Int.natAbs_natCast]; omega)
theorem sur_number (hlib:Lib E) {n:Nat} (h:n≤1000):Fn E z3m [.c (.i64 n)] (Sq ((n:Int):Rat)):=by
 have:=hlib.itoa (n:Int) (by omega)
 unfold Sq
 rw [decQ_intCast]
 exact x5m this
theorem sq_nn (a:Rat):0≤a*a:=by
 rcases Rat.le_total (a:=0) (b:=a) with h | h
 · exact Rat.mul_nonneg h h
 · have h1:0≤-a:=by grind
   have:=Rat.mul_nonneg h1 h1
   grind
theorem qsum_nn {α:Type} {g:α→Rat} (h:∀ a,0≤g a):∀ l:List α,0≤qsum g l
 | []=>Rat.le_refl
 | a::l=>by
  have h1:=h a
  have h2:=qsum_nn h l
  rw [qsum_cons]
  grind
end Gev
namespace Gev
open Go Gb
abbrev P3:=Rat × Rat × Rat
def px (q:P3):Rat:=q.1
def py (q:P3):Rat:=q.2.1
def pz (q:P3):Rat:=q.2.2
def nS (qs:List P3):Rat:=((qs.length:Int):Rat)
def xS (qs:List P3):Rat:=qsum px qs
def yS (qs:List P3):Rat:=qsum py qs
def zS (qs:List P3):Rat:=qsum pz qs
def xxS (qs:List P3):Rat:=qsum (fun q=>px q*px q) qs
def xyS (qs:List P3):Rat:=qsum (fun q=>px q*py q) qs
def yyS (qs:List P3):Rat:=qsum (fun q=>py q*py q) qs
def xzS (qs:List P3):Rat:=qsum (fun q=>px q*pz q) qs
def yzS (qs:List P3):Rat:=qsum (fun q=>py q*pz q) qs
def det3 (a b c d e f g h i:Rat):Rat:=a*(e*i - f*h)+b*(f*g - d*i)+c*(d*h - e*g)
def dD (qs:List P3):Rat:=det3 (nS qs) (xS qs) (yS qs) (xS qs) (xxS qs) (xyS qs) (yS qs) (xyS qs) (yyS qs)
def dA (qs:List P3):Rat:=det3 (zS qs) (xS qs) (yS qs) (xzS qs) (xxS qs) (xyS qs) (yzS qs) (xyS qs) (yyS qs)
def dB (qs:List P3):Rat:=det3 (nS qs) (zS qs) (yS qs) (xS qs) (xzS qs) (xyS qs) (yS qs) (yzS qs) (yyS qs)
def dC (qs:List P3):Rat:=det3 (nS qs) (xS qs) (zS qs) (xS qs) (xxS qs) (xzS qs) (yS qs) (xyS qs) (yzS qs)
def off3 (a b c:Rat) (q:P3):Rat:=pz q - (a+(b*px q+c*py q))
def sq3 (a b c:Rat) (qs:List P3):Rat:=qsum (fun q=>off3 a b c q*off3 a b c q) qs
def fit3 (qs:List P3):Option (Rat × Rat × Rat):=if dD qs=0 then none else some (dA qs / dD qs,dB qs / dD qs,dC qs / dD qs)
def o0 (a b c:Rat) (qs:List P3):Rat:=qsum (off3 a b c) qs
def ox (a b c:Rat) (qs:List P3):Rat:=qsum (fun q=>off3 a b c q*px q) qs
def oy (a b c:Rat) (qs:List P3):Rat:=qsum (fun q=>off3 a b c q*py q) qs
theorem nS_cons (q:P3) (qs:List P3):nS (q::qs)=nS qs+1:=by
 unfold nS
 rw [List.length_cons]
 have:(((qs.length+1:Nat):Int):Rat)=((qs.length:Int):Rat)+1:=by
  rw [show ((qs.length+1:Nat):Int)=(qs.length:Int)+1 from rfl,Rat.intCast_add]; rfl
 exact this
theorem o0_eq (a b c:Rat):∀ qs,o0 a b c qs=zS qs - a*nS qs - b*xS qs - c*yS qs
 | []=>by show (0:Rat)=0 - a*(((0:Nat):Int):Rat) - b*0 - c*0; have:(((0:Nat):Int):Rat)=0:=rfl; rw [this]; grind
 | q::qs=>by
  have ih:=o0_eq a b c qs
  rw [nS_cons]
  unfold o0 zS xS yS at ih ⊢
  rw [qsum_cons,qsum_cons,qsum_cons,qsum_cons,ih]
  unfold off3
  grind
theorem ox_eq (a b c:Rat):∀ qs,ox a b c qs=xzS qs - a*xS qs - b*xxS qs - c*xyS qs
 | []=>by show (0:Rat)=0 - a*0 - b*0 - c*0; grind
 | q::qs=>by
  have ih:=ox_eq a b c qs
  unfold ox xzS xS xxS xyS at ih ⊢
  rw [qsum_cons,qsum_cons,qsum_cons,qsum_cons,qsum_cons,ih]
  unfold off3
  grind
theorem oy_eq (a b c:Rat):∀ qs,oy a b c qs=yzS qs - a*yS qs - b*xyS qs - c*yyS qs
 | []=>by show (0:Rat)=0 - a*0 - b*0 - c*0; grind
 | q::qs=>by
  have ih:=oy_eq a b c qs
  unfold oy yzS yS xyS yyS at ih ⊢
  rw [qsum_cons,qsum_cons,qsum_cons,qsum_cons,qsum_cons,ih]
  unfold off3
  grind
theorem div_of {x y:Rat} (h:y≠0):x / y*y=x:=by rw [Rat.div_def,Rat.mul_assoc,Rat.inv_mul_cancel _ h,Rat.mul_one]
theorem mul_zero_of {x y:Rat} (h:y≠0) (e:x*y=0):x=0:=(Rat.mul_eq_zero.1 e).resolve_right h
theorem fit3_normal {qs:List P3} {a b c:Rat} (h:fit3 qs=some (a,b,c)):o0 a b c qs=0∧ox a b c qs=0∧oy a b c qs=0∧dD qs≠0:=by
 unfold fit3 at h
 split at h
 · cases h
 · rename_i hD
   cases h
   have e1:=div_of (x:=dA qs) hD
   have e2:=div_of (x:=dB qs) hD
   have e3:=div_of (x:=dC qs) hD
   generalize dA qs / dD qs=a at e1 ⊢
   generalize dB qs / dD qs=b at e2 ⊢
   generalize dC qs / dD qs=c at e3 ⊢
   refine ⟨mul_zero_of hD ?_,mul_zero_of hD ?_,mul_zero_of hD ?_,hD⟩
   · rw [o0_eq]
     have:(zS qs - a*nS qs - b*xS qs - c*yS qs)*dD qs=zS qs*dD qs - dA qs*nS qs - dB qs*xS qs - dC qs*yS qs:=by rw [← e1,← e2,← e3]; grind
     rw [this]
     unfold dA dB dC dD det3
     generalize nS qs=n; generalize xS qs=x; generalize yS qs=y; generalize zS qs=z; generalize xxS qs=xx; generalize xyS qs=xy; generalize yyS qs=yy; generalize xzS qs=xz; generalize yzS qs=yz
     grind
   · rw [ox_eq]
     have:(xzS qs - a*xS qs - b*xxS qs - c*xyS qs)*dD qs=xzS qs*dD qs - dA qs*xS qs - dB qs*xxS qs - dC qs*xyS qs:=by rw [← e1,← e2,← e3]; grind
     rw [this]
     unfold dA dB dC dD det3
     generalize nS qs=n; generalize xS qs=x; generalize yS qs=y; generalize zS qs=z; generalize xxS qs=xx; generalize xyS qs=xy; generalize yyS qs=yy; generalize xzS qs=xz; generalize yzS qs=yz
     grind
   · rw [oy_eq]
     have:(yzS qs - a*yS qs - b*xyS qs - c*yyS qs)*dD qs=yzS qs*dD qs - dA qs*yS qs - dB qs*xyS qs - dC qs*yyS qs:=by rw [← e1,← e2,← e3]; grind
     rw [this]
     unfold dA dB dC dD det3
     generalize nS qs=n; generalize xS qs=x; generalize yS qs=y; generalize zS qs=z; generalize xxS qs=xx; generalize xyS qs=xy; generalize yyS qs=yy; generalize xzS qs=xz; generalize yzS qs=yz
     grind
theorem sq3_split (a b c d e f:Rat):∀ qs,sq3 d e f qs=sq3 a b c qs+2*(a - d)*o0 a b c qs+2*(b - e)*ox a b c qs+2*(c - f)*oy a b c qs+qsum (fun q=>((a - d)+(b - e)*px q+(c - f)*py q)*((a - d)+(b - e)*px q+(c - f)*py q)) qs
 | []=>by show (0:Rat)=0+2*(a - d)*0+2*(b - e)*0+2*(c - f)*0+0; grind
 | q::qs=>by
  have ih:=sq3_split a b c d e f qs
  unfold sq3 o0 ox oy at ih ⊢
  rw [qsum_cons,qsum_cons,qsum_cons,qsum_cons,qsum_cons,qsum_cons,ih]
  unfold off3
  generalize px q=x; generalize py q=y; generalize pz q=z
  grind
theorem sq3_least {a b c d e f:Rat} {qs:List P3} (h0:o0 a b c qs=0) (h1:ox a b c qs=0) (h2:oy a b c qs=0):sq3 a b c qs≤sq3 d e f qs:=by
 have h:=sq3_split a b c d e f qs
 have hn:=qsum_nn (g:=fun q:P3=>((a - d)+(b - e)*px q+(c - f)*py q)*((a - d)+(b - e)*px q+(c - f)*py q)) (fun q=>sq_nn _) qs
 generalize qsum (fun q:P3=>((a - d)+(b - e)*px q+(c - f)*py q)*((a - d)+(b - e)*px q+(c - f)*py q)) qs=Q at h hn
 have e:sq3 d e f qs=sq3 a b c qs+Q:=by rw [h,h0,h1,h2]; grind
 rw [e]
 clear h h0 h1 h2 e
 grind
theorem fit3_flat {qs:List P3} {a b c:Rat} (h:∀ q∈qs,off3 a b c q=0):fit3 qs=(if dD qs=0 then none else some (a,b,c))∧sq3 a b c qs=0:=by
 have z:∀ {g:P3→Rat} {qs:List P3},(∀ q∈qs,g q=0)→qsum g qs=0:=by
  intro g qs
  induction qs with
  | nil=>intro _; rfl
  | cons q qs ih=>intro h; rw [qsum_cons,h q List.mem_cons_self,ih fun y hy=>h y (List.mem_cons_of_mem _ hy),Rat.add_zero]
 refine ⟨?_,z fun q hq=>by rw [h q hq,Rat.zero_mul]⟩
 have z0:o0 a b c qs=0:=z h
 have z1:ox a b c qs=0:=z fun q hq=>by rw [h q hq,Rat.zero_mul]
 have z2:oy a b c qs=0:=z fun q hq=>by rw [h q hq,Rat.zero_mul]
 unfold fit3
 by_cases hD:dD qs=0
 · rw [if_pos hD,if_pos hD]
 · rw [if_neg hD,if_neg hD]
   rw [o0_eq] at z0
   rw [ox_eq] at z1
   rw [oy_eq] at z2
   have eA:dA qs=a*dD qs:=by
    unfold dA dD det3
    generalize nS qs=n at *; generalize xS qs=x at *; generalize yS qs=y at *; generalize zS qs=z at *; generalize xxS qs=xx at *; generalize xyS qs=xy at *; generalize yyS qs=yy at *; generalize xzS qs=xz at *; generalize yzS qs=yz at *
    have f0:z=a*n+b*x+c*y:=by grind
    have f1:xz=a*x+b*xx+c*xy:=by grind
    have f2:yz=a*y+b*xy+c*yy:=by grind
    subst f0 f1 f2
    clear z0 z1 z2 hD h
    grind
   have eB:dB qs=b*dD qs:=by
    unfold dB dD det3
    generalize nS qs=n at *; generalize xS qs=x at *; generalize yS qs=y at *; generalize zS qs=z at *; generalize xxS qs=xx at *; generalize xyS qs=xy at *; generalize yyS qs=yy at *; generalize xzS qs=xz at *; generalize yzS qs=yz at *
    have f0:z=a*n+b*x+c*y:=by grind
    have f1:xz=a*x+b*xx+c*xy:=by grind
    have f2:yz=a*y+b*xy+c*yy:=by grind
    subst f0 f1 f2
    clear z0 z1 z2 hD h eA
    grind
   have eC:dC qs=c*dD qs:=by
    unfold dC dD det3
    generalize nS qs=n at *; generalize xS qs=x at *; generalize yS qs=y at *; generalize zS qs=z at *; generalize xxS qs=xx at *; generalize xyS qs=xy at *; generalize yyS qs=yy at *; generalize xzS qs=xz at *; generalize yzS qs=yz at *
    have f0:z=a*n+b*x+c*y:=by grind
    have f1:xz=a*x+b*xx+c*xy:=by grind
    have f2:yz=a*y+b*xy+c*yy:=by grind
    subst f0 f1 f2
    clear z0 z1 z2 hD h eA eB
    grind
   have dv:∀ x y:Rat,y≠0→x*y / y=x:=fun x y h=>by rw [Rat.div_def,Rat.mul_assoc,Rat.mul_inv_cancel _ h,Rat.mul_one]
   rw [eA,eB,eC,dv _ _ hD,dv _ _ hD,dv _ _ hD]
def raise (u:Rat) (q:P3):P3:=(px q,py q,pz q+u)
theorem raise_sums (u:Rat) (qs:List P3):nS (qs.map (raise u))=nS qs∧xS (qs.map (raise u))=xS qs∧yS (qs.map (raise u))=yS qs∧xxS (qs.map (raise u))=xxS qs∧xyS (qs.map (raise u))=xyS qs∧yyS (qs.map (raise u))=yyS qs ∧
    zS (qs.map (raise u))=zS qs+u*nS qs∧xzS (qs.map (raise u))=xzS qs+u*xS qs∧yzS (qs.map (raise u))=yzS qs+u*yS qs:=by
 induction qs with
 | nil=>refine ⟨rfl,rfl,rfl,rfl,rfl,rfl,?_,?_,?_⟩ <;> (show (0:Rat)=0+u*0; grind)
 | cons q qs ih =>
  obtain ⟨h1,h2,h3,h4,h5,h6,h7,h8,h9⟩:=ih
  rw [List.map_cons]
  refine ⟨by rw [nS_cons,nS_cons,h1],?_,?_,?_,?_,?_,?_,?_,?_⟩
  · show px q+xS (qs.map (raise u))=px q+xS qs; rw [h2]
  · show py q+yS (qs.map (raise u))=py q+yS qs; rw [h3]
  · show px q*px q+xxS (qs.map (raise u))=px q*px q+xxS qs; rw [h4]
  · show px q*py q+xyS (qs.map (raise u))=px q*py q+xyS qs; rw [h5]
  · show py q*py q+yyS (qs.map (raise u))=py q*py q+yyS qs; rw [h6]
  · show (pz q+u)+zS (qs.map (raise u))=(pz q+zS qs)+u*nS (q::qs); rw [h7,nS_cons]; grind
  · show px q*(pz q+u)+xzS (qs.map (raise u))=(px q*pz q+xzS qs)+u*(px q+xS qs); rw [h8]; grind
  · show py q*(pz q+u)+yzS (qs.map (raise u))=(py q*pz q+yzS qs)+u*(py q+yS qs); rw [h9]; grind
theorem raise_fit {u:Rat} {qs:List P3}:fit3 (qs.map (raise u))=(fit3 qs).map fun p=>(p.1+u,p.2.1,p.2.2):=by
 obtain ⟨h1,h2,h3,h4,h5,h6,h7,h8,h9⟩:=raise_sums u qs
 have eD:dD (qs.map (raise u))=dD qs:=by unfold dD; rw [h1,h2,h3,h4,h5,h6]
 have eA:dA (qs.map (raise u))=dA qs+u*dD qs:=by
  unfold dA dD det3; rw [h2,h3,h4,h5,h6,h7,h8,h9]
  generalize nS qs=n; generalize xS qs=x; generalize yS qs=y; generalize zS qs=z; generalize xxS qs=xx; generalize xyS qs=xy; generalize yyS qs=yy; generalize xzS qs=xz; generalize yzS qs=yz
  clear h1 h2 h3 h4 h5 h6 h7 h8 h9
  grind
 have eB:dB (qs.map (raise u))=dB qs:=by
  unfold dB det3; rw [h1,h2,h3,h5,h6,h7,h8,h9]
  generalize nS qs=n; generalize xS qs=x; generalize yS qs=y; generalize zS qs=z; generalize xxS qs=xx; generalize xyS qs=xy; generalize yyS qs=yy; generalize xzS qs=xz; generalize yzS qs=yz
  clear h1 h2 h3 h4 h5 h6 h7 h8 h9
  grind
 have eC:dC (qs.map (raise u))=dC qs:=by
  unfold dC det3; rw [h1,h2,h3,h4,h5,h7,h8,h9]
  generalize nS qs=n; generalize xS qs=x; generalize yS qs=y; generalize zS qs=z; generalize xxS qs=xx; generalize xyS qs=xy; generalize yyS qs=yy; generalize xzS qs=xz; generalize yzS qs=yz
  clear h1 h2 h3 h4 h5 h6 h7 h8 h9
  grind
 unfold fit3
 rw [eD,eA,eB,eC]
 by_cases hD:dD qs=0
 · rw [if_pos hD,if_pos hD]; rfl
 · rw [if_neg hD,if_neg hD]
   have:(dA qs+u*dD qs) / dD qs=dA qs / dD qs+u:=by
    rw [Rat.div_def,Rat.add_mul,← Rat.div_def,Rat.mul_assoc,Rat.mul_inv_cancel _ hD,Rat.mul_one]
   rw [this]; rfl
theorem raise_sq (u a b c:Rat):∀ qs,sq3 (a+u) b c (qs.map (raise u))=sq3 a b c qs
 | []=>rfl
 | q::qs=>by
  have ih:=raise_sq u a b c qs
  unfold sq3 at ih ⊢
  rw [List.map_cons,qsum_cons,qsum_cons,ih]
  have:off3 (a+u) b c (raise u q)=off3 a b c q:=by
   show pz q+u - (a+u+(b*px q+c*py q))=pz q - (a+(b*px q+c*py q))
   grind
  rw [this]
end Gev
namespace Gev
open Go Gb
variable {E:Env}
attribute [local irreducible] Sz
abbrev QM:=List UInt8 × P3
abbrev Mk:=List UInt8 × List UInt8 × List UInt8 × List UInt8
def R4 (l:List Mk):RW:=l.map fun m=>[.str (B m.1),.str (B m.2.1),.str (B m.2.2.1),.str (B m.2.2.2)]
def Tm (ms:List QM):List Mk:=ms.map fun m=>(m.1,decQ (px m.2),decQ (py m.2),decQ (pz m.2))
def Q4 (ms:List QM):RW:=ms.map fun m=>[.str (B m.1),.str (B (decQ (px m.2))),.str (B (decQ (py m.2))),.str (B (decQ (pz m.2)))]
def pts (ms:List QM):List P3:=ms.map (·.2)
theorem Tm_R4 (ms:List QM):R4 (Tm ms)=Q4 ms:=by unfold R4 Tm Q4; rw [List.map_map]; rfl
theorem R4_len (l:List Mk):(R4 l).length=l.length:=by simp [R4]
theorem Q4_len (ms:List QM):(Q4 ms).length=ms.length:=by simp [Q4]
theorem Tm_len (ms:List QM):(Tm ms).length=ms.length:=by simp [Tm]
theorem pts_len (ms:List QM):(pts ms).length=ms.length:=by simp [pts]
theorem R4_get {l:List Mk} {i:Nat} {x} (h:l[i]?=some x):(R4 l)[i]?=some [.str (B x.1),.str (B x.2.1),.str (B x.2.2.1),.str (B x.2.2.2)]:=by simp [R4,h]
theorem Q4_get {l:List QM} {i:Nat} {x} (h:l[i]?=some x):(Q4 l)[i]?=some [.str (B x.1),.str (B (decQ (px x.2))),.str (B (decQ (py x.2))),.str (B (decQ (pz x.2)))]:=by simp [Q4,h]
def In3 (qs:List P3):Prop:=∀ q∈qs,Sz (px q) 4000∧Sz (py q) 4000∧Sz (pz q) 4000
theorem b_one:(⟨#[49]⟩:BA)=B (decQ 1):=by rw [decQ_int rfl,show (1:Rat).num=((1:Nat):Int) from rfl,decZ_nat,dec_one]; rfl
theorem b_zero:(⟨#[48]⟩:BA)=B (decQ 0):=by rw [decQ_zero]; rfl
theorem sur_product1 (hlib:Lib E) {a:Rat} {K:Nat} (ha:Sz a K) (h:K+1≤Lim):Fn E F4 [.c (.list [[.str (B (decQ a))]])] (Sq a):=by
 have m1:=sur_mul hlib Sz.one ha (by omega)
 rw [Rat.one_mul] at m1
 have l1:Lp E 0 F4 0 (z0q (B (decQ a)) [[.str (B (decQ a))]] 1 1) (.exit 0) (z0v (B (decQ a))):=z7f (by decide)
 have l0:=z4w (x3:=B (decQ 1)) (x8:=0) (v3:=1) (by decide) (by decide) (by decide) rfl m1 l1
 rw [← b_one] at l0
 exact y1v l0
theorem sur_product2 (hlib:Lib E) {a b:Rat} {K L:Nat} (ha:Sz a K) (hb:Sz b L) (h:K+L+1≤Lim):Fn E F4 [.c (.list [[.str (B (decQ a))],[.str (B (decQ b))]])] (Sq (a*b)):=by
 have m1:=sur_mul hlib Sz.one ha (by omega)
 rw [Rat.one_mul] at m1
 have m2:=sur_mul hlib ha hb (by omega)
 have l2:Lp E 0 F4 0 (z0q (B (decQ (a*b))) [[.str (B (decQ a))],[.str (B (decQ b))]] 2 2) (.exit 0) (z0v (B (decQ (a*b)))):=z7f (by decide)
 have l1:=z4w (x8:=1) (v3:=2) (by decide) (by decide) (by decide) rfl m2 l2
 have l0:=z4w (x3:=B (decQ 1)) (x8:=0) (v3:=1) (by decide) (by decide) (by decide) rfl m1 l1
 rw [← b_one] at l0
 exact y1v l0
theorem get_pts {ms:List QM} {i:Nat} {m:QM} (h:ms[i]?=some m):(pts ms)[i]?=some m.2:=by unfold pts; rw [List.getElem?_map,h]; rfl
theorem acc_step (hlib:Lib E) {qs:List P3} {g:P3→Rat} {K i:Nat} {q:P3} (hn:qs.length≤16) (hq:qs[i]?=some q) (hK:∀ q∈qs,Sz (g q) K) (hb:K≤50000000):Fn E I7 [Sq (qsum g (qs.take i)),Sq (g q)] (Sq (qsum g (qs.take (i+1)))):=by
 have hl:=Lim_val
 have h1:Sz (qsum g (qs.take i)) (1+16*(K+1)):=Sz16 (by rw [List.length_take]; omega) (fun a ha=>hK a (List.mem_of_mem_take ha)) (Nat.le_refl _)
 have h:=sur_add hlib h1 (hK q (List.mem_of_getElem? hq)) (by omega)
 rw [take_get hq,qsum_snoc]
 exact h
theorem sum_x_loop (hlib:Lib E) {ms:List QM} (hI:In3 (pts ms)) (hn:ms.length≤16):∀ d i:Nat,i+d=ms.length →
    Lp E 0 A0 0 (z6f (B (decQ (qsum px ((pts ms).take i)))) (Q4 ms) (ms.length:Nat) (i:Nat)) (.exit 0) (z6n (B (decQ (qsum px (pts ms)))))
 | 0,i,hi=>by
  rw [List.take_of_length_le (by rw [pts_len]; omega)]
  exact y9z (by omega)
 | d+1,i,hi=>by
  have hl:=Lim_val
  obtain ⟨m,hc⟩:=get_ex (l:=ms) (i:=i) (by omega)
  have hp:=get_pts hc
  have hm:=hI m.2 (List.mem_of_getElem? hp)
  have ha:=acc_step hlib (g:=px) (K:=4000) (by rw [pts_len]; omega) hp (fun q h=>(hI q h).1) (by omega)
  have e0:∀ x5 x13,Lp E 1 A0 1 (z3v x5 1 (Q4 ms) (ms.length:Nat) x13 1 1 (B m.1) (B (decQ (px m.2))) (B (decQ (py m.2))) (B (decQ (pz m.2))) [[.str (B (decQ (px m.2)))]]) (.exit 2) (z3t x5 (Q4 ms) (ms.length:Nat) x13 (B m.1) (B (decQ (px m.2))) (B (decQ (py m.2))) (B (decQ (pz m.2))) 1 [[.str (B (decQ (px m.2)))]]):=fun _ _=>x0a (by decide)
  have r0:∀ x5 x13,Lp E 1 A0 1 (z3v x5 0 (Q4 ms) (ms.length:Nat) x13 1 0 (B m.1) (B (decQ (px m.2))) (B (decQ (py m.2))) (B (decQ (pz m.2))) []) (.exit 2) (z3t x5 (Q4 ms) (ms.length:Nat) x13 (B m.1) (B (decQ (px m.2))) (B (decQ (py m.2))) (B (decQ (pz m.2))) 1 [[.str (B (decQ (px m.2)))]]):=fun x5 x13=>x3x rfl rfl (by decide) z4u (by decide) (e0 x5 x13)
  exact x3w (v10:=((i+1:Nat):Int)) rfl (wi (by omega)) (by omega) (by omega) (by rw [Int.toNat_natCast]; exact Q4_get hc) (r0 _ _) (sur_product1 hlib hm.1 (by omega)) ha (sum_x_loop hlib hI hn d (i+1) (by omega))
theorem sum_x (hlib:Lib E) {ms:List QM} (hI:In3 (pts ms)) (hn:ms.length≤16):Fn E A0 [.c (.list (Q4 ms)),.c (.list [[.fn A1]])] (Sq (xS (pts ms))):=by
 have h:=sum_x_loop hlib hI hn ms.length 0 (by omega)
 rw [List.take_zero,← Q4_len ms] at h
 have e:qsum px ([]:List P3)=0:=rfl
 rw [e,← b_zero] at h
 exact z9c h
theorem sum_y_loop (hlib:Lib E) {ms:List QM} (hI:In3 (pts ms)) (hn:ms.length≤16):∀ d i:Nat,i+d=ms.length →
    Lp E 0 A0 0 (z4x (B (decQ (qsum py ((pts ms).take i)))) (Q4 ms) (ms.length:Nat) (i:Nat)) (.exit 0) (z5p (B (decQ (qsum py (pts ms)))))
 | 0,i,hi=>by
  rw [List.take_of_length_le (by rw [pts_len]; omega)]
  exact y7m (by omega)
 | d+1,i,hi=>by
  have hl:=Lim_val
  obtain ⟨m,hc⟩:=get_ex (l:=ms) (i:=i) (by omega)
  have hp:=get_pts hc
  have hm:=hI m.2 (List.mem_of_getElem? hp)
  have ha:=acc_step hlib (g:=py) (K:=4000) (by rw [pts_len]; omega) hp (fun q h=>(hI q h).2.1) (by omega)
  have e0:∀ x5 x13,Lp E 1 A0 1 (z2x x5 1 (Q4 ms) (ms.length:Nat) x13 1 1 (B m.1) (B (decQ (px m.2))) (B (decQ (py m.2))) (B (decQ (pz m.2))) [[.str (B (decQ (py m.2)))]]) (.exit 2) (z2y x5 (Q4 ms) (ms.length:Nat) x13 (B m.1) (B (decQ (px m.2))) (B (decQ (py m.2))) (B (decQ (pz m.2))) 1 [[.str (B (decQ (py m.2)))]]):=fun _ _=>y7u (by decide)
  have r0:∀ x5 x13,Lp E 1 A0 1 (z2x x5 0 (Q4 ms) (ms.length:Nat) x13 1 0 (B m.1) (B (decQ (px m.2))) (B (decQ (py m.2))) (B (decQ (pz m.2))) []) (.exit 2) (z2y x5 (Q4 ms) (ms.length:Nat) x13 (B m.1) (B (decQ (px m.2))) (B (decQ (py m.2))) (B (decQ (pz m.2))) 1 [[.str (B (decQ (py m.2)))]]):=fun x5 x13=>x2a rfl rfl (by decide) z4v (by decide) (e0 x5 x13)
  exact x1s (v10:=((i+1:Nat):Int)) rfl (wi (by omega)) (by omega) (by omega) (by rw [Int.toNat_natCast]; exact Q4_get hc) (r0 _ _) (sur_product1 hlib hm.2.1 (by omega)) ha (sum_y_loop hlib hI hn d (i+1) (by omega))
theorem sum_y (hlib:Lib E) {ms:List QM} (hI:In3 (pts ms)) (hn:ms.length≤16):Fn E A0 [.c (.list (Q4 ms)),.c (.list [[.fn A2]])] (Sq (yS (pts ms))):=by
 have h:=sum_y_loop hlib hI hn ms.length 0 (by omega)
 rw [List.take_zero,← Q4_len ms] at h
 have e:qsum py ([]:List P3)=0:=rfl
 rw [e,← b_zero] at h
 exact z9d h
theorem sum_xx_loop (hlib:Lib E) {ms:List QM} (hI:In3 (pts ms)) (hn:ms.length≤16):∀ d i:Nat,i+d=ms.length →
    Lp E 0 A0 0 (z4y (B (decQ (qsum (fun q=>px q*px q) ((pts ms).take i)))) (Q4 ms) (ms.length:Nat) (i:Nat)) (.exit 0) (z5q (B (decQ (qsum (fun q=>px q*px q) (pts ms)))))
 | 0,i,hi=>by
  rw [List.take_of_length_le (by rw [pts_len]; omega)]
  exact y7n (by omega)
 | d+1,i,hi=>by
  have hl:=Lim_val
  obtain ⟨m,hc⟩:=get_ex (l:=ms) (i:=i) (by omega)
  have hp:=get_pts hc
  have hm:=hI m.2 (List.mem_of_getElem? hp)
  have ha:=acc_step hlib (g:=(fun q=>px q*px q)) (K:=8000) (by rw [pts_len]; omega) hp (fun q h=>(hI q h).1.mul (hI q h).1) (by omega)
  have e0:∀ x5 x13,Lp E 1 A0 1 (X1 x5 2 (Q4 ms) (ms.length:Nat) x13 2 2 (B m.1) (B (decQ (px m.2))) (B (decQ (py m.2))) (B (decQ (pz m.2))) [[.str (B (decQ (px m.2)))],[.str (B (decQ (px m.2)))]]) (.exit 2) (z1i x5 (Q4 ms) (ms.length:Nat) x13 (B m.1) (B (decQ (px m.2))) (B (decQ (py m.2))) (B (decQ (pz m.2))) 2 [[.str (B (decQ (px m.2)))],[.str (B (decQ (px m.2)))]]):=fun _ _=>y7v (by decide)
  have r1:∀ x5 x13,Lp E 1 A0 1 (X1 x5 1 (Q4 ms) (ms.length:Nat) x13 2 1 (B m.1) (B (decQ (px m.2))) (B (decQ (py m.2))) (B (decQ (pz m.2))) [[.str (B (decQ (px m.2)))]]) (.exit 2) (z1i x5 (Q4 ms) (ms.length:Nat) x13 (B m.1) (B (decQ (px m.2))) (B (decQ (py m.2))) (B (decQ (pz m.2))) 2 [[.str (B (decQ (px m.2)))],[.str (B (decQ (px m.2)))]]):=fun x5 x13=>x2c rfl rfl (by decide) z4u (by decide) (e0 x5 x13)
  have r0:∀ x5 x13,Lp E 1 A0 1 (X1 x5 0 (Q4 ms) (ms.length:Nat) x13 2 0 (B m.1) (B (decQ (px m.2))) (B (decQ (py m.2))) (B (decQ (pz m.2))) []) (.exit 2) (z1i x5 (Q4 ms) (ms.length:Nat) x13 (B m.1) (B (decQ (px m.2))) (B (decQ (py m.2))) (B (decQ (pz m.2))) 2 [[.str (B (decQ (px m.2)))],[.str (B (decQ (px m.2)))]]):=fun x5 x13=>x2b rfl rfl (by decide) z4u (by decide) (r1 x5 x13)
  exact x1t (v10:=((i+1:Nat):Int)) rfl (wi (by omega)) (by omega) (by omega) (by rw [Int.toNat_natCast]; exact Q4_get hc) (r0 _ _) (sur_product2 hlib hm.1 hm.1 (by omega)) ha (sum_xx_loop hlib hI hn d (i+1) (by omega))
theorem sum_xx (hlib:Lib E) {ms:List QM} (hI:In3 (pts ms)) (hn:ms.length≤16):Fn E A0 [.c (.list (Q4 ms)),.c (.list [[.fn A1],[.fn A1]])] (Sq (xxS (pts ms))):=by
 have h:=sum_xx_loop hlib hI hn ms.length 0 (by omega)
 rw [List.take_zero,← Q4_len ms] at h
 have e:qsum (fun q=>px q*px q) ([]:List P3)=0:=rfl
 rw [e,← b_zero] at h
 exact z4f h
theorem sum_xy_loop (hlib:Lib E) {ms:List QM} (hI:In3 (pts ms)) (hn:ms.length≤16):∀ d i:Nat,i+d=ms.length →
    Lp E 0 A0 0 (z4z (B (decQ (qsum (fun q=>px q*py q) ((pts ms).take i)))) (Q4 ms) (ms.length:Nat) (i:Nat)) (.exit 0) (z5r (B (decQ (qsum (fun q=>px q*py q) (pts ms)))))
 | 0,i,hi=>by
  rw [List.take_of_length_le (by rw [pts_len]; omega)]
  exact y7o (by omega)
 | d+1,i,hi=>by
  have hl:=Lim_val
  obtain ⟨m,hc⟩:=get_ex (l:=ms) (i:=i) (by omega)
  have hp:=get_pts hc
  have hm:=hI m.2 (List.mem_of_getElem? hp)
  have ha:=acc_step hlib (g:=(fun q=>px q*py q)) (K:=8000) (by rw [pts_len]; omega) hp (fun q h=>(hI q h).1.mul (hI q h).2.1) (by omega)
  have e0:∀ x5 x13,Lp E 1 A0 1 (X2 x5 2 (Q4 ms) (ms.length:Nat) x13 2 2 (B m.1) (B (decQ (px m.2))) (B (decQ (py m.2))) (B (decQ (pz m.2))) [[.str (B (decQ (px m.2)))],[.str (B (decQ (py m.2)))]]) (.exit 2) (z1j x5 (Q4 ms) (ms.length:Nat) x13 (B m.1) (B (decQ (px m.2))) (B (decQ (py m.2))) (B (decQ (pz m.2))) 2 [[.str (B (decQ (px m.2)))],[.str (B (decQ (py m.2)))]]):=fun _ _=>y7w (by decide)
  have r1:∀ x5 x13,Lp E 1 A0 1 (X2 x5 1 (Q4 ms) (ms.length:Nat) x13 2 1 (B m.1) (B (decQ (px m.2))) (B (decQ (py m.2))) (B (decQ (pz m.2))) [[.str (B (decQ (px m.2)))]]) (.exit 2) (z1j x5 (Q4 ms) (ms.length:Nat) x13 (B m.1) (B (decQ (px m.2))) (B (decQ (py m.2))) (B (decQ (pz m.2))) 2 [[.str (B (decQ (px m.2)))],[.str (B (decQ (py m.2)))]]):=fun x5 x13=>x2e rfl rfl (by decide) z4v (by decide) (e0 x5 x13)
  have r0:∀ x5 x13,Lp E 1 A0 1 (X2 x5 0 (Q4 ms) (ms.length:Nat) x13 2 0 (B m.1) (B (decQ (px m.2))) (B (decQ (py m.2))) (B (decQ (pz m.2))) []) (.exit 2) (z1j x5 (Q4 ms) (ms.length:Nat) x13 (B m.1) (B (decQ (px m.2))) (B (decQ (py m.2))) (B (decQ (pz m.2))) 2 [[.str (B (decQ (px m.2)))],[.str (B (decQ (py m.2)))]]):=fun x5 x13=>x2d rfl rfl (by decide) z4u (by decide) (r1 x5 x13)
  exact x1u (v10:=((i+1:Nat):Int)) rfl (wi (by omega)) (by omega) (by omega) (by rw [Int.toNat_natCast]; exact Q4_get hc) (r0 _ _) (sur_product2 hlib hm.1 hm.2.1 (by omega)) ha (sum_xy_loop hlib hI hn d (i+1) (by omega))
theorem sum_xy (hlib:Lib E) {ms:List QM} (hI:In3 (pts ms)) (hn:ms.length≤16):Fn E A0 [.c (.list (Q4 ms)),.c (.list [[.fn A1],[.fn A2]])] (Sq (xyS (pts ms))):=by
 have h:=sum_xy_loop hlib hI hn ms.length 0 (by omega)
 rw [List.take_zero,← Q4_len ms] at h
 have e:qsum (fun q=>px q*py q) ([]:List P3)=0:=rfl
 rw [e,← b_zero] at h
 exact z4g h
theorem sum_yy_loop (hlib:Lib E) {ms:List QM} (hI:In3 (pts ms)) (hn:ms.length≤16):∀ d i:Nat,i+d=ms.length →
    Lp E 0 A0 0 (z5a (B (decQ (qsum (fun q=>py q*py q) ((pts ms).take i)))) (Q4 ms) (ms.length:Nat) (i:Nat)) (.exit 0) (z5s (B (decQ (qsum (fun q=>py q*py q) (pts ms)))))
 | 0,i,hi=>by
  rw [List.take_of_length_le (by rw [pts_len]; omega)]
  exact y7p (by omega)
 | d+1,i,hi=>by
  have hl:=Lim_val
  obtain ⟨m,hc⟩:=get_ex (l:=ms) (i:=i) (by omega)
  have hp:=get_pts hc
  have hm:=hI m.2 (List.mem_of_getElem? hp)
  have ha:=acc_step hlib (g:=(fun q=>py q*py q)) (K:=8000) (by rw [pts_len]; omega) hp (fun q h=>(hI q h).2.1.mul (hI q h).2.1) (by omega)
  have e0:∀ x5 x13,Lp E 1 A0 1 (X3 x5 2 (Q4 ms) (ms.length:Nat) x13 2 2 (B m.1) (B (decQ (px m.2))) (B (decQ (py m.2))) (B (decQ (pz m.2))) [[.str (B (decQ (py m.2)))],[.str (B (decQ (py m.2)))]]) (.exit 2) (z1k x5 (Q4 ms) (ms.length:Nat) x13 (B m.1) (B (decQ (px m.2))) (B (decQ (py m.2))) (B (decQ (pz m.2))) 2 [[.str (B (decQ (py m.2)))],[.str (B (decQ (py m.2)))]]):=fun _ _=>y7x (by decide)
  have r1:∀ x5 x13,Lp E 1 A0 1 (X3 x5 1 (Q4 ms) (ms.length:Nat) x13 2 1 (B m.1) (B (decQ (px m.2))) (B (decQ (py m.2))) (B (decQ (pz m.2))) [[.str (B (decQ (py m.2)))]]) (.exit 2) (z1k x5 (Q4 ms) (ms.length:Nat) x13 (B m.1) (B (decQ (px m.2))) (B (decQ (py m.2))) (B (decQ (pz m.2))) 2 [[.str (B (decQ (py m.2)))],[.str (B (decQ (py m.2)))]]):=fun x5 x13=>x2g rfl rfl (by decide) z4v (by decide) (e0 x5 x13)
  have r0:∀ x5 x13,Lp E 1 A0 1 (X3 x5 0 (Q4 ms) (ms.length:Nat) x13 2 0 (B m.1) (B (decQ (px m.2))) (B (decQ (py m.2))) (B (decQ (pz m.2))) []) (.exit 2) (z1k x5 (Q4 ms) (ms.length:Nat) x13 (B m.1) (B (decQ (px m.2))) (B (decQ (py m.2))) (B (decQ (pz m.2))) 2 [[.str (B (decQ (py m.2)))],[.str (B (decQ (py m.2)))]]):=fun x5 x13=>x2f rfl rfl (by decide) z4v (by decide) (r1 x5 x13)
  exact x1v (v10:=((i+1:Nat):Int)) rfl (wi (by omega)) (by omega) (by omega) (by rw [Int.toNat_natCast]; exact Q4_get hc) (r0 _ _) (sur_product2 hlib hm.2.1 hm.2.1 (by omega)) ha (sum_yy_loop hlib hI hn d (i+1) (by omega))
theorem sum_yy (hlib:Lib E) {ms:List QM} (hI:In3 (pts ms)) (hn:ms.length≤16):Fn E A0 [.c (.list (Q4 ms)),.c (.list [[.fn A2],[.fn A2]])] (Sq (yyS (pts ms))):=by
 have h:=sum_yy_loop hlib hI hn ms.length 0 (by omega)
 rw [List.take_zero,← Q4_len ms] at h
 have e:qsum (fun q=>py q*py q) ([]:List P3)=0:=rfl
 rw [e,← b_zero] at h
 exact z4i h
theorem sum_z_loop (hlib:Lib E) {ms:List QM} (hI:In3 (pts ms)) (hn:ms.length≤16):∀ d i:Nat,i+d=ms.length →
    Lp E 0 A0 0 (z5b (B (decQ (qsum pz ((pts ms).take i)))) (Q4 ms) (ms.length:Nat) (i:Nat)) (.exit 0) (z5t (B (decQ (qsum pz (pts ms)))))
 | 0,i,hi=>by
  rw [List.take_of_length_le (by rw [pts_len]; omega)]
  exact y7q (by omega)
 | d+1,i,hi=>by
  have hl:=Lim_val
  obtain ⟨m,hc⟩:=get_ex (l:=ms) (i:=i) (by omega)
  have hp:=get_pts hc
  have hm:=hI m.2 (List.mem_of_getElem? hp)
  have ha:=acc_step hlib (g:=pz) (K:=4000) (by rw [pts_len]; omega) hp (fun q h=>(hI q h).2.2) (by omega)
  have e0:∀ x5 x13,Lp E 1 A0 1 (z2z x5 1 (Q4 ms) (ms.length:Nat) x13 1 1 (B m.1) (B (decQ (px m.2))) (B (decQ (py m.2))) (B (decQ (pz m.2))) [[.str (B (decQ (pz m.2)))]]) (.exit 2) (z3a x5 (Q4 ms) (ms.length:Nat) x13 (B m.1) (B (decQ (px m.2))) (B (decQ (py m.2))) (B (decQ (pz m.2))) 1 [[.str (B (decQ (pz m.2)))]]):=fun _ _=>y7y (by decide)
  have r0:∀ x5 x13,Lp E 1 A0 1 (z2z x5 0 (Q4 ms) (ms.length:Nat) x13 1 0 (B m.1) (B (decQ (px m.2))) (B (decQ (py m.2))) (B (decQ (pz m.2))) []) (.exit 2) (z3a x5 (Q4 ms) (ms.length:Nat) x13 (B m.1) (B (decQ (px m.2))) (B (decQ (py m.2))) (B (decQ (pz m.2))) 1 [[.str (B (decQ (pz m.2)))]]):=fun x5 x13=>x2h rfl rfl (by decide) z9b (by decide) (e0 x5 x13)
  exact x1w (v10:=((i+1:Nat):Int)) rfl (wi (by omega)) (by omega) (by omega) (by rw [Int.toNat_natCast]; exact Q4_get hc) (r0 _ _) (sur_product1 hlib hm.2.2 (by omega)) ha (sum_z_loop hlib hI hn d (i+1) (by omega))
theorem sum_z (hlib:Lib E) {ms:List QM} (hI:In3 (pts ms)) (hn:ms.length≤16):Fn E A0 [.c (.list (Q4 ms)),.c (.list [[.fn A7]])] (Sq (zS (pts ms))):=by
 have h:=sum_z_loop hlib hI hn ms.length 0 (by omega)
 rw [List.take_zero,← Q4_len ms] at h
 have e:qsum pz ([]:List P3)=0:=rfl
 rw [e,← b_zero] at h
 exact z9e h
theorem sum_xz_loop (hlib:Lib E) {ms:List QM} (hI:In3 (pts ms)) (hn:ms.length≤16):∀ d i:Nat,i+d=ms.length →
    Lp E 0 A0 0 (z5c (B (decQ (qsum (fun q=>px q*pz q) ((pts ms).take i)))) (Q4 ms) (ms.length:Nat) (i:Nat)) (.exit 0) (z5u (B (decQ (qsum (fun q=>px q*pz q) (pts ms)))))
 | 0,i,hi=>by
  rw [List.take_of_length_le (by rw [pts_len]; omega)]
  exact y7r (by omega)
 | d+1,i,hi=>by
  have hl:=Lim_val
  obtain ⟨m,hc⟩:=get_ex (l:=ms) (i:=i) (by omega)
  have hp:=get_pts hc
  have hm:=hI m.2 (List.mem_of_getElem? hp)
  have ha:=acc_step hlib (g:=(fun q=>px q*pz q)) (K:=8000) (by rw [pts_len]; omega) hp (fun q h=>(hI q h).1.mul (hI q h).2.2) (by omega)
  have e0:∀ x5 x13,Lp E 1 A0 1 (X4 x5 2 (Q4 ms) (ms.length:Nat) x13 2 2 (B m.1) (B (decQ (px m.2))) (B (decQ (py m.2))) (B (decQ (pz m.2))) [[.str (B (decQ (px m.2)))],[.str (B (decQ (pz m.2)))]]) (.exit 2) (z1l x5 (Q4 ms) (ms.length:Nat) x13 (B m.1) (B (decQ (px m.2))) (B (decQ (py m.2))) (B (decQ (pz m.2))) 2 [[.str (B (decQ (px m.2)))],[.str (B (decQ (pz m.2)))]]):=fun _ _=>y7z (by decide)
  have r1:∀ x5 x13,Lp E 1 A0 1 (X4 x5 1 (Q4 ms) (ms.length:Nat) x13 2 1 (B m.1) (B (decQ (px m.2))) (B (decQ (py m.2))) (B (decQ (pz m.2))) [[.str (B (decQ (px m.2)))]]) (.exit 2) (z1l x5 (Q4 ms) (ms.length:Nat) x13 (B m.1) (B (decQ (px m.2))) (B (decQ (py m.2))) (B (decQ (pz m.2))) 2 [[.str (B (decQ (px m.2)))],[.str (B (decQ (pz m.2)))]]):=fun x5 x13=>x2j rfl rfl (by decide) z9b (by decide) (e0 x5 x13)
  have r0:∀ x5 x13,Lp E 1 A0 1 (X4 x5 0 (Q4 ms) (ms.length:Nat) x13 2 0 (B m.1) (B (decQ (px m.2))) (B (decQ (py m.2))) (B (decQ (pz m.2))) []) (.exit 2) (z1l x5 (Q4 ms) (ms.length:Nat) x13 (B m.1) (B (decQ (px m.2))) (B (decQ (py m.2))) (B (decQ (pz m.2))) 2 [[.str (B (decQ (px m.2)))],[.str (B (decQ (pz m.2)))]]):=fun x5 x13=>x2i rfl rfl (by decide) z4u (by decide) (r1 x5 x13)
  exact x1x (v10:=((i+1:Nat):Int)) rfl (wi (by omega)) (by omega) (by omega) (by rw [Int.toNat_natCast]; exact Q4_get hc) (r0 _ _) (sur_product2 hlib hm.1 hm.2.2 (by omega)) ha (sum_xz_loop hlib hI hn d (i+1) (by omega))
theorem sum_xz (hlib:Lib E) {ms:List QM} (hI:In3 (pts ms)) (hn:ms.length≤16):Fn E A0 [.c (.list (Q4 ms)),.c (.list [[.fn A1],[.fn A7]])] (Sq (xzS (pts ms))):=by
 have h:=sum_xz_loop hlib hI hn ms.length 0 (by omega)
 rw [List.take_zero,← Q4_len ms] at h
 have e:qsum (fun q=>px q*pz q) ([]:List P3)=0:=rfl
 rw [e,← b_zero] at h
 exact z4h h
theorem sum_yz_loop (hlib:Lib E) {ms:List QM} (hI:In3 (pts ms)) (hn:ms.length≤16):∀ d i:Nat,i+d=ms.length →
    Lp E 0 A0 0 (z5d (B (decQ (qsum (fun q=>py q*pz q) ((pts ms).take i)))) (Q4 ms) (ms.length:Nat) (i:Nat)) (.exit 0) (z5v (B (decQ (qsum (fun q=>py q*pz q) (pts ms)))))
 | 0,i,hi=>by
  rw [List.take_of_length_le (by rw [pts_len]; omega)]
  exact y7s (by omega)
 | d+1,i,hi=>by
  have hl:=Lim_val
  obtain ⟨m,hc⟩:=get_ex (l:=ms) (i:=i) (by omega)
  have hp:=get_pts hc
  have hm:=hI m.2 (List.mem_of_getElem? hp)
  have ha:=acc_step hlib (g:=(fun q=>py q*pz q)) (K:=8000) (by rw [pts_len]; omega) hp (fun q h=>(hI q h).2.1.mul (hI q h).2.2) (by omega)
  have e0:∀ x5 x13,Lp E 1 A0 1 (X5 x5 2 (Q4 ms) (ms.length:Nat) x13 2 2 (B m.1) (B (decQ (px m.2))) (B (decQ (py m.2))) (B (decQ (pz m.2))) [[.str (B (decQ (py m.2)))],[.str (B (decQ (pz m.2)))]]) (.exit 2) (z1m x5 (Q4 ms) (ms.length:Nat) x13 (B m.1) (B (decQ (px m.2))) (B (decQ (py m.2))) (B (decQ (pz m.2))) 2 [[.str (B (decQ (py m.2)))],[.str (B (decQ (pz m.2)))]]):=fun _ _=>y8a (by decide)
  have r1:∀ x5 x13,Lp E 1 A0 1 (X5 x5 1 (Q4 ms) (ms.length:Nat) x13 2 1 (B m.1) (B (decQ (px m.2))) (B (decQ (py m.2))) (B (decQ (pz m.2))) [[.str (B (decQ (py m.2)))]]) (.exit 2) (z1m x5 (Q4 ms) (ms.length:Nat) x13 (B m.1) (B (decQ (px m.2))) (B (decQ (py m.2))) (B (decQ (pz m.2))) 2 [[.str (B (decQ (py m.2)))],[.str (B (decQ (pz m.2)))]]):=fun x5 x13=>x2l rfl rfl (by decide) z9b (by decide) (e0 x5 x13)
  have r0:∀ x5 x13,Lp E 1 A0 1 (X5 x5 0 (Q4 ms) (ms.length:Nat) x13 2 0 (B m.1) (B (decQ (px m.2))) (B (decQ (py m.2))) (B (decQ (pz m.2))) []) (.exit 2) (z1m x5 (Q4 ms) (ms.length:Nat) x13 (B m.1) (B (decQ (px m.2))) (B (decQ (py m.2))) (B (decQ (pz m.2))) 2 [[.str (B (decQ (py m.2)))],[.str (B (decQ (pz m.2)))]]):=fun x5 x13=>x2k rfl rfl (by decide) z4v (by decide) (r1 x5 x13)
  exact x1y (v10:=((i+1:Nat):Int)) rfl (wi (by omega)) (by omega) (by omega) (by rw [Int.toNat_natCast]; exact Q4_get hc) (r0 _ _) (sur_product2 hlib hm.2.1 hm.2.2 (by omega)) ha (sum_yz_loop hlib hI hn d (i+1) (by omega))
theorem sum_yz (hlib:Lib E) {ms:List QM} (hI:In3 (pts ms)) (hn:ms.length≤16):Fn E A0 [.c (.list (Q4 ms)),.c (.list [[.fn A2],[.fn A7]])] (Sq (yzS (pts ms))):=by
 have h:=sum_yz_loop hlib hI hn ms.length 0 (by omega)
 rw [List.take_zero,← Q4_len ms] at h
 have e:qsum (fun q=>py q*pz q) ([]:List P3)=0:=rfl
 rw [e,← b_zero] at h
 exact z4j h
end Gev
