/- The law of the last text of this claim: its walk, its plain words. -/
import Derived.Test.YtpjlnfpbkhcobaaGreatDoorF
import Derived.KernelRfl
import Derived.Test.YtpjlnfpbkhcobaaGreatDoorTie
import Derived.Test.YtpjlnfpbkhcobaaGreatDoorCards
set_option linter.unusedSectionVars false
set_option linter.unusedVariables false
set_option linter.unusedSimpArgs false
namespace Gev
open Go Go.Proofs
variable {E:Env}
variable {r0 r1 r2 r3 r4 r5 r6 r7 r8 r9 r10 r11 r12:RW} {i0 i1 i2 i3 i4 i5 i6:Int} {n0 n1:Nat} {s0 s1:BA} {b0 b1:Bool}
section
variable (h1:Fn E z2g [] (.b true))
include h1
section
variable (h2:Fn E G3 [.agg [.l r0,.l r1,.l r2]] (.b true))
include h2
theorem x9y (h3:(r3.length:Int) > 40):Fn E z5x [.agg [.l r0,.l r1,.l r2],.l r3] (.b true):=fnM (oF h1 (oF h2 (oT h3 oZ)))
theorem x9z (h3:¬ (r3.length:Int) > 40) (h4:Fn E z1c [.agg [.l r0,.l r1,.l r2]] (.agg [.l r4,.l r5,.l r6])) (h5:Rn E X2 [.l r3] [] (.vec 0 n0) [sV F2 r7]) (h6:Fn E z7r [.agg [.l r4,.l r5,.l r6],.l r8] (.tup [.l r9,.i i0])) (h7:Fn E V7 [.agg [.l r0,.l r1,.l r2],.l r3] (.tup [.l r10,.i i1])) (h8:Fn E J6 [.l r9,.l r10] (.b true)) (h9:i0=i1) (h10:Rn E X2 [.l r3] [] (.vec 0 n1) [sV F2 r11]) (h11:Fn E z1t [.agg [.l r4,.l r5,.l r6],.l r12] (.b b0)) (h12:Fn E y0g [.agg [.l r0,.l r1,.l r2],.l r3] (.b b1)) (h13:b0=b1) (e1:(r7.take n0)=r8) (e2:(r11.take n1)=r12):Fn E z5x [.agg [.l r0,.l r1,.l r2],.l r3] (.b true):=by subst e1 e2;exact fnM (oF h1 (oF h2 (oU h3 (oF h4 (oN h5 (oF h6 (oF h7 (oF h8 (oB (beT h9) (oF h4 (oN h10 (oF h11 (oF h12 (oB (beT h13) oZ))))))))))))))
end
theorem k0a (h2:Fn E G3 [.agg [.l r0,.l r1,.l r2]] (.b false)):Fn E z5x [.agg [.l r0,.l r1,.l r2],.l r3] (.b true):=fnM (oF h1 (oF h2 oZ))
end
theorem v3q (h1:Fn E k1l [] (.agg [.l r0,.l r1,.l r2])) (h2:Fn E y9j [.agg [.l r0,.l r1,.l r2],.i 0,.l r3] (.tup [.s s0,.i i0])) (h3:Fn E z7s [.agg [.l r0,.l r1,.l r2],.i 0,.l r3] (.tup [.s s1,.i i1])) (h4:Fn E z7r [.agg [.l r0,.l r1,.l r2],.l r3] (.tup [.l r4,.i i2])) (h5:Fn E A9 [.agg [.l r0,.l r1,.l r2]] (.tup [.agg [.l r5,.l r6,.l r7],.i i3])) (h6:Fn E z2v [.agg [.l r0,.l r1,.l r2],.i 0] (.tup [.agg [.l r8,.l r9,.l r10],.i i4])) (h7:Fn E I2 [.agg [.l r0,.l r1,.l r2]] (.tup [.i i5,.i i6])) (h8:i0=0) (h9:i1=0) (h10:i2=0) (h11:i3=0) (h12:i4=0) (h13:i6=0) (h14:i5=(-1)) (h15:s0=(⟨#[55,53,47,50]⟩:BA)) (h16:s1=(⟨#[49,53,47,50]⟩:BA)) (h17:Fn E J6 [.l r4,.l r11] (.b true)) (h18:(r7.length:Int)=4) (h19:(r6.length:Int)=8) (h20:(r10.length:Int)=1) (h21:Fn E z1t [.agg [.l r8,.l r9,.l r10],.l r3] (.b true)) (h22:Fn E z1t [.agg [.l r0,.l r1,.l r2],.l r3] (.b b0)) (e1:(([[.i 1,.i 1,.i 2],[.i 2,.i 2,.i 1]]:RW).take 2)=r3) (e2:(([[.i 0]]:RW).take 1)=r11):Fn E z2g [] (.b (!b0)):=by subst e1 e2;exact fnM (oF h1 (oF h2 (oF h1 (oF h3 (oF h1 (oF h4 (oF h1 (oF h5 (oF h1 (oF h6 (oF h1 (oF h7 (oB (beT h8) (oB (beT h9) (oB (beT h10) (oB (beT h11) (oB (beT h12) (oB (beT h13) (oB (beT h14) (oB (seT h15) (oB (seT h16) (oF h17 (oB (beT h18) (oB (beT h19) (oB (beT h20) (oF h21 (oF h1 (oF h22 oZ))))))))))))))))))))))))))))
theorem w2n (e1:(([[.i 1,.i 3,.i 1,.s ⟨#[97]⟩,.s ⟨#[50]⟩,.s ⟨#[49]⟩,.s ⟨#[53]⟩],[.i 2,.i 1,.i 2,.s ⟨#[98]⟩,.s ⟨#[49,47,50]⟩,.s ⟨#[52]⟩,.s ⟨#[49]⟩]]:RW).take 2)=r0) (e2:(([[.i 1,.s ⟨#[65]⟩,.s ⟨#[52]⟩,.s ⟨#[55]⟩,.s ⟨#[49,48]⟩,.s ⟨#[48]⟩,.s ⟨#[49]⟩],[.i 2,.s ⟨#[66]⟩,.s ⟨#[57]⟩,.s ⟨#[51]⟩,.s ⟨#[45,53]⟩,.s ⟨#[48]⟩,.s ⟨#[49]⟩]]:RW).take 2)=r1) (e3:(([[.s ⟨#[49,48]⟩],[.s ⟨#[45,53]⟩]]:RW).take 2)=r2) (e4:(([[.s ⟨#[108,105,115,116]⟩,.i 1,.l r2,.s ⟨#[48]⟩,.s ⟨#[51,48]⟩,.i 0,.i 0],[.s ⟨#[97,112,97,114,116]⟩,.i 2,.l [],.s ⟨#[]⟩,.s ⟨#[]⟩,.i 1,.i 2]]:RW).take 2)=r3):Fn E k1l [] (.agg [.l r0,.l r1,.l r3]):=by subst e1 e2 e3 e4;exact fnM oZ
end Gev
namespace Gev
open Go Gb
variable {E:Env}
attribute [local irreducible] Sz
structure Ln (ps:List Pc) (hs:List Hd) (rs:List Ru):Prop where
 p:ps.length≤9223372036854775807
 h:hs.length≤9223372036854775807
 r:rs.length≤9223372036854775807
theorem Sp.copy {ps:List Pc} {hs:List Hd} {rs:List Ru} (h:Sp ps hs rs):Fn E z1c [.agg (Pb ps hs rs)] (.agg (Pb ps hs rs)):=by
 have n1:=h.sh.np
 have n2:=h.sh.nh
 have n3:=h.nr
 exact u2r (by omega) (by omega) (by omega) fun r hr=>by have:=(h.r r hr).1; omega
theorem w7k (ps:List Pc) (hs:List Hd) (l:List Sw):∀ (xs:List (Ru × Nat)) (b:List Int),(xs.foldl (brF ps hs l) b).length≤b.length+xs.length
 | [],b=>Nat.le_refl _
 | x::xs,b=>by
  have:=w7k ps hs l xs (brF ps hs l b x)
  have h2:(brF ps hs l b x).length≤b.length+1:=by
   unfold brF; split
   · rw [List.length_append]; exact Nat.le_refl _
   · omega
  rw [List.foldl_cons,List.length_cons]; omega
theorem w7l {ps:List Pc} {hs:List Hd} {rs:List Ru} (n:rs.length≤17) (l:List Sw):(brR ps hs rs l).length≤1000:=by
 unfold brR
 split
 · have:=w7k ps hs l rs.zipIdx []
   unfold brI
   simp only [List.length_zipIdx,List.length_nil] at this
   omega
 · simp
theorem law_Broken (hlib:Lib E) (hc:Cs E) (hA:Fn E z2g [] (.c (.bool true))) {ps:List Pc} {hs:List Hd} {rs:List Ru} {l:List Sw} (n:Ln ps hs rs) (hu:∀ a∈l,-9223372036854775808≤a.un∧a.un≤9223372036854775807):Fn E z5x [.agg (Pb ps hs rs),.c (.list (Ss l))] (.c (.bool true)):=by
 have hF:=v9x (E:=E) n.p n.h n.r
 have hq:=y5y l
 cases c:fewA ps hs rs with
 | false=>rw [c] at hF; exact k0a hA hF
 | true =>
  rw [c] at hF
  have h:=j4a c
  by_cases h40:((Ss l).length:Int) > 40
  · exact x9y hA hF h40
  have hl:Sl l:=⟨by omega,hu⟩
  have k:=hc.sw l hl.n
  have e:(Ss l).take l.length=Ss l:=by rw [← hq,List.take_length]
  have eq:=v6s (E:=E) (a:=brR ps hs rs l) (b:=brR ps hs rs l) (w7l h.nr l) (w7l h.nr l)
  rw [show (brR ps hs rs l == brR ps hs rs l)=true by simp] at eq
  exact x9z hA hF h40 h.copy k (x4e hlib hc h hl) (q9a h hl) eq rfl k (y9b hlib hc h hl) (w9o h hl) rfl e e
end Gev
namespace Gev
open Go Gb Go.Proofs
variable {E:Env}
attribute [local irreducible] Sz
theorem txq {l:List UInt8} {q:Rat} (h:w1y q l=true):decQ q=l:=(j8k.1 h).symm
def psT:List Pc:=[⟨1,3,1,[97],[50],[49],[53]⟩,⟨2,1,2,[98],[49,47,50],[52],[49]⟩]
def hsT:List Hd:=[⟨1,[65],[52],[55],[49,48],[48],[49]⟩,⟨2,[66],[57],[51],[45,53],[48],[49]⟩]
def ruA:Ru:=⟨[108,105,115,116],1,[[49,48],[45,53]],[48],[51,48],0,0⟩
def ruB:Ru:=⟨[97,112,97,114,116],2,[],[],[],1,2⟩
def rsT:List Ru:=[ruA,ruB]
def lT:List Sw:=[⟨1,1,2⟩,⟨2,2,1⟩]
theorem spT:Sp psT hsT rsT:=j4a (by kernel_rfl)
theorem spD:Sp psT hsT [ruB]:=j4a (by kernel_rfl)
theorem slT:Sl lT:=⟨by decide,by decide⟩
theorem t_chkN:chkN psT hsT rsT=-1:=by kernel_rfl
theorem u3h:chkE psT hsT rsT=0:=by kernel_rfl
theorem t_sm:smE psT hsT rsT 0 lT=0:=by kernel_rfl
theorem t_sum:sumS psT hsT (ruAt rsT 0).fs lT=mkRat 75 2:=by kernel_rfl
theorem t_ex:exS (ruAt rsT 0) (sumS psT hsT (ruAt rsT 0).fs lT)=mkRat 15 2:=by kernel_rfl
theorem t_sumT:sumT psT hsT rsT 0 lT=[55,53,47,50]:=by
 unfold sumT; rw [if_pos t_sm,t_sum]; exact txq (by kernel_rfl)
theorem t_excT:excT psT hsT rsT 0 lT=[49,53,47,50]:=by
 unfold excT; rw [if_pos t_sm,t_ex]; exact txq (by kernel_rfl)
theorem t_br:brR psT hsT rsT lT=[0]:=by kernel_rfl
theorem t_brE:brE psT hsT rsT lT=0:=by kernel_rfl
theorem t_kp:kpB psT hsT rsT lT=false:=by kernel_rfl
theorem t_kpD:kpB psT hsT [ruB] lT=true:=by kernel_rfl
theorem t_rE:rlxE psT hsT rsT=0:=by kernel_rfl
theorem t_rB:(k9w psT hsT rsT).2.length=8:=by kernel_rfl
theorem t_rC:(rlxC psT hsT).length=4:=by kernel_rfl
theorem t_dr:drR rsT ruA.nm=[ruB]:=by kernel_rfl
theorem two_ok:Fn E k1l [] (.agg (Pb psT hsT rsT)):=w2n rfl rfl rfl rfl
theorem u0n (hlib:Lib E) (hc:Cs E):Fn E z2g [] (.c (.bool true)):=by
 have k2:=k4y hlib hc (rule:=0) spT slT
 have k3:=x4f hlib hc (rule:=0) spT slT
 have k4:=x4e hlib hc spT slT
 have k5:=q0k hlib spT
 have k6:=q4p hlib hc (rule:=0) (r:=ruA) spT u3h rfl
 have k7:=z8a hlib spT
 have k8:=y9b hlib hc spD slT
 have k9:=y9b hlib hc spT slT
 have ke:=v6s (E:=E) (a:=[0]) (b:=[0]) (by decide) (by decide)
 rw [t_sumT,t_sm] at k2
 rw [t_excT,t_sm] at k3
 rw [t_br,t_brE] at k4
 rw [if_pos t_rE] at k5
 rw [t_dr] at k6
 rw [t_chkN,u3h] at k7
 rw [t_kpD] at k8
 rw [t_kp] at k9
 exact v3q two_ok k2 k3 k4 k5 k6 k7 rfl rfl rfl rfl rfl rfl rfl rfl rfl ke (by rw [z6g,t_rC]; rfl) (by rw [z6g,t_rB]; rfl) rfl k8 k9 rfl rfl
end Gev
namespace Gev
open Go Gb Go.Proofs
variable {P:Program}
inductive LK where
 | int | bool | str | slice (e:TypeId)
def v7c (P:Program) (rec:TypeId→Option (List LK)):Nat→List Field→Option (List LK)
 | _,[]=>some []
 | o,f::fs=>match rec f.type,v7c P rec (o+P.cellsOf f.type) fs with
  | some ks,some rs=>if f.offset=o∧P.cellsOf f.type=ks.length then some (ks++rs) else none
  | _,_=>none
def z8z (P:Program):Nat→TypeId→Option (List LK)
 | 0,_=>none
 | n+1,t=>match P.underlying t with
  | some (.int .i64)=>some [.int]
  | some .bool=>some [.bool]
  | some .string=>some [.str]
  | some (.slice e)=>some [.slice e]
  | some (.struct fs)=>match v7c P (z8z P n) 0 fs.toList with
   | some l=>if P.cellsOf t=l.length then some l else none
   | none=>none
  | _=>none
def InI (n:Int):Prop:=-9223372036854775808≤n∧n≤9223372036854775807
def LeL (n:Nat):Prop:=n≤9223372036854775807
inductive L1 (P:Program):LK→DV→Prop
 | int (n:Int) (h:InI n):L1 P .int (.i64 n)
 | bool (b:Bool):L1 P .bool (.bool b)
 | str (l:List UInt8):L1 P .str (.str (B l))
 | slice {e:TypeId} (xs:RW) (h:∀ x∈xs,TyD P e x) (hl:LeL xs.length):L1 P (.slice e) (.list xs)
inductive LOk (P:Program):List LK→List DV→Prop
 | nil:LOk P [] []
 | cons {k:LK} {ks:List LK} {d:DV} {ds:List DV} (h:L1 P k d) (t:LOk P ks ds):LOk P (k::ks) (d::ds)
theorem LOk.append {ks ls:List LK} {ds es:List DV} (h:LOk P ks ds) (g:LOk P ls es):LOk P (ks++ls) (ds++es):=by
 induction h with
 | nil=>exact g
 | cons h _ ih=>exact .cons h ih
theorem LOk.len {ks:List LK} {ds:List DV} (h:LOk P ks ds):ds.length=ks.length:=by
 induction h with
 | nil=>rfl
 | cons h _ ih=>rw [List.length_cons,List.length_cons,ih]
theorem LOk.hd {k:LK} {ks:List LK} {ds:List DV} (h:LOk P (k::ks) ds):∃ d es,ds=d::es∧L1 P k d∧LOk P ks es:=by
 cases h with
 | cons h t=>exact ⟨_,_,rfl,h,t⟩
theorem LOk.e {ds:List DV} (h:LOk P [] ds):ds=[]:=by cases h; rfl
theorem L1.i {d:DV} (h:L1 P .int d):∃ n,d=.i64 n:=by cases h; exact ⟨_,rfl⟩
theorem L1.j {d:DV} (h:L1 P .int d):∃ n,d=.i64 n∧InI n:=by cases h with | int n h=>exact ⟨_,rfl,h⟩
theorem L1.s {d:DV} (h:L1 P .str d):∃ l,d=.str (B l):=by cases h; exact ⟨_,rfl⟩
theorem L1.l {e:TypeId} {d:DV} (h:L1 P (.slice e) d):∃ xs,d=.list xs∧(∀ x∈xs,TyD P e x)∧LeL xs.length:=by cases h with | slice xs h n=>exact ⟨_,rfl,h,n⟩
theorem inI_wf {m:Int} (h:(Lit.int IntKind.i64 m).wf=true):InI m:=by
 unfold Lit.wf at h
 rw [Bool.and_eq_true,decide_eq_true_eq,decide_eq_true_eq] at h
 exact h
theorem v6t {rec:TypeId→Option (List LK)} (ih:∀ t ks ds,rec t=some ks→TyD P t ds→LOk P ks ds):∀ (fs:List Field) (o:Nat) (l:List LK) (ds:List DV),v7c P rec o fs=some l→(∀ f∈fs,TyD P f.type ((ds.drop f.offset).take (P.cellsOf f.type)))→LOk P l ((ds.drop o).take l.length)
 | [],o,l,ds,h,hp=>by cases h; exact .nil
 | f::fs,o,l,ds,h,hp=>by
  unfold v7c at h
  cases h1:rec f.type with
  | none=>rw [h1] at h; cases h
  | some ks =>
   cases h2:v7c P rec (o+P.cellsOf f.type) fs with
   | none=>rw [h1,h2] at h; cases h
   | some rs =>
    rw [h1,h2] at h
    simp only at h
    split at h
    · rename_i hc
      cases h
      have a1:=ih _ _ _ h1 (hp f (by simp))
      have a2:=v6t ih fs _ rs ds h2 fun g hg=>hp g (List.mem_cons_of_mem _ hg)
      rw [hc.1,hc.2] at a1
      rw [hc.2] at a2
      rw [List.length_append,List.take_add,List.drop_drop]
      exact a1.append a2
    · cases h
theorem y0j:∀ (n:Nat) (t:TypeId) (ks:List LK) (ds:List DV),z8z P n t=some ks→TyD P t ds→LOk P ks ds
 | 0,t,ks,ds,h,hd=>by cases h
 | n+1,t,ks,ds,h,hd=>by
  unfold z8z at h
  cases hd with
  | int m hu hw =>
   rename_i k
   rw [hu] at h
   cases k <;> first | (cases h; exact .cons (.int m (inI_wf hw)) .nil) | cases h
  | bool b hu=>rw [hu] at h; cases h; exact .cons (.bool b) .nil
  | str s hu=>rw [hu] at h; cases h; rw [← B_of s]; exact .cons (.str _) .nil
  | slice xs hu hx hl=>rw [hu] at h; cases h; exact .cons (.slice xs hx hl) .nil
  | struct ds hu hl hp =>
   rw [hu] at h
   simp only at h
   rename_i fs
   cases h2:v7c P (z8z P n) 0 fs.toList with
   | none=>rw [h2] at h; cases h
   | some l =>
    rw [h2] at h
    simp only at h
    split at h
    · rename_i hc
      cases h
      have:=v6t (y0j n) fs.toList 0 _ ds h2 hp
      rw [List.drop_zero,← hc,← hl,List.take_length] at this
      exact this
    · cases h
theorem j6y {α:Type} {p:List DV→Prop} {f:α→List DV} (h:∀ x,p x→∃ a,x=f a):∀ xs:RW,(∀ x∈xs,p x)→∃ l:List α,xs=l.map f
 | [],_=>⟨[],rfl⟩
 | x::xs,hx=>by
  obtain ⟨l,rfl⟩:=j6y h xs fun y hy=>hx y (List.mem_cons_of_mem _ hy)
  obtain ⟨a,rfl⟩:=h x (hx x (by simp))
  exact ⟨a::l,rfl⟩
theorem u_R1 {e:TypeId} {n:Nat} (h:z8z P n e=some [.str]) {xs:RW} (hx:∀ x∈xs,TyD P e x):∃ l,xs=R1 l :=
 j6y (fun x k=>by
  have:=y0j _ _ _ _ h k
  match x,this with
  | _,.cons (.str l) .nil=>exact ⟨l,rfl⟩) xs hx
theorem u_Ps {e:TypeId} {n:Nat} (h:z8z P n e=some [.int,.int,.int,.str,.str,.str,.str]) {xs:RW} (hx:∀ x∈xs,TyD P e x):∃ l,xs=Ps l :=
 j6y (fun x k=>by
  obtain ⟨_,_,rfl,z1,t⟩:=(y0j _ _ _ _ h k).hd
  obtain ⟨_,_,rfl,z2,t⟩:=t.hd
  obtain ⟨_,_,rfl,z3,t⟩:=t.hd
  obtain ⟨_,_,rfl,z4,t⟩:=t.hd
  obtain ⟨_,_,rfl,z5,t⟩:=t.hd
  obtain ⟨_,_,rfl,z6,t⟩:=t.hd
  obtain ⟨_,_,rfl,z7,t⟩:=t.hd
  cases t.e
  obtain ⟨a,rfl⟩:=z1.i
  obtain ⟨b,rfl⟩:=z2.i
  obtain ⟨c,rfl⟩:=z3.i
  obtain ⟨d,rfl⟩:=z4.s
  obtain ⟨e,rfl⟩:=z5.s
  obtain ⟨f,rfl⟩:=z6.s
  obtain ⟨g,rfl⟩:=z7.s
  exact ⟨⟨a,b,c,d,e,f,g⟩,rfl⟩) xs hx
theorem u_Hs {e:TypeId} {n:Nat} (h:z8z P n e=some [.int,.str,.str,.str,.str,.str,.str]) {xs:RW} (hx:∀ x∈xs,TyD P e x):∃ l,xs=Hs l :=
 j6y (fun x k=>by
  obtain ⟨_,_,rfl,z1,t⟩:=(y0j _ _ _ _ h k).hd
  obtain ⟨_,_,rfl,z2,t⟩:=t.hd
  obtain ⟨_,_,rfl,z3,t⟩:=t.hd
  obtain ⟨_,_,rfl,z4,t⟩:=t.hd
  obtain ⟨_,_,rfl,z5,t⟩:=t.hd
  obtain ⟨_,_,rfl,z6,t⟩:=t.hd
  obtain ⟨_,_,rfl,z7,t⟩:=t.hd
  cases t.e
  obtain ⟨a,rfl⟩:=z1.i
  obtain ⟨b,rfl⟩:=z2.s
  obtain ⟨c,rfl⟩:=z3.s
  obtain ⟨d,rfl⟩:=z4.s
  obtain ⟨e,rfl⟩:=z5.s
  obtain ⟨f,rfl⟩:=z6.s
  obtain ⟨g,rfl⟩:=z7.s
  exact ⟨⟨a,b,c,d,e,f,g⟩,rfl⟩) xs hx
theorem u_Rs {e q:TypeId} {n:Nat} (h:z8z P n e=some [.str,.int,.slice q,.str,.str,.int,.int]) (hq:z8z P n q=some [.str]) {xs:RW} (hx:∀ x∈xs,TyD P e x):∃ l,xs=Rs l :=
 j6y (fun x k=>by
  obtain ⟨_,_,rfl,z1,t⟩:=(y0j _ _ _ _ h k).hd
  obtain ⟨_,_,rfl,z2,t⟩:=t.hd
  obtain ⟨_,_,rfl,z3,t⟩:=t.hd
  obtain ⟨_,_,rfl,z4,t⟩:=t.hd
  obtain ⟨_,_,rfl,z5,t⟩:=t.hd
  obtain ⟨_,_,rfl,z6,t⟩:=t.hd
  obtain ⟨_,_,rfl,z7,t⟩:=t.hd
  cases t.e
  obtain ⟨a,rfl⟩:=z1.s
  obtain ⟨b,rfl⟩:=z2.i
  obtain ⟨c,rfl,hc,_⟩:=z3.l
  obtain ⟨d,rfl⟩:=z4.s
  obtain ⟨e,rfl⟩:=z5.s
  obtain ⟨f,rfl⟩:=z6.i
  obtain ⟨g,rfl⟩:=z7.i
  obtain ⟨c,rfl⟩:=u_R1 hq hc
  exact ⟨⟨a,b,c,d,e,f,g⟩,rfl⟩) xs hx
theorem u_Ss {e:TypeId} {n:Nat} (h:z8z P n e=some [.int,.int,.int]) {xs:RW} (hx:∀ x∈xs,TyD P e x):∃ l:List Sw,xs=Ss l∧∀ a∈l,-9223372036854775808≤a.un∧a.un≤9223372036854775807:=by
 induction xs with
 | nil=>exact ⟨[],rfl,fun a h=>by cases h⟩
 | cons x xs ih =>
  obtain ⟨l,rfl,hl⟩:=ih fun y hy=>hx y (List.mem_cons_of_mem _ hy)
  obtain ⟨_,_,rfl,z1,t⟩:=(y0j _ _ _ _ h (hx x (by simp))).hd
  obtain ⟨_,_,rfl,z2,t⟩:=t.hd
  obtain ⟨_,_,rfl,z3,t⟩:=t.hd
  cases t.e
  obtain ⟨a,rfl⟩:=z1.i
  obtain ⟨b,rfl⟩:=z2.i
  obtain ⟨c,rfl,hc⟩:=z3.j
  refine ⟨⟨a,b,c⟩::l,rfl,fun z hz=>?_⟩
  rcases List.mem_cons.1 hz with rfl | hz
  · exact hc
  · exact hl z hz
theorem u_Pb {t p h r q:TypeId} {n:Nat} (ht:z8z P n t=some [.slice p,.slice h,.slice r]) (hp:z8z P n p=some [.int,.int,.int,.str,.str,.str,.str]) (hh:z8z P n h=some [.int,.str,.str,.str,.str,.str,.str]) (hr:z8z P n r=some [.str,.int,.slice q,.str,.str,.int,.int]) (hq:z8z P n q=some [.str]) {a:AV} (ha:AvOf P t a) :
    ∃ ps hs rs,a=.agg (Pb ps hs rs)∧Ln ps hs rs:=by
 cases ha with
 | agg hu hd =>
  obtain ⟨_,_,rfl,z1,t⟩:=(y0j _ _ _ _ ht hd).hd
  obtain ⟨_,_,rfl,z2,t⟩:=t.hd
  obtain ⟨_,_,rfl,z3,t⟩:=t.hd
  cases t.e
  obtain ⟨a,rfl,ha,na⟩:=z1.l
  obtain ⟨b,rfl,hb,nb⟩:=z2.l
  obtain ⟨c,rfl,hc,nc⟩:=z3.l
  obtain ⟨ps,rfl⟩:=u_Ps hp ha
  obtain ⟨hs,rfl⟩:=u_Hs hh hb
  obtain ⟨rs,rfl⟩:=u_Rs hr hq hc
  rw [z3q] at na
  rw [z0k] at nb
  rw [y0n] at nc
  exact ⟨ps,hs,rs,rfl,⟨na,nb,nc⟩⟩
 | one hd=>have:=(y0j _ _ _ _ ht hd).len; cases this
theorem u_Sw {t e:TypeId} {n:Nat} (ht:z8z P n t=some [.slice e]) (he:z8z P n e=some [.int,.int,.int]) {a:AV} (ha:AvOf P t a) (hu:P.underlying t=some (.slice e)) :
    ∃ l:List Sw,a=.c (.list (Ss l))∧∀ x∈l,-9223372036854775808≤x.un∧x.un≤9223372036854775807:=by
 cases ha with
 | agg h _=>rw [hu] at h; cases h
 | one hd =>
  have:=y0j _ _ _ _ ht hd
  cases this with
  | cons h t=>cases t; cases h with
  | slice xs hx _ =>
  obtain ⟨l,rfl,hl⟩:=u_Ss he hx
  exact ⟨l,rfl,hl⟩
end Gev
namespace Gev
open Go Gb Go.Proofs
variable {E:Env}
theorem cs_ok:Cs E where
 sw l hl:=by
  have h:=x6v (E:=E) (f:=X2) (T:=F2) (k:=3) (P6 (by kernel_rfl)) (by kernel_rfl) w5v q7i (Ss l) (fun x hx=>by obtain ⟨m,_,rfl⟩:=List.mem_map.1 hx; rfl) (by rw [y5y]; omega)
  rw [y5y] at h; exact h
 pc l hl:=by
  have h:=x6v (E:=E) (f:=z5y) (T:=x7m) (k:=7) (P6 (by kernel_rfl)) (by kernel_rfl) v8n j8h (Ps l) (fun x hx=>by obtain ⟨m,_,rfl⟩:=List.mem_map.1 hx; rfl) (by rw [z3q]; omega)
  rw [z3q] at h; exact h
 hd l hl:=by
  have h:=x6v (E:=E) (f:=z7j) (T:=j0d) (k:=7) (P6 (by kernel_rfl)) (by kernel_rfl) w5t q7g (Hs l) (fun x hx=>by obtain ⟨m,_,rfl⟩:=List.mem_map.1 hx; rfl) (by rw [z0k]; omega)
  rw [z0k] at h; exact h
 ru l hl:=by
  have h:=x6v (E:=E) (f:=z7k) (T:=D1) (k:=7) (P6 (by kernel_rfl)) (by kernel_rfl) w5u q7h (Rs l) (fun x hx=>by obtain ⟨m,_,rfl⟩:=List.mem_map.1 hx; rfl) (by rw [y0n]; omega)
  rw [y0n] at h; exact h
 ra l hl:=by
  have h:=x6v (E:=E) (f:=z8v) (T:=A2) (k:=1) (P6 (by kernel_rfl)) (by kernel_rfl) w8y v3f (R1 l) (fun x hx=>by obtain ⟨m,_,rfl⟩:=List.mem_map.1 hx; rfl) (by rw [z6g]; omega)
  rw [z6g] at h; exact h
theorem cs0:Cs E0:=cs_ok
theorem awake0:Fn E0 z2g [] (.c (.bool true)):=u0n lib0 cs0
end Gev
