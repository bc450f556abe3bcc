/- A part of the proof: see the last text of this claim. -/
import Derived.Test.YtfjcadbekkfddaaGreatDoorC
set_option linter.unusedSectionVars false
set_option linter.unusedVariables false
set_option linter.unusedSimpArgs false
namespace Gev
open Go Gb
variable {E:Env}
theorem v2k {xs ys:List Int} (hl:xs.length=ys.length) (j:Nat) (h:∀ n,n<j→xs.getD n 0=ys.getD n 0):xs.take j=ys.take j:=by
 induction j with
 | zero=>simp
 | succ j ih =>
  rcases Nat.lt_or_ge j xs.length with hj | hj
  · rw [x3n xs j hj,x3n ys j (by omega),ih (fun n hn=>h n (by omega)),h j (by omega)]
  · rw [List.take_of_length_le (by omega),List.take_of_length_le (by omega)]
    rw [List.take_of_length_le hj,List.take_of_length_le (by omega)] at ih
    exact ih fun n hn=>h n (by omega)
theorem q1f {p a b:Int} (hp:0<p) (h:p*a=p*b):a=b:=Int.eq_of_mul_eq_mul_left (by omega) h
theorem y0f {xs ys:List Int} (hl:xs.length=ys.length) {j:Nat} (hj:j≤xs.length) (h:∀ n,n<j→xs.getD n 0=ys.getD n 0) {T:Int} (hv:wv xs=wv ys-pw j*T):wv (xs.drop j)=wv (ys.drop j)-T:=by
 have e1:=D6 xs j hj
 have e2:=D6 ys j (by omega)
 rw [v2k hl j h] at e1
 refine q1f (V7 j) ?_
 rw [Int.mul_sub]
 omega
theorem q7x {m w1 w3:RW} {lq lu k j:Nat} {u v q:List Int} (D:Dv u v lu k j) (hw3:∀ i:Nat,i<k→w3[i]?=some [.u32 (v.getD i 0)]) (hq:q.length=lq) (hj:j<lq) :
    ∃ u' g,(∀ {o:Out} {st:St},Lp E 5 A3 0 (G1 m lu k k lq ((j:Int)-1) w1 (Wr u') w3 (Wr (q.set j g))) o st→Lp E 5 A3 0 (G1 m lu k k lq j w1 (Wr u) w3 (Wr q)) o st) ∧
     (0≤g∧g<1000000000)∧Wd u'∧u'.length=lu∧wv u'=wv u-pw j*(g*wv v)∧0≤wv (u'.drop j)∧wv (u'.drop j)<wv v:=by
 have h2:=D.two
 have hjk:=D.jk
 have hsm:=D.small
 have hlu:=D.elu
 have hlv:=D.elv
 have hnorm:=D.norm
 have hV:=D.vpos
 have hVk:=D.vk
 have a1:=D.hv.getD (k-1)
 have b1:=D.hu.getD (j+k-1)
 have b0:=D.hu.getD (j+k)
 have bj:=D.hu.getD j
 have hlow:=D.low
 have hz:=D.zero
 have eX1:=J6 u j (by omega)
 obtain ⟨v1,e1⟩:∃ x,x=v.getD (k-1) 0:=⟨_,rfl⟩
 obtain ⟨u0,e3⟩:∃ x,x=u.getD (j+k) 0:=⟨_,rfl⟩
 obtain ⟨u1',e4⟩:∃ x,x=u.getD (j+k-1) 0:=⟨_,rfl⟩
 obtain ⟨top,et⟩:∃ x,x=u0*1000000000+u1':=⟨_,rfl⟩
 have gk1:w3[Int.toNat ((k:Int)-1)]?=some [.u32 v1]:=by
  rw [show Int.toNat ((k:Int)-1)=k-1 by omega,e1];exact hw3 _ (by omega)
 have gu0:(Wr u)[Int.toNat ((j:Int)+k)]?=some [.u32 u0]:=by
  rw [show Int.toNat ((j:Int)+k)=j+k by omega,e3];exact D2 (by omega)
 have gu1:(Wr u)[Int.toNat ((j:Int)+k-1)]?=some [.u32 u1']:=by
  rw [show Int.toNat ((j:Int)+k-1)=j+k-1 by omega,e4];exact D2 (by omega)
 rw [← e1] at a1 hnorm
 rw [← e3] at b0
 rw [← e4] at b1
 have htop:0≤top:=by omega
 have hdm:=Int.emod_add_mul_ediv top v1
 have hr0:=Int.emod_nonneg top (show v1≠0 by omega)
 have hr1:=Int.emod_lt_of_pos top (show 0<v1 by omega)
 have hg0:0≤top / v1:=Int.ediv_nonneg htop (by omega)
 have hmul:top / v1*v1+top % v1=top:=by rw [Int.mul_comm];omega
 have hX3:=y4q (u:=u) (j:=j) (k:=k) h2 (by omega) hz
 rw [← e3,← e4,← et] at hX3
 have hV2:=y7e hlv h2
 rw [← e1] at hV2
 have a2:=D.hv.getD (k-2)
 have vl1:=D.hv.val_take_lt (k-2) (by omega)
 have xl0:=C2 ((D.hu.drop j).take (k-2))
 have hP:=V7 (k-2)
 have b2:=D.hu.getD (j+k-2)
 have hu0:u0≤v1:=by
  rcases Int.lt_or_le v1 u0 with h | h
  · exfalso
    have e5:=D6 (u.drop (j+1)) (k-1) (by simp;omega)
    rw [List.drop_drop,show j+1+(k-1)=j+k by omega,J6 u (j+k) (by omega),hz,← e3] at e5
    have h6:=C2 ((D.hu.drop (j+1)).take (k-1))
    have e7:=D6 v (k-1) (by omega)
    rw [J6 v (k-1) (by omega),← e1,show k-1+1=k by omega,List.drop_eq_nil_of_le (by omega),show wv []=0 from rfl] at e7
    have h8:=D.hv.val_take_lt (k-1) (by omega)
    have h9:pw (k-1)*(v1+1)≤pw (k-1)*u0:=Int.mul_le_mul_of_nonneg_left (by omega) (by have:=V7 (k-1);omega)
    rw [Int.mul_add,Int.mul_one] at h9
    simp at e5 e7
    omega
  · exact h
 have hgB:top / v1≤1000000001:=by
  have:top / v1<1000000002:=Int.ediv_lt_of_lt_mul (by omega) (by omega)
  omega
 have hbig:top / v1=1000000001→top % v1+v1<1000000000:=by
  intro h
  rw [h] at hmul
  omega
 have hXg:wv (u.drop j)<(top / v1+1)*wv v:=by
  have h5:top+1≤(top / v1+1)*v1:=by
   have:(top / v1+1)*v1=top / v1*v1+v1:=by grind
   omega
  have h6:=Int.mul_le_mul_of_nonneg_right h5 (show 0≤1000000000*pw (k-2) by omega)
  have h7:(top / v1+1)*(v1*(1000000000*pw (k-2)))≤(top / v1+1)*wv v:=by
   refine Int.mul_le_mul_of_nonneg_left ?_ (by omega)
   have h8:(v1*1000000000+v.getD (k-2) 0)*pw (k-2)=v1*(1000000000*pw (k-2))+v.getD (k-2) 0*pw (k-2):=by grind
   have h9:0≤v.getD (k-2) 0*pw (k-2):=Int.mul_nonneg a2.1 (by omega)
   have h10:=C2 (D.hv.take (k-2))
   omega
  have h8:(top / v1+1)*v1*(1000000000*pw (k-2))=(top / v1+1)*(v1*(1000000000*pw (k-2))):=by grind
  have h9:(top+1)*(1000000000*pw (k-2))=top*1000000000*pw (k-2)+1000000000*pw (k-2):=by grind
  have h10:(top*1000000000+u.getD (j+k-2) 0)*pw (k-2)=top*1000000000*pw (k-2)+u.getD (j+k-2) 0*pw (k-2):=by grind
  have h11:u.getD (j+k-2) 0*pw (k-2)≤999999999*pw (k-2):=Int.mul_le_mul_of_nonneg_right (by omega) (by omega)
  have h12:=(D.hu.drop j).val_take_lt (k-2) (by simp;omega)
  omega
 obtain ⟨g,k1,k2,k3,k4⟩:=j8i (E:=E) (m:=m) (w1:=w1) (w4:=Wr q) (lq:=lq) D hw3 1000000002 (top / v1) (top % v1) hg0 (by omega) hgB ⟨hr0,by omega⟩ (by rw [← e1,← e3,← e4,← et];exact hmul) hXg (by rw [← e1];exact hbig)
 obtain ⟨c,b,us,s1,s2,s3,s4,s5,s6,s7⟩:=q7y (E:=E) (m:=m) (w1:=w1) (w4:=Wr q) (lq:=lq) D hw3 k2 k 0 0 0 u (by omega) (by omega) (.inl rfl) D.hu D.elu (fun _ _=>rfl) (by simp [wv])
 have hsu:us.getD (j+k) 0=u0:=by rw [s6 _ (.inr (Nat.le_refl _)),← e3]
 have gs0:(Wr us)[Int.toNat ((j:Int)+k)]?=some [.u32 u0]:=by
  rw [show Int.toNat ((j:Int)+k)=j+k by omega,← hsu];exact D2 (by omega)
 obtain ⟨last,hlast⟩:∃ x,x=u0-c-b:=⟨_,rfl⟩
 have hset:=z6i us (j+k) (by omega)
 rw [hsu] at hset
 have sv:wv us=wv u-pw j*(g*wv v-pw k*(c+b)):=by rw [s7];grind
 have sd:=y0f (xs:=us) (ys:=u) (by omega) (j:=j) (by omega) (fun n hn=>s6 n (.inl hn)) sv
 have sk:=D6 (us.drop j) k (by simp;omega)
 have sz:wv (us.drop (j+k+1))=0:=by
  have h0:wv (us.drop (j+k+1))=wv (u.drop (j+k+1)):=by
   congr 1
   apply List.ext_getElem?
   intro i
   rw [List.getElem?_drop,List.getElem?_drop]
   rcases Nat.lt_or_ge (j+k+1+i) lu with h | h
   · rw [getD_some (by omega),getD_some (by omega),s6 _ (.inr (by omega))]
   · rw [List.getElem?_eq_none (by omega),List.getElem?_eq_none (by omega)]
  rw [h0];exact hz
 rw [List.drop_drop,J6 us (j+k) (by omega),sz,hsu] at sk
 have sk0:=C2 ((s4.drop j).take k)
 have sk1:=(s4.drop j).val_take_lt k (by simp;omega)
 have hpk:=V7 k
 have hpj:=V7 j
 have wj:((j:Int)+k)=((j+k:Nat):Int):=by omega
 have gq:(Wr q)[Int.toNat (j:Int)]?=some [.u32 (q.getD j 0)]:=D2 (by omega)
 have hXV:(g+1)*wv v=g*wv v+wv v:=by grind
 by_cases c1:last<0
 · -- once too often
   have hneg:wv (u.drop j)<g*wv v:=by
    have h5:pw k*last≤pw k*(-1):=Int.mul_le_mul_of_nonneg_left (by omega) (by omega)
    have h6:pw k*last=pw k*u0-pw k*(c+b):=by rw [hlast];grind
    simp at sk
    omega
   have hg1:1≤g:=by
    rcases Int.lt_or_le g 1 with h | h
    · have:g=0:=by omega
      subst this
      have:=C2 (D.hu.drop j)
      omega
    · exact h
   obtain ⟨up,ua,t1,t2,t3,t4,t5,t6⟩:=q7w (E:=E) (m:=m) (w1:=w1) (w4:=Wr q) (lq:=lq) (g:=g-1) (last:=last) D hw3 (u1:=us) k 0 0 us (by omega) (by omega) s4 s5 (fun _ _=>rfl) (by simp [wv])
   have hau:ua.getD (j+k) 0=u0:=by rw [t5 _ (.inr (Nat.le_refl _)),hsu]
   have ga0:(Wr ua)[Int.toNat ((j:Int)+k)]?=some [.u32 u0]:=by
    rw [show Int.toNat ((j:Int)+k)=j+k by omega,← hau];exact D2 (by omega)
   have hset2:=z6i ua (j+k) (by omega)
   rw [hau] at hset2
   have tv:wv ua=wv u-pw j*((g-1)*wv v-pw k*(c+b)+pw k*up):=by rw [t6,s7];grind
   have td:=y0f (xs:=ua) (ys:=u) (by omega) (j:=j) (by omega) (fun n hn=>by rw [t5 n (.inl hn)];exact s6 n (.inl hn)) tv
   have tk:=D6 (ua.drop j) k (by simp;omega)
   have tz:wv (ua.drop (j+k+1))=0:=by
    have h0:wv (ua.drop (j+k+1))=wv (us.drop (j+k+1)):=by
     congr 1
     apply List.ext_getElem?
     intro i
     rw [List.getElem?_drop,List.getElem?_drop]
     rcases Nat.lt_or_ge (j+k+1+i) lu with h | h
     · rw [getD_some (by omega),getD_some (by omega),t5 _ (.inr (by omega))]
     · rw [List.getElem?_eq_none (by omega),List.getElem?_eq_none (by omega)]
    rw [h0];exact sz
   rw [List.drop_drop,J6 ua (j+k) (by omega),tz,hau] at tk
   have tk0:=C2 ((t3.drop j).take k)
   have tk1:=(t3.drop j).val_take_lt k (by simp;omega)
   have hg1V:(g-1)*wv v=g*wv v-wv v:=by grind
   have hzero:last+up=0:=by
    have h5:pw k*(last+up)=pw k*u0-pw k*(c+b)+pw k*up:=by rw [hlast];grind
    have h6:-pw k<pw k*(last+up)∧pw k*(last+up)<pw k:=by
     simp at tk
     omega
    rcases Int.lt_trichotomy (last+up) 0 with h | h | h
    · have:pw k*(last+up)≤pw k*(-1):=Int.mul_le_mul_of_nonneg_left (by omega) (by omega)
      omega
    · exact h
    · have:pw k*1≤pw k*(last+up):=Int.mul_le_mul_of_nonneg_left (by omega) (by omega)
      omega
   have hfin:wv (ua.set (j+k) 0)=wv u-pw j*((g-1)*wv v):=by
    rw [hset2,tv,z6t]
    have:u0=c+b-up:=by omega
    rw [this];grind
   have hd:=y0f (xs:=ua.set (j+k) 0) (ys:=u) (by simp;omega) (j:=j) (by simp;omega) (fun n hn=>by rw [H2 (by omega),t5 n (.inl hn)];exact s6 n (.inl hn)) hfin
   refine ⟨ua.set (j+k) 0,g-1,fun {o} {st} ih=>?_,by omega,t3.set _ (by omega) (by omega),by simpa using t4,hfin,?_,?_⟩
   · exact y3p (i2:=(j:Int)+k) (i3:=u0) (i4:=u0) (i5:=u0*1000000000) (i6:=(j:Int)+k-1) (i7:=u1') (i8:=u1') (i9:=top) (i10:=(k:Int)-1) (i11:=v1) (i12:=v1) (i13:=top / v1) (i14:=top % v1) (i15:=g) (i16:=c) (i17:=b) (r7:=Wr us) (i18:=u0) (i19:=u0) (i20:=u0-c) (i21:=last) (i22:=g-1) (i23:=up) (r8:=Wr ua) (i24:=up) (i25:=0) (i26:=0) (i27:=0) (i28:=u0) (r9:=Wr (ua.set (j+k) 0)) (i29:=g-1) (i30:=q.getD j 0) (r10:=Wr (q.set j (g-1))) (i31:=(j:Int)-1)
      (wi (by omega)) (wu (by omega)) (wu (by omega)) (wi (by omega)) (wu (by omega)) (wu (by omega)) (wi (by omega)) (wu (by omega)) (wu ⟨tdv htop rfl,hg0,by omega⟩) (tmd htop rfl) (wi (by omega)) (wi (by omega)) (wi (by omega)) (wu (by omega)) (wi (by omega)) (wi (by omega)) (by simp) (w32 (by omega)) (by rw [wj,Int.toNat_natCast,z1w]) (w32 (by omega)) (by rw [Int.toNat_natCast,z1w]) (wi (by omega))
      (by omega) (by omega) gu0 (by omega) gu1 (by omega) gk1 (by omega) k1 s1 gs0 c1 t1 ga0 (by omega) gq ih
   · rw [hd];omega
   · rw [hd];omega
 · have hfin:wv (us.set (j+k) last)=wv u-pw j*(g*wv v):=by
    rw [hset,sv,z6t,hlast];grind
   have hd:=y0f (xs:=us.set (j+k) last) (ys:=u) (by simp;omega) (j:=j) (by simp;omega) (fun n hn=>by rw [H2 (by omega)];exact s6 n (.inl hn)) hfin
   refine ⟨us.set (j+k) last,g,fun {o} {st} ih=>?_,k2,s4.set _ (by omega) (by omega),by simpa using s5,hfin,?_,?_⟩
   · exact y3q (i2:=(j:Int)+k) (i3:=u0) (i4:=u0) (i5:=u0*1000000000) (i6:=(j:Int)+k-1) (i7:=u1') (i8:=u1') (i9:=top) (i10:=(k:Int)-1) (i11:=v1) (i12:=v1) (i13:=top / v1) (i14:=top % v1) (i15:=g) (i16:=c) (i17:=b) (r7:=Wr us) (i18:=u0) (i19:=u0) (i20:=u0-c) (i21:=last) (i22:=last) (i23:=last) (r8:=Wr (us.set (j+k) last)) (i24:=g) (i25:=q.getD j 0) (r11:=Wr (q.set j g)) (i27:=(j:Int)-1)
      (wi (by omega)) (wu (by omega)) (wu (by omega)) (wi (by omega)) (wu (by omega)) (wu (by omega)) (wi (by omega)) (wu (by omega)) (wu ⟨tdv htop rfl,hg0,by omega⟩) (tmd htop rfl) (wi (by omega)) (wi (by omega)) (wi (by omega)) (if_neg (by omega)) (w32 (by omega)) (by rw [wj,Int.toNat_natCast,z1w]) (w32 (by omega)) (by rw [Int.toNat_natCast,z1w]) (wi (by omega))
      (by omega) (by omega) gu0 (by omega) gu1 (by omega) gk1 (by omega) k1 s1 gs0 c1 (by omega) gq ih
   · have h5:=C2 ((s4.set (j+k) (show 0≤last by omega) (by omega)).drop j)
     exact h5
   · rw [hd];omega
theorem q3e {m w1 w3:RW} {lq lu k:Nat} {v:List Int} (hv:Wd v) (hlv:v.length=k)(h2:2≤k) (hn:1000000000≤2*v.getD (k-1) 0) (hsm:lu<35184372088832) (hw3:∀ i:Nat,i<k→w3[i]?=some [.u32 (v.getD i 0)]) :
    ∀ j u q,Wd u→u.length=lu→Wd q→q.length=lq→j≤lq→(0<j→j-1+k<lu)→wv (u.drop j)<wv v →
    ∃ u' q',Lp E 5 A3 0 (G1 m lu k k lq ((j:Int)-1) w1 (Wr u) w3 (Wr q)) (.exit 1) (z1n m lu k lq w1 w3 (Wr u') (Wr q'))∧Wd u'∧u'.length=lu∧Wd q'∧q'.length=lq∧wv u'<wv v∧wv u'+wv v*wv q'=wv u+wv v*(pw j*wv (q.drop j))
 | 0,u,q,hu,hlu,hq,hlq,_,_,hlow=>⟨u,q,y1r (by omega),hu,hlu,hq,hlq,by simpa using hlow,by simp [y8o]⟩
 | j+1,u,q,hu,hlu,hq,hlq,hj,hjk,hlow=>by
  have D:Dv u v lu k j:=⟨hu,hv,hlu,hlv,h2,hn,by have:=hjk (by omega);omega,hsm,hlow⟩
  obtain ⟨u1,g,st,hg,k1,k2,k3,k4,k5⟩:=q7x (E:=E) (m:=m) (w1:=w1) D hw3 hlq (by omega)
  obtain ⟨u',q',r1,r2,r3,r4,r5,r6,r7⟩:=q3e hv hlv h2 hn hsm hw3 j u1 (q.set j g) k1 k2 (hq.set _ hg.1 hg.2) (by simpa using hlq) (by omega) (fun h=>by have:=D.jk;omega) k5
  refine ⟨u',q',?_,r2,r3,r4,r5,r6,?_⟩
  · rw [show ((j+1:Nat):Int)-1=(j:Int) by omega];exact st r1
  · have hd:(q.set j g).drop (j+1)=q.drop (j+1):=List.drop_set_of_lt (Nat.lt_succ_self j)
    rw [r7,k3,z4i (q.set j g) j,z5x (by omega),hd,z1e]
    grind
theorem y4y {n m q r:Nat} (h:n=q*m+r) (hr:r<m):n / m=q∧n % m=r:=by
 subst h
 rw [Nat.mul_comm]
 exact ⟨by rw [Nat.mul_add_div (by omega),Nat.div_eq_of_lt hr,Nat.add_zero],by rw [Nat.mul_add_mod,Nat.mod_eq_of_lt hr]⟩
theorem q5l {xs:List Int} {k i:Nat} (h:i<k):(xs.take k).getD i 0=xs.getD i 0:=by
 rw [List.getD_eq_getElem?_getD,List.getD_eq_getElem?_getD,List.getElem?_take_of_lt h]
theorem j3v {m n:Nat} (hm:2≤(words m).length) (hmn:m≤n) (hl:(words n).length<1099511627776) (hns:¬ n<1000000000000000000):Fn E A3 [.c (.list (Wr (words n))),.c (.list (Wr (words m)))] (.tup [.c (.list (Wr (words (n / m)))),.c (.list (Wr (words (n % m))))]):=by
 have hlm:(words m).length≤(words n).length:=(N4 m).length_le (B2 m) (B2 n) (by rw [B1,B1];omega)
 obtain ⟨k,hk⟩:∃ k,k=(words m).length:=⟨_,rfl⟩
 rw [← hk] at hm hlm
 have ht:=(B2 m).getD (k-1)
 obtain ⟨t,et⟩:∃ t,t=(words m).getD (k-1) 0:=⟨_,rfl⟩
 rw [← et] at ht
 obtain ⟨f,hf⟩:∃ f:Nat,(f:Int)=1000000000 / (t+1):=⟨(1000000000 / (t+1)).toNat,by have:0≤1000000000 / (t+1):=Int.ediv_nonneg (by decide) (by omega);omega⟩
 obtain ⟨f1,f2,lv,nv⟩:=k2k (n:=m) rfl hk.symm (by omega) (f:=f) (by rw [← et];exact hf)
 have hfl:(words f).length≤1:=z0t (by rw [show pw 1=1000000000 by decide];omega)
 obtain ⟨ku,xu,hru,eu,hku,hxu⟩:=k8w (E:=E) (m:=n) (n:=f) (by omega)
 obtain ⟨kv,xv,hrv,ev,hkv,hxv⟩:=k8w (E:=E) (m:=m) (n:=f) (by omega)
 have hkv':kv=k:=by
  have:=congrArg List.length ev
  rw [List.length_take,lv] at this
  omega
 subst hkv'
 have hku':ku=(words (n*f)).length:=by
  have:=congrArg List.length eu
  rw [List.length_take] at this
  omega
 have hnf:n≤n*f:=by have:=Nat.mul_le_mul_left n f1;omega
 have hkn:(words n).length≤ku:=by rw [hku'];exact (N4 n).length_le (B2 n) (B2 _) (by rw [B1,B1];omega)
 have hku2:ku≤(words n).length+1:=by omega
 have hu0:Wd (words (n*f)++[0]):=(B2 _).append (Wd.cons (by omega) (by omega) Wd.nil)
 have hu0l:(words (n*f)++[0]).length=ku+1:=by simp [hku']
 have hw3:∀ i:Nat,i<kv→(Wr xv)[i]?=some [.u32 ((words (m*f)).getD i 0)]:=fun i hi=>by
  rw [← ev,q5l hi];exact D2 (by omega)
 have hvk:=z5a (B2 (m*f))
 have hvge:=(N4 (m*f)).val_ge (B2 _) (by intro h;rw [h] at lv;simp at lv;omega)
 rw [lv] at hvk hvge
 have hlow:wv ((words (n*f)++[0]).drop (ku+1-kv))<wv (words (m*f)):=by
  have h5:=z5a ((B2 (n*f)).drop (ku+1-kv))
  rw [List.length_drop,← hku',show ku-(ku+1-kv)=kv-1 by omega] at h5
  rw [List.drop_append_of_le_length (by omega),z5b]
  omega
 obtain ⟨u',q',r1,r2,r3,r4,r5,r6,r7⟩:=q3e (E:=E) (m:=Wr (words f)) (w1:=[[.u32 0]]) (w3:=Wr xv) (lq:=ku+1-kv) (lu:=ku+1) (B2 (m*f)) lv hm nv (by omega) hw3 (ku+1-kv) (words (n*f)++[0]) (List.replicate (ku+1-kv) 0) hu0 hu0l (Wd.replicate _) (by simp) (Nat.le_refl _) (fun _=>by omega) hlow
 rw [drop_nil (by simp),z5b,B1,B1,show wv []=0 from rfl] at r7
 rw [B1] at r6
 have hq0:=C2 r4
 have hr0:=C2 r2
 obtain ⟨Q,hQ⟩:∃ Q:Nat,wv q'=Q:=⟨(wv q').toNat,by omega⟩
 obtain ⟨R,hR⟩:∃ R:Nat,wv u'=R:=⟨(wv u').toNat,by omega⟩
 rw [hQ,hR] at r7
 rw [hR] at r6
 have hmf0:0<m*f:=by omega
 have e1:n*f=Q*(m*f)+R:=by
  have:((n*f:Nat):Int)=((Q*(m*f)+R:Nat):Int):=by
   rw [Int.natCast_add,Int.natCast_mul Q]
   have:((Q:Int))*((m*f:Nat):Int)=((m*f:Nat):Int)*Q:=Int.mul_comm _ _
   simp at r7
   simp at this ⊢
   omega
  omega
 have hfR:f ∣ R:=by
  have h5:f ∣ Q*(m*f):=⟨Q*m,by rw [← Nat.mul_assoc,Nat.mul_comm]⟩
  exact (Nat.dvd_add_right h5).1 (by rw [← e1];exact ⟨n,Nat.mul_comm _ _⟩)
 obtain ⟨R',hR'⟩:=hfR
 have e2:n=Q*m+R':=by
  have:f*n=f*(Q*m+R'):=by
   rw [Nat.mul_add,← hR',Nat.mul_comm f n,e1,← Nat.mul_assoc,Nat.mul_comm f]
  exact Nat.eq_of_mul_eq_mul_left (by omega) this
 have e3:R'<m:=by
  have:f*R'<f*m:=by rw [← hR',Nat.mul_comm f m];omega
  exact Nat.lt_of_mul_lt_mul_left this
 obtain ⟨d1,d2⟩:=y4y e2 e3
 have hRf:R / f=R':=by rw [hR',Nat.mul_div_cancel_left _ (by omega)]
 have hul:wv (u'.take kv)=R:=by
  have h5:=D6 u' kv (by omega)
  have h6:=C2 (r2.take kv)
  have h7:=C2 (r2.drop kv)
  rw [B1] at hvk
  rcases Int.lt_or_le 0 (wv (u'.drop kv)) with h | h
  · have h8:pw kv*1≤pw kv*wv (u'.drop kv):=Int.mul_le_mul_of_nonneg_left (by omega) (by have:=V7 kv;omega)
    omega
  · have:wv (u'.drop kv)=0:=by omega
    rw [this,Int.mul_zero] at h5
    omega
 have t1:=(y7j (E:=E) (ws:=u') (k:=kv) (by omega) (by omega)).at (args:=[]) rfl rfl rfl rfl (objs:=[some .dead,some (.vec A0 [[.u32 0]]),some (.vec A0 (Wr u')),some (.vec A0 (Wr xv)),some (.vec A0 (Wr q'))]) (l:=2) rfl
 have t2:=(y7j (E:=E) (ws:=q') (k:=ku+1-kv) (by omega) (by omega)).at (args:=[]) rfl rfl rfl rfl (objs:=[some .dead,some (.vec A0 [[.u32 0]]),some (.fro (Wr u')),some (.vec A0 (Wr xv)),some (.vec A0 (Wr q'))]) (l:=4) rfl
 have w1:=X0 r2 (k:=kv) (by omega)
 rw [hul] at w1
 have w2:=X0 r4 (k:=ku+1-kv) (by omega)
 rw [← r5,List.take_length,hQ,r5] at w2
 have hRl:(words R).length<35184372088000:=by
  have:=congrArg List.length w1
  rw [List.length_take,Int.toNat_natCast] at this
  have:=x9z u' kv
  omega
 have hby:=by_ok (E:=E) (n:=R) (w:=f) ⟨by omega,by omega⟩ hRl
 rw [hRf,show words R=u'.take (V9 u' kv) from w1.symm,← U2] at hby
 rw [d1,d2]
 have h18:(18446744073709551615:Int)≥0:=by decide
 by_cases hsm:m<1000000000000000000
 · exact y0m (i0:=cmpI n m) (i1:=0) (i2:=(m:Int)) (b2:=true) (i3:=(kv:Int)-1) (i5:=t) (i4:=t) (i6:=t+1) (i7:=(f:Int)) (r5:=Wr (words f)) (n0:=ku) (r6:=Wr xu) (r7:=Wr (words (n*f)++[0])) (n1:=ku+1) (n2:=kv) (r8:=Wr xv) (i11:=((ku+1-kv:Nat):Int)) (n3:=ku+1-kv) (r17:=Wr (List.replicate (ku+1-kv) 0)) (i12:=((ku+1-kv:Nat):Int)-1) (r10:=Wr u') (r18:=Wr q') (i13:=(f:Int)) (b1:=true) (n8:=kv) (n9:=V9 u' kv) (n10:=V9 q' (ku+1-kv))
    (wi (by rw [A7,← hk];omega)) (wu (by omega)) (wu (by omega)) (wu ⟨tdv (by omega) hf.symm,by omega,by omega⟩) (by rw [U2,eu,y4d]) rfl (wi (by omega)) (Int.toNat_natCast _) (z2p _ _) (wi (by omega)) (Int.toNat_natCast _) rfl (by rw [U2,w2,Int.toNat_natCast])
    (y2s (by omega)) (by unfold cmpI;split <;> (try split) <;> omega) (z8n hns) (z2f hsm) (by rw [A7,← hk];omega) (by omega) (by rw [show Int.toNat ((kv:Int)-1)=kv-1 by omega,et];exact D2 (by omega)) (by omega) (j2p (by omega)) hru (by omega) hrv (by rw [A7];omega) (by omega) r1 (z2f (by omega)) (by omega) t1 hby t2
 · exact y0m (i0:=cmpI n m) (i1:=0) (i2:=0) (b2:=false) (i3:=(kv:Int)-1) (i5:=t) (i4:=t) (i6:=t+1) (i7:=(f:Int)) (r5:=Wr (words f)) (n0:=ku) (r6:=Wr xu) (r7:=Wr (words (n*f)++[0])) (n1:=ku+1) (n2:=kv) (r8:=Wr xv) (i11:=((ku+1-kv:Nat):Int)) (n3:=ku+1-kv) (r17:=Wr (List.replicate (ku+1-kv) 0)) (i12:=((ku+1-kv:Nat):Int)-1) (r10:=Wr u') (r18:=Wr q') (i13:=(f:Int)) (b1:=true) (n8:=kv) (n9:=V9 u' kv) (n10:=V9 q' (ku+1-kv))
    (wi (by rw [A7,← hk];omega)) (wu (by omega)) (wu (by omega)) (wu ⟨tdv (by omega) hf.symm,by omega,by omega⟩) (by rw [U2,eu,y4d]) rfl (wi (by omega)) (Int.toNat_natCast _) (z2p _ _) (wi (by omega)) (Int.toNat_natCast _) rfl (by rw [U2,w2,Int.toNat_natCast])
    (y2s (by omega)) (by unfold cmpI;split <;> (try split) <;> omega) (z8n hns) (z8n hsm) (by rw [A7,← hk];omega) (by omega) (by rw [show Int.toNat ((kv:Int)-1)=kv-1 by omega,et];exact D2 (by omega)) (by omega) (j2p (by omega)) hru (by omega) hrv (by rw [A7];omega) (by omega) r1 (z2f (by omega)) (by omega) t1 hby t2
def Lim:Nat:=1000000000
structure Lib (E:Env):Prop where
 parseUint:∀ l:List UInt8,Dg l→1≤l.length→l.length≤9→Fn E z5n [.c (.str (B l)),.c (.i64 10),.c (.i64 32)] (.tup [.c (.u64 (dval l:Int)),.undef])
 /-- what is behind a text in front of another one -/
 cutPrefix:∀ l p:List UInt8,l.length<10000000000000→p.length<10000000000000→Fn E X8 [.c (.str (B l)),.c (.str (B p))] (.tup [.c (.str (B (if p.isPrefixOf l then l.drop p.length else l))),.c (.bool (p.isPrefixOf l))])
 /-- what is ahead of the first slash,and behind it -/
 cutYes:∀ p q:List UInt8,(47:UInt8) ∉ p→p.length+q.length<4000000000→Fn E z3r [.c (.str (B (p++47::q))),.c (.str (B [47]))] (.tup [.c (.str (B p)),.c (.str (B q)),.c (.bool true)])
 cutNo:∀ p:List UInt8,(47:UInt8) ∉ p→p.length<4000000000→Fn E z3r [.c (.str (B p)),.c (.str (B [47]))] (.tup [.c (.str (B p)),.c (.str (B [])),.c (.bool false)])
 parseInt:∀ z:Int,(decZ z).length≤9→Fn E z2o [.c (.str (B (decZ z))),.c (.i64 10),.c (.i64 64)] (.tup [.c (.i64 z),.undef])
 formatInt:∀ z:Int,-9223372036854775808≤z∧z≤9223372036854775807→Fn E z1p [.c (.i64 z),.c (.i64 10)] (.c (.str (B (decZ z))))
 itoa:∀ z:Int,-9223372036854775808≤z∧z≤9223372036854775807→Fn E x0d [.c (.i64 z)] (.c (.str (B (decZ z))))
 /-- an operation of package rational,by its byte -/
 apply:∀ (op:Int) (f:Nat),(op,f)∈[(43,X4),(42,P3),(45,N0),(47,N1)]→∀ (a b x1 x2 y1 y2 z1 z2 t:BA),Fn E F_rational_both [.c (.str a),.c (.str b)] (.tup [.agg [.str x1,.str x2],.agg [.str y1,.str y2],.c (.i64 0)])→(op=47→¬ y1=B [48]) →
  Fn E f [.agg [.str x1,.str x2],.agg [.str y1,.str y2]] (.agg [.str z1,.str z2])→Fn E F_rational_frac_text [.agg [.str z1,.str z2]] (.c (.str t))→Fn E Z6 [.c (.u8 op),.c (.str a),.c (.str b)] (.tup [.c (.str t),.c (.i64 0)])
 text:∀ n K:Nat,n<10 ^ K→K≤Lim+1→Fn E J1 [.c (.list (Wr (words n)))] (.c (.str (B (dec n))))
theorem q5g (K:Nat):((10 ^ K:Nat):Int)≤pw K:=by
 unfold pw
 rw [show (1000000000:Int) ^ K=((1000000000 ^ K:Nat):Int) by rw [Int.natCast_pow];rfl]
 exact Int.ofNat_le.2 (Nat.pow_le_pow_left (by decide) K)
theorem z3q {n K:Nat} (h:n<10 ^ K):(words n).length≤K:=z0t (Int.lt_of_lt_of_le (Int.ofNat_lt.2 h) (q5g K))
theorem y1o {a b:Int}:cmpI a b<0↔a<b:=by unfold cmpI;split <;> (try split) <;> omega
theorem j1u {m n:Nat} (hm:m≠0) (hl:(words n).length<1099511627776):Fn E A3 [.c (.list (Wr (words n))),.c (.list (Wr (words m)))] (.tup [.c (.list (Wr (words (n / m)))),.c (.list (Wr (words (n % m))))]):=by
 have hc:=y2s (E:=E) (m:=n) (n:=m) (by omega)
 by_cases h1:n<m
 · rw [Nat.div_eq_of_lt h1,Nat.mod_eq_of_lt h1,J9]
   exact x1k hc (y1o.2 (by omega))
 · have hc':¬ cmpI n m<0:=fun h=>h1 (by have:=y1o.1 h;omega)
   by_cases h2:n<1000000000000000000
   · have hd:n / m<1000000000000000000:=Nat.lt_of_le_of_lt (Nat.div_le_self _ _) h2
     have hr:n % m<1000000000000000000:=Nat.lt_of_lt_of_le (Nat.mod_lt _ (by omega)) (by omega)
     have hdz:0≤((n / m:Nat):Int)∧((n / m:Nat):Int)≤18446744073709551615:=⟨Int.natCast_nonneg _,by have:=Int.ofNat_lt.2 hd;exact Int.le_trans (Int.le_of_lt this) (by decide)⟩
     exact x1l (i3:=((n / m:Nat):Int)) (i4:=((n % m:Nat):Int)) (wu ⟨tdv (by omega) rfl,hdz⟩) (tmd (by omega) rfl) hc hc' (z2f h2) (z2f (by omega)) (by omega) (j2p hd) (j2p hr)
   · by_cases h3:(words m).length=1
     · have hm1:m<1000000000:=by
        have:=z5a (B2 m)
        rw [B1,h3,show pw 1=1000000000 by decide] at this
        omega
       have e:words m=[(m:Int)]:=by
        rcases x3p (n:=m) (by omega) with ⟨_,h⟩ | ⟨e,_,_⟩ | ⟨_,h⟩
        · exact absurd h hm
        · exact e
        · omega
       have hs:=z2f (E:=E) (n:=m) (by omega)
       have hb:=by_ok (E:=E) (n:=n) (w:=m) ⟨by omega,hm1⟩ (by omega)
       exact x1m (i3:=(m:Int)) (i5:=(m:Int)) (wu (by omega)) hc hc' (z8n h2) hs (by rw [A7,h3];rfl) (by rw [e];rfl) hb
     · have:words m≠[]:=fun h=>hm (z2g.1 h)
       have:=z5g this
       exact j3v (by omega) (by omega) hl h2
theorem j2b:∀ (t y x:Nat),y<t→x<1000000000000000000→y<1000000000000000000→Lp E 0 C3 1 (z0g x y) (.exit 2) (z4p (Nat.gcd x y:Nat))
 | 0,y,x,h,_,_=>by omega
 | t+1,y,x,h,hx,hy=>by
  by_cases h0:y=0
  · subst h0
    rw [Nat.gcd_zero_right]
    exact y6s (by omega)
  · have hm:=Nat.mod_lt x (show 0<y by omega)
    have e:Nat.gcd x y=Nat.gcd y (x % y):=by rw [Nat.gcd_comm x y,Nat.gcd_rec y x,Nat.gcd_comm]
    rw [e]
    exact y9w (i3:=((x % y:Nat):Int)) (tmd (by omega) rfl) (by omega) (by omega) (j2b t (x % y) y (by omega) hy (by omega))
theorem k5y {L:Nat} (hL:L<1099511627776):∀ (t n m:Nat),n<t→(words m).length≤L→(words n).length≤L →
    (Lp E 0 C3 0 (H9 (Wr (words m)) (Wr (words n))) .ret (z4n (Wr (words (Nat.gcd m n))))) ∨
    (Lp E 0 C3 0 (H9 (Wr (words m)) (Wr (words n))) (.exit 0) (z4o (Wr (words (Nat.gcd m n)))))
 | 0,n,m,h,_,_=>by omega
 | t+1,n,m,h,hm,hn=>by
  by_cases h0:n=0
  · subst h0
    rw [Nat.gcd_zero_right,J9]
    exact .inr (y6r (by simp [Wr]))
  · have hpos:((Wr (words n)).length:Int)>0:=by
     have:words n≠[]:=fun h=>h0 (z2g.1 h)
     have:=z5g this
     rw [A7];omega
    have hr:=Nat.mod_lt m (show 0<n by omega)
    have e:Nat.gcd m n=Nat.gcd n (m % n):=by rw [Nat.gcd_comm m n,Nat.gcd_rec n m,Nat.gcd_comm]
    have hrl:(words (m % n)).length≤L:=Nat.le_trans ((N4 _).length_le (B2 _) (B2 n) (by rw [B1,B1];omega)) hn
    have hd:=j1u (E:=E) (m:=n) (n:=m) h0 (by omega)
    by_cases s1:m<1000000000000000000
    · by_cases s2:n<1000000000000000000
      · refine .inl (y6q hpos (z2f s1) (z2f s2) (j2b (n+1) n m (by omega) s1 s2) (j2p ?_))
        exact Nat.lt_of_le_of_lt (Nat.gcd_le_right m (by omega)) s2
      · rw [e]
        rcases k5y hL t (m % n) n (by omega) hn hrl with ih | ih
        · exact .inl (z8r hpos (z2f s1) (z8n s2) hd ih)
        · exact .inr (z8r hpos (z2f s1) (z8n s2) hd ih)
    · rw [e]
      have hs:∃ v b,Fn E B9 [.c (.list (Wr (words n)))] (.tup [.c (.u64 v),.c (.bool b)]):=by
       by_cases s2:n<1000000000000000000
       · exact ⟨_,_,z2f s2⟩
       · exact ⟨_,_,z8n s2⟩
      obtain ⟨v,b,hs⟩:=hs
      rcases k5y hL t (m % n) n (by omega) hn hrl with ih | ih
      · exact .inl (z8s hpos (z8n s1) hs hd ih)
      · exact .inr (z8s hpos (z8n s1) hs hd ih)
theorem gcd_ok {m n L:Nat} (hL:L<1099511627776) (hm:(words m).length≤L) (hn:(words n).length≤L):Fn E C3 [.c (.list (Wr (words m))),.c (.list (Wr (words n)))] (.c (.list (Wr (words (Nat.gcd m n))))):=by
 rcases k5y (E:=E) hL (n+1) n m (by omega) hm hn with h | h
 · exact x8l h
 · exact x8m h
def y4h (c:UInt8):Bool:=decide (48≤c.toNat) && decide (c.toNat≤57)
def natB (l:List UInt8):Bool:=!l.isEmpty && l.all y4h && (decide (l.length≤1) || !(l.head? == some 48))
theorem x3e {c:UInt8}:y4h c=true↔48≤c.toNat∧c.toNat≤57:=by simp [y4h]
theorem y4i {c:UInt8} (h:c.toNat<48∨57<c.toNat):y4h c=false:=by
 cases hb:y4h c with
 | false=>rfl
 | true=>have:=x3e.1 hb;omega
theorem y6h {l:List UInt8}:natB l=true↔k2g l:=by
 unfold natB k2g Dg
 simp only [Bool.and_eq_true,Bool.not_eq_true',List.isEmpty_eq_false_iff,List.all_eq_true,x3e,Bool.or_eq_true,decide_eq_true_eq,beq_eq_false_iff_ne,and_assoc]
 constructor
 · rintro ⟨h1,h2,h3⟩
   exact ⟨h1,h2,fun h=>h3.resolve_left (by omega)⟩
 · rintro ⟨h1,h2,h3⟩
   refine ⟨h1,h2,?_⟩
   by_cases h:l.length≤1
   · exact .inl h
   · exact .inr (h3 (by omega))
theorem k7h (n:Nat):natB (dec n)=true:=y6h.2 (x2y n)
theorem y1n (l:List UInt8) (i:Nat):(((B l).data.toList.getD (Int.toNat (i:Int)) 0).toNat:Int)=((l.getD i 0).toNat:Int):=by rw [z6j,Int.toNat_natCast]
theorem k9e (l:List UInt8) (hl:l.length<9223372036854775807):∀ d i:Nat,i+d=l.length →
    ((l.drop i).all y4h=true∧Lp E 0 C4 0 (I8 (B l) l.length i) (.exit 0) z2w) ∨
    ((l.drop i).all y4h=false∧Lp E 0 C4 0 (I8 (B l) l.length i) .ret z0f)
 | 0,i,hi=>.inl ⟨by rw [List.drop_eq_nil_of_le (by omega)];rfl,y9s (by omega)⟩
 | d+1,i,hi=>by
  have hd:l.drop i=l.getD i 0::l.drop (i+1):=by
   rw [List.drop_eq_getElem_cons (by omega),List.getD_eq_getElem?_getD,List.getElem?_eq_getElem (by omega)];rfl
  have hlt:0≤(i:Int)∧(i:Int)<(B l).size:=by rw [C5];omega
  rw [hd,List.all_cons]
  by_cases c1:(l.getD i 0).toNat<48
  · have:y4h (l.getD i 0)=false:=y4i (by omega)
    exact .inr ⟨by rw [this];rfl,y9q (y1n l i) (by omega) hlt (by omega)⟩
  · by_cases c2:(l.getD i 0).toNat>57
    · have:y4h (l.getD i 0)=false:=y4i (by omega)
      exact .inr ⟨by rw [this];rfl,y9r (y1n l i) (by omega) hlt (by omega) (by omega)⟩
    · have:y4h (l.getD i 0)=true:=x3e.2 (by omega)
      rw [this,Bool.true_and]
      rcases k9e l hl d (i+1) (by omega) with ⟨h1,h2⟩ | ⟨h1,h2⟩
      · exact .inl ⟨h1,y1i (y1n l i) (wi (by omega)) (by omega) hlt (by omega) (by omega) h2⟩
      · exact .inr ⟨h1,y1i (y1n l i) (wi (by omega)) (by omega) hlt (by omega) (by omega) h2⟩
theorem q5u {l:List UInt8} (h:l≠[]):¬ B l=(⟨#[]⟩:BA):=fun e=>h (y1h (e.trans B_nil.symm))
theorem Z8 (l:List UInt8) (hl:l.length<9223372036854775807):Fn E C4 [.c (.str (B l))] (.c (.bool (natB l))):=by
 cases l with
 | nil=>exact k3g B_nil
 | cons c m =>
  have hne:=q5u (l:=c::m) (by simp)
  have h0:(((B (c::m)).data.toList.getD 0 0).toNat:Int)=(c.toNat:Int):=by rw [z6j];rfl
  have hloop:=k9e (E:=E) (c::m) hl (c::m).length 0 (by omega)
  simp only [List.drop_zero] at hloop
  by_cases h1:1<(c::m).length
  · have hlt:0≤(0:Int)∧(0:Int)<(B (c::m)).size:=by rw [C5];omega
    by_cases h2:c.toNat=48
    · have hc:c=48:=UInt8.toNat_inj.1 h2
      have e:natB (c::m)=false:=by
       unfold natB
       have:decide ((c::m).length≤1)=false:=decide_eq_false (by omega)
       rw [this];subst hc;simp
      rw [e]
      exact k3h h0 hne (by rw [C5];omega) hlt (by omega)
    · have hc:¬ c=48:=fun e=>h2 (by rw [e];rfl)
      have e:natB (c::m)=(c::m).all y4h:=by
       unfold natB
       have:((c::m).head? == some 48)=false:=by simp [hc]
       rw [this];simp
      rw [e]
      rcases hloop with ⟨g1,g2⟩ | ⟨g1,g2⟩
      · rw [g1];exact k3j h0 hne (by rw [C5];omega) hlt (by omega) (by rw [C5];exact g2)
      · rw [g1];exact k3i h0 hne (by rw [C5];omega) hlt (by omega) (by rw [C5];exact g2)
  · have e:natB (c::m)=(c::m).all y4h:=by
     unfold natB
     have:decide ((c::m).length≤1)=true:=decide_eq_true (by omega)
     rw [this];simp
    rw [e]
    rcases hloop with ⟨g1,g2⟩ | ⟨g1,g2⟩
    · rw [g1];exact k3l hne (by rw [C5];omega) (by rw [C5];exact g2)
    · rw [g1];exact k3k hne (by rw [C5];omega) (by rw [C5];exact g2)
theorem Dg.take {l:List UInt8} (h:Dg l) (n:Nat):Dg (l.take n):=fun c hc=>h c (List.mem_of_mem_take hc)
theorem Dg.drop {l:List UInt8} (h:Dg l) (n:Nat):Dg (l.drop n):=fun c hc=>h c (List.mem_of_mem_drop hc)
theorem y0t:(10:Nat) ^ 9=1000000000:=by decide
theorem j2x (hlib:Lib E) {l:List UInt8} (hd:Dg l) (hl:l.length<10000000000000):∀ (t i:Nat) (ws:List Int) (n:Nat),n≤t→n≤l.length→9*i≤l.length+8→ws.length=i→(0<n→n+9*i=l.length)→Wd ws→wv ws+pw i*(dval (l.take n):Int)=dval l →
    ∃ ws',Lp E 0 N8 0 (z3h (B (l.take n)) i (Wr ws)) (.exit 0) (z8a ws'.length (Wr ws'))∧Wd ws'∧wv ws'=dval l∧ws'.length≤l.length+8
 | t,i,ws,0,_,_,hi,hw,_,hwd,hv=>by
  rw [List.take_zero,show dval []=0 from rfl] at hv
  exact ⟨ws,by rw [hw];exact x1o (by rw [C5];simp),hwd,by simpa using hv,by omega⟩
 | 0,i,ws,n+1,h,_,_,_,_,_,_=>by omega
 | t+1,i,ws,n+1,hn,hnl,hi,hw,hni,hwd,hv=>by
  obtain ⟨at',ha⟩:∃ a,a=n+1-9:=⟨_,rfl⟩
  have hlen:(l.take (n+1)).length=n+1:=by simp;omega
  obtain ⟨p,hp⟩:∃ p,p=(l.take (n+1)).drop at':=⟨_,rfl⟩
  have hpd:Dg p:=by rw [hp];exact Dg.drop (Dg.take hd _) _
  have hpl:p.length=n+1-at':=by rw [hp,List.length_drop,hlen]
  have hval:dval p<1000000000:=by
   have:=x7x hpd
   have h9:(10:Nat) ^ p.length≤10 ^ 9:=Nat.pow_le_pow_right (by decide) (by omega)
   rw [y0t] at h9
   omega
  have hsplit:l.take (n+1)=l.take at'++p:=by
   rw [hp]
   have:=(List.take_append_drop at' (l.take (n+1))).symm
   rwa [List.take_take,Nat.min_eq_left (by omega)] at this
  have hvs:wv (ws++[(dval p:Int)])+pw (i+1)*(dval (l.take at'):Int)=dval l:=by
   rw [z5b,hw,z1e]
   rw [hsplit,y0g] at hv
   by_cases h9:p.length=9
   · rw [h9,y0t] at hv
     have e:((dval (l.take at')*1000000000+dval p:Nat):Int)=1000000000*(dval (l.take at'):Int)+dval p:=by omega
     rw [e] at hv
     grind
   · have:at'=0:=by omega
     subst this
     rw [List.take_zero,show dval []=0 from rfl] at hv ⊢
     rw [show ((0*10 ^ p.length+dval p:Nat):Int)=(dval p:Int) by simp] at hv
     simp
     omega
  obtain ⟨ws',k1,k2,k3,k4⟩:=j2x hlib hd hl t (i+1) (ws++[(dval p:Int)]) at' (by omega) (by omega) (by omega) (by simp [hw]) (by omega) (hwd.append (Wd.cons (by omega) (by omega) Wd.nil)) hvs
  refine ⟨ws',?_,k2,k3,k4⟩
  have hsz:((B (l.take (n+1))).size:Int)=((n+1:Nat):Int):=by rw [C5,hlen]
  refine x6e (i0:=((n+1:Nat):Int)-9) (i1:=(at':Int)) (s1:=B p) (i2:=(dval p:Int)) (i3:=(dval p:Int)) (r2:=Wr (ws++[(dval p:Int)])) (n2:=i+1) (s2:=B (l.take at'))
   (wi (by rw [hsz];omega)) (by split <;> omega) (by rw [hsz,Int.toNat_natCast,Int.toNat_natCast,y1z,List.take_of_length_le (by omega),hp]) (w32 (by omega)) (by rw [U2,← hw,List.take_length,y4d]) rfl (by rw [Int.toNat_natCast,y1z,List.drop_zero,List.take_take,Nat.min_eq_left (by omega)])
   (by rw [hsz];omega) (by rw [C5,hlen];omega) (hlib.parseUint p hpd (by omega) (by omega)) (by omega) (by rw [C5,hlen];omega) k1
theorem q3u (hlib:Lib E) {l:List UInt8} (hd:Dg l) (hl:l.length<10000000000000):Fn E N8 [.c (.str (B l))] (.c (.list (Wr (words (dval l))))):=by
 obtain ⟨ws,k1,k2,k3,k4⟩:=j2x (E:=E) hlib hd hl l.length 0 [] l.length (Nat.le_refl _) (Nat.le_refl _) (by omega) rfl (by omega) Wd.nil (by rw [List.take_length,y8o];simp [wv])
 rw [List.take_length] at k1
 have h:=X0 k2 (k:=ws.length) (Nat.le_refl _)
 rw [List.take_length,k3,Int.toNat_natCast] at h
 exact k7k (by rw [U2,h]) k1 (y7j (Nat.le_refl _) (by omega))
theorem x5l {n K:Nat} (h:n<10 ^ K):(dec n).length≤K+1:=by
 rcases Nat.eq_zero_or_pos K with rfl | hK
 · have:n=0:=by simpa using h
   subst this;rw [z1y];simp
 · exact Nat.le_succ_of_le (dec_length h hK)
theorem K3:Lim=1000000000:=rfl
theorem x2t (hlib:Lib E) {a b K L:Nat} (ha:a<10 ^ K) (hb:b<10 ^ L) (hK:K≤Lim) (hL:L≤Lim):Fn E U9 [.c (.str (B (dec a))),.c (.str (B (dec b)))] (.tup [.c (.list (Wr (words a))),.c (.list (Wr (words b))),.c (.i64 0)]):=by
 have h1:=x5l ha
 have h2:=x5l hb
 rw [K3] at hK hL
 have v1:=Z8 (E:=E) (dec a) (by omega)
 have v2:=Z8 (E:=E) (dec b) (by omega)
 have r1:=q3u hlib (z8x a) (by omega)
 have r2:=q3u hlib (z8x b) (by omega)
 rw [k7h] at v1 v2
 rw [z0x] at r1 r2
 exact k7j v1 v2 r1 r2
theorem x6b (hlib:Lib E) {a b K L:Nat} (ha:a<10 ^ K) (hb:b<10 ^ L) (hK:K≤Lim) (hL:L≤Lim):Fn E z7k [.c (.str (B (dec a))),.c (.str (B (dec b)))] (.tup [.c (.i64 (cmpI a b)),.c (.i64 0)]):=by
 have w1:=z3q ha
 have hK':=hK
 rw [K3] at hK'
 exact x8k (x2t hlib ha hb hK hL) rfl (y2s (by omega))
theorem V6 {a K M:Nat} (h:a<10 ^ K) (k:K≤M):a<10 ^ M:=Nat.lt_of_lt_of_le h (Nat.pow_le_pow_right (by decide) k)
theorem q0o {a b K:Nat} (h:a<10 ^ K) (k:b<10 ^ K):a+b<10 ^ (K+1):=by rw [Nat.pow_succ];omega
theorem x1i (hlib:Lib E) {a b K L:Nat} (ha:a<10 ^ K) (hb:b<10 ^ L) (hK:K≤Lim) (hL:L≤Lim):Fn E z9u [.c (.str (B (dec a))),.c (.str (B (dec b)))] (.tup [.c (.str (B (dec (a+b)))),.c (.i64 0)]):=by
 have w1:=z3q ha
 have w2:=z3q hb
 have hK':=hK
 have hL':=hL
 rw [K3] at hK' hL'
 have hs:=q0o (V6 ha (show K≤max K L by omega)) (V6 hb (show L≤max K L by omega))
 exact j0c (x2t hlib ha hb hK hL) rfl (z7j (v1q (by omega) (by omega)) (hlib.text _ _ hs (by omega)))
theorem y2z (hlib:Lib E) {a b K L:Nat} (ha:a<10 ^ K) (hb:b<10 ^ L) (hK:K≤Lim) (hL:L≤Lim) (hab:b≤a):Fn E z5w [.c (.str (B (dec a))),.c (.str (B (dec b)))] (.tup [.c (.str (B (dec (a-b)))),.c (.i64 0)]):=by
 have w1:=z3q ha
 have hK':=hK
 rw [K3] at hK'
 exact j0f (x2t hlib ha hb hK hL) rfl (y2s (by omega)) (fun h=>by have:=y1o.1 h;omega) (z6r (q7v (by omega) hab) (hlib.text _ _ (Nat.lt_of_le_of_lt (Nat.sub_le _ _) ha) (by omega)))
theorem y2y (hlib:Lib E) {a b K L:Nat} (ha:a<10 ^ K) (hb:b<10 ^ L) (hKL:K+L≤Lim):Fn E z1j [.c (.str (B (dec a))),.c (.str (B (dec b)))] (.tup [.c (.str (B (dec (a*b)))),.c (.i64 0)]):=by
 have w1:=z3q ha
 have w2:=z3q hb
 have hK':=hKL
 rw [K3] at hK'
 exact j0e (x2t hlib ha hb (by omega) (by omega)) rfl (z6s (q9y (by omega)) (hlib.text _ _ (z0e ha hb) (by omega)))
theorem y4l (hlib:Lib E) {a b K L:Nat} (ha:a<10 ^ K) (hb:b<10 ^ L) (hK:K≤Lim) (hL:L≤Lim)(h0:b≠0):Fn E Z5 [.c (.str (B (dec a))),.c (.str (B (dec b)))] (.tup [.c (.str (B (dec (a / b)))),.c (.str (B (dec (a % b)))),.c (.i64 0)]):=by
 have w1:=z3q ha
 have hK':=hK
 rw [K3] at hK'
 have hne:((Wr (words b)).length:Int)≠0:=by
  have:words b≠[]:=fun h=>h0 (z2g.1 h)
  have:=z5g this
  rw [A7];omega
 exact k0y (x2t hlib ha hb hK hL) rfl hne (j1u h0 (by omega)) (hlib.text _ _ (Nat.lt_of_le_of_lt (Nat.div_le_self _ _) ha) (by omega)) (hlib.text _ _ (Nat.lt_of_le_of_lt (Nat.mod_le _ _) ha) (by omega))
theorem k7i (hlib:Lib E) {a b K L:Nat} (ha:a<10 ^ K) (hb:b<10 ^ L) (hK:K≤Lim) (hL:L≤Lim) (hp:0<a∨0<b):Fn E y4v [.c (.str (B (dec a))),.c (.str (B (dec b)))] (.tup [.c (.str (B (dec (Nat.gcd a b)))),.c (.i64 0)]):=by
 have w1:=z3q ha
 have w2:=z3q hb
 have hK':=hK
 have hL':=hL
 rw [K3] at hK' hL'
 have hg:Nat.gcd a b<10 ^ max K L:=by
  rcases hp with h | h
  · exact Nat.lt_of_le_of_lt (Nat.gcd_le_left b h) (V6 ha (by omega))
  · exact Nat.lt_of_le_of_lt (Nat.gcd_le_right a h) (V6 hb (by omega))
 exact j0d (x2t hlib ha hb hK hL) rfl (z7z (gcd_ok (L:=max K L) (by omega) (by omega) (by omega)) (hlib.text _ _ hg (by omega)))
theorem q5t (l m:List UInt8):(B l == B m)=(l == m):=by
 rw [beq_toListBytes,toList_eq,toList_eq,z6j,z6j]
theorem B48:(⟨#[48]⟩:BA)=B [48]:=rfl
theorem B45:(⟨#[45]⟩:BA)=B [45]:=rfl
theorem B49:(⟨#[49]⟩:BA)=B [49]:=rfl
theorem q6m:B [49]=B (dec 1):=by rw [z7o]
def Zc (z:Int):List DV:=[.bool (decide (z<0)),.str (B (dec z.natAbs))]
def intB (l:List UInt8):Bool:=if [45].isPrefixOf l then natB (l.drop 1) && !(l.drop 1 == [48]) else natB l
theorem j8r (c:UInt8) (m:List UInt8):[45].isPrefixOf (c::m)=(c == 45):=by
 show ((45:UInt8) == c && [].isPrefixOf m)=(c == 45)
 simp [Bool.beq_eq_decide_eq,eq_comm]
theorem x0s {l:List UInt8}:intB l=true↔j7f l:=by
 unfold intB j7f
 cases l with
 | nil =>
  show natB []=true↔_
  constructor
  · intro h;exact absurd h (by decide)
  · rintro (h | ⟨m,h,_⟩)
    · exact absurd rfl h.1
    · cases h
 | cons c m =>
  rw [j8r]
  by_cases hc:c=45
  · subst hc
    simp only [beq_self_eq_true,if_true,List.drop_succ_cons,List.drop_zero,Bool.and_eq_true,Bool.not_eq_true',beq_eq_false_iff_ne,y6h]
    constructor
    · rintro ⟨h1,h2⟩;exact .inr ⟨m,rfl,h1,h2⟩
    · rintro (h | ⟨m',h,h1,h2⟩)
      · have:=h.2.1 45 (by simp)
        exact absurd this.1 (by decide)
      · cases h;exact ⟨h1,h2⟩
  · simp only [beq_eq_false_iff_ne.2 hc,Bool.false_eq_true,if_false,y6h]
    constructor
    · exact .inl
    · rintro (h | ⟨m',h,_⟩)
      · exact h
      · cases h;exact absurd rfl hc
theorem x3d (z:Int):intB (decZ z)=true:=x0s.2 (q0v z)
theorem j8z (hlib:Lib E) {l:List UInt8} (hl:l.length<10000000000000):Fn E U7 [.c (.str (B l))] (.tup [.agg [.bool ([45].isPrefixOf l),.str (B (if [45].isPrefixOf l then l.drop 1 else l))],.c (.bool (intB l))]):=by
 have hc:=hlib.cutPrefix l [45] hl (by decide)
 unfold intB
 cases hb:[45].isPrefixOf l with
 | true =>
  rw [hb] at hc
  simp only [if_true,List.length_singleton] at hc ⊢
  have hv:=Z8 (E:=E) (l.drop 1) (by simp;omega)
  cases hn:natB (l.drop 1) with
  | true =>
   rw [hn] at hv
   by_cases h48:l.drop 1=[48]
   · rw [h48,show (true && !([48] == ([48]:List UInt8)))=false from rfl]
     rw [h48] at hc hv
     exact k6f hc hv (by rw [B48,q5t];rfl)
   · rw [show (true && !(l.drop 1 == [48]))=true by rw [beq_eq_false_iff_ne.2 h48];rfl]
     exact x0v hc hv (by rw [B48,q5t,beq_eq_false_iff_ne.2 h48];rfl)
  | false =>
   rw [hn] at hv
   rw [Bool.false_and]
   exact x0w hc hv
 | false =>
  rw [hb] at hc
  simp only [Bool.false_eq_true,if_false] at hc ⊢
  have hv:=Z8 (E:=E) l (by omega)
  cases hn:natB l with
  | true=>rw [hn] at hv;exact x0v hc hv rfl
  | false=>rw [hn] at hv;exact x0w hc hv
theorem x7w (z:Int):[45].isPrefixOf (decZ z)=decide (z<0)∧(if [45].isPrefixOf (decZ z) then (decZ z).drop 1 else decZ z)=dec z.natAbs:=by
 by_cases h:z<0
 · rw [z0c h,j8r];simp [h]
 · rw [J0 (by omega)]
   have:[45].isPrefixOf (dec z.natAbs)=false:=by
    cases hd:dec z.natAbs with
    | nil=>rfl
    | cons c m =>
     rw [j8r]
     refine beq_eq_false_iff_ne.2 fun e=>?_
     have:=z8x z.natAbs c (by rw [hd];simp)
     rw [e] at this
     exact absurd this.1 (by decide)
   rw [this];simp [h]
theorem j2w (hlib:Lib E) {z:Int} (hl:(decZ z).length<10000000000000):Fn E U7 [.c (.str (B (decZ z)))] (.tup [.agg (Zc z),.c (.bool true)]):=by
 have:=j8z hlib hl
 rw [(x7w z).2,(x7w z).1,x3d] at this
 exact this
theorem x2v {z:Int} {K:Nat} (h:z.natAbs<10 ^ K):(decZ z).length≤K+2:=by
 have:=x5l h
 unfold decZ
 split <;> simp <;> omega
theorem z9c (hlib:Lib E) {l:List UInt8} (hl:l.length<10000000000000):Fn E z3d [.c (.str (B l))] (.c (.bool (intB l))):=k3b (j8z hlib hl)
theorem x7o (hlib:Lib E) {a b:Int} {K L:Nat} (ha:a.natAbs<10 ^ K) (hb:b.natAbs<10 ^ L) (hK:K≤Lim) (hL:L≤Lim):Fn E z1t [.c (.str (B (decZ a))),.c (.str (B (decZ b)))] (.tup [.agg (Zc a),.agg (Zc b),.c (.i64 0)]):=by
 have h1:=x2v ha
 have h2:=x2v hb
 rw [K3] at hK hL
 exact k6e (j2w hlib (by omega)) (j2w hlib (by omega))
theorem q3h (hlib:Lib E) {a:Int} {K:Nat} (ha:a.natAbs<10 ^ K) (hK:K≤Lim):Fn E z9s [.c (.str (B (decZ a)))] (.tup [.agg (Zc a),.c (.i64 0)]):=by
 have:=x7o hlib ha (show (0:Int).natAbs<10 ^ 1 by decide) hK (by rw [K3];omega)
 rw [y2b] at this
 exact k9q this
def sgn (neg:Bool) (n:Nat):Int:=if neg then -(n:Int) else n
theorem z8q (neg:Bool) (n:Nat):Fn E G4 [.c (.bool neg),.c (.str (B (dec n)))] (.agg (Zc (sgn neg n))):=by
 cases neg with
 | false =>
  have:Zc (sgn false n)=[.bool false,.str (B (dec n))]:=by unfold Zc sgn;simp
  rw [this];exact k6i
 | true =>
  by_cases h:n=0
  · subst h
    have:Zc (sgn true 0)=[.bool false,.str (B (dec 0))]:=by unfold Zc sgn;simp
    rw [this];exact k6h (by rw [B48,z1y])
  · have:Zc (sgn true n)=[.bool true,.str (B (dec n))]:=by
     unfold Zc sgn
     simp only [if_true,Int.natAbs_neg,Int.natAbs_natCast]
     rw [decide_eq_true (by omega)]
    rw [this]
    exact k6g (fun e=>h (by rw [B48] at e;exact z7c.1 (y1h e)))
theorem x2o {z:Int} {K:Nat} (hz:z.natAbs<10 ^ K) (hK:K≤Lim+Lim):Fn E I1 [.agg (Zc z)] (.c (.str (B (decZ z)))):=by
 have h1:=x5l hz
 rw [K3] at hK
 by_cases h:z<0
 · have:Zc z=[.bool true,.str (B (dec z.natAbs))]:=by unfold Zc;rw [decide_eq_true h]
   rw [this,z0c h]
   exact y9m (by rw [B45,y2i];rfl) (by rw [B45,C5,C5];simp;omega)
 · have:Zc z=[.bool false,.str (B (dec z.natAbs))]:=by unfold Zc;rw [decide_eq_false h]
   rw [this,J0 (by omega)]
   exact y9n
theorem j8n (z:Int):Fn E z0o [.agg (Zc z)] (.agg (Zc (-z))):=by
 have:=z8q (E:=E) (!decide (z<0)) z.natAbs
 have e:sgn (!decide (z<0)) z.natAbs=-z:=by unfold sgn;split <;> rename_i h <;> simp at h <;> omega
 rw [e] at this
 exact y3j this
theorem v0f:Fn E y2j [] (.agg [.bool false,.str (B [48])]):=k6j
theorem isZero (z:Int):((decide (z<0) == false) && ((B (dec z.natAbs) == B [48]) && true))=decide (z=0):=by
 rw [q5t]
 by_cases h:z=0
 · subst h;rw [decide_eq_true rfl];simp [z1y]
 · rw [decide_eq_false h]
   have:(dec z.natAbs == [48])=false:=beq_eq_false_iff_ne.2 fun e=>h (by have:=z7c.1 e;omega)
   rw [this];simp
theorem v2j (hlib:Lib E) {a b:Int} {K L:Nat} (ha:a.natAbs<10 ^ K) (hb:b.natAbs<10 ^ L) (hK:K≤Lim) (hL:L≤Lim) (hs:decide (a<0)=decide (b<0)):Fn E z9t [.agg (Zc a),.agg (Zc b)] (.agg (Zc (a+b))):=by
 have h:=x1i hlib ha hb hK hL
 have hw:=z8q (E:=E) (decide (a<0)) (a.natAbs+b.natAbs)
 have e:sgn (decide (a<0)) (a.natAbs+b.natAbs)=a+b:=by
  unfold sgn
  rw [decide_eq_decide] at hs
  by_cases c:a<0
  · have:=hs.1 c;rw [decide_eq_true c,if_pos rfl];omega
  · have:¬ b<0:=fun x=>c (hs.2 x)
    rw [decide_eq_false c,if_neg (by simp)];omega
 rw [e] at hw
 exact k9r h hw
theorem k5h (hlib:Lib E) {a b:Int} {K L:Nat} (ha:a.natAbs<10 ^ K) (hb:b.natAbs<10 ^ L) (hK:K≤Lim) (hL:L≤Lim) (hs:decide (a<0)≠decide (b<0)):Fn E U6 [.agg (Zc a),.agg (Zc b)] (.agg (Zc (a+b))):=by
 have hc:=x6b hlib ha hb hK hL
 have hs':¬ (a<0↔b<0):=fun h=>hs (decide_eq_decide.2 h)
 by_cases c:a.natAbs<b.natAbs
 · have h:=y2z hlib hb ha hL hK (by omega)
   have hw:=z8q (E:=E) (decide (b<0)) (b.natAbs-a.natAbs)
   have e:sgn (decide (b<0)) (b.natAbs-a.natAbs)=a+b:=by
    unfold sgn
    by_cases d:b<0
    · have:¬ a<0:=fun x=>hs' ⟨fun _=>d,fun _=>x⟩
      rw [decide_eq_true d,if_pos rfl];omega
    · have:a<0:=Classical.byContradiction fun x=>hs' ⟨fun y=>absurd y x,fun y=>absurd y d⟩
      rw [decide_eq_false d,if_neg (by simp)];omega
   rw [e] at hw
   exact x0t hc (y1o.2 (by omega)) h hw
 · have h:=y2z hlib ha hb hK hL (by omega)
   have hw:=z8q (E:=E) (decide (a<0)) (a.natAbs-b.natAbs)
   have e:sgn (decide (a<0)) (a.natAbs-b.natAbs)=a+b:=by
    unfold sgn
    by_cases d:a<0
    · have:¬ b<0:=fun x=>hs' ⟨fun _=>x,fun _=>d⟩
      rw [decide_eq_true d,if_pos rfl];omega
    · have:b<0:=Classical.byContradiction fun x=>hs' ⟨fun y=>absurd y d,fun y=>absurd y x⟩
      rw [decide_eq_false d,if_neg (by simp)];omega
   rw [e] at hw
   exact x0u hc (fun x=>c (by have:=y1o.1 x;omega)) h hw
theorem q6f (b:Bool):Fn E P6 [.c (.bool b)] (.c (.i64 (if b then 1 else 0))):=by
 cases b
 · exact k9p
 · exact k9o
theorem q8q (hlib:Lib E) {a b:Int} {K L:Nat} (ha:a.natAbs<10 ^ K) (hb:b.natAbs<10 ^ L) (hK:K≤Lim) (hL:L≤Lim):Fn E M1 [.agg (Zc a),.agg (Zc b)] (.agg (Zc (a+b))):=by
 have b1:=q6f (E:=E) (decide (a<0))
 have b2:=q6f (E:=E) (decide (b<0))
 by_cases hs:decide (a<0)=decide (b<0)
 · have h:=v2j hlib ha hb hK hL hs
   cases c:decide (a<0) with
   | true =>
    rw [c] at b1 hs;rw [← hs] at b2
    simp only [Zc] at h ⊢;rw [c,← hs] at h ⊢
    exact y9l b1 b2 h
   | false =>
    rw [c] at b1 hs;rw [← hs] at b2
    simp only [Zc] at h ⊢;rw [c,← hs] at h ⊢
    exact y9i b1 b2 h
 · have h:=k5h hlib ha hb hK hL hs
   cases c:decide (a<0) with
   | true =>
    have d:decide (b<0)=false:=by rw [c] at hs;cases x:decide (b<0) with | true=>exact absurd x.symm hs | false=>rfl
    rw [c] at b1;rw [d] at b2
    simp only [Zc] at h ⊢;rw [c,d] at h ⊢
    exact y9k b1 b2 h
   | false =>
    have d:decide (b<0)=true:=by rw [c] at hs;cases x:decide (b<0) with | false=>exact absurd x.symm hs | true=>rfl
    rw [c] at b1;rw [d] at b2
    simp only [Zc] at h ⊢;rw [c,d] at h ⊢
    exact y9j b1 b2 h
theorem q5o (hlib:Lib E) {a b:Int} {K L:Nat} (ha:a.natAbs<10 ^ K) (hb:b.natAbs<10 ^ L) (hKL:K+L≤Lim):Fn E z2i [.agg (Zc a),.agg (Zc b)] (.agg (Zc (a*b))):=by
 have h:=y2y hlib ha hb hKL
 have hw:=z8q (E:=E) (!(decide (a<0) == decide (b<0))) (a.natAbs*b.natAbs)
 have e:sgn (!(decide (a<0) == decide (b<0))) (a.natAbs*b.natAbs)=a*b:=by
  unfold sgn
  have ea:(a.natAbs:Int)=if a<0 then -a else a:=by split <;> omega
  have eb:(b.natAbs:Int)=if b<0 then -b else b:=by split <;> omega
  rw [Int.natCast_mul,ea,eb]
  by_cases c:a<0 <;> by_cases d:b<0 <;> simp [c,d] <;> grind
 rw [e] at hw
 exact y7u rfl h hw
theorem y7l {a b:Int} {K:Nat} (ha:a.natAbs<10 ^ K) (hb:b.natAbs<10 ^ K):(a+b).natAbs<10 ^ (K+1):=by
 have:=Int.natAbs_add_le a b
 rw [Nat.pow_succ];omega
theorem k6c (hlib:Lib E) {a b:Int} {K L:Nat} (ha:a.natAbs<10 ^ K) (hb:b.natAbs<10 ^ L) (hK:K≤Lim) (hL:L≤Lim):Fn E z9r [.c (.str (B (decZ a))),.c (.str (B (decZ b)))] (.tup [.c (.str (B (decZ (a+b)))),.c (.i64 0)]):=by
 have hs:=y7l (V6 ha (show K≤max K L by omega)) (V6 hb (show L≤max K L by omega))
 have:1≤Lim:=by rw [K3];omega
 exact k9l (x7o hlib ha hb hK hL) rfl (q8q hlib ha hb hK hL) (x2o hs (by omega))
theorem z2q {a b:Int} {K L:Nat} (ha:a.natAbs<10 ^ K) (hb:b.natAbs<10 ^ L):(a*b).natAbs<10 ^ (K+L):=by
 rw [Int.natAbs_mul];exact z0e ha hb
theorem y2u (hlib:Lib E) {a b:Int} {K L:Nat} (ha:a.natAbs<10 ^ K) (hb:b.natAbs<10 ^ L) (hKL:K+L≤Lim):Fn E Z2 [.c (.str (B (decZ a))),.c (.str (B (decZ b)))] (.tup [.c (.str (B (decZ (a*b)))),.c (.i64 0)]) :=
 k9m (x7o hlib ha hb (by omega) (by omega)) rfl (q5o hlib ha hb hKL) (x2o (z2q ha hb) (by omega))
theorem k6d (hlib:Lib E) {a:Int} {K:Nat} (ha:a.natAbs<10 ^ K) (hK:K≤Lim):Fn E y4u [.c (.str (B (decZ a)))] (.tup [.c (.str (B (decZ (-a)))),.c (.i64 0)]) :=
 k9n (q3h hlib ha hK) rfl (j8n a) (x2o (K:=K) (by rw [Int.natAbs_neg];exact ha) (by omega))
theorem k6b (hlib:Lib E) {a:Int} {K:Nat} (ha:a.natAbs<10 ^ K) (hK:K≤Lim):Fn E y4t [.c (.str (B (decZ a)))] (.tup [.c (.str (B (dec a.natAbs))),.c (.i64 0)]) :=
 k9k (q3h hlib ha hK) rfl
theorem q0w (hlib:Lib E) {a:Int} {b K L:Nat} (ha:a.natAbs<10 ^ K) (hb:b<10 ^ L) (hK:K≤Lim) (hL:L≤Lim)(h0:b≠0):Fn E M9 [.agg (Zc a),.agg (Zc b)] (.tup [.agg (Zc (a / b)),.agg (Zc (a % b))]):=by
 have h:=y4l hlib ha hb hK hL h0
 have eb:Zc (b:Int)=[.bool false,.str (B (dec b))]:=by unfold Zc;rw [decide_eq_false (by omega),Int.natAbs_natCast]
 have hdm:=Nat.div_add_mod a.natAbs b
 have hlt:=Nat.mod_lt a.natAbs (show 0<b by omega)
 obtain ⟨q,eq⟩:∃ q,q=a.natAbs / b:=⟨_,rfl⟩
 obtain ⟨r,er⟩:∃ r,r=a.natAbs % b:=⟨_,rfl⟩
 rw [← eq,← er] at h hdm
 rw [← er] at hlt
 have hq:q<10 ^ K:=by rw [eq];exact Nat.lt_of_le_of_lt (Nat.div_le_self _ _) ha
 rw [eb]
 have uniq:∀ Q R:Int,a=b*Q+R→0≤R→R<b→a / b=Q∧a % b=R:=by
  intro Q R e h1 h2
  have:=(Int.ediv_emod_unique (show 0<(b:Int) by omega) (a:=a) (r:=R) (q:=Q)).2 ⟨by rw [e];omega,h1,h2⟩
  exact this
 have hdm':((b:Int))*q+r=a.natAbs:=by have:=congrArg (Nat.cast (R:=Int)) hdm;simpa using this
 by_cases c:a<0
 · have ea:Zc a=[.bool true,.str (B (dec a.natAbs))]:=by unfold Zc;rw [decide_eq_true c]
   rw [ea]
   by_cases hr:r=0
   · obtain ⟨u1,u2⟩:=uniq (-(q:Int)) 0 (by rw [Int.mul_neg];omega) (by omega) (by omega)
     rw [u1,u2]
     have w1:=z8q (E:=E) true q
     have w2:=z8q (E:=E) false r
     rw [show sgn true q=-(q:Int) from rfl] at w1
     rw [show sgn false r=(r:Int) from rfl,hr,show ((0:Nat):Int)=0 from rfl] at w2
     rw [hr] at h
     exact y5y rfl h (by rw [B48,z1y]) w1 w2
   · obtain ⟨u1,u2⟩:=uniq (-((q+1:Nat):Int)) ((b-r:Nat):Int) (by rw [Int.mul_neg,Int.natCast_add,Int.mul_add];omega) (by omega) (by omega)
     rw [u1,u2]
     have w1:=z8q (E:=E) true (q+1)
     have w2:=z8q (E:=E) false (b-r)
     have h1:=x1i hlib hq (show 1<10 ^ 1 by decide) hK (by rw [K3];omega)
     have h2:=y2z hlib hb (show r<10 ^ L by omega) hL hL (by omega)
     rw [← q6m] at h1
     exact y5x rfl h (fun e=>hr (by rw [B48] at e;exact z7c.1 (y1h e))) h1 h2 w1 w2
 · have ea:Zc a=[.bool false,.str (B (dec a.natAbs))]:=by unfold Zc;rw [decide_eq_false c]
   rw [ea]
   obtain ⟨u1,u2⟩:=uniq q r (by omega) (by omega) (by omega)
   rw [u1,u2]
   exact y5z rfl h (z8q false q) (z8q false r)
theorem j7n {a:Int} {b:Nat}:(a / b).natAbs≤a.natAbs:=Int.natAbs_ediv_le_natAbs a b
theorem x8a (hlib:Lib E) {a:Int} {b K L:Nat} (ha:a.natAbs<10 ^ K) (hb:b<10 ^ L) (hK:K≤Lim) (hL:L≤Lim)(h0:b≠0):Fn E z8u [.c (.str (B (decZ a))),.c (.str (B (dec b)))] (.tup [.c (.str (B (decZ (a / b)))),.c (.str (B (decZ (a % b)))),.c (.i64 0)]):=by
 have hbo:=x7o hlib ha (show (b:Int).natAbs<10 ^ L from hb) hK hL
 rw [z7n] at hbo
 have hz:=isZero (b:Int)
 rw [decide_eq_false (show ¬ (b:Int)=0 by omega)] at hz
 have hr0:=Int.emod_nonneg a (show (b:Int)≠0 by omega)
 have hr1:=Int.emod_lt_of_pos a (show 0<(b:Int) by omega)
 exact k0k hbo rfl v0f hz (q0w hlib ha hb hK hL h0) (x2o (Nat.lt_of_le_of_lt j7n ha) (by omega)) (x2o (K:=L) (Nat.lt_of_le_of_lt (show (a % b).natAbs≤b by omega) hb) (by omega))
def Qc (q:Rat):List DV:=[.str (B (decZ q.num)),.str (B (dec q.den))]
theorem B47:(⟨#[47]⟩:BA)=B [47]:=rfl
theorem Sz.num {q:Rat} {K:Nat} (h:Sz q K):q.num.natAbs<10 ^ K:=h.1
theorem Sz.den {q:Rat} {K:Nat} (h:Sz q K):q.den<10 ^ K:=h.2
theorem j3u {q:Rat} {K:Nat} (h:Sz q K):(dec q.den).length≤K:=dec_length h.2 h.pos
theorem x9y {q:Rat} {K:Nat} (h:Sz q K) (hK:K≤Lim):Fn E F_rational_frac_text [.agg (Qc q)] (.c (.str (B (decQ q)))):=by
 have h1:=x2v h.1
 have h2:=j3u h
 rw [K3] at hK
 by_cases hd:q.den=1
 · rw [z1x hd]
   exact x1w (by rw [hd,z7o];rfl)
 · rw [Z7 hd]
   exact x1x (s2:=B (decZ q.num++[47])) (by rw [B47,y2i]) (by rw [y2i];simp) (fun e=>hd (by rw [B49] at e;exact z8y.1 (y1h e))) (by rw [B47,C5,C5];simp;omega) (by rw [C5,C5];simp;omega)
theorem x5m (hlib:Lib E) {z:Int} {d K L:Nat} (hz:z.natAbs<10 ^ K) (hd:d<10 ^ L) (hK:K≤Lim) (hL:L≤Lim)(h0:d≠0):Fn E z2m [.c (.str (B (decZ z))),.c (.str (B (dec d)))] (.c (.str (B (dec (Nat.gcd z.natAbs d))))) :=
 x6f (k6b hlib hz hK) (k7i hlib hz hd hK hL (.inr (by omega)))
theorem q0z {z:Int} {d:Nat} (h0:d≠0):Nat.gcd z.natAbs d≠0:=fun h=>h0 (Nat.eq_zero_of_gcd_eq_zero_right h)
theorem j2o {z:Int} {d:Nat} (h0:d≠0):(mkRat z d).num=z / (Nat.gcd z.natAbs d:Nat):=by rw [Rat.num_mkRat,if_neg h0,Nat.gcd_comm]
theorem j2n {z:Int} {d:Nat} (h0:d≠0):(mkRat z d).den=d / Nat.gcd z.natAbs d:=by rw [Rat.den_mkRat,if_neg h0,Nat.gcd_comm]
theorem Qc_mk {z:Int} {d:Nat} (h0:d≠0):Qc (mkRat z d)=[.str (B (decZ (z / (Nat.gcd z.natAbs d:Nat)))),.str (B (dec (d / Nat.gcd z.natAbs d)))]:=by unfold Qc;rw [j2o h0,j2n h0]
theorem j2k (hlib:Lib E) {z:Int} {d K L:Nat} (hz:z.natAbs<10 ^ K) (hd:d<10 ^ L) (hK:K≤Lim) (hL:L≤Lim)(h0:d≠0):Fn E K7 [.c (.str (B (decZ z))),.c (.str (B (dec d)))] (.agg (Qc (mkRat z d))):=by
 have hg:=x5m hlib hz hd hK hL h0
 rw [Qc_mk h0]
 obtain ⟨g,eg⟩:∃ g,g=Nat.gcd z.natAbs d:=⟨_,rfl⟩
 have hg0:g≠0:=by rw [eg];exact q0z h0
 have hgl:g<10 ^ L:=by rw [eg];exact Nat.lt_of_le_of_lt (Nat.gcd_le_right _ (by omega)) hd
 rw [← eg] at hg ⊢
 by_cases h1:g=1
 · rw [h1] at hg ⊢
   rw [show ((1:Nat):Int)=1 from rfl,Int.ediv_one,Nat.div_one]
   exact x8x hg (by rw [z7o,B49])
 · exact x8w hg (fun e=>h1 (by rw [B49] at e;exact z8y.1 (y1h e))) (x8a hlib hz hgl hK hL hg0) (y4l hlib hd hgl hL hL hg0)
theorem y7d {z:Int} (h:(decZ z).length≤9):z.natAbs<1000000000:=by
 have h1:(dec z.natAbs).length≤(decZ z).length:=by unfold decZ;split <;> simp
 have h2:=Z4 z.natAbs
 have h3:(10:Nat) ^ (dec z.natAbs).length≤10 ^ 9:=Nat.pow_le_pow_right (by decide) (by omega)
 rw [y0t] at h3
 omega
theorem x3m {n:Nat} (h:(dec n).length≤9):n<1000000000:=by
 have:=y7d (z:=(n:Int)) (by rw [z7n];exact h)
 omega
theorem z4m (hlib:Lib E) {q:Rat} (h1:(decZ q.num).length≤9)(h2:(dec q.den).length≤9):Fn E B5 [.agg (Qc q)] (.tup [.c (.i64 q.num),.c (.i64 q.den),.c (.bool true)]):=by
 have p1:=hlib.parseInt q.num h1
 have p2:=hlib.parseInt (q.den:Int) (by rw [z7n];exact h2)
 rw [z7n] at p2
 exact y8r (by rw [C5];omega) (by rw [C5];omega) p1 p2
theorem y2c {q:Rat} (h:¬ ((decZ q.num).length≤9∧(dec q.den).length≤9)):Fn E B5 [.agg (Qc q)] (.tup [.c (.i64 0),.c (.i64 0),.c (.bool false)]):=by
 by_cases h1:(decZ q.num).length≤9
 · exact y8q (by rw [C5];omega) (by rw [C5];have:¬ (dec q.den).length≤9:=fun x=>h ⟨h1,x⟩;omega)
 · exact y8p (by rw [C5];omega)
theorem q3g {x0 x1:Int} {s:BA}:∀ (t:Nat) (a b:Int),b.natAbs<t→∃ g:Int,Lp E 1 P7 0 (z4r x0 x1 a b s s) (.exit 0) (z9e x0 x1 s s g)∧g.natAbs=Nat.gcd a.natAbs b.natAbs
 | 0,a,b,h=>by omega
 | t+1,a,b,h=>by
  by_cases h0:b=0
  · subst h0
    exact ⟨a,x4b rfl,by simp⟩
  · have hlt:(Int.tmod a b).natAbs<b.natAbs:=by
     rw [Int.natAbs_tmod]
     exact Nat.mod_lt _ (by omega)
    obtain ⟨g,h1,h2⟩:=q3g t b (Int.tmod a b) (by omega)
    refine ⟨g,x8y rfl h0 h0 h1,?_⟩
    rw [h2,Int.natAbs_tmod]
    exact (Nat.gcd_comm _ _).trans ((Nat.gcd_rec _ _).symm.trans (Nat.gcd_comm _ _))
theorem q8c (hlib:Lib E) {p:Int} {q:Nat} (hp:p.natAbs<9000000000000000000) (hq:q<9000000000000000000)(h0:q≠0):Fn E P7 [.c (.i64 p),.c (.i64 q)] (.agg (Qc (mkRat p q))):=by
 obtain ⟨g,h1,h2⟩:=q3g (E:=E) (x0:=p) (x1:=q) (s:=⟨#[]⟩) (q+1) p q (by omega)
 rw [Int.natAbs_natCast] at h2
 have hg0:=q0z (z:=p) h0
 have hgle:Nat.gcd p.natAbs q≤q:=Nat.gcd_le_right _ (by omega)
 rw [Qc_mk h0]
 obtain ⟨G,eG⟩:∃ G,G=Nat.gcd p.natAbs q:=⟨_,rfl⟩
 have d1:((G:Nat):Int) ∣ p:=by rw [eG];exact Int.ofNat_dvd_left.2 (Nat.gcd_dvd_left _ _)
 rw [← eG] at h2 hg0 hgle ⊢
 have hm:(if (if g<0 then -g else -g)>g then (if g<0 then -g else -g) else g)=(G:Int):=by split <;> split at*<;> omega
 have hq':((q / G:Nat):Int)=(q:Int) / G:=Int.natCast_ediv q G
 have f1:=hlib.formatInt (p / G) (by have:=Int.natAbs_ediv_le_natAbs p G;omega)
 have hqg:q / G≤q:=Nat.div_le_self _ _
 obtain ⟨Q,eQ⟩:∃ Q,Q=q / G:=⟨_,rfl⟩
 rw [← eQ] at hq' hqg ⊢
 have f2:=hlib.formatInt (Q:Int) (by omega)
 rw [z7n] at f2
 have hpd:Int.tdiv p G=p / G:=Int.tdiv_eq_ediv_of_dvd d1
 have hpa:=Int.natAbs_ediv_le_natAbs p G
 refine j0j (i3:=-g) (i4:=(G:Int)) (i5:=p / G) (i6:=(Q:Int)) (wi (by omega)) (by split <;> omega) (wi ⟨hpd,by omega,by omega⟩) (wi ⟨(tdv (by omega) hq'.symm),by omega,by omega⟩) h1 (by omega) f1 f2
theorem j8q (hlib:Lib E) {x y:Rat} {K L:Nat} (hx:Sz x K) (hy:Sz y L) (hKL:K+L+1≤Lim):Fn E X4 [.agg (Qc x),.agg (Qc y)] (.agg (Qc (x+y))):=by
 rw [Rat.add_def']
 have hd:x.den*y.den≠0:=Nat.mul_ne_zero x.den_nz y.den_nz
 have low:Fn E K7 [.c (.str (B (decZ (x.num*y.den+y.num*x.den)))),.c (.str (B (dec (x.den*y.den))))] (.agg (Qc (mkRat (x.num*y.den+y.num*x.den) (x.den*y.den)))):=by
  refine j2k hlib (K:=K+L+1) (L:=K+L) ?_ (z0e hx.2 hy.2) hKL (by omega) hd
  have h1:=z2q (b:=(y.den:Int)) hx.1 (show (y.den:Int).natAbs<10 ^ L from hy.2)
  have h2:=z2q (b:=(x.den:Int)) hy.1 (show (x.den:Int).natAbs<10 ^ K from hx.2)
  exact y7l h1 (by rw [Nat.add_comm];exact h2)
 have m1:=y2u hlib hx.1 (b:=(y.den:Int)) (show (y.den:Int).natAbs<10 ^ L from hy.2) (by omega)
 have m2:=y2u hlib hy.1 (b:=(x.den:Int)) (show (x.den:Int).natAbs<10 ^ K from hx.2) (by omega)
 rw [z7n] at m1 m2
 have a1:=k6c hlib (z2q hx.1 (show (y.den:Int).natAbs<10 ^ L from hy.2)) (z2q hy.1 (show (x.den:Int).natAbs<10 ^ K from hx.2)) (by omega) (by omega)
 have n1:=y2y hlib hx.2 hy.2 (by omega)
 by_cases c1:(decZ x.num).length≤9∧(dec x.den).length≤9
 · by_cases c2:(decZ y.num).length≤9∧(dec y.den).length≤9
   · have b1:=y7d c1.1
     have b2:=x3m c1.2
     have b3:=y7d c2.1
     have b4:=x3m c2.2
     have p1:(x.num*(y.den:Int)).natAbs≤999999999*999999999:=by rw [Int.natAbs_mul];exact Nat.mul_le_mul (by omega) (by simp;omega)
     have p2:(y.num*(x.den:Int)).natAbs≤999999999*999999999:=by rw [Int.natAbs_mul];exact Nat.mul_le_mul (by omega) (by simp;omega)
     have p3:x.den*y.den≤999999999*999999999:=Nat.mul_le_mul (by omega) (by omega)
     have e3:(x.den:Int)*y.den=((x.den*y.den:Nat):Int):=(Int.natCast_mul _ _).symm
     have o:=q8c hlib (p:=x.num*y.den+y.num*x.den) (q:=x.den*y.den) (by omega) (by omega) hd
     exact k3r (i4:=x.num*y.den) (i5:=y.num*x.den) (i6:=x.num*y.den+y.num*x.den) (i7:=((x.den*y.den:Nat):Int)) (wi (by omega)) (wi (by omega)) (wi (by omega)) (wi ⟨e3,by omega,by omega⟩) (z4m hlib c1.1 c1.2) (z4m hlib c2.1 c2.2) o
   · exact k3s (z4m hlib c1.1 c1.2) (y2c c2) m1 m2 a1 n1 low
 · have:∃ v w b,Fn E B5 [.agg (Qc y)] (.tup [.c (.i64 v),.c (.i64 w),.c (.bool b)]):=by
    by_cases c2:(decZ y.num).length≤9∧(dec y.den).length≤9
    · exact ⟨_,_,_,z4m hlib c2.1 c2.2⟩
    · exact ⟨_,_,_,y2c c2⟩
   obtain ⟨v,w,b,hl⟩:=this
   exact k3t (y2c c1) hl m1 m2 a1 n1 low
theorem j3h (hlib:Lib E) {x y:Rat} {K L:Nat} (hx:Sz x K) (hy:Sz y L) (hKL:K+L≤Lim):Fn E P3 [.agg (Qc x),.agg (Qc y)] (.agg (Qc (x*y))):=by
 rw [Rat.mul_def']
 have hd:x.den*y.den≠0:=Nat.mul_ne_zero x.den_nz y.den_nz
 have low:=j2k hlib (z2q hx.1 hy.1) (z0e hx.2 hy.2) (by omega) (by omega) hd
 have m1:=y2u hlib hx.1 hy.1 (by omega)
 have n1:=y2y hlib hx.2 hy.2 (by omega)
 by_cases c1:(decZ x.num).length≤9∧(dec x.den).length≤9
 · by_cases c2:(decZ y.num).length≤9∧(dec y.den).length≤9
   · have b1:=y7d c1.1
     have b2:=x3m c1.2
     have b3:=y7d c2.1
     have b4:=x3m c2.2
     have p1:(x.num*y.num).natAbs≤999999999*999999999:=by rw [Int.natAbs_mul];exact Nat.mul_le_mul (by omega) (by omega)
     have p3:x.den*y.den≤999999999*999999999:=Nat.mul_le_mul (by omega) (by omega)
     have e3:(x.den:Int)*y.den=((x.den*y.den:Nat):Int):=(Int.natCast_mul _ _).symm
     have o:=q8c hlib (p:=x.num*y.num) (q:=x.den*y.den) (by omega) (by omega) hd
     exact k1g (i4:=x.num*y.num) (i5:=((x.den*y.den:Nat):Int)) (wi (by omega)) (wi ⟨e3,by omega,by omega⟩) (z4m hlib c1.1 c1.2) (z4m hlib c2.1 c2.2) o
   · exact k1h (z4m hlib c1.1 c1.2) (y2c c2) m1 n1 low
 · have:∃ v w b,Fn E B5 [.agg (Qc y)] (.tup [.c (.i64 v),.c (.i64 w),.c (.bool b)]):=by
    by_cases c2:(decZ y.num).length≤9∧(dec y.den).length≤9
    · exact ⟨_,_,_,z4m hlib c2.1 c2.2⟩
    · exact ⟨_,_,_,y2c c2⟩
   obtain ⟨v,w,b,hl⟩:=this
   exact k1i (y2c c1) hl m1 n1 low
theorem j5l (hlib:Lib E) {x:Rat} {K:Nat} (hx:Sz x K) (hK:K≤Lim):Fn E z5m [.agg (Qc x)] (.agg (Qc (-x))):=by
 have h:=k6d hlib hx.1 hK
 have e:Qc (-x)=[.str (B (decZ (-x.num))),.str (B (dec x.den))]:=by unfold Qc;rw [Rat.neg_num,Rat.neg_den]
 rw [e]
 exact x4c h
theorem j7x (hlib:Lib E) {x:Rat} {K:Nat} (hx:Sz x K) (hK:K≤Lim)(h0:x≠0):Fn E z2n [.agg (Qc x)] (.agg (Qc x⁻¹)):=by
 have hn:x.num≠0:=fun h=>h0 (Rat.num_eq_zero.1 h)
 have h1:=x2v hx.1
 have h2:=j3u hx
 rw [K3] at hK
 have hc:=hlib.cutPrefix (decZ x.num) [45] (by omega) (by decide)
 rw [List.length_singleton,(x7w x.num).2,(x7w x.num).1] at hc
 have e:Qc x⁻¹=[.str (B (decZ (x.num.sign*x.den))),.str (B (dec x.num.natAbs))]:=by unfold Qc;rw [Rat.num_inv,Rat.den_inv,if_neg hn]
 rw [e]
 have hd:=Nat.pos_of_ne_zero x.den_nz
 by_cases c:x.num<0
 · rw [decide_eq_true c] at hc
   rw [Int.sign_eq_neg_one_of_neg c,show (-1:Int)*x.den=-(x.den:Int) by omega,z0c (by omega),Int.natAbs_neg,Int.natAbs_natCast]
   exact x6g (by rw [B45,y2i];rfl) hc (by rw [B45,C5,C5];simp;omega)
 · rw [decide_eq_false c] at hc
   rw [Int.sign_eq_one_of_pos (by omega),Int.one_mul,z7n]
   have e2:Qc x=[.str (B (dec x.num.natAbs)),.str (B (dec x.den))]:=by unfold Qc;rw [J0 (by omega)]
   rw [e2]
   rw [J0 (by omega)] at hc
   exact x6h hc
def q2w (z:Int) (l:List UInt8):Bool:=bif decide (z<0) then (match l with
 | c::m=>c == 45 && (natB m && dval m == z.natAbs)
 | []=>false) else natB l && dval l == z.natAbs
theorem k4q {l:List UInt8} {n:Nat}:(natB l && dval l == n)=true↔l=dec n:=by
 rw [Bool.and_eq_true,y6h,beq_iff_eq]
 exact ⟨fun h=>by rw [← h.2];exact h.1.eq_dec,fun h=>by rw [h];exact ⟨x2y n,z0x n⟩⟩
theorem k0c {z:Int} {l:List UInt8}:q2w z l=true↔l=decZ z:=by
 unfold q2w
 by_cases h:z<0
 · rw [decide_eq_true h,cond_true,z0c h]
   cases l with
   | nil=>simp
   | cons c m=>rw [Bool.and_eq_true,beq_iff_eq,k4q,List.cons.injEq]
 · rw [decide_eq_false h,cond_false,J0 (by omega)];exact k4q
def j7l (q:Rat) (l:List UInt8):Bool:=bif q.den == 1 then q2w q.num l else (match l.drop (l.takeWhile (· != 47)).length with
 | c::m=>c == 47 && (q2w q.num (l.takeWhile (· != 47)) && (natB m && dval m == q.den))
 | []=>false)
theorem q2t {a b:List UInt8} (h:(47:UInt8) ∉ a):(a++47::b).takeWhile (· != 47)=a:=by
 induction a with
 | nil=>rfl
 | cons x a ih =>
  have hx:(x != 47)=true:=by rw [bne_iff_ne];exact fun e=>h (by simp [e])
  rw [List.cons_append,List.takeWhile_cons,if_pos hx,ih (fun e=>h (List.mem_cons_of_mem _ e))]
theorem v0s {a:List UInt8} (h:(47:UInt8) ∉ a):a.takeWhile (· != 47)=a:=by
 induction a with
 | nil=>rfl
 | cons x a ih =>
  have hx:(x != 47)=true:=by rw [bne_iff_ne];exact fun e=>h (by simp [e])
  rw [List.takeWhile_cons,if_pos hx,ih (fun e=>h (List.mem_cons_of_mem _ e))]
theorem k0b {q:Rat} {l:List UInt8}:j7l q l=true↔l=decQ q:=by
 unfold j7l
 by_cases h:q.den=1
 · rw [h,beq_self_eq_true,cond_true,z1x h];exact k0c
 · rw [beq_false_of_ne h,cond_false,Z7 h]
   constructor
   · intro e
     split at e
     · rename_i c m hd
       rw [Bool.and_eq_true,beq_iff_eq,Bool.and_eq_true,k0c,k4q] at e
       obtain ⟨e1,e2,e3⟩:=e
       have ht:l.take (l.takeWhile (· != 47)).length=l.takeWhile (· != 47):=(List.prefix_iff_eq_take.1 (List.takeWhile_prefix _)).symm
       rw [← List.take_append_drop (l.takeWhile (· != 47)).length l,ht,hd,e1,e2,e3]
     · cases e
   · intro e
     rw [e,q2t (O6 _),List.drop_left]
     show (47 == 47 && _)=true
     rw [Bool.and_eq_true,Bool.and_eq_true]
     exact ⟨rfl,k0c.2 rfl,k4q.2 rfl⟩
def rdZ (l:List UInt8):Int:=bif l.head? == some 45 then -(dval l.tail:Int) else dval l
def rdQ (l:List UInt8):Rat:=match l.drop (l.takeWhile (· != 47)).length with
 | _::m=>mkRat (rdZ (l.takeWhile (· != 47))) (dval m)
 | []=>mkRat (rdZ l) 1
theorem q3s (z:Int):rdZ (decZ z)=z:=by
 unfold rdZ
 by_cases h:z<0
 · rw [z0c h]
   show -(dval (dec z.natAbs):Int)=z
   rw [z0x];omega
 · rw [J0 (by omega)]
   have hh:((dec z.natAbs).head? == some 45)=false:=by
    rw [beq_eq_false_iff_ne]
    intro e
    cases hd:dec z.natAbs with
    | nil=>rw [hd] at e;cases e
    | cons c m=>rw [hd] at e;cases e;exact x0i _ (by decide) _ hd
   rw [hh,cond_false,z0x];omega
theorem v1v (q:Rat):rdQ (decQ q)=q:=by
 unfold rdQ
 by_cases h:q.den=1
 · rw [z1x h,v0s (O6 _),List.drop_length]
   show mkRat (rdZ (decZ q.num)) 1=q
   rw [q3s,← h];exact Rat.mkRat_self q
 · rw [Z7 h,q2t (O6 _),List.drop_left]
   show mkRat (rdZ (decZ q.num)) (dval (dec q.den))=q
   rw [q3s,z0x];exact Rat.mkRat_self q
noncomputable def rd (l:List UInt8):Option Rat:=bif j7l (rdQ l) l then some (rdQ l) else none
theorem x3k (q:Rat):rd (decQ q)=some q:=by
 unfold rd
 rw [v1v,k0b.2 rfl];rfl
theorem k4s {l:List UInt8} {q:Rat} (h:rd l=some q):l=decQ q:=by
 unfold rd at h
 cases c:j7l (rdQ l) l with
 | true=>rw [c] at h;cases h;exact k0b.1 c
 | false=>rw [c] at h;cases h
theorem q3t {l:List UInt8} (h:rd l=none) (q:Rat):l≠decQ q:=fun e=>by rw [e,x3k] at h;cases h
theorem j0g {q:Rat} (h:q.den≠1):q.num≠0:=by
 intro h0
 have:=q.reduced
 rw [h0] at this
 simp [Nat.Coprime] at this
 exact h this
theorem k7v (hlib:Lib E) {q:Rat} {K:Nat} (hq:Sz q K) (hK:K≤Lim):Fn E G9 [.c (.str (B (decQ q)))] (.tup [.agg (Qc q),.c (.bool true)]):=by
 have h1:=x2v hq.1
 have h2:=j3u hq
 have hK':=hK
 rw [K3] at hK'
 have hv:=z9c hlib (l:=decZ q.num) (by omega)
 rw [x3d] at hv
 by_cases hd:q.den=1
 · rw [z1x hd]
   have e:Qc q=[.str (B (decZ q.num)),.str (B [49])]:=by unfold Qc;rw [hd,z7o]
   rw [e]
   exact y9f (hlib.cutNo _ (O6 _) (by omega)) hv
 · rw [Z7 hd]
   have hn:=j0g hd
   have hnv:=Z8 (E:=E) (dec q.den) (by omega)
   rw [k7h] at hnv
   have hg:=x5m hlib hq.1 hq.2 hK hK q.den_nz
   have hg1:Nat.gcd q.num.natAbs q.den=1:=q.reduced
   rw [hg1] at hg
   exact k3u (hlib.cutYes _ _ (O6 _) (by omega)) hv (fun e=>hn (by rw [B48] at e;exact y5t ((y1h e).trans y2b.symm))) hnv (fun e=>q.den_nz (by rw [B48] at e;exact z7c.1 (y1h e))) (fun e=>hd (by rw [B49] at e;exact z8y.1 (y1h e))) hg (by rw [z7o,B49])
theorem x0o:∀ (l:List UInt8),(47:UInt8)∈l→∃ p r,l=p++47::r∧(47:UInt8) ∉ p
 | [],h=>by cases h
 | c::l,h=>by
  by_cases hc:c=47
  · exact ⟨[],l,by rw [hc];rfl,by simp⟩
  · have h':(47:UInt8)∈l:=by
     rcases List.mem_cons.1 h with h | h
     · exact absurd h.symm hc
     · exact h
    obtain ⟨p,r,e,hp⟩:=x0o l h'
    exact ⟨c::p,r,by rw [e];rfl,fun hx=>by
     rcases List.mem_cons.1 hx with hx | hx
     · exact hc hx.symm
     · exact hp hx⟩
theorem x0j (z:Int):(dec z.natAbs).length≤(decZ z).length:=by unfold decZ;split <;> simp
theorem v1w (hlib:Lib E) {l:List UInt8} (h:rd l=none) (hl:l.length≤Lim):∃ x y,Fn E G9 [.c (.str (B l))] (.tup [.agg [.str x,.str y],.c (.bool false)]):=by
 have hl':=hl
 rw [K3] at hl'
 by_cases hs:(47:UInt8)∈l
 · obtain ⟨p,r,rfl,hp⟩:=x0o l hs
   simp only [List.length_append,List.length_cons] at hl hl'
   have hc:=hlib.cutYes p r hp (by omega)
   have hv:=z9c hlib (l:=p) (by omega)
   have hnv:=Z8 (E:=E) r (by omega)
   cases hi:intB p with
   | false=>rw [hi] at hv;exact ⟨_,_,k4a hc hv⟩
   | true =>
    rw [hi] at hv
    obtain ⟨z,rfl⟩:=(x0s.1 hi).eq_decZ
    by_cases hz:z=0
    · exact ⟨_,_,k3z hc hv (by rw [hz,y2b];rfl)⟩
    · have hz':¬ B (decZ z)=(⟨#[48]⟩:BA):=fun e=>hz (by rw [B48] at e;exact y5t ((y1h e).trans y2b.symm))
      cases hn:natB r with
      | false=>rw [hn] at hnv;exact ⟨_,_,k3y hc hv hz' hnv⟩
      | true =>
       rw [hn] at hnv
       have hr:=y6h.1 hn
       obtain ⟨n,rfl⟩:∃ n,r=dec n:=⟨_,hr.eq_dec⟩
       by_cases h0:n=0
       · exact ⟨_,_,k3x hc hv hz' hnv (by rw [h0,z1y];rfl)⟩
       · have h0':¬ B (dec n)=(⟨#[48]⟩:BA):=fun e=>h0 (by rw [B48] at e;exact z7c.1 (y1h e))
         by_cases h1:n=1
         · exact ⟨_,_,k3w hc hv hz' hnv h0' (by rw [h1,z7o];rfl)⟩
         · have h1':¬ B (dec n)=(⟨#[49]⟩:BA):=fun e=>h1 (by rw [B49] at e;exact z8y.1 (y1h e))
           have hzl:z.natAbs<10 ^ (decZ z).length:=V6 (Z4 _) (x0j z)
           have hg:=x5m hlib hzl (Z4 n) (by omega) (by omega) h0
           by_cases hg1:Nat.gcd z.natAbs n=1
           · obtain ⟨q,_,_,e⟩:=q2v z n (by omega) hg1
             exact absurd e.symm (q3t h q)
           · exact ⟨_,_,k3v hc hv hz' hnv h0' h1' hg (fun e=>hg1 (by rw [B49] at e;exact z8y.1 (y1h e)))⟩
 · have hc:=hlib.cutNo l hs (by omega)
   have hv:=z9c hlib (l:=l) (by omega)
   cases hi:intB l with
   | false=>rw [hi] at hv;exact ⟨_,_,y9f hc hv⟩
   | true =>
    obtain ⟨z,e⟩:=(x0s.1 hi).eq_decZ
    exact absurd (e.trans (y7p z).symm) (q3t h z)
theorem x8v (hlib:Lib E) {l:List UInt8} (hl:l.length≤Lim):Fn E z8v [.c (.str (B l))] (.c (.bool (rd l).isSome)):=by
 cases h:rd l with
 | none =>
  obtain ⟨x,y,hr⟩:=v1w hlib h hl
  exact y6z hr
 | some q =>
  have:=k4s h
  subst this
  exact y6z (k7v hlib (Sz.of_len (Nat.le_refl _)) hl)
theorem x7p (hlib:Lib E) {a b:Rat} {K L:Nat} (ha:Sz a K) (hb:Sz b L) (hK:K≤Lim) (hL:L≤Lim):Fn E F_rational_both [.c (.str (B (decQ a))),.c (.str (B (decQ b)))] (.tup [.agg (Qc a),.agg (Qc b),.c (.i64 0)]) :=
 k3q (k7v hlib ha hK) (k7v hlib hb hL)
theorem k3m (hlib:Lib E) {a b:Rat} {K L:Nat} (ha:Sz a K) (hb:Sz b L) (h:K+L+1≤Lim):Fn E y2k [.c (.str (B (decQ a))),.c (.str (B (decQ b)))] (.tup [.c (.str (B (decQ (a+b)))),.c (.i64 0)]) :=
 k7r (hlib.apply 43 _ (by simp) _ _ _ _ _ _ _ _ _ (x7p hlib ha hb (by omega) (by omega)) (by omega) (j8q hlib ha hb h) (x9y (ha.add hb) h))
theorem k3o (hlib:Lib E) {a b:Rat} {K L:Nat} (ha:Sz a K) (hb:Sz b L) (h:K+L≤Lim):Fn E y2m [.c (.str (B (decQ a))),.c (.str (B (decQ b)))] (.tup [.c (.str (B (decQ (a*b)))),.c (.i64 0)]) :=
 k7t (hlib.apply 42 _ (by simp) _ _ _ _ _ _ _ _ _ (x7p hlib ha hb (by omega) (by omega)) (by omega) (j3h hlib ha hb h) (x9y (ha.mul hb) h))
theorem k3p (hlib:Lib E) {a b:Rat} {K L:Nat} (ha:Sz a K) (hb:Sz b L) (h:K+L+1≤Lim):Fn E y2n [.c (.str (B (decQ a))),.c (.str (B (decQ b)))] (.tup [.c (.str (B (decQ (a-b)))),.c (.i64 0)]):=by
 refine k7u (hlib.apply 45 N0 (by simp) _ _ _ _ _ _ _ _ _ (x7p hlib ha hb (by omega) (by omega)) (by omega) (?_:Fn E N0 [.agg (Qc a),.agg (Qc b)] (.agg (Qc (a-b)))) (x9y (ha.sub hb) h))
 rw [Rat.sub_eq_add_neg]
 exact y7a (j5l hlib hb (by omega)) (j8q hlib ha hb.neg h)
theorem k3n (hlib:Lib E) {a b:Rat} {K L:Nat} (ha:Sz a K) (hb:Sz b L) (h:K+L≤Lim)(h0:b≠0):Fn E y2l [.c (.str (B (decQ a))),.c (.str (B (decQ b)))] (.tup [.c (.str (B (decQ (a / b)))),.c (.i64 0)]):=by
 have hn:b.num≠0:=fun x=>h0 (Rat.num_eq_zero.1 x)
 refine k7s (hlib.apply 47 N1 (by simp) _ _ _ _ _ _ _ _ _ (x7p hlib ha hb (by omega) (by omega)) (fun _ e=>hn (y5t ((y1h e).trans y2b.symm))) (?_:Fn E N1 [.agg (Qc a),.agg (Qc b)] (.agg (Qc (a / b)))) (x9y (ha.div hb) h))
 rw [Rat.div_def]
 exact y7b (j7x hlib hb (by omega) h0) (j3h hlib ha hb.inv h)
theorem v0p {a b:Int}:cmpI a b>0↔b<a:=by unfold cmpI;split <;> (try split) <;> omega
theorem y2a {a b:Int}:cmpI a b=0↔a=b:=by unfold cmpI;split <;> (try split) <;> omega
theorem x8t (ws:List Int):∀ k,k≤ws.length→k<9223372036854775807→Lp E 1 G0 0 (z3u k (Wr ws)) (.exit 0) (z6h (Wr ws) (V9 ws k))
 | 0,_,_=>x6s (by omega)
 | k+1,hk,hb=>by
  unfold V9
  by_cases h0:ws.getD k 0=0
  · rw [if_pos h0]
    exact k1u (i0:=(k:Int)) (i1:=ws.getD k 0) (n2:=k) (wi (by omega)) rfl (by omega) (by omega) (D2 (by omega)) h0 (by omega) (x8t ws k (by omega) (by omega))
  · rw [if_neg h0]
    exact x6r (i0:=(k:Int)) (i1:=ws.getD k 0) (wi (by omega)) (by omega) (by omega) (D2 (by omega)) h0
theorem z9w {ws:List Int} {k:Nat} (hk:k≤ws.length) (hb:k<9223372036854775807):Rn E G0 [.vec 0 k] [some (.vec A0 (Wr ws))] (.vec 0 (V9 ws k)) [some (.vec A0 (Wr ws))] :=
 j5u (x8t ws k hk hb)
theorem y3h {ws:List Int} (h:Wd ws) {n:Nat} (hv:wv ws=n):(Wr ws).take (V9 ws ws.length)=Wr (words n):=by
 rw [U2,X0 h (Nat.le_refl _),List.take_length,hv,Int.toNat_natCast]
theorem x1s {n:Nat} (h:n<4294967296):Fn E Z3 [.c (.u32 n)] (.c (.list (Wr (words n)))):=by
 have hw:Wd [((n % 1000000000:Nat):Int),((n / 1000000000:Nat):Int)]:=Wd.cons (by omega) (by omega) (Wd.cons (by omega) (by omega) Wd.nil)
 have ht:=z9w (E:=E) (ws:=[((n % 1000000000:Nat):Int),((n / 1000000000:Nat):Int)]) (k:=2) (Nat.le_refl _) (by decide)
 exact j0l (i1:=((n % 1000000000:Nat):Int)) (i2:=((n / 1000000000:Nat):Int)) (tmd (by omega) (by omega)) (w32 ⟨tdv (by omega) (by omega),by omega,by omega⟩) (y3h hw (by simp [wv];omega)) ht
theorem v1t {n:Nat} (h:n<18446744073709551616):Fn E y7k [.c (.u64 n)] (.c (.list (Wr (words n)))):=by
 have hw:Wd [((n % 1000000000:Nat):Int),((n / 1000000000 % 1000000000:Nat):Int),((n / 1000000000 / 1000000000:Nat):Int)]:=Wd.cons (by omega) (by omega) (Wd.cons (by omega) (by omega) (Wd.cons (by omega) (by omega) Wd.nil))
 have ht:=z9w (E:=E) (ws:=[((n % 1000000000:Nat):Int),((n / 1000000000 % 1000000000:Nat):Int),((n / 1000000000 / 1000000000:Nat):Int)]) (k:=3) (Nat.le_refl _) (by decide)
 exact j5v (i1:=((n % 1000000000:Nat):Int)) (i2:=((n % 1000000000:Nat):Int)) (i3:=((n / 1000000000:Nat):Int)) (i4:=((n / 1000000000 % 1000000000:Nat):Int)) (i5:=((n / 1000000000 % 1000000000:Nat):Int)) (i6:=((n / 1000000000 / 1000000000:Nat):Int)) (i7:=((n / 1000000000 / 1000000000:Nat):Int))
  (tmd (by omega) (by omega)) (w32 (by omega)) (wu ⟨tdv (by omega) (by omega),by omega,by omega⟩) (tmd (by omega) (by omega)) (w32 (by omega)) (wu ⟨tdv (by omega) (by omega),by omega,by omega⟩) (w32 (by omega)) (y3h hw (by simp [wv];omega)) ht
theorem x8u (xs:List Int) (hx:Wd xs) (hl:xs.length≤2):∀ k:Nat,k≤xs.length→Lp E 0 Y6 0 (z6c (Wr xs) (wv (xs.drop k)) ((k:Int)-1)) (.exit 0) (y1d (wv xs))
 | 0,_=>by rw [List.drop_zero];exact x6t (by omega)
 | k+1,hk=>by
  have h0:=hx.getD k
  have h1:=C2 (hx.drop (k+1))
  have h2:=z5a (hx.drop (k+1))
  rw [List.length_drop] at h2
  have h3:pw (xs.length-(k+1))≤pw 1:=k4r (by omega)
  rw [show pw 1=1000000000 by decide] at h3
  have e:=z4i xs k
  rw [show ((k+1:Nat):Int)-1=(k:Int) by omega]
  exact k1v (i3:=wv (xs.drop (k+1))*1000000000) (i4:=xs.getD k 0) (i5:=xs.getD k 0) (i6:=wv (xs.drop k)) (i7:=(k:Int)-1) (wu (by omega)) (wu (by omega)) (wu (by omega)) (wi (by omega)) (by omega) (by omega) (D2 (by omega)) (x8u xs hx hl k (by omega))
theorem q3o {n:Nat} (h:(words n).length≤2):Fn E Y6 [.c (.list (Wr (words n)))] (.c (.u64 n)):=by
 have:=x8u (E:=E) (words n) (B2 n) h (words n).length (Nat.le_refl _)
 rw [List.drop_length,B1] at this
 exact j5w (i0:=((words n).length:Int)-1) (wi (by rw [A7];omega)) this
theorem k2n (xs ys:List Int) (hx:Wd xs) (hy:Wd ys) (hl:xs.length=ys.length) (hb:xs.length<9223372036854775807):∀ k:Nat,k≤xs.length→xs.drop k=ys.drop k →
    (xs=ys∧Lp E 0 G5 0 (Z0 (Wr xs) (Wr ys) ((k:Int)-1)) (.exit 0) y3b) ∨
    (xs≠ys∧Lp E 0 G5 0 (Z0 (Wr xs) (Wr ys) ((k:Int)-1)) .ret (z8d (cmpI (wv xs) (wv ys))))
 | 0,_,h=>.inl ⟨by simpa using h,x9b (by omega)⟩
 | k+1,hk,h=>by
  rw [show ((k+1:Nat):Int)-1=(k:Int) by omega]
  have g1:(Wr xs)[Int.toNat (k:Int)]?=some [.u32 (xs.getD k 0)]:=D2 (by omega)
  have g2:(Wr ys)[Int.toNat (k:Int)]?=some [.u32 (ys.getD k 0)]:=D2 (by omega)
  rcases Int.lt_trichotomy (xs.getD k 0) (ys.getD k 0) with c | c | c
  · have:=y0b hx hy (by omega) (by omega) c h
    refine .inr ⟨fun e=>by rw [e] at c;omega,?_⟩
    have e:cmpI (wv xs) (wv ys)=-1:=by unfold cmpI;rw [if_pos this]
    rw [e]
    exact x8z (by omega) (by omega) g1 g2 c
  · have hd:xs.drop k=ys.drop k:=by rw [y5u xs k (by omega),y5u ys k (by omega),c,h]
    rcases k2n xs ys hx hy hl hb k (by omega) hd with ⟨e,ih⟩ | ⟨e,ih⟩
    · exact .inl ⟨e,y9g (wi (by omega)) (by omega) (by omega) g1 g2 (by omega) (by omega) ih⟩
    · exact .inr ⟨e,y9g (wi (by omega)) (by omega) (by omega) g1 g2 (by omega) (by omega) ih⟩
  · have:=y0b hy hx (by omega) (by omega) c h.symm
    refine .inr ⟨fun e=>by rw [e] at c;omega,?_⟩
    have e:cmpI (wv xs) (wv ys)=1:=by unfold cmpI;rw [if_neg (by omega),if_pos (by omega)]
    rw [e]
    exact x9a (by omega) (by omega) g1 g2 (by omega) c
theorem k7o {m n:Nat} (hm:(words m).length<9223372036854775807):Fn E G5 [.c (.list (Wr (words m))),.c (.list (Wr (words n)))] (.c (.i64 (cmpI m n))):=by
 by_cases hl:(words m).length=(words n).length
 · rcases k2n (E:=E) (words m) (words n) (B2 m) (B2 n) hl hm (words m).length (Nat.le_refl _) (by rw [List.drop_length,hl,List.drop_length]) with ⟨e,h⟩ | ⟨e,h⟩
   · have:=j3m e
     subst this
     rw [q2s rfl]
     exact j9d (wi (by rw [A7];omega)) (by rw [A7]) h
   · rw [B1,B1] at h
     exact j9c (wi (by rw [A7];omega)) (by rw [A7,A7];omega) h
 · rcases Nat.lt_or_gt_of_ne hl with c | c
   · have:m<n:=by
      rcases Nat.lt_or_ge m n with h | h
      · exact h
      · have:=(N4 n).length_le (B2 n) (B2 m) (by rw [B1,B1];omega)
        omega
     have e:cmpI (m:Int) n=-1:=by unfold cmpI;rw [if_pos (by omega)]
     rw [e]
     exact j9a (by rw [A7,A7];omega) (by rw [A7,A7];omega)
   · have:n<m:=by
      rcases Nat.lt_or_ge n m with h | h
      · exact h
      · have:=(N4 m).length_le (B2 m) (B2 n) (by rw [B1,B1];omega)
        omega
     have e:cmpI (m:Int) n=1:=by unfold cmpI;rw [if_neg (by omega),if_pos (by omega)]
     rw [e]
     exact j9b (by rw [A7,A7];omega) (by rw [A7,A7];omega)
theorem x8s {xs ys:List Int} (hx:Wd xs) (hy:Wd ys) (hxl:xs.length<17592186044000) (hyl:ys.length<17592186044000):∀ (t i:Nat) (c:Int) (zs:List Int),xs.length+ys.length+2≤t+i→i≤xs.length+ys.length+1→0≤c∧c≤1→(xs.length+ys.length<i→c=0)→zs.length=i→Wd zs →
    ∃ zs',Lp E 0 J5 0 (M4 (Wr xs) (Wr ys) i c i (Wr zs)) (.exit 0) (y1c zs'.length (Wr zs'))∧Wd zs'∧zs'.length≤xs.length+ys.length+1∧wv zs'=wv zs+pw i*(c+wv (xs.drop i)+wv (ys.drop i))
 | 0,i,c,zs,ht,hi,_,_,_,_=>by omega
 | t+1,i,c,zs,ht,hi,hc,hc0,hz,hw=>by
  have ha:=hx.getD i
  have hb:=hy.getD i
  obtain ⟨a,ea⟩:∃ a,a=xs.getD i 0:=⟨_,rfl⟩
  obtain ⟨b,eb⟩:∃ b,b=ys.getD i 0:=⟨_,rfl⟩
  rw [← ea] at ha
  rw [← eb] at hb
  have gx:i<xs.length→(Wr xs)[Int.toNat (i:Int)]?=some [.u32 a]:=fun h=>by rw [ea];exact D2 h
  have gy:i<ys.length→(Wr ys)[Int.toNat (i:Int)]?=some [.u32 b]:=fun h=>by rw [eb];exact D2 h
  obtain ⟨S,eS⟩:∃ S,S=c+a+b:=⟨_,rfl⟩
  have hap:∀ w,(Wr zs).take i++[[DV.u32 w]]=Wr (zs++[w]):=fun w=>by rw [U2,← hz,List.take_length,y4d]
  have stop:¬ i<xs.length→¬ i<ys.length→c=0→wv zs=wv zs+pw i*(c+wv (xs.drop i)+wv (ys.drop i)):=by
   intro h1 h2 h3
   rw [drop_nil (by omega),drop_nil (by omega),h3]
   simp [wv]
  by_cases hend:¬ i<xs.length∧¬ i<ys.length∧c=0
  · exact ⟨zs,by rw [hz];exact x6n (by rw [A7];omega) (by rw [A7];omega) (by omega),hw,by omega,stop hend.1 hend.2.1 hend.2.2⟩
  · have hii:i≤xs.length+ys.length:=by
     rcases Nat.lt_or_ge (xs.length+ys.length) i with h | h
     · exact absurd ⟨by omega,by omega,hc0 h⟩ hend
     · exact h
    have ndone:xs.length+ys.length<i+1→S / 1000000000=0:=by
     intro h
     have h0:i=xs.length+ys.length:=by omega
     have:b=0∨a=0:=by
      rcases Nat.lt_or_ge i xs.length with h1 | h1
      · left;rw [eb];exact z3e (by omega)
      · right;rw [ea];exact z3e h1
     by_cases hcc:c=0
     · rcases this with h2 | h2 <;> omega
     · -- the last carry has no words beside it
       have h1:a=0:=by
        rcases Nat.lt_or_ge i xs.length with h1 | h1
        · omega
        · rw [ea];exact z3e h1
       have h2:b=0:=by
        rcases Nat.lt_or_ge i ys.length with h1 | h1
        · omega
        · rw [eb];exact z3e h1
       omega
    obtain ⟨zs',k1,k2,k3,k4⟩:=x8s hx hy hxl hyl t (i+1) (S / 1000000000) (zs++[S % 1000000000]) (by omega) (by omega) (by omega) ndone (by simp [hz]) (hw.append (Wd.cons (by omega) (by omega) Wd.nil))
    refine ⟨zs',?_,k2,k3,?_⟩
    · have hlen:(i+1)*4≤140737488355328∧i+1≤140737488355328:=by omega
      by_cases c1:i<xs.length
      · by_cases c2:i<ys.length
        · exact k1o (i2:=a) (i3:=c+a) (i4:=b) (i5:=S) (i6:=S % 1000000000) (r4:=Wr (zs++[S % 1000000000])) (n2:=i+1) (i7:=S / 1000000000) (i8:=((i+1:Nat):Int)) (w32 (by omega)) (w32 (by omega)) (tmd (by omega) rfl) (hap _) rfl (w32 ⟨tdv (by omega) rfl,by omega,by omega⟩) (wi (by omega)) (by rw [A7];omega) (by omega) (gx c1) (by rw [A7];omega) (gy c2) hlen k1
        · have b0:b=0:=by rw [eb];exact z3e (by omega)
          exact k1p (i2:=a) (i3:=S) (i4:=S % 1000000000) (r5:=Wr (zs++[S % 1000000000])) (n3:=i+1) (i9:=S / 1000000000) (i10:=((i+1:Nat):Int)) (w32 (by omega)) (tmd (by omega) rfl) (hap _) rfl (w32 ⟨tdv (by omega) rfl,by omega,by omega⟩) (wi (by omega)) (by rw [A7];omega) (by omega) (gx c1) (by rw [A7];omega) hlen k1
      · have a0:a=0:=by rw [ea];exact z3e (by omega)
        by_cases c2:i<ys.length
        · exact k1q (i2:=b) (i3:=S) (i4:=S % 1000000000) (r5:=Wr (zs++[S % 1000000000])) (n3:=i+1) (i9:=S / 1000000000) (i10:=((i+1:Nat):Int)) (w32 (by omega)) (tmd (by omega) rfl) (hap _) rfl (w32 ⟨tdv (by omega) rfl,by omega,by omega⟩) (wi (by omega)) (by rw [A7];omega) (by rw [A7];omega) (by omega) (gy c2) hlen k1
        · have b0:b=0:=by rw [eb];exact z3e (by omega)
          have e0:S=c:=by omega
          rw [e0] at k1
          exact k1r (i2:=c % 1000000000) (r6:=Wr (zs++[c % 1000000000])) (n4:=i+1) (i5:=c / 1000000000) (i6:=((i+1:Nat):Int)) (tmd (by omega) rfl) (hap _) rfl (w32 ⟨tdv (by omega) rfl,by omega,by omega⟩) (wi (by omega)) (by rw [A7];omega) (by rw [A7];omega) (by omega) hlen k1
    · rw [k4,z5b,hz,z4i xs i,z4i ys i,z1e,← ea,← eb]
      have e1:S % 1000000000=c+a+b-1000000000*(S / 1000000000):=by omega
      rw [e1];grind
theorem v1s {m n:Nat} (h1:(words m).length<17592186044000)(h2:(words n).length<17592186044000):Fn E J5 [.c (.list (Wr (words m))),.c (.list (Wr (words n)))] (.c (.list (Wr (words (m+n))))):=by
 obtain ⟨zs,k1,k2,k3,k4⟩:=x8s (E:=E) (B2 m) (B2 n) h1 h2 ((words m).length+(words n).length+2) 0 0 [] (by omega) (by omega) (by omega) (fun _=>rfl) rfl Wd.nil
 rw [List.drop_zero,List.drop_zero,B1,B1,y8o] at k4
 exact j5t (y3h k2 (by simp [wv] at k4;omega)) k1 (z9w (Nat.le_refl _) (by omega))
theorem x5b {xs ys:List Int} (hx:Wd xs) (hy:Wd ys) (hxl:xs.length<17592186044000):∀ d i b zs,i+d=xs.length→(b=0∨b=1)→zs.length=i→Wd zs →
    ∃ b' zs',Lp E 0 F6 0 (H7 (Wr xs) (Wr ys) i b i (Wr zs)) (.exit 0) (z5i zs'.length (Wr zs'))∧Wd zs'∧zs'.length=xs.length∧(b'=0∨b'=1)∧wv zs'+pw i*(0-wv (xs.drop i)+wv ((ys.take xs.length).drop i)+b)=wv zs+pw xs.length*b'
 | 0,i,b,zs,hi,hb,hz,hw=>by
  refine ⟨b,zs,by rw [hz];exact x4e (by rw [A7];omega),hw,by omega,hb,?_⟩
  have:i=xs.length:=by omega
  subst this
  rw [drop_nil (Nat.le_refl _),drop_nil (by simp;omega)]
  simp [wv]
 | d+1,i,b,zs,hi,hb,hz,hw=>by
  have ha:=hx.getD i
  have hbb:=hy.getD i
  obtain ⟨a,ea⟩:∃ a,a=xs.getD i 0:=⟨_,rfl⟩
  obtain ⟨y,eb⟩:∃ y,y=ys.getD i 0:=⟨_,rfl⟩
  rw [← ea] at ha
  rw [← eb] at hbb
  have gx:(Wr xs)[Int.toNat (i:Int)]?=some [.u32 a]:=by rw [ea];exact D2 (by omega)
  have gy:i<ys.length→(Wr ys)[Int.toNat (i:Int)]?=some [.u32 y]:=fun h=>by rw [eb];exact D2 h
  have hap:∀ w,(Wr zs).take i++[[DV.u32 w]]=Wr (zs++[w]):=fun w=>by rw [U2,← hz,List.take_length,y4d]
  have hlen:(i+1)*4≤140737488355328∧i+1≤140737488355328:=by omega
  have ey:(ys.take xs.length).getD i 0=y:=by rw [List.getD_eq_getElem?_getD,List.getElem?_take_of_lt (by omega),← List.getD_eq_getElem?_getD,eb]
  obtain ⟨dd,ed⟩:∃ dd,dd=a-b-y:=⟨_,rfl⟩
  have key:∀ b1 w,w=dd+1000000000*b1→0≤w∧w<1000000000→(b1=0∨b1=1) →
      (∀ {st:St},Lp E 0 F6 0 (H7 (Wr xs) (Wr ys) (i+1) b1 ((i+1:Nat):Int) (Wr (zs++[w]))) (.exit 0) st→Lp E 0 F6 0 (H7 (Wr xs) (Wr ys) i b i (Wr zs)) (.exit 0) st) →
      ∃ b' zs',Lp E 0 F6 0 (H7 (Wr xs) (Wr ys) i b i (Wr zs)) (.exit 0) (z5i zs'.length (Wr zs'))∧Wd zs'∧zs'.length=xs.length∧(b'=0∨b'=1)∧wv zs'+pw i*(0-wv (xs.drop i)+wv ((ys.take xs.length).drop i)+b)=wv zs+pw xs.length*b':=by
   intro b1 w hw1 hw0 hb1 st
   obtain ⟨b',zs',k1,k2,k3,k4,k5⟩:=x5b hx hy hxl d (i+1) b1 (zs++[w]) (by omega) hb1 (by simp [hz]) (hw.append (Wd.cons hw0.1 hw0.2 Wd.nil))
   refine ⟨b',zs',st k1,k2,k3,k4,?_⟩
   rw [z5b,hz,z1e] at k5
   rw [z4i xs i,z4i (ys.take xs.length) i,← ea,ey]
   rw [hw1,ed] at k5
   grind
  by_cases c2:i<ys.length
  · by_cases c3:dd<0
    · exact key 1 (dd+1000000000) (by omega) (by omega) (.inr rfl) fun k1=>x9d (i2:=a) (i3:=a) (i4:=a-b) (i5:=y) (i6:=y) (i7:=dd) (i8:=dd+1000000000) (i9:=dd+1000000000) (wi (by omega)) (wi (by omega)) (wi (by omega)) (wi (by omega)) (wi (by omega)) (w32 (by omega)) (hap _) rfl (wi (by omega)) (by rw [A7];omega) (by omega) gx (by rw [A7];omega) (gy c2) c3 hlen k1
    · exact key 0 dd (by omega) (by omega) (.inl rfl) fun k1=>x9e (i2:=a) (i3:=a) (i4:=a-b) (i5:=y) (i6:=y) (i7:=dd) (i8:=dd) (wi (by omega)) (wi (by omega)) (wi (by omega)) (wi (by omega)) (w32 (by omega)) (hap _) rfl (wi (by omega)) (by rw [A7];omega) (by omega) gx (by rw [A7];omega) (gy c2) c3 hlen k1
  · have y0:y=0:=by rw [eb];exact z3e (by omega)
    by_cases c3:dd<0
    · exact key 1 (dd+1000000000) (by omega) (by omega) (.inr rfl) fun k1=>x9f (i2:=a) (i3:=a) (i4:=dd) (i5:=dd+1000000000) (i6:=dd+1000000000) (wi (by omega)) (wi (by omega)) (wi (by omega)) (w32 (by omega)) (hap _) rfl (wi (by omega)) (by rw [A7];omega) (by omega) gx (by rw [A7];omega) c3 hlen k1
    · exact key 0 dd (by omega) (by omega) (.inl rfl) fun k1=>x9g (i2:=a) (i3:=a) (i4:=dd) (i5:=dd) (wi (by omega)) (wi (by omega)) (w32 (by omega)) (hap _) rfl (wi (by omega)) (by rw [A7];omega) (by omega) gx (by rw [A7];omega) c3 hlen k1
theorem j8t {m n:Nat} (h1:(words m).length<17592186044000) (hmn:n≤m):Fn E F6 [.c (.list (Wr (words m))),.c (.list (Wr (words n)))] (.c (.list (Wr (words (m-n))))):=by
 have hle:(words n).length≤(words m).length:=(N4 n).length_le (B2 n) (B2 m) (by rw [B1,B1];omega)
 obtain ⟨b,zs,k1,k2,k3,k4,k5⟩:=x5b (E:=E) (B2 m) (B2 n) h1 (words m).length 0 0 [] (by omega) (.inl rfl) rfl Wd.nil
 rw [List.drop_zero,List.drop_zero,List.take_of_length_le hle,B1,B1,y8o] at k5
 have h2:=z5a k2
 have h3:=V7 (words m).length
 have hv:=C2 k2
 rw [k3] at h2
 have hb:b=0:=by
  rcases k4 with h | h
  · exact h
  · subst h
    simp [wv] at k5
    omega
 subst hb
 exact j0k (y3h k2 (n:=m-n) (by simp [wv] at k5;omega)) k1 (z9w (Nat.le_refl _) (by omega))
theorem x5d (l:List UInt8) (hl:l.length<9223372036854775807):∀ d i:Nat,i+d=l.length →
    ((l.drop i).all y4h=true∧Lp E 0 D4 0 (J8 (B l) i) (.exit 0) (z2c (B l))) ∨
    ((l.drop i).all y4h=false∧Lp E 0 D4 0 (J8 (B l) i) .ret z5j)
 | 0,i,hi=>.inl ⟨by rw [List.drop_eq_nil_of_le (by omega)];rfl,x4j (by rw [C5];omega)⟩
 | d+1,i,hi=>by
  have hd:l.drop i=l.getD i 0::l.drop (i+1):=by
   rw [List.drop_eq_getElem_cons (by omega),List.getD_eq_getElem?_getD,List.getElem?_eq_getElem (by omega)];rfl
  have hlt:0≤(i:Int)∧(i:Int)<(B l).size:=by rw [C5];omega
  rw [hd,List.all_cons]
  by_cases c1:(l.getD i 0).toNat<48
  · rw [y4i (.inl c1)]
    exact .inr ⟨rfl,x4h (y1n l i) (by omega) hlt (by omega)⟩
  · by_cases c2:(l.getD i 0).toNat>57
    · rw [y4i (.inr c2)]
      exact .inr ⟨rfl,x4i (y1n l i) (by omega) hlt (by omega) (by omega)⟩
    · rw [x3e.2 (by omega),Bool.true_and]
      rcases x5d l hl d (i+1) (by omega) with ⟨h1,h2⟩ | ⟨h1,h2⟩
      · exact .inl ⟨h1,y4m (y1n l i) (wi (by omega)) (by omega) hlt (by omega) (by omega) h2⟩
      · exact .inr ⟨h1,y4m (y1n l i) (wi (by omega)) (by omega) hlt (by omega) (by omega) h2⟩
theorem y6y (l:List UInt8) (hl:l.length<9223372036854775807):Fn E D4 [.c (.str (B l))] (.c (.bool (natB l))):=by
 have hloop:=x5d (E:=E) l hl l.length 0 (by omega)
 rw [List.drop_zero] at hloop
 cases l with
 | nil =>
  rcases hloop with ⟨_,g2⟩ | ⟨g1,_⟩
  · exact j0t g2 (by rw [C5];decide) (by rw [C5];decide)
  · cases g1
 | cons c m =>
  rcases hloop with ⟨g1,g2⟩ | ⟨g1,g2⟩
  · by_cases h1:(c::m).length=1
    · have e:natB (c::m)=true:=by
       unfold natB
       rw [g1,decide_eq_true (show (c::m).length≤1 by omega)];rfl
      rw [e]
      exact j0q g2 (by rw [C5];omega)
    · have h2:(c::m).length>1:=by have:(c::m).length=m.length+1:=rfl;omega
      have h0:(((B (c::m)).data.toList.getD 0 0).toNat:Int)=(c.toNat:Int):=by rw [z6j];rfl
      have hlt:0≤(0:Int)∧(0:Int)<(B (c::m)).size:=by rw [C5];omega
      by_cases hc:c=48
      · have e:natB (c::m)=false:=by
         unfold natB
         rw [decide_eq_false (show ¬ (c::m).length≤1 by omega),hc];simp
        rw [e]
        exact j0s h0 g2 (by rw [C5];omega) (by rw [C5];omega) hlt (by rw [hc];rfl)
      · have hn:c.toNat≠48:=fun e=>hc (UInt8.toNat_inj.1 e)
        have e:natB (c::m)=true:=by
         unfold natB
         have:((c::m).head? == some 48)=false:=by simp [hc]
         rw [g1,this];simp
        rw [e]
        exact j0r h0 g2 (by rw [C5];omega) (by rw [C5];omega) hlt (by omega)
  · have e:natB (c::m)=false:=by unfold natB;rw [g1];simp
    rw [e]
    exact j0p g2
theorem x5a {l:List UInt8} (hd:Dg l) (hl:l.length<9223372036854775807) {w0:RW} {i:Nat} {e s:Nat} (he:e≤l.length) (hes:e≤s+9):∀ (d k:Nat),k+d=e→s≤k →
    Lp E 1 H0 1 (z4s (B l) i e (dval ((l.take k).drop s):Int) k w0) (.exit 2) (z9f (B l) i e w0 (dval ((l.take e).drop s):Int))
 | 0,k,hk,hs=>by
  have:k=e:=by omega
  subst this
  exact x4d (by omega)
 | d+1,k,hk,hs=>by
  have hg:l.getD k 0=l[k]:=by rw [List.getD_eq_getElem?_getD,List.getElem?_eq_getElem (by omega)];rfl
  have hc:=hd l[k] (List.getElem_mem _)
  have htk:(l.take (k+1)).drop s=(l.take k).drop s++[l[k]]:=by
   rw [List.take_succ_eq_append_getElem (by omega),List.drop_append_of_le_length (by simp;omega)]
  have hb:dval ((l.take k).drop s)<100000000:=by
   have h1:=x7x (Dg.drop (Dg.take hd k) s)
   have h2:(10:Nat) ^ ((l.take k).drop s).length≤10 ^ 8:=Nat.pow_le_pow_right (by decide) (by simp;omega)
   have h3:(10:Nat) ^ 8=100000000:=by decide
   omega
  have hv:dval ((l.take (k+1)).drop s)=10*dval ((l.take k).drop s)+(l[k].toNat-48):=by rw [htk,k0e]
  exact x9c (i4:=10*(dval ((l.take k).drop s):Int)) (i5:=(l[k].toNat:Int)) (i6:=(l[k].toNat:Int)-48) (i7:=(l[k].toNat:Int)-48) (i8:=(dval ((l.take (k+1)).drop s):Int)) (i9:=((k+1:Nat):Int))
   (w32 (by omega)) (by rw [y1n,hg]) (w8 (by omega)) (w32 (by omega)) (w32 (by omega)) (wi (by omega)) (by omega) (by rw [C5];omega) (x5a hd hl he hes d (k+1) (by omega) (by omega))
theorem x8p {l:List UInt8} (hd:Dg l) (hl:l.length<10000000000000):∀ (t i:Nat) (ws:List Int) (n:Int),n≤t→n≤l.length→-9<n→9*(i:Int)≤l.length+8→ws.length=i→(0<n→n+9*i=l.length)→Wd ws→wv ws+pw i*(dval (l.take n.toNat):Int)=dval l →
    ∃ ws',Lp E 0 H0 0 (z6a (B l) i n (Wr ws)) (.exit 0) (y1a ws'.length (Wr ws'))∧Wd ws'∧wv ws'=dval l∧ws'.length≤l.length+8
 | t,i,ws,n,ht,hnl,hn9,hi,hw,hni,hwd,hv=>by
  by_cases h0:n≤0
  · rw [show n.toNat=0 by omega,List.take_zero,show dval []=0 from rfl] at hv
    exact ⟨ws,by rw [hw];exact x6j (by omega),hwd,by simpa using hv,by omega⟩
  · cases t with
    | zero=>omega
    | succ t =>
     obtain ⟨e,he⟩:∃ e:Nat,n=e:=⟨n.toNat,by omega⟩
     subst he
     rw [Int.toNat_natCast] at hv
     obtain ⟨s,hs⟩:∃ s,s=e-9:=⟨_,rfl⟩
     obtain ⟨p,hp⟩:∃ p,p=(l.take e).drop s:=⟨_,rfl⟩
     have hlen:(l.take e).length=e:=by simp;omega
     have hpd:Dg p:=by rw [hp];exact Dg.drop (Dg.take hd _) _
     have hpl:p.length=e-s:=by rw [hp,List.length_drop,hlen]
     have hval:dval p<1000000000:=by
      have:=x7x hpd
      have h9:(10:Nat) ^ p.length≤10 ^ 9:=Nat.pow_le_pow_right (by decide) (by omega)
      rw [y0t] at h9
      omega
     have hsplit:l.take e=l.take s++p:=by
      rw [hp]
      have:=(List.take_append_drop s (l.take e)).symm
      rwa [List.take_take,Nat.min_eq_left (by omega)] at this
     have hvs:wv (ws++[(dval p:Int)])+pw (i+1)*(dval (l.take ((e:Int)-9).toNat):Int)=dval l:=by
      rw [show ((e:Int)-9).toNat=s by omega,z5b,hw,z1e]
      rw [hsplit,y0g] at hv
      by_cases h9:p.length=9
      · rw [h9,y0t] at hv
        have e2:((dval (l.take s)*1000000000+dval p:Nat):Int)=1000000000*(dval (l.take s):Int)+dval p:=by omega
        rw [e2] at hv
        grind
      · have hs0:s=0:=by omega
        rw [hs0,List.take_zero,show dval []=0 from rfl] at hv ⊢
        rw [show ((0*10 ^ p.length+dval p:Nat):Int)=(dval p:Int) by simp] at hv
        simp
        omega
     obtain ⟨ws',k1,k2,k3,k4⟩:=x8p hd hl t (i+1) (ws++[(dval p:Int)]) ((e:Int)-9) (by omega) (by omega) (by omega) (by omega) (by simp [hw]) (by omega) (hwd.append (Wd.cons (by omega) (by omega) Wd.nil)) hvs
     refine ⟨ws',?_,k2,k3,k4⟩
     have hin:=x5a (E:=E) hd (by omega) (w0:=Wr ws) (i:=i) (e:=e) (s:=s) (by omega) (by omega) (e-s) s (by omega) (Nat.le_refl _)
     rw [List.drop_eq_nil_of_le (by simp;omega),show dval []=0 from rfl,← hp] at hin
     exact k1k (i1:=(e:Int)-9) (i2:=(s:Int)) (i3:=(dval p:Int)) (r2:=Wr (ws++[(dval p:Int)])) (n2:=i+1) (wi (by omega)) (by split <;> omega) (by rw [U2,← hw,List.take_length,y4d]) rfl (by omega) hin (by omega) k1
theorem v1r {l:List UInt8} (hd:Dg l) (hl:l.length<10000000000000):Fn E H0 [.c (.str (B l))] (.c (.list (Wr (words (dval l))))):=by
 obtain ⟨ws,k1,k2,k3,k4⟩:=x8p (E:=E) hd hl l.length 0 [] l.length (by omega) (by omega) (by omega) (by omega) rfl (fun _=>by omega) Wd.nil (by rw [Int.toNat_natCast,List.take_length,y8o];simp [wv])
 rw [← C5] at k1
 exact j5p (y3h k2 k3) k1 (z9w (Nat.le_refl _) (by omega))
theorem x1r {n K:Nat} (h:n<10 ^ K) (hK:K≤Lim):Fn E H0 [.c (.str (B (dec n)))] (.c (.list (Wr (words n)))):=by
 have h1:=x5l h
 rw [K3] at hK
 have:=v1r (E:=E) (z8x n) (by omega)
 rwa [z0x] at this
theorem x1u {xs ys:List Int} (hy:Wd ys) {N i:Nat} {x:Int} (hi:i<xs.length) (hxi:x=xs.getD i 0) (hx:0≤x∧x<1000000000) (hN:N<4611686018427387904) (hiN:i+ys.length≤N) {out0:List Int} :
    ∀ d k c out,k+d=ys.length→0≤c∧c<1000000000→Wd out→out.length=N→(∀ j,i+k≤j→out.getD j 0=out0.getD j 0) →
    wv out+pw (i+k)*c=wv out0+pw i*(x*wv (ys.take k)) →
    ∃ c' out',Lp E 1 D5 1 (z4u (Wr xs) (Wr ys) N i c k (Wr out)) (.exit 2) (z9h (Wr xs) (Wr ys) N i c' (Wr out')) ∧
     (0≤c'∧c'<1000000000)∧Wd out'∧out'.length=N∧(∀ j,i+ys.length≤j→out'.getD j 0=out0.getD j 0)∧wv out'+pw (i+ys.length)*c'=wv out0+pw i*(x*wv ys)
 | 0,k,c,out,hk,hc,hw,hl,hj,hv=>by
  have:k=ys.length:=by omega
  subst this
  rw [List.take_length] at hv
  exact ⟨c,out,x4g (by rw [A7];omega),hc,hw,hl,hj,hv⟩
 | d+1,k,c,out,hk,hc,hw,hl,hj,hv=>by
  have hyk:=hy.getD k
  obtain ⟨y,ey⟩:∃ y,y=ys.getD k 0:=⟨_,rfl⟩
  rw [← ey] at hyk
  have ho:=hw.getD (i+k)
  obtain ⟨w,ew⟩:∃ w,w=out.getD (i+k) 0:=⟨_,rfl⟩
  rw [← ew] at ho
  have hxy:=x3h hx hyk
  obtain ⟨p,ep⟩:∃ p,p=x*y:=⟨_,rfl⟩
  rw [← ep] at hxy
  obtain ⟨S,eS⟩:∃ S,S=c+(p+w):=⟨_,rfl⟩
  have hS:0≤S∧S≤999999999999999999:=by omega
  have hik:i+k<out.length:=by omega
  obtain ⟨c',out',k1,k2,k3,k4,k5,k6⟩:=x1u hy hi hxi hx hN hiN (out0:=out0) d (k+1) (S / 1000000000) (out.set (i+k) (S % 1000000000)) (by omega) (by omega) (hw.set _ (by omega) (by omega)) (by simpa using hl)
   (fun j h=>by rw [H2 (by omega)];exact hj j (by omega)) (by
    rw [z6i out (i+k) hik,← ew,U4 ys k (by omega),← ey,← Nat.add_assoc,z1e,z6t]
    rw [z6t] at hv
    exact alg1 hv ep eS (Int.emod_add_mul_ediv S 1000000000))
  refine ⟨c',out',?_,k2,k3,k4,k5,k6⟩
  exact x9i (i4:=((i+k:Nat):Int)) (i5:=w) (i6:=w) (i7:=x) (i8:=x) (i9:=y) (i10:=y) (i11:=p) (i12:=w+p) (i13:=S) (i14:=S % 1000000000) (i15:=S % 1000000000) (r4:=Wr (out.set (i+k) (S % 1000000000))) (i16:=S / 1000000000) (i17:=((k+1:Nat):Int))
   (wi (by omega)) (wu (by omega)) (wu (by omega)) (wu (by omega)) (wu (by omega)) (wu (by omega)) (wu (by omega)) (tmd hS.1 rfl) (w32 (by omega)) (by rw [Int.toNat_natCast,z1w]) (wu ⟨tdv hS.1 rfl,by omega,by omega⟩) (wi (by omega))
   (by rw [A7];omega) (by omega) (by rw [ew];exact D2 hik) (by omega) (by rw [hxi];exact D2 (by omega)) (by omega) (by rw [ey];exact D2 (by omega)) k1
theorem x1v {xs ys:List Int} (hx:Wd xs) (hy:Wd ys) {N:Nat} (hN:N<4611686018427387904) (hl:N=xs.length+ys.length) :
    ∀ d i out,i+d=xs.length→Wd out→out.length=N→(∀ j,i+ys.length≤j→out.getD j 0=0)→wv out=wv (xs.take i)*wv ys →
    ∃ out',Lp E 1 D5 0 (z4t (Wr xs) (Wr ys) N i (Wr out)) (.exit 0) (z9g N (Wr out'))∧Wd out'∧out'.length=N∧wv out'=wv xs*wv ys
 | 0,i,out,hi,hw,ho,_,hv=>by
  have:i=xs.length:=by omega
  subst this
  rw [List.take_length] at hv
  exact ⟨out,x4f (by rw [A7];omega),hw,ho,hv⟩
 | d+1,i,out,hi,hw,ho,hj,hv=>by
  have hxi:=hx.getD i
  obtain ⟨x,ex⟩:∃ x,x=xs.getD i 0:=⟨_,rfl⟩
  rw [← ex] at hxi
  obtain ⟨c',out1,k1,k2,k3,k4,k5,k6⟩:=x1u (E:=E) hy (show i<xs.length by omega) ex hxi hN (by omega) (out0:=out) ys.length 0 0 out (by omega) (by omega) hw ho (fun _ _=>rfl) (by simp [wv])
  have hik:i+ys.length<out1.length:=by omega
  have h0:out1.getD (i+ys.length) 0=0:=by rw [k5 _ (Nat.le_refl _)];exact hj _ (Nat.le_refl _)
  obtain ⟨out',g1,g2,g3,g4⟩:=x1v hx hy hN hl d (i+1) (out1.set (i+ys.length) c') (by omega) (k3.set _ k2.1 k2.2) (by simpa using k4)
   (fun j h=>by rw [H2 (by omega),k5 j (by omega)];exact hj j (by omega)) (by
    rw [z6i out1 _ hik,h0,U4 xs i (by omega),← ex,Int.sub_zero,k6,hv]
    grind)
  refine ⟨out',?_,g2,g3,g4⟩
  exact x9h (i1:=c') (r4:=Wr out1) (i2:=((i+ys.length:Nat):Int)) (i3:=c') (i4:=0) (r5:=Wr (out1.set (i+ys.length) c')) (i5:=((i+1:Nat):Int))
   (wi (by rw [A7];omega)) (w32 (by omega)) (by rw [Int.toNat_natCast,z1w]) (wi (by omega)) (by rw [A7];omega) k1 (by omega) (by rw [← h0];exact D2 hik) g1
theorem y6x {m n:Nat} (hl:(words m).length+(words n).length<35184372088000):Fn E D5 [.c (.list (Wr (words m))),.c (.list (Wr (words n)))] (.c (.list (Wr (words (m*n))))):=by
 by_cases hm:m=0
 · subst hm
   rw [Nat.zero_mul,J9]
   exact j0m rfl
 · by_cases hn:n=0
   · subst hn
     rw [Nat.mul_zero,J9]
     have:words m≠[]:=fun h=>hm (z2g.1 h)
     have:=z5g this
     exact j0n (by rw [A7];omega) rfl
   · obtain ⟨out,k1,k2,k3,k4⟩:=x1v (E:=E) (B2 m) (B2 n) (N:=(words m).length+(words n).length) (by omega) rfl (words m).length 0 (List.replicate ((words m).length+(words n).length) 0) (by omega) (Wd.replicate _) (by simp)
      (fun j _=>by rw [List.getD_eq_getElem?_getD,List.getElem?_replicate];split <;> rfl) (by rw [x5h];simp [wv])
     have p1:=z5g (fun h=>hm (z2g.1 h):words m≠[])
     have p2:=z5g (fun h=>hn (z2g.1 h):words n≠[])
     have ht:=z9w (E:=E) (ws:=out) (k:=(words m).length+(words n).length) (by omega) (by omega)
     have ha:=y3h k2 (n:=m*n) (by rw [k4,B1,B1,Int.natCast_mul])
     rw [k3] at ha
     exact j0o (i0:=(((words m).length+(words n).length:Nat):Int)) (n0:=(words m).length+(words n).length) (r2:=Wr (List.replicate ((words m).length+(words n).length) 0)) (r3:=Wr out) (wi (by rw [A7,A7];omega)) (Int.toNat_natCast _) (z2p _ _) ha (by rw [A7];omega) (by rw [A7];omega) (by omega) k1 ht
theorem x5c {xs:List Int} (hx:Wd xs) {N:Nat} (hN:xs.length=N) (hb:N<4611686018427387904) {w:Int} (hw:0<w∧w<1000000000):∀ k rest out,k≤N→0≤rest∧rest<w→Wd out→out.length=N →
    wv (out.drop k)*w+rest=wv (xs.drop k) →
    ∃ rest' out',Lp E 1 P8 0 (z4v (Wr xs) w N rest ((k:Int)-1) (Wr out)) (.exit 0) (z9i N rest' (Wr out'))∧(0≤rest'∧rest'<w)∧Wd out'∧out'.length=N∧wv out'*w+rest'=wv xs
 | 0,rest,out,_,hr,ho,hl,hv=>by
  rw [List.drop_zero,List.drop_zero] at hv
  exact ⟨rest,out,x4k (by omega),hr,ho,hl,hv⟩
 | k+1,rest,out,hk,hr,ho,hl,hv=>by
  rw [show ((k+1:Nat):Int)-1=(k:Int) by omega]
  have hxk:=hx.getD k
  obtain ⟨x,ex⟩:∃ x,x=xs.getD k 0:=⟨_,rfl⟩
  rw [← ex] at hxk
  obtain ⟨S,eS⟩:∃ S,S=rest*1000000000+x:=⟨_,rfl⟩
  have hS:0≤S∧S<w*1000000000:=by omega
  have hq0:0≤S / w:=Int.ediv_nonneg hS.1 (by omega)
  have hq:S / w<1000000000:=Int.ediv_lt_of_lt_mul (by omega) (by rw [Int.mul_comm];exact hS.2)
  have hm0:=Int.emod_nonneg S (show w≠0 by omega)
  have hm1:=Int.emod_lt_of_pos S (show 0<w by omega)
  have hdm:=Int.emod_add_mul_ediv S w
  have hkl:k<out.length:=by omega
  have hd:(out.set k (S / w)).drop (k+1)=out.drop (k+1):=List.drop_set_of_lt (Nat.lt_succ_self k)
  obtain ⟨rest',out',k1,k2,k3,k4,k5⟩:=x5c hx hN hb hw k (S % w) (out.set k (S / w)) (by omega) ⟨hm0,hm1⟩ (ho.set _ hq0 hq) (by simpa using hl) (by
   rw [z4i _ k,z4i xs k,← ex,z5x hkl,hd,← hv]
   exact alg2 eS hdm)
  refine ⟨rest',out',?_,k2,k3,k4,k5⟩
  exact x9l (i4:=rest*1000000000) (i5:=x) (i6:=x) (i7:=S) (i8:=w) (i9:=S / w) (i10:=S / w) (i11:=out.getD k 0) (r3:=Wr (out.set k (S / w))) (i12:=S % w) (i13:=(k:Int)-1)
   (wu (by omega)) (wu (by omega)) (wu (by omega)) (wu (by omega)) (wu ⟨tdv hS.1 rfl,hq0,by omega⟩) (w32 (by omega)) (by rw [Int.toNat_natCast,z1w]) (tmd hS.1 rfl) (wi (by omega))
   (by omega) (by omega) (by rw [ex];exact D2 (by omega)) (by omega) (by omega) (D2 hkl) k1
theorem j8v {n w:Nat} (hw:0<w∧w<1000000000) (hl:(words n).length<35184372088000):Fn E P8 [.c (.list (Wr (words n))),.c (.u32 w)] (.tup [.c (.list (Wr (words (n / w)))),.c (.u32 ((n % w:Nat):Int))]):=by
 obtain ⟨rest,out,k1,k2,k3,k4,k5⟩:=x5c (E:=E) (B2 n) (N:=(words n).length) rfl (by omega) (w:=w) (by omega) (words n).length 0 (List.replicate (words n).length 0) (Nat.le_refl _) (by omega) (Wd.replicate _) (by simp)
  (by rw [drop_nil (by simp),drop_nil (Nat.le_refl _)];simp [wv])
 rw [B1] at k5
 have h0:=C2 k3
 obtain ⟨q,hq⟩:∃ q:Nat,wv out=q:=⟨(wv out).toNat,by omega⟩
 obtain ⟨r,hr⟩:∃ r:Nat,rest=r:=⟨rest.toNat,by omega⟩
 rw [hq,hr] at k5
 subst hr
 have hn:n=q*w+r:=by
  have:((q*w+r:Nat):Int)=n:=by rw [Int.natCast_add,Int.natCast_mul];exact k5
  omega
 obtain ⟨e1,e2⟩:=y4y hn (by omega)
 rw [e1,e2]
 have ht:=z9w (E:=E) (ws:=out) (k:=(words n).length) (by omega) (by omega)
 have ha:=y3h k3 hq
 rw [k4] at ha
 exact j0u (n0:=(words n).length) (r1:=Wr (List.replicate (words n).length 0)) (i1:=((words n).length:Int)-1) (i2:=(r:Int)) (r2:=Wr out) (by rw [A7];rfl) (z2p _ _) (wi (by rw [A7];omega)) (w32 (by omega)) ha (by rw [A7];omega) k1 ht
theorem q8t {lu k j ln:Nat} {u v:List Int} (D:Dv u v lu k j) (hln:j+k<ln) (hls:ln<35184372088832) {g:Int} (hg:0≤g∧g<1000000000) :
    ∀ d i c b u',i+d=k→0≤c∧c<1000000000→b=0∨b=1→Wd u'→u'.length=lu→(∀ n,n<j∨j+i≤n→u'.getD n 0=u.getD n 0)→wv u'=wv u-pw j*(g*wv (v.take i))+pw j*pw i*(c+b) →
    ∃ c' b' u'',Lp E 1 C8 0 (I6 ln (Wr v) j g k b c i (Wr u')) (.exit 0) (X1 ln (Wr v) j g k b' c' (Wr u''))∧(0≤c'∧c'<1000000000)∧(b'=0∨b'=1)∧Wd u''∧u''.length=lu∧(∀ n,n<j∨j+k≤n→u''.getD n 0=u.getD n 0)∧wv u''=wv u-pw j*(g*wv v)+pw j*pw k*(c'+b')
 | 0,i,c,b,u',hi,hc,hb,hw,hl,hn,hv=>by
  have:i=k:=by omega
  subst this
  have:=D.elv
  rw [List.take_of_length_le (by omega)] at hv
  exact ⟨c,b,u',x2b (by omega),hc,hb,hw,hl,hn,hv⟩
 | d+1,i,c,b,u',hi,hc,hb,hw,hl,hn,hv=>by
  have hjk:=D.jk
  have hsm:=D.small
  have hlv:=D.elv
  have a0:=D.hv.getD i
  have b0:=hw.getD (j+i)
  have gk:(Wr v)[Int.toNat (i:Int)]?=some [.u32 (v.getD i 0)]:=D2 (by omega)
  have gu:(Wr u')[Int.toNat ((j+i:Nat):Int)]?=some [.u32 (u'.getD (j+i) 0)]:=D2 (by omega)
  have et:=U4 v i (by omega)
  have es:=z6i u' (j+i) (by omega)
  obtain ⟨x,ex⟩:∃ x,x=v.getD i 0:=⟨_,rfl⟩
  obtain ⟨w,ew⟩:∃ w,w=u'.getD (j+i) 0:=⟨_,rfl⟩
  rw [← ex] at a0 gk et
  rw [← ew] at b0 gu es
  have hgx:0≤g*x∧g*x≤999999998000000001:=x3h hg a0
  obtain ⟨S,eS⟩:∃ S,S=g*x+c:=⟨_,rfl⟩
  have hS:0≤S∧S≤999999999000000000:=by omega
  obtain ⟨dd,ed⟩:∃ dd,dd=w-S % 1000000000-b:=⟨_,rfl⟩
  have key:∀ b' d',d'=dd+1000000000*b'→0≤d'∧d'<1000000000→(b'=0∨b'=1) →
      (∀ {st:St},Lp E 1 C8 0 (I6 ln (Wr v) j g k b' (S / 1000000000) ((i+1:Nat):Int) (Wr (u'.set (j+i) d'))) (.exit 0) st→Lp E 1 C8 0 (I6 ln (Wr v) j g k b c i (Wr u')) (.exit 0) st) →
      ∃ c' b' u'',Lp E 1 C8 0 (I6 ln (Wr v) j g k b c i (Wr u')) (.exit 0) (X1 ln (Wr v) j g k b' c' (Wr u''))∧(0≤c'∧c'<1000000000)∧(b'=0∨b'=1)∧Wd u''∧u''.length=lu∧(∀ n,n<j∨j+k≤n→u''.getD n 0=u.getD n 0)∧wv u''=wv u-pw j*(g*wv v)+pw j*pw k*(c'+b'):=by
   intro b' d' hd' hd0 hb' hstep
   obtain ⟨c2,b2,u2,k1,k2⟩:=q8t D hln hls hg d (i+1) (S / 1000000000) b' (u'.set (j+i) d') (by omega) (by omega) hb' (hw.set _ hd0.1 hd0.2) (by simpa using hl)
    (fun n h=>by rw [H2 (by omega)];exact hn n (by omega)) (by
     rw [es d',et,z1e,z6t]
     have:=q0a hv eS (Int.emod_add_mul_ediv S 1000000000) ed hd'
     rw [this];grind)
   exact ⟨c2,b2,u2,hstep k1,k2⟩
  by_cases c1:dd<0
  · refine key 1 (dd+1000000000) (by omega) (by omega) (.inr rfl) fun k1=>?_
    exact x6o (i8:=x) (i9:=x) (i10:=g*x) (i11:=S) (i12:=S / 1000000000) (i13:=((j+i:Nat):Int)) (i14:=w) (i15:=w) (i16:=S % 1000000000) (i17:=S % 1000000000) (i18:=w-S % 1000000000) (i19:=dd) (i20:=dd+1000000000) (i21:=dd+1000000000) (r3:=Wr (u'.set (j+i) (dd+1000000000))) (i22:=((i+1:Nat):Int))
     (wu (by omega)) (wu (by omega)) (wu (by omega)) (wu ⟨tdv hS.1 rfl,by omega,by omega⟩) (wi (by omega)) (wi (by omega)) (tmd hS.1 rfl) (wi (by omega)) (wi (by omega)) (wi (by omega)) (wi (by omega)) (w32 (by omega)) (by rw [Int.toNat_natCast,z1w]) (wi (by omega))
     (by omega) (by omega) gk (by omega) gu c1 k1
  · refine key 0 dd (by omega) (by omega) (.inl rfl) fun k1=>?_
    exact x6p (i8:=x) (i9:=x) (i10:=g*x) (i11:=S) (i12:=S / 1000000000) (i13:=((j+i:Nat):Int)) (i14:=w) (i15:=w) (i16:=S % 1000000000) (i17:=S % 1000000000) (i18:=w-S % 1000000000) (i19:=dd) (i20:=dd) (r4:=Wr (u'.set (j+i) dd)) (i23:=((i+1:Nat):Int))
     (wu (by omega)) (wu (by omega)) (wu (by omega)) (wu ⟨tdv hS.1 rfl,by omega,by omega⟩) (wi (by omega)) (wi (by omega)) (tmd hS.1 rfl) (wi (by omega)) (wi (by omega)) (wi (by omega)) (w32 (by omega)) (by rw [Int.toNat_natCast,z1w]) (wi (by omega))
     (by omega) (by omega) gk (by omega) gu c1 k1
theorem q8s {lu k j ln:Nat} {u v:List Int} (D:Dv u v lu k j) (hln:j+k<ln) (hls:ln<35184372088832) {g:Int} {u1:List Int} :
    ∀ d i up u',i+d=k→0≤up∧up≤1→Wd u'→u'.length=lu→(∀ n,n<j∨j+i≤n→u'.getD n 0=u1.getD n 0)→wv u'=wv u1+pw j*wv (v.take i)-pw j*pw i*up →
    ∃ up' u'',Lp E 1 C8 1 (z0r ln (Wr v) j g k up i (Wr u')) (.exit 2) (z4g ln j g k up' (Wr u''))∧(0≤up'∧up'≤1)∧Wd u''∧u''.length=lu∧(∀ n,n<j∨j+k≤n→u''.getD n 0=u1.getD n 0)∧wv u''=wv u1+pw j*wv v-pw j*pw k*up'
 | 0,i,up,u',hi,hc,hw,hl,hn,hv=>by
  have:i=k:=by omega
  subst this
  have:=D.elv
  rw [List.take_of_length_le (by omega)] at hv
  exact ⟨up,u',x2c (by omega),hc,hw,hl,hn,hv⟩
 | d+1,i,up,u',hi,hc,hw,hl,hn,hv=>by
  have hjk:=D.jk
  have hsm:=D.small
  have hlv:=D.elv
  have a0:=D.hv.getD i
  have b0:=hw.getD (j+i)
  have gk:(Wr v)[Int.toNat (i:Int)]?=some [.u32 (v.getD i 0)]:=D2 (by omega)
  have gu:(Wr u')[Int.toNat ((j+i:Nat):Int)]?=some [.u32 (u'.getD (j+i) 0)]:=D2 (by omega)
  have et:=U4 v i (by omega)
  have es:=z6i u' (j+i) (by omega)
  obtain ⟨x,ex⟩:∃ x,x=v.getD i 0:=⟨_,rfl⟩
  obtain ⟨w,ew⟩:∃ w,w=u'.getD (j+i) 0:=⟨_,rfl⟩
  rw [← ex] at a0 gk et
  rw [← ew] at b0 gu es
  obtain ⟨S,eS⟩:∃ S,S=up+(w+x):=⟨_,rfl⟩
  have hS:0≤S∧S≤1999999999:=by omega
  obtain ⟨up2,u2,k1,k2⟩:=q8s (g:=g) D hln hls (u1:=u1) d (i+1) (S / 1000000000) (u'.set (j+i) (S % 1000000000)) (by omega) (by omega) (hw.set _ (by omega) (by omega)) (by simpa using hl)
   (fun n h=>by rw [H2 (by omega)];exact hn n (by omega)) (by
    rw [es,et,z1e,z6t]
    have:=j7g hv eS (Int.emod_add_mul_ediv S 1000000000)
    rw [this];grind)
  refine ⟨up2,u2,?_,k2⟩
  exact x6q (i6:=((j+i:Nat):Int)) (i7:=w) (i8:=x) (i9:=w+x) (i10:=S) (i11:=S % 1000000000) (r3:=Wr (u'.set (j+i) (S % 1000000000))) (i12:=S / 1000000000) (i13:=((i+1:Nat):Int))
   (wi (by omega)) (w32 (by omega)) (w32 (by omega)) (tmd hS.1 rfl) (by rw [Int.toNat_natCast,z1w]) (w32 ⟨tdv hS.1 rfl,by omega,by omega⟩) (wi (by omega))
   (by omega) (by omega) gu (by omega) gk k1
theorem k8t {xs ys:List Int} {n:Nat} (hl:xs.length=ys.length) (h:∀ i,n≤i→xs.getD i 0=ys.getD i 0):xs.drop n=ys.drop n:=by
 apply List.ext_getElem?
 intro i
 rw [List.getElem?_drop,List.getElem?_drop]
 rcases Nat.lt_or_ge (n+i) xs.length with h1 | h1
 · rw [getD_some h1,getD_some (by omega),h _ (by omega)]
 · rw [List.getElem?_eq_none h1,List.getElem?_eq_none (by omega)]
theorem q5h {lu k j ln:Nat} {u v:List Int} (D:Dv u v lu k j) (hln:j+k<ln) (hls:ln<35184372088832) {g:Int} (hg:0≤g∧g<1000000000) (hup:wv (u.drop j)<(g+1)*wv v) (hlo:(g-1)*wv v≤wv (u.drop j)) :
    ∃ u' q,Rn E C8 [.vec 0 ln,.c (.list (Wr v)),.c (.i64 j),.c (.u64 g)] [some (.vec A0 (Wr u))] (.c (.u32 q)) [some (.vec A0 (Wr u'))] ∧
     (0≤q∧q<1000000000)∧Wd u'∧u'.length=lu∧wv u'=wv u-pw j*(q*wv v)∧0≤wv (u'.drop j)∧wv (u'.drop j)<wv v:=by
 have h2:=D.two
 have hjk:=D.jk
 have hsm:=D.small
 have hlu:=D.elu
 have hlv:=D.elv
 have hV:=D.vpos
 have hVk:=D.vk
 have b0:=D.hu.getD (j+k)
 have hz:=D.zero
 obtain ⟨u0,e3⟩:∃ x,x=u.getD (j+k) 0:=⟨_,rfl⟩
 rw [← e3] at b0
 obtain ⟨c,b,us,s1,s2,s3,s4,s5,s6,s7⟩:=q8t (E:=E) D hln hls hg k 0 0 0 u (by omega) (by omega) (.inl rfl) D.hu D.elu (fun _ _=>rfl) (by simp [wv])
 have hsu:us.getD (j+k) 0=u0:=by rw [s6 _ (.inr (Nat.le_refl _)),← e3]
 have gs0:(Wr us)[Int.toNat ((j+k:Nat):Int)]?=some [.u32 u0]:=by rw [← hsu];exact D2 (by omega)
 obtain ⟨last,hlast⟩:∃ x,x=u0-c-b:=⟨_,rfl⟩
 have hset:=z6i us (j+k) (by omega)
 rw [hsu] at hset
 have sv:wv us=wv u-pw j*(g*wv v-pw k*(c+b)):=by rw [s7];grind
 have sd:=y0f (xs:=us) (ys:=u) (by omega) (j:=j) (by omega) (fun n hn=>s6 n (.inl hn)) sv
 have sk:=D6 (us.drop j) k (by simp;omega)
 have sz:wv (us.drop (j+k+1))=0:=by
  rw [k8t (ys:=u) (by omega) (fun i hi=>s6 i (.inr (by omega)))];exact hz
 rw [List.drop_drop,J6 us (j+k) (by omega),sz,hsu] at sk
 have sk0:=C2 ((s4.drop j).take k)
 have sk1:=(s4.drop j).val_take_lt k (by simp;omega)
 have hpk:=V7 k
 have hpj:=V7 j
 have hXV:(g+1)*wv v=g*wv v+wv v:=by grind
 have hwl:((Wr v).length:Int)=k:=by rw [A7,hlv]
 have s1':Lp E 1 C8 0 (I6 ln (Wr v) j g ((Wr v).length:Int) 0 0 0 (Wr u)) (.exit 0) (X1 ln (Wr v) j g ((Wr v).length:Int) b c (Wr us)):=by rw [hwl];exact s1
 by_cases c1:last<0
 · have hneg:wv (u.drop j)<g*wv v:=by
    have h5:pw k*last≤pw k*(-1):=Int.mul_le_mul_of_nonneg_left (by omega) (by omega)
    have h6:pw k*last=pw k*u0-pw k*(c+b):=by rw [hlast];grind
    simp at sk
    omega
   have hg1:1≤g:=by
    rcases Int.lt_or_le g 1 with h | h
    · have:g=0:=by omega
      subst this
      have:=C2 (D.hu.drop j)
      omega
    · exact h
   obtain ⟨m,hm⟩:∃ m,m=us.set (j+k) (last+1000000000):=⟨_,rfl⟩
   have hlb:-1000000000≤last:=by rcases s3 with h | h <;> omega
   have mw:Wd m:=by rw [hm];exact s4.set _ (by omega) (by omega)
   have ml:m.length=lu:=by rw [hm];simpa using s5
   have mv:wv m=wv us+pw (j+k)*(last+1000000000-u0):=by rw [hm,hset]
   have mj:m.getD (j+k) 0=last+1000000000:=by rw [hm];exact z5x (by omega) _
   obtain ⟨up,ua,t1,t2,t3,t4,t5,t6⟩:=q8s (E:=E) (g:=g) D hln hls (u1:=m) k 0 0 m (by omega) (by omega) mw ml (fun _ _=>rfl) (by simp [wv])
   have hau:ua.getD (j+k) 0=last+1000000000:=by rw [t5 _ (.inr (Nat.le_refl _)),mj]
   have ga0:(Wr ua)[Int.toNat ((j+k:Nat):Int)]?=some [.u32 (last+1000000000)]:=by rw [← hau];exact D2 (by omega)
   have hset2:=z6i ua (j+k) (by omega)
   rw [hau] at hset2
   have tv:wv ua=wv u-pw j*((g-1)*wv v-pw k*(last+1000000000-u0)-pw k*(c+b)+pw k*up):=by rw [t6,mv,s7,z6t];grind
   have td:=y0f (xs:=ua) (ys:=u) (by omega) (j:=j) (by omega) (fun n hn=>by rw [t5 n (.inl hn),hm,H2 (by omega)];exact s6 n (.inl hn)) tv
   have tk:=D6 (ua.drop j) k (by simp;omega)
   have tz:wv (ua.drop (j+k+1))=0:=by
    rw [k8t (ys:=us) (by omega) (fun i hi=>by rw [t5 i (.inr (by omega)),hm,H2 (by omega)])];exact sz
   rw [List.drop_drop,J6 ua (j+k) (by omega),tz,hau] at tk
   have tk0:=C2 ((t3.drop j).take k)
   have tk1:=(t3.drop j).val_take_lt k (by simp;omega)
   have hg1V:(g-1)*wv v=g*wv v-wv v:=by grind
   have hzero:last+up=0:=by
    have h5:pw k*(last+up)=pw k*last+pw k*up:=by grind
    have h6:pw k*(last+1000000000-u0)=pw k*last+pw k*1000000000-pw k*u0:=by grind
    have h7:pw k*last=pw k*u0-pw k*(c+b):=by rw [hlast];grind
    have h8:pw k*(last+1000000000)=pw k*last+pw k*1000000000:=by grind
    have h9:-pw k<pw k*(last+up)∧pw k*(last+up)<pw k:=by
     simp at tk
     omega
    rcases Int.lt_trichotomy (last+up) 0 with h | h | h
    · have:pw k*(last+up)≤pw k*(-1):=Int.mul_le_mul_of_nonneg_left (by omega) (by omega)
      omega
    · exact h
    · have:pw k*1≤pw k*(last+up):=Int.mul_le_mul_of_nonneg_left (by omega) (by omega)
      omega
   have hfin:wv (ua.set (j+k) 0)=wv u-pw j*((g-1)*wv v):=by
    rw [hset2,tv,z6t]
    have e1:u0=c+b+last:=by omega
    have e2:up=-last:=by omega
    rw [e1,e2];grind
   have hd:=y0f (xs:=ua.set (j+k) 0) (ys:=u) (by simp;omega) (j:=j) (by simp;omega) (fun n hn=>by rw [H2 (by omega),t5 n (.inl hn),hm,H2 (by omega)];exact s6 n (.inl hn)) hfin
   refine ⟨ua.set (j+k) 0,g-1,?_,by omega,t3.set _ (by omega) (by omega),by simpa using t4,hfin,by rw [hd];omega,by rw [hd];omega⟩
   have t1':Lp E 1 C8 1 (z0r ln (Wr v) j g ((Wr v).length:Int) 0 0 (Wr m)) (.exit 2) (z4g ln j g ((Wr v).length:Int) up (Wr ua)):=by rw [hwl];exact t1
   exact k8b (i2:=b) (i3:=c) (r2:=Wr us) (i4:=((j+k:Nat):Int)) (i5:=u0) (i6:=u0) (i7:=c) (i8:=u0-c) (i9:=last) (i10:=last+1000000000) (i12:=last+1000000000) (r4:=Wr m) (i13:=up) (r5:=Wr ua) (i14:=last+1000000000) (i15:=1000000000) (i16:=0) (r6:=Wr (ua.set (j+k) 0)) (i17:=g-1) (i18:=g-1)
    (wi (by rw [hwl];omega)) (wi (by omega)) (wi (by omega)) (wi (by omega)) (wi (by omega)) (wi (by omega)) (w32 (by omega)) (by rw [Int.toNat_natCast,z1w,hm]) (w32 (by omega)) (tmd (by omega) rfl) (by rw [Int.toNat_natCast,z1w]) (wu (by omega)) (w32 (by omega))
    s1' (by omega) gs0 (by omega) t1' ga0
 · have hfin:wv (us.set (j+k) last)=wv u-pw j*(g*wv v):=by
    rw [hset,sv,z6t,hlast];grind
   have hd:=y0f (xs:=us.set (j+k) last) (ys:=u) (by simp;omega) (j:=j) (by simp;omega) (fun n hn=>by rw [H2 (by omega)];exact s6 n (.inl hn)) hfin
   have hl9:last<1000000000:=by rcases s3 with h | h <;> omega
   refine ⟨us.set (j+k) last,g,?_,hg,s4.set _ (by omega) hl9,by simpa using s5,hfin,C2 ((s4.set (j+k) (show 0≤last by omega) hl9).drop j),by rw [hd];omega⟩
   exact k8a (i2:=b) (i3:=c) (r2:=Wr us) (i4:=((j+k:Nat):Int)) (i5:=u0) (i6:=u0) (i7:=c) (i8:=u0-c) (i9:=last) (i10:=last) (r3:=Wr (us.set (j+k) last)) (i11:=g)
    (wi (by rw [hwl];omega)) (wi (by omega)) (wi (by omega)) (wi (by omega)) (wi (by omega)) (w32 (by omega)) (by rw [Int.toNat_natCast,z1w]) (w32 (by omega)) s1' (by omega) gs0 (by omega)
theorem j8u {sc w2 w4:RW} {lq lu k j ln:Nat} {u v:List Int} (D:Dv u v lu k j) (hln:j+k<ln) (hls:ln<35184372088832) :
    ∀ (t:Nat) (g rest:Int),0≤g→g<t→g≤1000000001→0≤rest∧rest<2000000000→g*v.getD (k-1) 0+rest=u.getD (j+k) 0*1000000000+u.getD (j+k-1) 0→wv (u.drop j)<(g+1)*wv v→(g=1000000001→rest+v.getD (k-1) 0<1000000000)→(rest≥1000000000→g<1000000000) →
    ∃ g',Lp E 5 D9 1 (U3 k sc (Wr v) ln lq j g rest w2 (Wr u) w4) (.exit 2) (z3k k sc (Wr v) ln lq j w2 (Wr u) w4 g')∧(0≤g'∧g'<1000000000)∧wv (u.drop j)<(g'+1)*wv v∧(g'-1)*wv v≤wv (u.drop j)
 | 0,g,rest,h0,ht,_,_,_,_,_,_=>by omega
 | t+1,g,rest,h0,ht,hg,hr,he,hX,hbig,hrg=>by
  have h2:=D.two
  have hjk:=D.jk
  have hsm:=D.small
  have hlu:=D.elu
  have hlv:=D.elv
  have a1:=D.hv.getD (k-1)
  have a2:=D.hv.getD (k-2)
  have b2:=D.hu.getD (j+k-2)
  have b1:=D.hu.getD (j+k-1)
  have b0:=D.hu.getD (j+k)
  have hnorm:=D.norm
  have eV:=y7e D.elv D.two
  have eX:=y4q (u:=u) (j:=j) (k:=k) D.two (by omega) D.zero
  have vl0:=C2 (D.hv.take (k-2))
  have vl1:=D.hv.val_take_lt (k-2) (by omega)
  have xl0:=C2 ((D.hu.drop j).take (k-2))
  have xl1:=(D.hu.drop j).val_take_lt (k-2) (by simp;omega)
  have hP:=V7 (k-2)
  have gk1:(Wr v)[Int.toNat ((k:Int)-1)]?=some [.u32 (v.getD (k-1) 0)]:=by
   rw [show Int.toNat ((k:Int)-1)=k-1 by omega];exact D2 (by omega)
  have gk2:(Wr v)[Int.toNat ((k:Int)-2)]?=some [.u32 (v.getD (k-2) 0)]:=by
   rw [show Int.toNat ((k:Int)-2)=k-2 by omega];exact D2 (by omega)
  have gu:(Wr u)[Int.toNat ((j:Int)+k-2)]?=some [.u32 (u.getD (j+k-2) 0)]:=by
   rw [show Int.toNat ((j:Int)+k-2)=j+k-2 by omega];exact D2 (by omega)
  obtain ⟨v1,e1⟩:∃ x,x=v.getD (k-1) 0:=⟨_,rfl⟩
  obtain ⟨v2,e2⟩:∃ x,x=v.getD (k-2) 0:=⟨_,rfl⟩
  obtain ⟨u2,e3⟩:∃ x,x=u.getD (j+k-2) 0:=⟨_,rfl⟩
  obtain ⟨top,e4⟩:∃ x,x=u.getD (j+k) 0*1000000000+u.getD (j+k-1) 0:=⟨_,rfl⟩
  rw [← e1] at a1 hnorm eV gk1 he hbig
  rw [← e2] at a2 eV gk2
  rw [← e3] at b2 eX gu
  rw [← e4] at eX he
  have hg2:0≤g*v2∧g*v2≤1000000001*999999999:=⟨Int.mul_nonneg h0 a2.1,Int.mul_le_mul hg (by omega) a2.1 (by decide)⟩
  by_cases c0:rest≥1000000000
  · have hgB:=hrg c0
    refine ⟨g,x6m (by omega),⟨h0,hgB⟩,hX,?_⟩
    refine y7t hP ⟨vl0,vl1⟩ xl0 eV eX he ⟨h0,hgB⟩ ?_ hnorm a2.1
    have h5:g*v2≤999999999*999999999:=Int.mul_le_mul (by omega) (by omega) a2.1 (by decide)
    omega
  · have down:1≤g→wv (u.drop j)<g*wv v→(g≤1000000000∨rest+v1<1000000000) →
        ∃ g',Lp E 5 D9 1 (U3 k sc (Wr v) ln lq j (g-1) (rest+v1) w2 (Wr u) w4) (.exit 2) (z3k k sc (Wr v) ln lq j w2 (Wr u) w4 g')∧(0≤g'∧g'<1000000000)∧wv (u.drop j)<(g'+1)*wv v∧(g'-1)*wv v≤wv (u.drop j):=by
     intro hg1 hlt hb
     have hmul:(g-1)*v1+(rest+v1)=top:=by
      have:(g-1)*v1=g*v1-v1:=by grind
      omega
     refine j8u D hln hls t (g-1) (rest+v1) (by omega) (by omega) (by omega) (by omega) ?_ (by rw [show g-1+1=g by omega];exact hlt) (fun h=>by omega) (fun h=>by omega)
     rw [← e1,← e4];exact hmul
    by_cases c1:g≥1000000000
    · have hlt:wv (u.drop j)<g*wv v:=by
       have h6:=J6 u j (by omega)
       have h7:=D.hu.getD j
       have h8:=D.low
       have h9:1000000000*wv v≤g*wv v:=Int.mul_le_mul_of_nonneg_right c1 (by have:=D.vpos;omega)
       omega
      have hb:g≤1000000000∨rest+v1<1000000000:=by
       rcases Int.lt_or_le 1000000000 g with h | h
       · exact .inr (hbig (by omega))
       · exact .inl h
      obtain ⟨g',d3,d4⟩:=down (by omega) hlt hb
      exact ⟨g',k1m (i6:=(k:Int)-1) (i7:=v1) (i8:=v1) (wu (by omega)) (wi (by omega)) (wu (by omega)) (wu (by omega)) (by omega) c1 (by omega) gk1 d3,d4⟩
    · by_cases c3:g*v2>rest*1000000000+u2
      · have hlt:=j2d hP vl0 xl1 eV eX he h0 c3
        have hg1:1≤g:=by
         rcases Int.lt_or_le g 1 with h | h
         · have:g=0:=by omega
           subst this
           rw [Int.zero_mul] at c3
           omega
         · exact h
        obtain ⟨g',d3,d4⟩:=down hg1 hlt (.inl (by omega))
        exact ⟨g',k1n (i5:=(k:Int)-2) (i6:=v2) (i7:=v2) (i8:=g*v2) (i9:=rest*1000000000) (i10:=(j:Int)+k) (i11:=(j:Int)+k-2) (i12:=u2) (i13:=u2) (i14:=rest*1000000000+u2) (i16:=(k:Int)-1) (i17:=v1) (i18:=v1)
         (wi (by omega)) (wu (by omega)) (wu (by omega)) (wu (by omega)) (wi (by omega)) (wi (by omega)) (wu (by omega)) (wu (by omega)) (wu (by omega)) (wi (by omega)) (wu (by omega)) (wu (by omega)) (by omega) c1 (by omega) gk2 (by omega) gu c3 (by omega) gk1 d3,d4⟩
      · refine ⟨g,x6l (i5:=(k:Int)-2) (i6:=v2) (i7:=v2) (i8:=g*v2) (i9:=rest*1000000000) (i10:=(j:Int)+k) (i11:=(j:Int)+k-2) (i12:=u2) (i13:=u2) (i14:=rest*1000000000+u2)
            (wi (by omega)) (wu (by omega)) (wu (by omega)) (wu (by omega)) (wi (by omega)) (wi (by omega)) (wu (by omega)) (wu (by omega)) (by omega) c1 (by omega) gk2 (by omega) gu c3,⟨h0,by omega⟩,hX,?_⟩
        exact y7t hP ⟨vl0,vl1⟩ xl0 eV eX he ⟨h0,by omega⟩ (by omega) hnorm a2.1
theorem j7t {lu k j:Nat} {u v:List Int} (D:Dv u v lu k j) {top:Int} (et:top=u.getD (j+k) 0*1000000000+u.getD (j+k-1) 0) :
    0≤top∧0≤top / v.getD (k-1) 0∧top / v.getD (k-1) 0≤1000000001∧(0≤top % v.getD (k-1) 0∧top % v.getD (k-1) 0<v.getD (k-1) 0)∧top / v.getD (k-1) 0*v.getD (k-1) 0+top % v.getD (k-1) 0=top∧wv (u.drop j)<(top / v.getD (k-1) 0+1)*wv v∧(top / v.getD (k-1) 0=1000000001→top % v.getD (k-1) 0+v.getD (k-1) 0<1000000000):=by
 have h2:=D.two
 have hjk:=D.jk
 have hlu:=D.elu
 have hlv:=D.elv
 have hnorm:=D.norm
 have hV:=D.vpos
 have a1:=D.hv.getD (k-1)
 have b1:=D.hu.getD (j+k-1)
 have b0:=D.hu.getD (j+k)
 have hlow:=D.low
 have hz:=D.zero
 obtain ⟨v1,e1⟩:∃ x,x=v.getD (k-1) 0:=⟨_,rfl⟩
 obtain ⟨u0,e3⟩:∃ x,x=u.getD (j+k) 0:=⟨_,rfl⟩
 obtain ⟨u1',e4⟩:∃ x,x=u.getD (j+k-1) 0:=⟨_,rfl⟩
 have hX3:=y4q (u:=u) (j:=j) (k:=k) h2 (by omega) hz
 have hV2:=y7e hlv h2
 rw [← e3,← e4] at et hX3
 rw [← et] at hX3
 rw [← e1] at a1 hnorm hV2 ⊢
 rw [← e3] at b0
 rw [← e4] at b1
 have htop:0≤top:=by omega
 have hdm:=Int.emod_add_mul_ediv top v1
 have hr0:=Int.emod_nonneg top (show v1≠0 by omega)
 have hr1:=Int.emod_lt_of_pos top (show 0<v1 by omega)
 have hg0:0≤top / v1:=Int.ediv_nonneg htop (by omega)
 have hmul:top / v1*v1+top % v1=top:=by rw [Int.mul_comm];omega
 have a2:=D.hv.getD (k-2)
 have vl1:=D.hv.val_take_lt (k-2) (by omega)
 have xl0:=C2 ((D.hu.drop j).take (k-2))
 have hP:=V7 (k-2)
 have b2:=D.hu.getD (j+k-2)
 have hu0:u0≤v1:=by
  rcases Int.lt_or_le v1 u0 with h | h
  · exfalso
    have e5:=D6 (u.drop (j+1)) (k-1) (by simp;omega)
    rw [List.drop_drop,show j+1+(k-1)=j+k by omega,J6 u (j+k) (by omega),hz,← e3] at e5
    have h6:=C2 ((D.hu.drop (j+1)).take (k-1))
    have e7:=D6 v (k-1) (by omega)
    rw [J6 v (k-1) (by omega),← e1,show k-1+1=k by omega,List.drop_eq_nil_of_le (by omega),show wv []=0 from rfl] at e7
    have h8:=D.hv.val_take_lt (k-1) (by omega)
    have h9:pw (k-1)*(v1+1)≤pw (k-1)*u0:=Int.mul_le_mul_of_nonneg_left (by omega) (by have:=V7 (k-1);omega)
    rw [Int.mul_add,Int.mul_one] at h9
    simp at e5 e7
    omega
  · exact h
 refine ⟨htop,hg0,?_,⟨hr0,hr1⟩,hmul,?_,fun h=>by rw [h] at hmul;omega⟩
 · have:top / v1<1000000002:=Int.ediv_lt_of_lt_mul (by omega) (by omega)
   omega
 · have h5:top+1≤(top / v1+1)*v1:=by
    have:(top / v1+1)*v1=top / v1*v1+v1:=by grind
    omega
   have h6:=Int.mul_le_mul_of_nonneg_right h5 (show 0≤1000000000*pw (k-2) by omega)
   have h7:(top / v1+1)*(v1*(1000000000*pw (k-2)))≤(top / v1+1)*wv v:=by
    refine Int.mul_le_mul_of_nonneg_left ?_ (by omega)
    have h8:(v1*1000000000+v.getD (k-2) 0)*pw (k-2)=v1*(1000000000*pw (k-2))+v.getD (k-2) 0*pw (k-2):=by grind
    have h9:0≤v.getD (k-2) 0*pw (k-2):=Int.mul_nonneg a2.1 (by omega)
    have h10:=C2 (D.hv.take (k-2))
    omega
   have h8:(top / v1+1)*v1*(1000000000*pw (k-2))=(top / v1+1)*(v1*(1000000000*pw (k-2))):=by grind
   have h9:(top+1)*(1000000000*pw (k-2))=top*1000000000*pw (k-2)+1000000000*pw (k-2):=by grind
   have h10:(top*1000000000+u.getD (j+k-2) 0)*pw (k-2)=top*1000000000*pw (k-2)+u.getD (j+k-2) 0*pw (k-2):=by grind
   have h11:u.getD (j+k-2) 0*pw (k-2)≤999999999*pw (k-2):=Int.mul_le_mul_of_nonneg_right (by omega) (by omega)
   have h12:=(D.hu.drop j).val_take_lt (k-2) (by simp;omega)
   omega
theorem x8r {sc w2:RW} {lq lu k ln:Nat} {v:List Int} (hv:Wd v) (hlv:v.length=k)(h2:2≤k) (hn:1000000000≤2*v.getD (k-1) 0) (hsm:lu<35184372088832) (hlnu:ln≤lu) :
    ∀ j u q,Wd u→u.length=lu→Wd q→q.length=lq→j≤lq→(0<j→j-1+k<ln)→wv (u.drop j)<wv v →
    ∃ u' q',Lp E 5 D9 0 (z6b k sc (Wr v) ln lq ((j:Int)-1) w2 (Wr u) (Wr q)) (.exit 0) (y1b k sc ln lq w2 (Wr u') (Wr q'))∧Wd u'∧u'.length=lu∧Wd q'∧q'.length=lq∧wv u'<wv v∧wv u'+wv v*wv q'=wv u+wv v*(pw j*wv (q.drop j))
 | 0,u,q,hu,hlu,hq,hlq,_,_,hlow=>⟨u,q,x6k (by omega),hu,hlu,hq,hlq,by simpa using hlow,by simp [y8o]⟩
 | j+1,u,q,hu,hlu,hq,hlq,hj,hjk,hlow=>by
  have hjk':=hjk (by omega)
  have D:Dv u v lu k j:=⟨hu,hv,hlu,hlv,h2,hn,by omega,hsm,hlow⟩
  rw [show ((j+1:Nat):Int)-1=(j:Int) by omega]
  have a1:=hv.getD (k-1)
  have b1:=hu.getD (j+k-1)
  have b0:=hu.getD (j+k)
  obtain ⟨top,et⟩:∃ x,x=u.getD (j+k) 0*1000000000+u.getD (j+k-1) 0:=⟨_,rfl⟩
  obtain ⟨f1,f2,f3,f4,f5,f6,f7⟩:=j7t D et
  obtain ⟨g,k1,k2,k3,k4⟩:=j8u (E:=E) (sc:=sc) (w2:=w2) (w4:=Wr q) (lq:=lq) (ln:=ln) D (by omega) (by omega) 1000000002 _ _ f2 (by omega) f3 (by omega) (by rw [← et];exact f5) f6 f7 (by omega)
  obtain ⟨u1,qd,r1,r2,r3,r4,r5,r6,r7⟩:=q5h (E:=E) (ln:=ln) D (by omega) (by omega) k2 k3 k4
  obtain ⟨u',q',s1,s2,s3,s4,s5,s6,s7⟩:=x8r hv hlv h2 hn hsm hlnu j u1 (q.set j qd) r3 r4 (hq.set _ r2.1 r2.2) (by simpa using hlq) (by omega) (fun h=>by omega) r7
  refine ⟨u',q',?_,s2,s3,s4,s5,s6,?_⟩
  · have hred:=r1.at rfl rfl rfl rfl (objs:=[some .dead,some .dead,some (.vec A0 w2),some (.vec A0 (Wr u)),some (.vec A0 (Wr q))]) (l:=3) rfl
    exact k1l (i2:=((j+k:Nat):Int)) (i3:=u.getD (j+k) 0) (i4:=u.getD (j+k) 0) (i5:=u.getD (j+k) 0*1000000000) (i6:=((j+k-1:Nat):Int)) (i7:=u.getD (j+k-1) 0) (i8:=u.getD (j+k-1) 0) (i9:=top) (i10:=((k-1:Nat):Int)) (i11:=v.getD (k-1) 0) (i12:=v.getD (k-1) 0) (i13:=top / v.getD (k-1) 0) (i14:=top % v.getD (k-1) 0) (i15:=g) (r7:=Wr u1) (i16:=qd) (i17:=q.getD j 0) (r8:=Wr (q.set j qd)) (i18:=(j:Int)-1)
     (wi (by omega)) (wu (by omega)) (wu (by omega)) (wi (by omega)) (wu (by omega)) (wu (by omega)) (wi (by omega)) (wu (by omega)) (wu ⟨tdv f1 rfl,f2,by omega⟩) (tmd f1 rfl) (by rw [Int.toNat_natCast,z1w]) (wi (by omega))
     (by omega) (by omega) (D2 (by omega)) (by omega) (D2 (by omega)) (by omega) (D2 (by omega)) (by omega) k1 hred (by omega) (D2 (by omega)) s1
  · have hd:(q.set j qd).drop (j+1)=q.drop (j+1):=List.drop_set_of_lt (Nat.lt_succ_self j)
    rw [s7,r5,z4i (q.set j qd) j,z5x (by omega),hd,z1e]
    grind
theorem k2z (xs:List Int):∀ k,V9 (xs++List.replicate k 0) (xs.length+k)=V9 xs xs.length
 | 0=>by simp
 | k+1=>by
  have ih:=k2z xs k
  have h0:(xs++List.replicate (k+1) 0).getD (xs.length+k) 0=0:=by
   rw [List.getD_eq_getElem?_getD,List.getElem?_append_right (by omega),List.getElem?_replicate];split <;> rfl
  have hpre:∀ m,m≤xs.length+k→V9 (xs++List.replicate (k+1) 0) m=V9 (xs++List.replicate k 0) m:=by
   intro m hm
   induction m with
   | zero=>rfl
   | succ m ih =>
    have e:(xs++List.replicate (k+1) 0).getD m 0=(xs++List.replicate k 0).getD m 0:=by
     rw [List.getD_eq_getElem?_getD,List.getD_eq_getElem?_getD,List.replicate_succ',← List.append_assoc,List.getElem?_append_left (by simp;omega)]
    unfold V9
    rw [e,ih (by omega)]
  show V9 (xs++List.replicate (k+1) 0) (xs.length+k+1)=_
  have step:V9 (xs++List.replicate (k+1) 0) (xs.length+k+1)=V9 (xs++List.replicate (k+1) 0) (xs.length+k):=by
   conv=>lhs;unfold V9
   rw [if_pos h0]
  rw [step,hpre _ (Nat.le_refl _),ih]
theorem q0g {n:Nat}:V9 (words n) (words n).length=(words n).length:=by
 have h:=X0 (B2 n) (Nat.le_refl (words n).length)
 rw [List.take_length,B1,Int.toNat_natCast] at h
 have h2:=congrArg List.length h
 rw [List.length_take] at h2
 have:=x9z (words n) (words n).length
 omega
theorem j5m {m n:Nat} (hm0:m≠0) (hl:(words n).length<1099511627776):Fn E D9 [.c (.list (Wr (words n))),.c (.list (Wr (words m)))] (.tup [.c (.list (Wr (words (n / m)))),.c (.list (Wr (words (n % m))))]):=by
 have hc:=k7o (E:=E) (m:=n) (n:=m) (by omega)
 by_cases h1:n<m
 · rw [Nat.div_eq_of_lt h1,Nat.mod_eq_of_lt h1,J9]
   exact j5q hc (y1o.2 (by omega))
 · have hc':¬ cmpI n m<0:=fun h=>h1 (by have:=y1o.1 h;omega)
   have hmne:words m≠[]:=fun h=>hm0 (z2g.1 h)
   have hmp:=z5g hmne
   by_cases h3:(words m).length=1
   · have hm1:m<1000000000:=by
      have:=z5a (B2 m)
      rw [B1,h3,show pw 1=1000000000 by decide] at this
      omega
     have e:words m=[(m:Int)]:=by
      rcases x3p (n:=m) (by omega) with ⟨_,h⟩ | ⟨e,_,_⟩ | ⟨_,h⟩
      · exact absurd h hm0
      · exact e
      · omega
     have hs:=j8v (E:=E) (n:=n) (w:=m) ⟨by omega,hm1⟩ (by omega)
     have hr:=Nat.mod_lt n (show 0<m by omega)
     exact j5r (i1:=(m:Int)) hc hc' (by rw [A7,h3];rfl) (by rw [e];rfl) hs (x1s (by omega))
   · have hlm:(words m).length≤(words n).length:=(N4 m).length_le (B2 m) (B2 n) (by rw [B1,B1];omega)
     obtain ⟨k,hk⟩:∃ k,k=(words m).length:=⟨_,rfl⟩
     rw [← hk] at hlm h3 hmp
     have hk2:2≤k:=by omega
     have ht:=(B2 m).getD (k-1)
     obtain ⟨t,et⟩:∃ t,t=(words m).getD (k-1) 0:=⟨_,rfl⟩
     rw [← et] at ht
     obtain ⟨f,hf⟩:∃ f:Nat,(f:Int)=1000000000 / (t+1):=⟨(1000000000 / (t+1)).toNat,by have:0≤1000000000 / (t+1):=Int.ediv_nonneg (by decide) (by omega);omega⟩
     obtain ⟨f1,f2,lv,nv⟩:=k2k (n:=m) rfl hk.symm (by omega) (f:=f) (by rw [← et];exact hf)
     have hfl:(words f).length≤1:=z0t (by rw [show pw 1=1000000000 by decide];omega)
     have hfe:words f=[(f:Int)]:=by
      rcases x3p (n:=f) (by omega) with ⟨_,h⟩ | ⟨e,_,_⟩ | ⟨_,h⟩
      · omega
      · exact e
      · omega
     have hnf:n≤n*f:=by have:=Nat.mul_le_mul_left n f1;omega
     have hun:=(N4 n).length_le (B2 n) (B2 (n*f)) (by rw [B1,B1];omega)
     have hnp:(n:Int)<pw (words n).length:=by have:=z5a (B2 n);rwa [B1] at this
     have hun2:(words (n*f)).length≤(words n).length+1:=by
      refine z0t ?_
      rw [z1e,Int.natCast_mul,Int.mul_comm]
      have h5:(f:Int)*n≤1000000000*n:=Int.mul_le_mul_of_nonneg_right (by omega) (by omega)
      have h6:1000000000*(n:Int)<1000000000*pw (words n).length:=Int.mul_lt_mul_of_pos_left hnp (by decide)
      omega
     obtain ⟨L,hL⟩:∃ L,L=(words (n*f)).length:=⟨_,rfl⟩
     rw [← hL] at hun hun2
     have hu0:Wd (words (n*f)++[0,0]):=(B2 _).append (Wd.cons (by omega) (by omega) (Wd.cons (by omega) (by omega) Wd.nil))
     have hu0l:(words (n*f)++[0,0]).length=L+2:=by simp [hL]
     have hval0:wv (words (n*f)++[0,0])=((n*f:Nat):Int):=by rw [x7j,B1];simp [wv]
     have hvv:wv (words (m*f))=((m*f:Nat):Int):=B1 _
     have hlow:wv ((words (n*f)++[0,0]).drop ((words n).length+1-k))<wv (words (m*f)):=by
      have e5:=D6 (words (n*f)++[0,0]) ((words n).length+1-k) (by rw [hu0l];omega)
      have h6:=C2 (hu0.take ((words n).length+1-k))
      rw [hval0] at e5
      rw [hvv]
      have h7:pw (k-1)≤m:=by have:=(N4 m).val_ge (B2 m) hmne;rwa [B1,← hk] at this
      have h8:pw (words n).length=pw ((words n).length+1-k)*pw (k-1):=by rw [← z6t];congr 1;omega
      have h9:((n*f:Nat):Int)<pw ((words n).length+1-k)*((m*f:Nat):Int):=by
       rw [Int.natCast_mul,Int.natCast_mul]
       have h10:(n:Int)*f<pw (words n).length*f:=Int.mul_lt_mul_of_pos_right hnp (by omega)
       have h11:pw ((words n).length+1-k)*(pw (k-1)*f)≤pw ((words n).length+1-k)*((m:Int)*f) :=
        Int.mul_le_mul_of_nonneg_left (Int.mul_le_mul_of_nonneg_right h7 (by omega)) (by have:=V7 ((words n).length+1-k);omega)
       rw [h8,Int.mul_assoc] at h10
       omega
      have hp:=V7 ((words n).length+1-k)
      rcases Int.lt_or_le (wv ((words (n*f)++[0,0]).drop ((words n).length+1-k))) ((m*f:Nat):Int) with h | h
      · exact h
      · have:=Int.mul_le_mul_of_nonneg_left h (show 0≤pw ((words n).length+1-k) by omega)
        omega
     obtain ⟨u',q',r1,r2,r3,r4,r5,r6,r7⟩:=x8r (E:=E) (sc:=Wr (words f)) (w2:=[[.u32 0],[.u32 0]]) (lq:=(words n).length+1-k) (lu:=L+2) (ln:=(words n).length+1) (B2 (m*f)) lv hk2 nv (by omega) (by omega) ((words n).length+1-k) (words (n*f)++[0,0]) (List.replicate ((words n).length+1-k) 0) hu0 hu0l (Wd.replicate _) (by simp) (Nat.le_refl _) (fun _=>by omega) hlow
     rw [drop_nil (by simp),hval0,hvv,show wv []=0 from rfl] at r7
     rw [hvv] at r6
     have hq0:=C2 r4
     have hr0:=C2 r2
     obtain ⟨Q,hQ⟩:∃ Q:Nat,wv q'=Q:=⟨(wv q').toNat,by omega⟩
     obtain ⟨R,hR⟩:∃ R:Nat,wv u'=R:=⟨(wv u').toNat,by omega⟩
     rw [hQ,hR] at r7
     rw [hR] at r6
     have e1:n*f=Q*(m*f)+R:=by
      have:((n*f:Nat):Int)=((Q*(m*f)+R:Nat):Int):=by
       rw [Int.natCast_add,Int.natCast_mul Q]
       have:((Q:Int))*((m*f:Nat):Int)=((m*f:Nat):Int)*Q:=Int.mul_comm _ _
       simp at r7
       simp at this ⊢
       omega
      omega
     have hfR:f ∣ R:=by
      have h5:f ∣ Q*(m*f):=⟨Q*m,by rw [← Nat.mul_assoc,Nat.mul_comm]⟩
      exact (Nat.dvd_add_right h5).1 (by rw [← e1];exact ⟨n,Nat.mul_comm _ _⟩)
     obtain ⟨R',hR'⟩:=hfR
     have e2:n=Q*m+R':=by
      have:f*n=f*(Q*m+R'):=by
       rw [Nat.mul_add,← hR',Nat.mul_comm f n,e1,← Nat.mul_assoc,Nat.mul_comm f]
      exact Nat.eq_of_mul_eq_mul_left (by omega) this
     have e3:R'<m:=by
      have:f*R'<f*m:=by rw [← hR',Nat.mul_comm f m];omega
      exact Nat.lt_of_mul_lt_mul_left this
     obtain ⟨d1,d2⟩:=y4y e2 e3
     have hRf:R / f=R':=by rw [hR',Nat.mul_div_cancel_left _ (by omega)]
     have hvk:=z5a (B2 (m*f))
     rw [lv,hvv] at hvk
     have hul:wv (u'.take k)=R:=by
      have h5:=D6 u' k (by omega)
      have h6:=C2 (r2.take k)
      have h7:=C2 (r2.drop k)
      rcases Int.lt_or_le 0 (wv (u'.drop k)) with h | h
      · have h8:pw k*1≤pw k*wv (u'.drop k):=Int.mul_le_mul_of_nonneg_left (by omega) (by have:=V7 k;omega)
        omega
      · have:wv (u'.drop k)=0:=by omega
        rw [this,Int.mul_zero] at h5
        omega
     have t0:=(z9w (E:=E) (ws:=words (n*f)++[0,0]) (k:=L+2) (by omega) (by omega)).at (args:=[]) rfl rfl rfl rfl (objs:=[some .dead,some .dead,some (.vec A0 [[.u32 0],[.u32 0]]),some (.vec A0 (Wr (words (n*f)++[0,0])))]) (l:=3) rfl
     have ht0:V9 (words (n*f)++[0,0]) (L+2)=L:=by
      have:=k2z (words (n*f)) 2
      rw [← hL,show List.replicate 2 (0:Int)=[0,0] from rfl] at this
      rw [this,hL,q0g]
     rw [ht0] at t0
     have t1:=(z9w (E:=E) (ws:=u') (k:=k) (by omega) (by omega)).at (args:=[]) rfl rfl rfl rfl (objs:=[some .dead,some .dead,some (.vec A0 [[.u32 0],[.u32 0]]),some (.vec A0 (Wr u')),some (.vec A0 (Wr q'))]) (l:=3) rfl
     have t2:=(z9w (E:=E) (ws:=q') (k:=(words n).length+1-k) (by omega) (by omega)).at (args:=[]) rfl rfl rfl rfl (objs:=[some .dead,some .dead,some (.vec A0 [[.u32 0],[.u32 0]]),some (.fro (Wr u')),some (.vec A0 (Wr q'))]) (l:=4) rfl
     have w1:=X0 r2 (k:=k) (by omega)
     rw [hul,Int.toNat_natCast] at w1
     have w2:=X0 r4 (k:=(words n).length+1-k) (by omega)
     rw [← r5,List.take_length,hQ,r5,Int.toNat_natCast] at w2
     have hRl:(words R).length<35184372088000:=by
      have:=congrArg List.length w1
      rw [List.length_take] at this
      have:=x9z u' k
      omega
     have hby:=j8v (E:=E) (n:=R) (w:=f) ⟨by omega,by omega⟩ hRl
     rw [hRf,show words R=u'.take (V9 u' k) from w1.symm,← U2] at hby
     rw [d1,d2]
     have hTm:=y6x (E:=E) (m:=m) (n:=f) (by omega)
     have hTn:=y6x (E:=E) (m:=n) (n:=f) (by omega)
     have hWl:((Wr (words m)).length:Int)=k:=by rw [A7,← hk]
     have hlq:(((words n).length+1-k:Nat):Int)=(words n).length+1-k:=by omega
     exact j5s (i1:=(k:Int)-1) (i3:=t) (i2:=t) (i4:=t+1) (i5:=(f:Int)) (i6:=(f:Int)) (r4:=Wr (words f)) (r5:=Wr (words (m*f))) (r6:=Wr (words (n*f))) (r7:=Wr (words (n*f))) (n0:=L) (r8:=Wr (words (n*f)++[0,0])) (n1:=L+2) (i7:=((words n).length:Int)+1) (n2:=L) (i8:=((words n).length:Int)+1) (n3:=(words n).length+1) (i9:=(((words n).length+1-k:Nat):Int)) (n4:=(words n).length+1-k) (r9:=Wr (List.replicate ((words n).length+1-k) 0)) (i10:=(((words n).length+1-k:Nat):Int)-1) (r10:=Wr u') (r11:=Wr q') (n5:=k) (n6:=V9 u' k) (i11:=(f:Int)) (n7:=V9 q' ((words n).length+1-k))
      (wi (by rw [hWl];omega)) (wi (by omega)) (wi (by omega)) (wi ⟨tdv (by omega) hf.symm,by omega,by omega⟩) (w32 (by omega)) rfl (by rw [A7,← hL,Nat.zero_add]) (by
       rw [U2,hL,List.take_length]
       show Wr (words (n*f))++Wr [0,0]=_
       exact q4h _ _) rfl (wi (by rw [A7];omega)) (by split <;> omega) (by omega) (wi (by rw [hWl];omega)) (Int.toNat_natCast _) (z2p _ _) (wi (by omega)) (by rw [hWl,Int.toNat_natCast]) rfl (by rw [U2,w2])
      hc hc' (by rw [hWl];omega) (by omega) (by rw [show Int.toNat ((k:Int)-1)=k-1 by omega,et];exact D2 (by omega)) (by omega) (x1s (by omega)) hTm hTn (q5x _) (by rw [A7];omega) (by omega) t0 (by omega) (by omega) (by rw [hWl];exact r1) (by rw [hWl];omega) t1 (by rw [hfe];rfl) hby t2
theorem x8q:∀ (t y x:Nat),y<t→Lp E 0 D8 1 (z3j x y) (.exit 2) (z8g (Nat.gcd x y:Nat))
 | 0,y,x,h=>by omega
 | t+1,y,x,h=>by
  by_cases h0:y=0
  · subst h0
    rw [Nat.gcd_zero_right]
    exact x2a rfl
  · have hm:=Nat.mod_lt x (show 0<y by omega)
    have e:Nat.gcd x y=Nat.gcd y (x % y):=(Nat.gcd_comm x y).trans ((Nat.gcd_rec y x).trans (Nat.gcd_comm _ _))
    rw [e]
    exact x6i (i3:=((x % y:Nat):Int)) (tmd (by omega) rfl) (by omega) (by omega) (x8q t (x % y) y (by omega))
theorem x1t {L:Nat} (hL:L<1099511627776):∀ (t n m:Nat),n<t→(words m).length≤L→(words n).length≤L →
    (Lp E 0 D8 0 (K1 (Wr (words m)) (Wr (words n))) .ret (z8e (Wr (words (Nat.gcd m n))))) ∨
    (Lp E 0 D8 0 (K1 (Wr (words m)) (Wr (words n))) (.exit 0) (z8f (Wr (words (Nat.gcd m n)))))
 | 0,n,m,h,_,_=>by omega
 | t+1,n,m,h,hm,hn=>by
  by_cases h0:n=0
  · subst h0
    rw [Nat.gcd_zero_right,J9]
    exact .inr (x1z (by simp [Wr]))
  · have hpos:((Wr (words n)).length:Int)>0:=by
     have:words n≠[]:=fun h=>h0 (z2g.1 h)
     have:=z5g this
     rw [A7];omega
    have hr:=Nat.mod_lt m (show 0<n by omega)
    have e:Nat.gcd m n=Nat.gcd n (m % n):=(Nat.gcd_comm m n).trans ((Nat.gcd_rec n m).trans (Nat.gcd_comm _ _))
    have hrl:(words (m % n)).length≤L:=Nat.le_trans ((N4 _).length_le (B2 _) (B2 n) (by rw [B1,B1];omega)) hn
    have hd:=j5m (E:=E) (m:=n) (n:=m) h0 (by omega)
    by_cases s1:(words m).length≤2
    · by_cases s2:(words n).length≤2
      · have hg:Nat.gcd m n≤n:=Nat.gcd_le_right m (by omega)
        have hn2:=j3n.1 s2
        exact .inl (x1y hpos (by rw [A7];omega) (by rw [A7];omega) (q3o s1) (q3o s2) (x8q (n+1) n m (by omega)) (v1t (by omega)))
      · rw [e]
        rcases x1t hL t (m % n) n (by omega) hn hrl with ih | ih
        · exact .inl (y3c hpos (by rw [A7];omega) (by rw [A7];omega) hd ih)
        · exact .inr (y3c hpos (by rw [A7];omega) (by rw [A7];omega) hd ih)
    · rw [e]
      rcases x1t hL t (m % n) n (by omega) hn hrl with ih | ih
      · exact .inl (y3d hpos (by rw [A7];omega) hd ih)
      · exact .inr (y3d hpos (by rw [A7];omega) hd ih)
theorem j2s {m n L:Nat} (hL:L<1099511627776) (hm:(words m).length≤L) (hn:(words n).length≤L):Fn E D8 [.c (.list (Wr (words m))),.c (.list (Wr (words n)))] (.c (.list (Wr (words (Nat.gcd m n))))):=by
 rcases x1t (E:=E) hL (n+1) n m (by omega) hm hn with h | h
 · exact k7w h
 · exact k7x h
def Br (l:List UInt8):RW:=l.map fun c=>[.u8 (c.toNat:Int)]
theorem j3p (l:List UInt8) (n:Nat):(Br l).take n=Br (l.take n):=by simp [Br,List.map_take]
theorem v0h (l:List UInt8) (c:UInt8):Br l++[[.u8 (c.toNat:Int)]]=Br (l++[c]):=by simp [Br]
theorem q5v (l:List UInt8) (n:Nat) (c:UInt8):(Br l).set n [.u8 (c.toNat:Int)]=Br (l.set n c):=by simp [Br,List.map_set]
theorem q0l {l:List UInt8} {i:Nat} {c:UInt8} (h:l[i]?=some c):(Br l)[i]?=some [.u8 (c.toNat:Int)]:=by simp [Br,h]
theorem v0g (l:List UInt8):∀ x∈Br l,x0e x:=by intro x hx;simp [Br] at hx;obtain ⟨_,_,rfl⟩:=hx;trivial
theorem v0i (l:List UInt8):ByteArray.mk (((Br l).map y7n).toArray)=B l:=by
 have:(Br l).map y7n=l:=by
  unfold Br
  rw [List.map_map]
  conv=>rhs;rw [← List.map_id l]
  refine List.map_congr_left fun c _=>?_
  show UInt8.ofNat (Int.toNat (c.toNat:Int))=c
  rw [Int.toNat_natCast]
  exact UInt8.ofNat_toNat
 rw [this];rfl
def rdig (m:Nat):List UInt8:=if m=0 then [] else (dec m).reverse
theorem q5i {m:Nat} (h:m≠0):rdig m=UInt8.ofNat (48+m % 10)::rdig (m / 10):=by
 unfold rdig
 rw [if_neg h]
 by_cases h1:m<10
 · rw [z7d h1,if_pos (by omega),Nat.mod_eq_of_lt h1];rfl
 · rw [x2w (by omega),if_neg (by omega),List.reverse_append];rfl
theorem j2t {x0:RW} {i:Nat} {last:Bool} (hlast:if last then (i:Int)+1=x0.length else (i:Int)+1<x0.length) (hx:x0.length<4611686018427387904) {H T:Nat} (hH:if last then H=0 else 0<H) (hT:T<35184372088832) :
    ∀ (d k w:Nat) (out:List UInt8),k+d=9→w<10 ^ d→out.length+(rdig (w+10 ^ d*H)).length=T →
    ∃ out',Lp E 1 F7 1 (z1f x0 out.length i w k (Br out)) (.exit 2) (z8h x0 i out'.length (Br out'))∧out'++rdig H=out++rdig (w+10 ^ d*H)
 | 0,k,w,out,hk,hw,_=>by
  have:w=0:=by simpa using hw
  subst this
  exact ⟨out,x9k (by omega),by simp⟩
 | d+1,k,w,out,hk,hw,hT'=>by
  obtain ⟨m,em⟩:∃ m,m=w+10 ^ (d+1)*H:=⟨_,rfl⟩
  rw [← em] at hT' ⊢
  have e10:10 ^ (d+1)*H=10*(10 ^ d*H):=by rw [Nat.pow_succ];grind
  by_cases hstop:m=0
  · -- nothing is left
    have hw0:w=0:=by omega
    have hlt:last=true:=by
     cases last with
     | true=>rfl
     | false =>
      simp only [Bool.false_eq_true,if_false] at hH
      have:0<10 ^ (d+1)*H:=Nat.mul_pos (Nat.pow_pos (by decide)) hH
      omega
    subst hlt
    simp only [if_true] at hlast hH
    refine ⟨out,x9j (i3:=(i:Int)+1) (wi (by omega)) (by omega) (by omega) (by omega),?_⟩
    rw [hH,hstop]
  · have hrs:=q5i hstop
    have hm10:m % 10=w % 10:=by omega
    have hmd:m / 10=w / 10+10 ^ d*H:=by omega
    rw [hm10,hmd] at hrs
    have hlen:out.length+1≤T:=by rw [hrs] at hT';simp at hT';omega
    obtain ⟨out',k1,k2⟩:=j2t hlast hx hH hT d (k+1) (w / 10) (out++[UInt8.ofNat (48+w % 10)]) (by omega) (by rw [Nat.pow_succ] at hw;omega) (by rw [hrs] at hT';simp at hT' ⊢;omega)
    refine ⟨out',?_,by rw [k2,hrs];simp⟩
    have hdt:(UInt8.ofNat (48+w % 10)).toNat=48+w % 10:=y0e _ (by omega)
    have hbr:((Br out).take out.length)++[[DV.u8 ((48:Int)+((w % 10:Nat):Int))]]=Br (out++[UInt8.ofNat (48+w % 10)]):=by
     rw [j3p,List.take_length,← v0h,hdt]
     have:((48+w % 10:Nat):Int)=48+((w % 10:Nat):Int):=by omega
     rw [this]
    have hwb:w<1000000000:=by
     have:(10:Nat) ^ (d+1)≤10 ^ 9:=Nat.pow_le_pow_right (by decide) (by omega)
     rw [y0t] at this
     omega
    rw [show (out++[UInt8.ofNat (48+w % 10)]).length=out.length+1 by simp] at k1
    have hcap:(out.length+1)*1≤140737488355328∧out.length+1≤140737488355328:=by omega
    cases last with
    | true =>
     simp only [if_true] at hlast hH
     have hwp:w≠0:=by rw [hH] at em;simp at em;omega
     exact k4c (i3:=(i:Int)+1) (i4:=((w % 10:Nat):Int)) (i5:=48+((w % 10:Nat):Int)) (i6:=48+((w % 10:Nat):Int)) (i7:=((w / 10:Nat):Int)) (i8:=((k+1:Nat):Int)) (wi (by omega)) (tmd (by omega) (by omega)) (w32 (by omega)) (w8 (by omega)) hbr rfl (w32 ⟨tdv (by omega) (by omega),by omega,by omega⟩) (wi (by omega)) (by omega) (by omega) (by omega) hcap k1
    | false =>
     simp only [Bool.false_eq_true,if_false] at hlast
     exact k4b (i3:=(i:Int)+1) (i4:=((w % 10:Nat):Int)) (i5:=48+((w % 10:Nat):Int)) (i6:=48+((w % 10:Nat):Int)) (i7:=((w / 10:Nat):Int)) (i8:=((k+1:Nat):Int)) (wi (by omega)) (tmd (by omega) (by omega)) (w32 (by omega)) (w8 (by omega)) hbr rfl (w32 ⟨tdv (by omega) (by omega),by omega,by omega⟩) (wi (by omega)) (by omega) (by omega) hcap k1
theorem k9f {n i:Nat} (hi:i<(words n).length):∃ H:Nat,wv ((words n).drop (i+1))=H∧(i+1<(words n).length→0<H)∧(i+1=(words n).length→H=0):=by
 have h0:=C2 ((B2 n).drop (i+1))
 refine ⟨(wv ((words n).drop (i+1))).toNat,by omega,fun h=>?_,fun h=>?_⟩
 · have ht:Gb.Tr ((words n).drop (i+1)):=by
    have:=N4 n
    unfold Gb.Tr at this ⊢
    rw [List.getLast?_drop,if_neg (by omega)]
    exact this
   have hp:=ht.val_pos ((B2 n).drop (i+1)) (by intro e;have:=congrArg List.length e;simp at this;omega)
   omega
 · rw [List.drop_eq_nil_of_le (by omega)];rfl
theorem k7p {n T:Nat} (hT:T<35184372088832) (hl:(words n).length<4611686018427387904):∀ (d i m:Nat) (out:List UInt8),i+d=(words n).length→wv ((words n).drop i)=m→out.length+(rdig m).length=T →
    ∃ out',Lp E 0 F7 0 (y0n (Wr (words n)) out.length i (Br out)) (.exit 0) (y5o out'.length (Br out'))∧out'=out++rdig m
 | 0,i,m,out,hi,hm,hT'=>by
  rw [List.drop_eq_nil_of_le (by omega)] at hm
  have:m=0:=by simp [wv] at hm;omega
  subst this
  exact ⟨out,k1s (by rw [A7];omega),by simp [rdig]⟩
 | d+1,i,m,out,hi,hm,hT'=>by
  obtain ⟨H,hH,hpos,hz⟩:=k9f (n:=n) (i:=i) (by omega)
  have hw:=(B2 n).getD i
  obtain ⟨w,ew⟩:∃ w:Nat,(words n).getD i 0=w:=⟨((words n).getD i 0).toNat,by omega⟩
  rw [ew] at hw
  rw [z4i,ew,hH] at hm
  have em:m=w+10 ^ 9*H:=by rw [y0t];omega
  have hcl:(if decide (i+1=(words n).length) then (i:Int)+1=(Wr (words n)).length else (i:Int)+1<(Wr (words n)).length):=by
   rw [A7];split <;> rename_i h <;> simp at h <;> omega
  have hch:(if decide (i+1=(words n).length) then H=0 else 0<H):=by
   split <;> rename_i h <;> simp at h
   · exact hz h
   · exact hpos (by omega)
  obtain ⟨out1,k1,k2⟩:=j2t (E:=E) (x0:=Wr (words n)) (i:=i) hcl (by rw [A7];omega) hch hT 9 0 w out (by omega) (by rw [y0t];omega) (by rw [← em];exact hT')
  rw [← em] at k2
  have hl1:out1.length+(rdig H).length=T:=by
   have:=congrArg List.length k2
   simp at this
   omega
  obtain ⟨out2,g1,g2⟩:=k7p hT hl d (i+1) H out1 (by omega) hH hl1
  refine ⟨out2,?_,by rw [g2,k2]⟩
  exact k7y (i1:=(w:Int)) (i2:=((i+1:Nat):Int)) (wi (by omega)) (by rw [A7];omega) (by omega) (by rw [← ew];exact D2 (by omega)) k1 g1
theorem j9s {o:List UInt8} {L:Nat} (hL:o.length=L) (hb:L<35184372088832):∀ (t i:Nat) (cur:List UInt8),L≤t+2*i→2*i≤L+1→cur.length=L →
    (∀ j,j<L→cur[j]?=if j<i∨L-1-i<j then o[L-1-j]? else o[j]?) →
    ∃ cur',Lp E 1 F7 2 (y0o L i ((L:Int)-1-i) (Br cur)) (.exit 4) (y5p L (Br cur'))∧cur'=o.reverse
 | t,i,cur,ht,hi,hc,hinv=>by
  by_cases hend:(i:Int)<(L:Int)-1-i
  · cases t with
    | zero=>omega
    | succ t =>
     have hk:L-1-i<L:=by omega
     have e1:(L:Int)-1-i=((L-1-i:Nat):Int):=by omega
     obtain ⟨a,ha⟩:∃ a,cur[i]?=some a:=⟨cur[i],List.getElem?_eq_getElem (by omega)⟩
     obtain ⟨b,hb'⟩:∃ b,cur[L-1-i]?=some b:=⟨cur[L-1-i],List.getElem?_eq_getElem (by omega)⟩
     have hoa:o[i]?=some a:=by
      have:=hinv i (by omega)
      rw [ha,if_neg (by omega)] at this
      exact this.symm
     have hob:o[L-1-i]?=some b:=by
      have:=hinv (L-1-i) hk
      rw [hb',if_neg (by omega)] at this
      exact this.symm
     obtain ⟨cur',k1,k2⟩:=j9s hL hb t (i+1) ((cur.set i b).set (L-1-i) a) (by omega) (by omega) (by simpa using hc) (fun j hj=>by
      rw [List.getElem?_set,List.getElem?_set]
      by_cases c1:L-1-i=j
      · subst c1
        rw [if_pos rfl,if_pos (by simp;omega),if_pos (by omega),show L-1-(L-1-i)=i by omega]
        exact hoa.symm
      · rw [if_neg c1]
        by_cases c2:i=j
        · subst c2
          rw [if_pos rfl,if_pos (by omega),if_pos (by omega)]
          exact hob.symm
        · rw [if_neg c2,hinv j hj]
          by_cases c3:j<i∨L-1-i<j
          · rw [if_pos c3,if_pos (by omega)]
          · rw [if_neg c3,if_neg (by omega)])
     refine ⟨cur',?_,k2⟩
     have g1:(Br cur)[Int.toNat (i:Int)]?=some [.u8 (a.toNat:Int)]:=by rw [Int.toNat_natCast];exact q0l ha
     have g2:(Br cur)[Int.toNat ((L:Int)-1-i)]?=some [.u8 (b.toNat:Int)]:=by rw [e1,Int.toNat_natCast];exact q0l hb'
     obtain ⟨c,hcc⟩:∃ c,(cur.set i b)[L-1-i]?=some c:=⟨(cur.set i b)[L-1-i]'(by simp;omega),List.getElem?_eq_getElem _⟩
     exact k7z (i2:=(b.toNat:Int)) (i3:=(a.toNat:Int)) (r2:=Br (cur.set i b)) (i4:=(c.toNat:Int)) (r3:=Br ((cur.set i b).set (L-1-i) a)) (i5:=((i+1:Nat):Int)) (i6:=(L:Int)-1-((i+1:Nat):Int))
      (by rw [Int.toNat_natCast,q5v]) (by rw [e1,Int.toNat_natCast,q5v]) (wi (by omega)) (wi (by omega)) (by omega) (by omega) g2 (by omega) g1 (by rw [e1,Int.toNat_natCast];exact q0l hcc) k1
  · refine ⟨cur,k1t (by omega),?_⟩
    apply List.ext_getElem?
    intro j
    rcases Nat.lt_or_ge j L with hj | hj
    · rw [hinv j hj,List.getElem?_reverse (by omega),hL]
      by_cases c:j<i∨L-1-i<j
      · rw [if_pos c]
      · rw [if_neg c]
        have:L-1-j=j:=by omega
        rw [this]
    · rw [List.getElem?_eq_none (by omega),List.getElem?_eq_none (by simp;omega)]
theorem r1_To {n K:Nat} (h:n<10 ^ K) (hK:K≤Lim+Lim):Fn E F7 [.c (.list (Wr (words n)))] (.c (.str (B (dec n)))):=by
 have h1:=x5l h
 have h2:=z3q h
 rw [K3] at hK
 by_cases h0:n=0
 · subst h0
   rw [J9,z1y]
   exact q1q rfl
 · have hne:words n≠[]:=fun h=>h0 (z2g.1 h)
   have hp:=z5g hne
   have hr:rdig n=(dec n).reverse:=by unfold rdig;rw [if_neg h0]
   obtain ⟨out,k1,k2⟩:=k7p (E:=E) (n:=n) (T:=(dec n).length) (by omega) (by omega) (words n).length 0 n [] (by omega) (by rw [List.drop_zero,B1]) (by rw [hr];simp)
   rw [List.nil_append,hr] at k2
   have hol:out.length=(dec n).length:=by rw [k2];simp
   obtain ⟨cur,g1,g2⟩:=j9s (E:=E) (o:=out) (L:=out.length) rfl (by omega) out.length 0 out (by omega) (by omega) rfl (fun j hj=>by rw [if_neg (by omega)])
   rw [show (out.length:Int)-1-((0:Nat):Int)=(out.length:Int)-1 by omega] at g1
   have hcur:cur=dec n:=by rw [g2,k2,List.reverse_reverse]
   refine q1r (n0:=out.length) (r1:=Br out) (i0:=(out.length:Int)-1) (r2:=Br cur) (wi (by omega)) ?_ (by rw [A7];omega) k1 g1 ?_
   · rw [j3p,List.take_of_length_le (by rw [hcur];omega),hcur,v0i]
   · rw [j3p];exact v0g _
def Zr (z:Int):List DV:=[.bool (decide (z<0)),.list (Wr (words z.natAbs))]
theorem Zr_nat (n:Nat):Zr (n:Int)=[.bool false,.list (Wr (words n))]:=by unfold Zr;rw [decide_eq_false (by omega),Int.natAbs_natCast]
theorem j3q {n:Nat}:((Wr (words n)).length:Int)>0↔n≠0:=by
 rw [A7]
 constructor
 · rintro h rfl;rw [J9] at h;simp at h
 · intro h
   have:=z5g (fun e=>h (z2g.1 e):words n≠[])
   omega
theorem z9x (neg:Bool) (n:Nat):Fn E H1 [.c (.bool neg),.c (.list (Wr (words n)))] (.agg (Zr (sgn neg n))):=by
 cases neg with
 | false =>
  have:Zr (sgn false n)=[.bool false,.list (Wr (words n))]:=by unfold sgn;simp [Zr_nat]
  rw [this];exact j5z
 | true =>
  by_cases h:n=0
  · subst h
    have:Zr (sgn true 0)=[.bool false,.list (Wr (words 0))]:=by unfold Zr sgn;simp
    rw [this];exact j5y (fun x=>j3q.1 x rfl)
  · have:Zr (sgn true n)=[.bool true,.list (Wr (words n))]:=by
     unfold Zr sgn
     simp only [if_true,Int.natAbs_neg,Int.natAbs_natCast]
     rw [decide_eq_true (by omega)]
    rw [this];exact j5x (j3q.2 h)
theorem v2f (z:Int):sgn (!decide (z<0)) z.natAbs=-z:=by unfold sgn;split <;> rename_i h <;> simp at h <;> omega
theorem v2e (a b:Int):sgn (!(decide (a<0) == decide (b<0))) (a.natAbs*b.natAbs)=a*b:=by
 unfold sgn
 have ea:(a.natAbs:Int)=if a<0 then -a else a:=by split <;> omega
 have eb:(b.natAbs:Int)=if b<0 then -b else b:=by split <;> omega
 rw [Int.natCast_mul,ea,eb]
 by_cases c:a<0 <;> by_cases d:b<0 <;> simp [c,d] <;> grind
theorem j9y (a:Int) (b:Nat):sgn (decide (a<0)) (a.natAbs*b)=a*b:=by
 unfold sgn
 have ea:(a.natAbs:Int)=if a<0 then -a else a:=by split <;> omega
 rw [Int.natCast_mul,ea]
 by_cases c:a<0 <;> simp [c] <;> grind
theorem j8w (z:Int):Fn E z8w [.agg (Zr z)] (.agg (Zr (-z))):=by
 have:=z9x (E:=E) (!decide (z<0)) z.natAbs
 rw [v2f] at this
 exact k1w this
theorem wl {n K:Nat} (h:n<10 ^ K):(words n).length≤K:=z3q h
theorem q8v {a b:Int} {K L:Nat} (ha:a.natAbs<10 ^ K) (hb:b.natAbs<10 ^ L) (h:K+L≤4*Lim):Fn E y4w [.agg (Zr a),.agg (Zr b)] (.agg (Zr (a*b))):=by
 rw [K3] at h
 have h1:=wl ha
 have h2:=wl hb
 have hm:=z9x (E:=E) (!(decide (a<0) == decide (b<0))) (a.natAbs*b.natAbs)
 rw [v2e] at hm
 exact j0x rfl (y6x (by omega)) hm
theorem q3p {a b:Int} {K L:Nat} (ha:a.natAbs<10 ^ K) (hb:b.natAbs<10 ^ L) (hK:K≤4*Lim) (hL:L≤4*Lim):Fn E z5e [.agg (Zr a),.agg (Zr b)] (.agg (Zr (a+b))):=by
 rw [K3] at hK hL
 have h1:=wl ha
 have h2:=wl hb
 by_cases hs:decide (a<0)=decide (b<0)
 · have hw:=z9x (E:=E) (decide (a<0)) (a.natAbs+b.natAbs)
   have e:sgn (decide (a<0)) (a.natAbs+b.natAbs)=a+b:=by
    unfold sgn
    rw [decide_eq_decide] at hs
    by_cases c:a<0
    · have:=hs.1 c;rw [decide_eq_true c,if_pos rfl];omega
    · have:¬ b<0:=fun x=>c (hs.2 x)
      rw [decide_eq_false c,if_neg (by simp)];omega
   rw [e] at hw
   exact j6a hs (v1s (by omega) (by omega)) hw
 · have hc:=k7o (E:=E) (m:=a.natAbs) (n:=b.natAbs) (by omega)
   have hs':¬ (a<0↔b<0):=fun h=>hs (decide_eq_decide.2 h)
   by_cases c:a.natAbs<b.natAbs
   · have hw:=z9x (E:=E) (decide (b<0)) (b.natAbs-a.natAbs)
     have e:sgn (decide (b<0)) (b.natAbs-a.natAbs)=a+b:=by
      unfold sgn
      by_cases d:b<0
      · have:¬ a<0:=fun x=>hs' ⟨fun _=>d,fun _=>x⟩
        rw [decide_eq_true d,if_pos rfl];omega
      · have:a<0:=Classical.byContradiction fun x=>hs' ⟨fun y=>absurd y x,fun y=>absurd y d⟩
        rw [decide_eq_false d,if_neg (by simp)];omega
     rw [e] at hw
     exact j6c hs hc (by have:=(y1o (a:=(a.natAbs:Int)) (b:=b.natAbs)).2 (by omega);omega) (j8t (by omega) (by omega)) hw
   · have hw:=z9x (E:=E) (decide (a<0)) (a.natAbs-b.natAbs)
     have e:sgn (decide (a<0)) (a.natAbs-b.natAbs)=a+b:=by
      unfold sgn
      by_cases d:a<0
      · have:¬ b<0:=fun x=>hs' ⟨fun _=>x,fun _=>d⟩
        rw [decide_eq_true d,if_pos rfl];omega
      · have:b<0:=Classical.byContradiction fun x=>hs' ⟨fun y=>absurd y d,fun y=>absurd y x⟩
        rw [decide_eq_false d,if_neg (by simp)];omega
     rw [e] at hw
     refine j6b hs hc ?_ (j8t (by omega) (by omega)) hw
     have:¬ cmpI (a.natAbs:Int) b.natAbs<0:=fun x=>by have:=y1o.1 x;omega
     omega
theorem j2u (z:Int):Fn E z1v [.agg (Zr z)] (.c (.i64 (cmpI z 0))):=by
 rcases Int.lt_trichotomy z 0 with c | c | c
 · have:Zr z=[.bool true,.list (Wr (words z.natAbs))]:=by unfold Zr;rw [decide_eq_true c]
   have e:cmpI z 0=-1:=by unfold cmpI;rw [if_pos c]
   rw [this,e];exact k8c
 · subst c
   have e:cmpI 0 0=0:=rfl
   rw [e];exact k8e (fun h=>j3q.1 h rfl)
 · have:Zr z=[.bool false,.list (Wr (words z.natAbs))]:=by unfold Zr;rw [decide_eq_false (by omega)]
   have e:cmpI z 0=1:=by unfold cmpI;rw [if_neg (by omega),if_pos (by omega)]
   rw [this,e];exact k8d (j3q.2 (by omega))
theorem q8u {z:Int} (h:z.natAbs<4294967296):Fn E z9v [.c (.i64 z)] (.agg (Zr z)):=by
 have hs:=x1s (E:=E) h
 by_cases c:z<0
 · have hm:=z9x (E:=E) true z.natAbs
   rw [show sgn true z.natAbs=z by unfold sgn;simp;omega] at hm
   exact j0v (i1:=z.natAbs) (i2:=z.natAbs) (wi (by omega)) (w32 (by omega)) c hs hm
 · have hm:=z9x (E:=E) false z.natAbs
   rw [show sgn false z.natAbs=z by unfold sgn;simp;omega] at hm
   exact j0w (i1:=z.natAbs) (w32 (by omega)) c hs hm
theorem j7v (c:UInt8) (m:List UInt8):(((B (c::m)).data.toList.getD 0 0).toNat:Int)=(c.toNat:Int):=by rw [z6j];rfl
theorem j8x (l:List UInt8) (hl:l.length<9223372036854775807):Fn E P9 [.c (.str (B l))] (.c (.bool (intB l))):=by
 unfold intB
 match l,hl with
 | [],hl=>exact x5e (by rw [C5];decide) (y6y [] hl)
 | [c],hl =>
  have h0:=x5e (s0:=B [c]) (by rw [C5];simp) (y6y (E:=E) [c] hl)
  rw [j8r]
  by_cases hc:c=45
  · subst hc;exact h0
  · rw [beq_eq_false_iff_ne.2 hc];exact h0
 | c::d::m,hl =>
  rw [j8r]
  simp only [List.length_cons] at hl
  by_cases hc:c=45
  · subst hc
    simp only [beq_self_eq_true,if_true,List.drop_succ_cons,List.drop_zero]
    by_cases h48:d::m=[48]
    · rw [h48]
      exact j0z (j7v _ _) (by rw [C5];decide) (by rw [C5];decide) (by decide) rfl
    · rw [beq_eq_false_iff_ne.2 h48,Bool.not_false,Bool.and_true]
      refine j0y (s1:=B (d::m)) (j7v _ _) ?_ (by rw [C5];simp;omega) (by rw [C5];simp;omega) (by decide) (fun e=>h48 ?_) (by rw [C5];simp;omega) (y6y (d::m) (by simp;omega))
      · rw [C5,Int.toNat_natCast,y1z,List.take_length];rfl
      · have:=y1h (l:=45::d::m) (m:=[45,48]) e
        exact (List.cons.inj this).2
  · rw [beq_eq_false_iff_ne.2 hc]
    exact j1a (j7v _ _) (by rw [C5];simp;omega) (by rw [C5];simp;omega) (fun e=>hc (UInt8.toNat_inj.1 (by simpa using Int.ofNat.inj e))) (y6y (c::d::m) (by simp;omega))
theorem q3q {z:Int} {K:Nat} (hz:z.natAbs<10 ^ K) (hK:K≤Lim):Fn E z7l [.c (.str (B (decZ z)))] (.agg (Zr z)):=by
 have hf:=x1r (E:=E) hz hK
 by_cases c:z<0
 · have:Zr z=[.bool true,.list (Wr (words z.natAbs))]:=by unfold Zr;rw [decide_eq_true c]
   rw [this,z0c c]
   refine j6d (s1:=B (dec z.natAbs)) (j7v _ _) ?_ (by rw [C5];simp) (by decide) (by rw [C5];simp;omega) hf
   rw [C5,Int.toNat_natCast,y1z,List.take_length];rfl
 · have:Zr z=[.bool false,.list (Wr (words z.natAbs))]:=by unfold Zr;rw [decide_eq_false c]
   rw [this,J0 (by omega)]
   cases hd:dec z.natAbs with
   | nil=>exact absurd hd (x0k _)
   | cons d m =>
    rw [hd] at hf
    refine j6e (j7v _ _) (by rw [C5];simp) (fun e=>?_) hf
    have:=z8x z.natAbs d (by rw [hd];simp)
    omega
theorem r2_To {z:Int} {K:Nat} (hz:z.natAbs<10 ^ K) (hK:K≤Lim+Lim):Fn E y2o [.agg (Zr z)] (.c (.str (B (decZ z)))):=by
 have ht:=r1_To (E:=E) hz hK
 have h1:=x5l hz
 rw [K3] at hK
 by_cases c:z<0
 · have:Zr z=[.bool true,.list (Wr (words z.natAbs))]:=by unfold Zr;rw [decide_eq_true c]
   rw [this,z0c c]
   exact q1s (by rw [B45,y2i];rfl) ht (by rw [B45,C5,C5];simp;omega)
 · have:Zr z=[.bool false,.list (Wr (words z.natAbs))]:=by unfold Zr;rw [decide_eq_false c]
   rw [this,J0 (by omega)]
   exact q1t ht
def Qr (q:Rat):List DV:=[.bool (decide (q.num<0)),.list (Wr (words q.num.natAbs)),.list (Wr (words q.den))]
theorem q5y (n:Nat):(n:Int).natAbs=n:=Int.natAbs_natCast n
theorem j3o:words 1=[1]:=by rw [y2h (by decide)];rw [show 1 / 1000000000=0 from rfl,J9];rfl
theorem v2d (z:Int) {g:Nat} (hg:g≠0) (hd:(g:Int) ∣ z):sgn (decide (z<0)) (z.natAbs / g)=z / (g:Int):=by
 obtain ⟨k,rfl⟩:=hd
 rw [Int.mul_ediv_cancel_left _ (by omega),Int.natAbs_mul,q5y,Nat.mul_div_cancel_left _ (by omega)]
 unfold sgn
 have hs:(g:Int)*k<0↔k<0:=by
  constructor
  · intro h
    refine Classical.byContradiction fun c=>?_
    have:=Int.mul_nonneg (show 0≤(g:Int) by omega) (show 0≤k by omega)
    omega
  · intro h;exact Int.mul_neg_of_pos_of_neg (by omega) h
 by_cases c:k<0
 · rw [decide_eq_true (hs.2 c),if_pos rfl];omega
 · rw [decide_eq_false (fun x=>c (hs.1 x)),if_neg (by simp)];omega
theorem k1f {z:Int} {d K L:Nat} (hz:z.natAbs<10 ^ K) (hd:d<10 ^ L) (hK:K≤4*Lim) (hL:L≤4*Lim)(h0:d≠0):Fn E z0a [.agg (Zr z),.c (.list (Wr (words d)))] (.agg (Qr (mkRat z d))):=by
 have w1:=wl hz
 have w2:=wl hd
 rw [K3] at hK hL
 have hc:=j2s (E:=E) (m:=z.natAbs) (n:=d) (L:=max K L) (by omega) (by omega) (by omega)
 have e:Qr (mkRat z d)=[.bool (decide (z / (Nat.gcd z.natAbs d:Nat)<0)),.list (Wr (words (z / (Nat.gcd z.natAbs d:Nat)).natAbs)),.list (Wr (words (d / Nat.gcd z.natAbs d)))]:=by
  unfold Qr;rw [j2o h0,j2n h0]
 have hg:Nat.gcd z.natAbs d≠0:=q0z h0
 have hdv:((Nat.gcd z.natAbs d:Nat):Int) ∣ z:=by
  have:=Int.gcd_dvd_left z d
  exact this
 rw [e]
 generalize Nat.gcd z.natAbs d=g at *
 have hm:=z9x (E:=E) (decide (z<0)) (z.natAbs / g)
 rw [v2d z hg hdv] at hm
 have o1:=j5m (E:=E) (m:=g) (n:=z.natAbs) hg (by omega)
 have o2:=j5m (E:=E) (m:=g) (n:=d) hg (by omega)
 by_cases h1:g=1
 · subst h1
   rw [show ((1:Nat):Int)=1 from rfl,Int.ediv_one,Nat.div_one]
   exact k8f (i0:=1) hc (by rw [j3o];rfl) (by rw [j3o];rfl) rfl
 · by_cases hl:((Wr (words g)).length:Int)=1
   · rw [A7] at hl
     obtain ⟨w,hw⟩:∃ w,words g=[w]:=by
      cases hx:words g with
      | nil=>rw [hx] at hl;simp at hl
      | cons w m =>
       rw [hx] at hl
       cases m with
       | nil=>exact ⟨w,rfl⟩
       | cons=>simp at hl;omega
     refine k8g (i0:=w) hc (by rw [A7];exact hl) (by rw [hw];rfl) (fun e=>h1 ?_) o1 o2 hm
     have:=B1 g
     rw [hw,e] at this
     have hv:wv [(1:Int)]=1:=by decide
     omega
   · exact k8h hc hl o1 o2 hm
theorem q1o {z:Int} (h:z.natAbs<4294967296):Fn E V0 [.c (.i64 z)] (.agg (Qr (z:Rat))):=by
 have e:Qr (z:Rat)=[.bool (decide (z<0)),.list (Wr (words z.natAbs)),.list (Wr (words 1))]:=by unfold Qr;rw [Rat.num_intCast,Rat.den_intCast]
 rw [e]
 exact j9g (q8u h) (x1s (n:=1) (by decide))
theorem q8x (q:Rat):Fn E y0c [.agg (Qr q)] (.agg (Qr (-q))):=by
 have e:Qr (-q)=[.bool (decide (-q.num<0)),.list (Wr (words (-q.num).natAbs)),.list (Wr (words q.den))]:=by unfold Qr;rw [Rat.neg_num,Rat.neg_den]
 rw [e]
 exact j9j (j8w q.num)
theorem k1e {x y:Rat} {K L:Nat} (hx:Sz x K) (hy:Sz y L) (h:K+L≤4*Lim):Fn E K8 [.agg (Qr x),.agg (Qr y)] (.agg (Qr (x*y))):=by
 rw [Rat.mul_def']
 have w1:=wl hx.2
 have w2:=wl hy.2
 have hl:Lim=1000000000:=rfl
 exact j9i (q8v hx.1 hy.1 h) (y6x (by omega)) (k1f (z2q hx.1 hy.1) (z0e hx.2 hy.2) (by omega) (by omega) (Nat.mul_ne_zero x.den_nz y.den_nz))
theorem j8y {x y:Rat} {K L:Nat} (hx:Sz x K) (hy:Sz y L) (h:K+L≤4*Lim):Fn E D5 [.c (.list (Wr (words x.num.natAbs))),.c (.list (Wr (words y.den)))] (.c (.list (Wr (words (x.num.natAbs*y.den)))))∧Fn E H1 [.c (.bool (decide (x.num<0))),.c (.list (Wr (words (x.num.natAbs*y.den))))] (.agg (Zr (x.num*y.den))):=by
 have w1:=wl hx.1
 have w2:=wl hy.2
 have hl:Lim=1000000000:=rfl
 have hm:=z9x (E:=E) (decide (x.num<0)) (x.num.natAbs*y.den)
 rw [j9y] at hm
 exact ⟨y6x (by omega),hm⟩
theorem j7j {m n:Nat}:cmpI m n=0↔m=n:=by rw [y2a];omega
theorem r3_Add {x y:Rat} {K L:Nat} (hx:Sz x K) (hy:Sz y L) (h:K+L+1≤4*Lim):Fn E y4a [.agg (Qr x),.agg (Qr y)] (.agg (Qr (x+y))):=by
 have w1:=wl hx.2
 have w2:=wl hy.2
 have hl:Lim=1000000000:=rfl
 have hc:=k7o (E:=E) (m:=x.den) (n:=y.den) (by omega)
 by_cases c:x.den=y.den
 · have hp:=q3p (E:=E) hx.1 hy.1 (by omega) (by omega)
   have e:x+y=mkRat (x.num+y.num) x.den:=by
    rw [Rat.add_def',← c,← Int.add_mul]
    have:=Rat.mkRat_mul_right (n:=x.num+y.num) (d:=x.den) (a:=x.den) x.den_nz
    exact this
   rw [e]
   exact j9e hc (j7j.2 c) hp (k1f (y7l (V6 hx.1 (show K≤max K L by omega)) (V6 hy.1 (show L≤max K L by omega))) hx.2 (by omega) (by omega) x.den_nz)
 · rw [Rat.add_def']
   obtain ⟨t1,m1⟩:=j8y (E:=E) hx hy (by omega)
   obtain ⟨t2,m2⟩:=j8y (E:=E) hy hx (by omega)
   have a1:=z2q (b:=(y.den:Int)) hx.1 (show (y.den:Int).natAbs<10 ^ L from hy.2)
   have a2:=z2q (b:=(x.den:Int)) hy.1 (show (x.den:Int).natAbs<10 ^ K from hx.2)
   exact j9f hc (fun e=>c (j7j.1 e)) t1 m1 t2 m2 (q3p a1 a2 (by omega) (by omega)) (y6x (by omega)) (k1f (y7l a1 (by rw [Nat.add_comm K L];exact a2)) (z0e hx.2 hy.2) (by omega) (by omega) (Nat.mul_ne_zero x.den_nz y.den_nz))
theorem q8y {x y:Rat} {K L:Nat} (hx:Sz x K) (hy:Sz y L) (h:K+L+1≤4*Lim):Fn E z7b [.agg (Qr x),.agg (Qr y)] (.agg (Qr (x-y))):=by
 rw [Rat.sub_eq_add_neg]
 exact j9k (q8x y) (r3_Add hx hy.neg h)
theorem q8w {x:Rat} (h:x≠0):Fn E z7a [.agg (Qr x)] (.agg (Qr x⁻¹)):=by
 have hn:x.num≠0:=fun e=>h (Rat.num_eq_zero.1 e)
 have hd:=Nat.pos_of_ne_zero x.den_nz
 have hm:=z9x (E:=E) (decide (x.num<0)) x.den
 have e1:sgn (decide (x.num<0)) x.den=x.num.sign*x.den:=by
  unfold sgn
  by_cases c:x.num<0
  · rw [decide_eq_true c,if_pos rfl,Int.sign_eq_neg_one_of_neg c];omega
  · rw [decide_eq_false c,if_neg (by simp),Int.sign_eq_one_of_pos (by omega)];omega
 rw [e1] at hm
 have e:Qr x⁻¹=[.bool (decide (x.num.sign*x.den<0)),.list (Wr (words (x.num.sign*x.den).natAbs)),.list (Wr (words x.num.natAbs))]:=by
  unfold Qr;rw [Rat.num_inv,Rat.den_inv,if_neg hn]
 rw [e]
 exact j9h hm
theorem x3j (x:Rat):Fn E z7m [.agg (Qr x)] (.c (.i64 (cmpI x.num 0))):=j6l (j2u x.num)
theorem r3_To {q:Rat} {K:Nat} (h:Sz q K) (hK:K≤Lim+Lim):Fn E y2p [.agg (Qr q)] (.c (.str (B (decQ q)))):=by
 have h1:=x2v h.1
 have h2:=j3u h
 have t1:=r2_To (E:=E) h.1 hK
 have t2:=r1_To (E:=E) h.2 hK
 rw [K3] at hK
 by_cases hd:q.den=1
 · rw [z1x hd]
   exact q1v t1 t2 (by rw [hd,z7o];rfl)
 · rw [Z7 hd]
   exact q1u (s2:=B (47::dec q.den)) (by rw [B47,y2i];rfl) (by rw [y2i]) t1 t2 (fun e=>hd (by rw [B49] at e;exact z8y.1 (y1h e))) (by rw [B47,C5,C5];simp;omega) (by rw [C5,C5];simp;omega)
theorem k0j {l:List UInt8} {i:Nat} {c:UInt8} (h:l[i]?=some c):(((B l).data.toList.getD (Int.toNat (i:Int)) 0).toNat:Int)=(c.toNat:Int):=by
 rw [z6j,Int.toNat_natCast,List.getD_eq_getElem?_getD,h];rfl
theorem j9z {l:List UInt8} (h:(47:UInt8) ∉ l) (hl:l.length<9223372036854775807):∀ d i,i+d=l.length→Lp E 0 J4 0 (V8 (B l) (i:Nat)) (.exit 0) (z9k (B l))
 | 0,i,hi=>x4m (by rw [C5];omega)
 | d+1,i,hi=>by
  obtain ⟨c,hc⟩:∃ c,l[i]?=some c:=⟨l[i]'(by omega),List.getElem?_eq_getElem _⟩
  refine y4n (i2:=((i+1:Nat):Int)) (k0j hc) (wi (by omega)) (by rw [C5];omega) (by rw [C5];omega) (fun e=>h ?_) (j9z h hl d (i+1) (by omega))
  have:c=47:=UInt8.toNat_inj.1 (by simpa using Int.ofNat.inj e)
  subst this
  exact List.mem_of_getElem? hc
theorem j3f {p r:List UInt8} (h:(47:UInt8) ∉ p) (hl:(p++47::r).length<9223372036854775807):∀ d i,i+d=p.length→Lp E 0 J4 0 (V8 (B (p++47::r)) (i:Nat)) .ret (z9j (B p) (B r))
 | 0,i,hi=>by
  simp only [List.length_append,List.length_cons] at hl
  have hc:(p++47::r)[i]?=some 47:=by rw [List.getElem?_append_right (by omega),show i-p.length=0 by omega];rfl
  refine x4l (i3:=((i+1:Nat):Int)) (k0j hc) ?_ (wi (by omega)) ?_ (by rw [C5];simp;omega) (by rw [C5];simp;omega) (by decide) (by rw [C5];simp;omega) (by rw [C5];simp;omega)
  · rw [y1z,Int.toNat_natCast,List.drop_zero,show i=p.length by omega,List.take_left]
  · rw [y1z,C5,Int.toNat_natCast,Int.toNat_natCast,List.take_length,show i+1=p.length+1 by omega,List.drop_append,List.drop_eq_nil_of_le (by omega)]
    rw [show p.length+1-p.length=1 by omega];rfl
 | d+1,i,hi=>by
  have hl':=hl
  simp only [List.length_append,List.length_cons] at hl'
  obtain ⟨c,hc⟩:∃ c,p[i]?=some c:=⟨p[i]'(by omega),List.getElem?_eq_getElem _⟩
  have hc':(p++47::r)[i]?=some c:=by rw [List.getElem?_append_left (by omega)];exact hc
  refine y4n (i2:=((i+1:Nat):Int)) (k0j hc') (wi (by omega)) (by rw [C5];simp;omega) (by rw [C5];simp;omega) (fun e=>h ?_) (j3f h hl d (i+1) (by omega))
  have:c=47:=UInt8.toNat_inj.1 (by simpa using Int.ofNat.inj e)
  subst this
  exact List.mem_of_getElem? hc
theorem x2u (n:Nat):(cmpI n 1>0↔1<n)∧(cmpI n 1=0↔n=1):=by
 constructor
 · rw [v0p];omega
 · rw [y2a];omega
theorem q3r {l:List UInt8} (hl:l.length≤Lim):Fn E N9 [.c (.str (B l))] (.tup [.agg (Qr ((rd l).getD 0)),.c (.bool (rd l).isSome)]):=by
 have hl':=hl
 rw [K3] at hl'
 have hz:=q1o (E:=E) (z:=0) (by decide)
 rw [show ((0:Int):Rat)=0 from rfl] at hz
 have h1:=x1s (E:=E) (n:=1) (by decide)
 by_cases hs:(47:UInt8)∈l
 · obtain ⟨p,r,rfl,hp⟩:=x0o l hs
   have hll:=hl
   simp only [List.length_append,List.length_cons] at hl hl'
   have hc:=j1b (j3f (E:=E) (p:=p) (r:=r) hp (by simp;omega) p.length 0 (by omega))
   have hv:=j8x (E:=E) p (by omega)
   have hnv:=y6y (E:=E) r (by omega)
   have none_of:(∀ q,p++47::r≠decQ q)→rd (p++47::r)=none:=fun hq=>by
    cases e:rd (p++47::r) with
    | none=>rfl
    | some q=>exact absurd (k4s e) (hq q)
   have shape:∀ q,p++47::r=decQ q→p=decZ q.num∧r=dec q.den∧q.den≠1:=by
    intro q e
    by_cases hd:q.den=1
    · rw [z1x hd] at e
      exact absurd (show (47:UInt8)∈decZ q.num by rw [← e];simp) (O6 _)
    · rw [Z7 hd] at e
      have:=q2u e hp (O6 _)
      exact ⟨this.1,this.2,hd⟩
   cases hi:intB p with
   | false =>
    rw [none_of (fun q e=>by rw [(shape q e).1,x3d] at hi;cases hi)]
    rw [hi] at hv
    exact x9m hc hv hz
   | true =>
    rw [hi] at hv
    cases hn:natB r with
    | false =>
     rw [none_of (fun q e=>by rw [(shape q e).2.1,k7h] at hn;cases hn)]
     rw [hn] at hnv
     exact j6k hc hv hnv hz
    | true =>
     rw [hn] at hnv
     obtain ⟨z,rfl⟩:=(x0s.1 hi).eq_decZ
     obtain ⟨n,rfl⟩:∃ n,r=dec n:=⟨_,(y6h.1 hn).eq_dec⟩
     have hzl:z.natAbs<10 ^ (decZ z).length:=V6 (Z4 _) (x0j z)
     have hnl:=Z4 n
     have r1:=q3q (E:=E) hzl (by omega)
     have r2:=x1r (E:=E) hnl (by omega)
     have w1:=wl hzl
     have w2:=wl hnl
     have c1:=k7o (E:=E) (m:=n) (n:=1) (by omega)
     have sg:=j2u (E:=E) z
     have uq:∀ q,decZ z++47::dec n=decQ q→z=q.num∧n=q.den∧q.den≠1:=fun q e=>⟨y5t (shape q e).1,x2x (shape q e).2.1,(shape q e).2.2⟩
     by_cases hn1:1<n
     · by_cases hz0:z=0
       · rw [none_of (fun q e=>by
          obtain ⟨e1,e2,e3⟩:=uq q e
          have hr:=q.reduced
          rw [← e1,hz0] at hr
          simp at hr
          exact e3 hr)]
         exact j6h hc hv hnv r1 r2 h1 c1 ((x2u n).1.2 hn1) sg (by rw [y2a];exact hz0) hz
       · have g:=j2s (E:=E) (m:=z.natAbs) (n:=n) (L:=max (decZ z).length (dec n).length) (by omega) (by omega) (by omega)
         have hgl:Nat.gcd z.natAbs n<10 ^ (dec n).length:=Nat.lt_of_le_of_lt (Nat.gcd_le_right _ (by omega)) hnl
         have c2:=k7o (E:=E) (m:=Nat.gcd z.natAbs n) (n:=1) (by have:=wl hgl;omega)
         by_cases hg1:Nat.gcd z.natAbs n=1
         · obtain ⟨q,e1,e2,e3⟩:=q2v z n hn1 hg1
           rw [← e3,x3k,e3]
           have eq:Qr q=[.bool (decide (z<0)),.list (Wr (words z.natAbs)),.list (Wr (words n))]:=by unfold Qr;rw [e1,e2]
           show Fn E N9 _ (.tup [.agg (Qr q),.c (.bool true)])
           rw [eq]
           exact j6f hc hv hnv r1 r2 h1 c1 ((x2u n).1.2 hn1) sg (by rw [y2a];exact hz0) g c2 ((x2u _).2.2 hg1)
         · rw [none_of (fun q e=>by
            obtain ⟨e1,e2,e3⟩:=uq q e
            have hr:=q.reduced
            rw [← e1,← e2] at hr
            exact hg1 hr)]
           exact j6g hc hv hnv r1 r2 h1 c1 ((x2u n).1.2 hn1) sg (by rw [y2a];exact hz0) g c2 (fun e=>hg1 ((x2u _).2.1 e)) hz
     · rw [none_of (fun q e=>by
        obtain ⟨e1,e2,e3⟩:=uq q e
        have:=q.den_nz
        omega)]
       exact j6i hc hv hnv r1 r2 h1 c1 (fun e=>hn1 ((x2u n).1.1 e)) hz
 · have hc:=j1c (j9z (E:=E) hs (by omega) l.length 0 (by omega))
   have hv:=j8x (E:=E) l (by omega)
   have hnv:=y6y (E:=E) [49] (by decide)
   rw [show natB [49]=true from by decide] at hnv
   cases hi:intB l with
   | false =>
    have:rd l=none:=by
     cases e:rd l with
     | none=>rfl
     | some q =>
      have e2:=k4s e
      by_cases hd:q.den=1
      · rw [z1x hd] at e2;rw [e2,x3d] at hi;cases hi
      · rw [Z7 hd] at e2;exact absurd (by rw [e2];simp) hs
    rw [this]
    rw [hi] at hv
    exact x9m hc hv hz
   | true =>
    obtain ⟨z,rfl⟩:=(x0s.1 hi).eq_decZ
    rw [hi] at hv
    have hzl:z.natAbs<10 ^ (decZ z).length:=V6 (Z4 _) (x0j z)
    have r2:=x1r (E:=E) (n:=1) (K:=1) (by decide) (by rw [K3];omega)
    rw [z7o] at r2
    have e:rd (decZ z)=some (z:Rat):=by rw [← y7p,x3k]
    rw [e]
    have eq:Qr ((some (z:Rat)).getD 0)=[.bool (decide (z<0)),.list (Wr (words z.natAbs)),.list (Wr (words 1))]:=by
     show Qr (z:Rat)=_
     unfold Qr;rw [Rat.num_intCast,Rat.den_intCast]
    rw [eq]
    exact j6j hc hv hnv (q3q hzl (by omega)) r2
end Gev
namespace Gev
open Go
variable {E:Env}
theorem x8i {α:Type} {l:List α} {i:Nat} (h:i<l.length):∃ c,l[i]?=some c:=⟨l[i],List.getElem?_eq_getElem h⟩
theorem z7r {α:Type} {l:List α} {i:Nat} {a:α} (h:l[i]?=some a):i<l.length:=(List.getElem?_eq_some_iff.1 h).1
theorem q7f {α:Type} {l:List α} {i:Nat} {c:α} (h:l[i]?=some c):l.drop i=c::l.drop (i+1):=by
 obtain ⟨h1,h2⟩:=List.getElem?_eq_some_iff.1 h
 rw [← h2];exact List.drop_eq_getElem_cons h1
theorem z7f {α:Type} {n F k:Nat} {l:List α} (bad:Nat→α→Bool) (st:Nat→St) {oe:Out} {fin:St} (Left:Nat→α→Out→St→Prop)
    (hend:Lp E n F k (st l.length) oe fin) (hstep:∀ i a,l[i]?=some a→bad i a=false→∀ o s,Lp E n F k (st (i+1)) o s→Lp E n F k (st i) o s)
    (hout:∀ i a,l[i]?=some a→bad i a=true→∃ o s,Left i a o s∧Lp E n F k (st i) o s):∀ d i:Nat,i+d=l.length →
    ((∀ j a,i≤j→l[j]?=some a→bad j a=false)∧Lp E n F k (st i) oe fin) ∨
    (∃ j a o s,i≤j∧l[j]?=some a∧bad j a=true∧(∀ j' a',i≤j'→j'<j→l[j']?=some a'→bad j' a'=false)∧Left j a o s∧Lp E n F k (st i) o s)
 | 0,i,hi=>by
  have:i=l.length:=by omega
  subst this
  exact .inl ⟨fun j a hj h=>by have:=(List.getElem?_eq_some_iff.1 h).1;omega,hend⟩
 | d+1,i,hi=>by
  obtain ⟨a,ha⟩:=x8i (l:=l) (i:=i) (by omega)
  cases hb:bad i a with
  | true =>
   obtain ⟨o,s,h1,h2⟩:=hout i a ha hb
   exact .inr ⟨i,a,o,s,Nat.le_refl _,ha,hb,fun j' a' h1 h2=>by omega,h1,h2⟩
  | false =>
   rcases z7f bad st Left hend hstep hout d (i+1) (by omega) with ⟨h1,h2⟩ | ⟨j,b,o,s,h1,h2,h3,h4,h5,h6⟩
   · refine .inl ⟨fun j b hj h=>?_,hstep i a ha hb _ _ h2⟩
     by_cases e:j=i
     · subst e;rw [ha] at h;cases h;exact hb
     · exact h1 j b (by omega) h
   · refine .inr ⟨j,b,o,s,by omega,h2,h3,fun j' a' g1 g2 g3=>?_,h5,hstep i a ha hb _ _ h6⟩
     by_cases e:j'=i
     · subst e;rw [ha] at g3;cases g3;exact hb
     · exact h4 j' a' (by omega) g2 g3
end Gev
namespace Gev
open Go
variable {P:Program} {D:Tab} {B0:Nat} {Gd:World→Prop}
def inBs (n:Nat) (sm:Objs):Bool:=sm.all fun o=>match o with | some o=>o.inB n | none=>true
theorem q3a {n:Nat} {sm:Objs} (h:inBs n sm=true) (i:Nat) (o:Ob) (hi:lk sm i=some o):o.inB n=true:=by
 have hil:=O2 hi
 have e:sm[i]?=some (some o):=by
  unfold lk at hi
  rw [List.getD_eq_getElem?_getD,List.getElem?_eq_getElem hil] at hi
  rw [List.getElem?_eq_getElem hil];exact congrArg some hi
 unfold inBs at h
 rw [List.all_eq_true] at h
 exact h _ (List.mem_of_getElem? e)
theorem RunOk.put {f:Nat} {args:List AV} {sm sm':Objs} {r:AV} (h:RunOk P D B0 Gd f args sm r sm') (ls:List Nat) (hn:ls.Nodup) (hlen:ls.length=sm.length) (hlen':sm'.length=sm.length) {big big':Objs}
    (hs:∀ i,i<sm.length→lk big (ls.getD i 0)=(lk sm i).map (Ob.ren fun i=>ls.getD i 0)) (hs':∀ i,i<sm.length→lk big' (ls.getD i 0)=(lk sm' i).map (Ob.ren fun i=>ls.getD i 0)) (hrest:∀ l,(∀ i,i<sm.length→ls.getD i 0≠l)→lk big' l=lk big l)
    (hp:inBs sm.length sm=true) (hp':inBs sm.length sm'=true) (ha:args.all (AV.inB sm.length)=true) (hr:r.inB sm.length=true) :
    RunOk P D B0 Gd f (args.map (AV.ren fun i=>ls.getD i 0)) big (r.ren fun i=>ls.getD i 0) big':=by
 refine h.frameG (fun i=>ls.getD i 0) big big' (fun i j hi hj e=>?_) (Nat.le_of_eq hlen'.symm) hs (fun i h1 h2=>by omega) (by rw [hlen'];exact hs') (by rw [hlen'];exact hrest) (q3a hp) (by rw [hlen'];exact q3a hp') (fun a hx=>by simp only [List.all_eq_true] at ha;exact ha a hx) (by rw [hlen'];exact hr)
 have e2:ls.getD i 0=ls.getD j 0:=e
 simp only [List.getD_eq_getElem?_getD] at e2
 rw [List.getElem?_eq_getElem (by omega),List.getElem?_eq_getElem (by omega)] at e2
 have e':ls[i]?=ls[j]?:=by
  rw [List.getElem?_eq_getElem (by omega),List.getElem?_eq_getElem (by omega)]
  exact congrArg some e2
 exact (List.getElem?_inj (by omega) hn).1 e'
end Gev
namespace Gb
abbrev Mx:=Nat→Nat→Rat
def sm:Nat→(Nat→Rat)→Rat
 | 0,_=>0
 | n+1,f=>sm n f+f n
theorem z6f {n:Nat} {f g:Nat→Rat} (h:∀ k,k<n→f k=g k):sm n f=sm n g:=by
 induction n with
 | zero=>rfl
 | succ n ih=>rw [sm,sm,ih (fun k hk=>h k (by omega)),h n (by omega)]
theorem sm_add (n:Nat) (f g:Nat→Rat):sm n (fun k=>f k+g k)=sm n f+sm n g:=by
 induction n with
 | zero=>simp only [sm];grind
 | succ n ih=>simp only [sm,ih];grind
theorem q9s (n:Nat) (f g:Nat→Rat):sm n (fun k=>f k-g k)=sm n f-sm n g:=by
 induction n with
 | zero=>simp only [sm];grind
 | succ n ih=>simp only [sm,ih];grind
theorem q1z (n:Nat) (c:Rat) (f:Nat→Rat):sm n (fun k=>c*f k)=c*sm n f:=by
 induction n with
 | zero=>simp only [sm];grind
 | succ n ih=>simp only [sm,ih];grind
theorem q4a (n:Nat) (c:Rat) (f:Nat→Rat):sm n (fun k=>f k*c)=sm n f*c:=by
 induction n with
 | zero=>simp only [sm];grind
 | succ n ih=>simp only [sm,ih];grind
theorem q4b {n:Nat} {f:Nat→Rat} (h:∀ k,k<n→f k=0):sm n f=0:=by
 induction n with
 | zero=>rfl
 | succ n ih=>rw [sm,ih (fun k hk=>h k (by omega)),h n (by omega)];grind
theorem q3z (m n:Nat) (f:Nat→Nat→Rat):sm m (fun i=>sm n (fun j=>f i j))=sm n (fun j=>sm m (fun i=>f i j)):=by
 induction m with
 | zero=>exact (q4b fun _ _=>rfl).symm
 | succ m ih=>simp only [sm,ih,sm_add]
theorem q9r {n r:Nat} {f:Nat→Rat} (hr:r<n) (h:∀ k,k<n→k≠r→f k=0):sm n f=f r:=by
 induction n with
 | zero=>omega
 | succ n ih =>
  rw [sm]
  by_cases e:r=n
  · subst e
    rw [q4b (fun k hk=>h k (by omega) (by omega))];grind
  · rw [ih (by omega) (fun k hk=>h k (by omega)),h n (by omega) (by omega)];grind
def mm (k:Nat) (f g:Mx):Mx:=fun i j=>sm k fun l=>f i l*g l j
def dl:Mx:=fun i j=>if i=j then 1 else 0
theorem mm_one {n i j:Nat} {f:Mx} (hj:j<n):mm n f dl i j=f i j:=by
 simp only [mm]
 rw [q9r hj (fun k _ h=>by simp only [dl,if_neg h];grind)]
 simp only [dl,if_pos];grind
theorem j8h {k i j:Nat} {f f' g g':Mx} (h1:∀ l,l<k→f i l=f' i l)(h2:∀ l,l<k→g l j=g' l j):mm k f g i j=mm k f' g' i j :=
 z6f fun l hl=>by rw [h1 l hl,h2 l hl]
def tp (f:Mx):Mx:=fun i j=>f j i
def d3 (a b c d e f g h i:Rat):Rat:=a*(e*i-f*h)-b*(d*i-f*g)+c*(d*h-e*g)
def dt:Nat→Mx→Rat
 | 0,_=>1
 | 1,f=>f 0 0
 | 2,f=>f 0 0*f 1 1-f 0 1*f 1 0
 | 3,f=>d3 (f 0 0) (f 0 1) (f 0 2) (f 1 0) (f 1 1) (f 1 2) (f 2 0) (f 2 1) (f 2 2)
 | 4,f=>f 0 0*d3 (f 1 1) (f 1 2) (f 1 3) (f 2 1) (f 2 2) (f 2 3) (f 3 1) (f 3 2) (f 3 3)
     - f 0 1*d3 (f 1 0) (f 1 2) (f 1 3) (f 2 0) (f 2 2) (f 2 3) (f 3 0) (f 3 2) (f 3 3)
     + f 0 2*d3 (f 1 0) (f 1 1) (f 1 3) (f 2 0) (f 2 1) (f 2 3) (f 3 0) (f 3 1) (f 3 3)
     - f 0 3*d3 (f 1 0) (f 1 1) (f 1 2) (f 2 0) (f 2 1) (f 2 2) (f 3 0) (f 3 1) (f 3 2)
 | _,_=>0
def sg (f:Mx) (p r:Nat):Mx:=fun i=>f (if i=p then r else if i=r then p else i)
def pv (f:Mx) (c:Nat):Nat→Nat→Nat
 | 0,p=>p
 | k+1,p=>if f p c=0 then pv f c k (p+1) else p
theorem q3l (f:Mx) (c:Nat):∀ k p,p≤pv f c k p∧pv f c k p≤p+k
 | 0,p=>by simp [pv]
 | k+1,p=>by
  have:=q3l f c k (p+1)
  unfold pv;split <;> omega
theorem q3n (f:Mx) (c:Nat):∀ k p q,p≤q→q<pv f c k p→f q c=0
 | 0,p,q,h1,h2=>by simp [pv] at h2;omega
 | k+1,p,q,h1,h2=>by
  unfold pv at h2
  split at h2
  · rename_i h
    by_cases e:q=p
    · rw [e];exact h
    · exact q3n f c k (p+1) q (by omega) h2
  · omega
theorem q3m (f:Mx) (c:Nat):∀ k p,pv f c k p<p+k→f (pv f c k p) c≠0
 | 0,p,h=>by simp [pv] at h
 | k+1,p,h=>by
  unfold pv at h ⊢
  by_cases e:f p c=0
  · rw [if_pos e] at h ⊢;exact q3m f c k (p+1) (by omega)
  · rw [if_neg e];exact e
def st (g:Mx) (r c:Nat):Mx:=fun i j=>if i=r then g r j / g r c else g i j-g i c*(g r j / g r c)
abbrev El:=Mx × Nat × Rat
def e1 (m c:Nat) (s:El):El :=
 if pv s.1 c (m-s.2.1) s.2.1<m then
  (st (sg s.1 (pv s.1 c (m-s.2.1) s.2.1) s.2.1) s.2.1 c,s.2.1+1,
   (if pv s.1 c (m-s.2.1) s.2.1=s.2.1 then s.2.2 else -s.2.2)*sg s.1 (pv s.1 c (m-s.2.1) s.2.1) s.2.1 s.2.1 c)
 else s
def el (m:Nat):Nat→El→El
 | 0,s=>s
 | k+1,s=>e1 m k (el m k s)
theorem q6t {m:Nat} {P:Nat→El→Prop} {s:El} (h0:P 0 s) (hs:∀ c s,P c s→P (c+1) (e1 m c s)):∀ k,P k (el m k s)
 | 0=>h0
 | k+1=>hs k _ (q6t h0 hs k)
theorem k5k (m c:Nat) (f:Mx) (r:Nat) (d:Rat) (hr:r≤m) :
    (e1 m c (f,r,d)=(f,r,d)∧∀ q,r≤q→q<m→f q c=0) ∨
    ∃ p,r≤p∧p<m∧f p c≠0∧e1 m c (f,r,d)=(st (sg f p r) r c,r+1,(if p=r then d else -d)*sg f p r r c):=by
 have h:=q3l f c (m-r) r
 by_cases hp:pv f c (m-r) r<m
 · refine .inr ⟨_,h.1,hp,q3m f c _ _ (by omega),?_⟩
   simp only [e1];rw [if_pos hp]
 · refine .inl ⟨by simp only [e1];rw [if_neg hp],fun q h1 h2=>q3n f c (m-r) r q h1 (by omega)⟩
theorem q9p {p r i:Nat} {f:Mx} (h:i≠p) (k:i≠r):sg f p r i=f i:=by simp only [sg,if_neg h,if_neg k]
theorem sg_r {p r:Nat} {f:Mx}:sg f p r r=f p:=by
 simp only [sg];split
 · rename_i h;rw [h]
 · simp
theorem sg_p {p r:Nat} {f:Mx}:sg f p r p=f r:=by simp only [sg,if_pos]
theorem q9q {p r i j:Nat} {f:Mx} (h:r≤i) (hp:r≤p) {m:Nat} (hi:i<m) (hpm:p<m) (hz:∀ i,r≤i→i<m→f i j=0):sg f p r i j=0:=by
 simp only [sg];split
 · exact hz r (by omega) (by omega)
 · split
   · exact hz p hp hpm
   · exact hz i h hi
structure Red (m c:Nat) (f:Mx) (r:Nat) (q:Nat→Nat):Prop where
 rm:r≤m
 rc:r≤c
 lt:∀ i,i<r→q i<c
 one:∀ i,i<r→∀ k,k<m→f k (q i)=dl k i
 low:∀ i,r≤i→i<m→∀ j,j<c→f i j=0
 full:r=c→∀ i,i<r→q i=i
theorem ddiv {x:Rat} (h:x≠0):x / x=1:=by rw [Rat.div_def];exact Rat.mul_inv_cancel _ h
theorem k1j (m:Nat) (f:Mx) (k:Nat):∃ q,Red m k (el m k (f,0,1)).1 (el m k (f,0,1)).2.1 q:=by
 refine q6t (P:=fun c s=>∃ q,Red m c s.1 s.2.1 q) ⟨fun _=>0,by constructor <;> intros <;> simp at*<;> omega⟩ (fun c s h=>?_) k
 obtain ⟨f,r,d⟩:=s
 obtain ⟨q,h⟩:=h
 change Red m c f r q at h
 have rm:=h.rm
 have rc:=h.rc
 rcases k5k m c f r d rm with ⟨e,hz⟩ | ⟨p,h1,h2,h3,e⟩
 · rw [e]
   refine ⟨q,⟨rm,Nat.le_succ_of_le rc,fun i hi=>by have:=h.lt i hi;omega,h.one,fun i h1 h2 j hj=>?_,fun e=>by change r=c+1 at e;omega⟩⟩
   by_cases ej:j=c
   · subst ej;exact hz i h1 h2
   · exact h.low i h1 h2 j (by omega)
 · rw [e]
   have hg0:sg f p r r c≠0:=by rw [sg_r];exact h3
   have hcol:∀ k,st (sg f p r) r c k c=dl k r:=by
    intro k
    simp only [st,dl]
    split
    · exact ddiv hg0
    · rw [ddiv hg0];grind
   have hold:∀ i,i<r→∀ k,k<m→st (sg f p r) r c k (q i)=dl k i:=by
    intro i hi k hk
    have e0:sg f p r r (q i)=0:=by
     rw [sg_r,h.one i hi p h2];simp only [dl];rw [if_neg (by omega)]
    simp only [st]
    split
    · rename_i ek;rw [e0,ek];simp only [dl];rw [if_neg (by omega),Rat.div_def];grind
    · rename_i ek
      rw [e0]
      have:sg f p r k (q i)=dl k i:=by
       by_cases ep:k=p
       · rw [ep,sg_p,h.one i hi r (by omega)];simp only [dl];rw [if_neg (by omega),if_neg (by omega)]
       · rw [q9p ep ek];exact h.one i hi k hk
      rw [this,Rat.div_def];grind
   refine ⟨fun i=>if i=r then c else q i,⟨by simp only;omega,by simp only;omega,fun i hi=>?_,fun i hi k hk=>?_,fun i h1' h2' j hj=>?_,fun e i hi=>?_⟩⟩
   · simp only at hi ⊢;split
     · omega
     · have:=h.lt i (by omega);omega
   · simp only at hi ⊢
     by_cases ei:i=r
     · rw [if_pos ei,ei];exact hcol k
     · rw [if_neg ei];exact hold i (by omega) k hk
   · simp only at h1' ⊢
     by_cases ej:j=c
     · rw [ej,hcol];simp only [dl];rw [if_neg (by omega)]
     · have z1:=q9q (f:=f) (p:=p) (j:=j) (show r≤i by omega) h1 h2' h2 (fun i a b=>h.low i a b j (by omega))
       have z2:=q9q (f:=f) (p:=p) (j:=j) (show r≤r by omega) h1 (show r<m by omega) h2 (fun i a b=>h.low i a b j (by omega))
       simp only [st];rw [if_neg (by omega),z1,z2,Rat.div_def];grind
   · simp only at e hi ⊢
     by_cases ei:i=r
     · rw [if_pos ei];omega
     · rw [if_neg ei];exact h.full (by omega) i (by omega)
def Lr (m:Nat) (f:Mx) (v:Nat→Rat):Prop:=∃ e:Nat→Rat,∀ j,v j=sm m fun k=>e k*f k j
theorem Lr.row {m i:Nat} {f:Mx} (h:i<m):Lr m f (f i) :=
 ⟨dl i,fun j=>by rw [q9r h (fun k _ hk=>by simp only [dl];rw [if_neg (Ne.symm hk)];grind)];simp only [dl,if_pos];grind⟩
theorem Lr.mul {m:Nat} {f:Mx} {v:Nat→Rat} (c:Rat):Lr m f v→Lr m f (fun j=>c*v j)
 | ⟨e,h⟩=>⟨fun k=>c*e k,fun j=>by simp only;rw [h j,← q1z];exact z6f fun k _=>by grind⟩
theorem Lr.sub {m:Nat} {f:Mx} {v w:Nat→Rat}:Lr m f v→Lr m f w→Lr m f (fun j=>v j-w j)
 | ⟨e,h⟩,⟨e',h'⟩=>⟨fun k=>e k-e' k,fun j=>by simp only;rw [h j,h' j,← q9s];exact z6f fun k _=>by grind⟩
theorem Lr.cong {m:Nat} {f:Mx} {v w:Nat→Rat} (h:Lr m f v) (e:∀ j,w j=v j):Lr m f w:=by
 rw [show w=v from funext e];exact h
theorem Lr.mat {m:Nat} {f g:Mx} (k:∀ i,i<m→Lr m f (g i)):∃ E:Mx,∀ i,i<m→∀ j,g i j=mm m E f i j:=by
 have h:∀ i,∃ e:Nat→Rat,i<m→∀ j,g i j=sm m fun k=>e k*f k j:=fun i=>by
  by_cases hi:i<m
  · obtain ⟨e,he⟩:=k i hi
    exact ⟨e,fun _=>he⟩
  · exact ⟨fun _=>0,fun h=>absurd h hi⟩
 exact ⟨fun i=>(h i).choose,fun i hi j=>(h i).choose_spec hi j⟩
theorem Lr.trans {m:Nat} {f g:Mx} {v:Nat→Rat} (h:Lr m g v) (k:∀ i,i<m→Lr m f (g i)):Lr m f v:=by
 obtain ⟨e,h⟩:=h
 obtain ⟨E,hE⟩:=Lr.mat k
 refine ⟨fun b=>sm m fun a=>e a*E a b,fun j=>?_⟩
 rw [h j]
 rw [z6f (g:=fun a=>sm m fun b=>e a*E a b*f b j) (fun a ha=>by rw [hE a ha j];simp only [mm];rw [← q1z];exact z6f fun b _=>by grind),q3z]
 exact z6f fun b _=>q4a m _ _
theorem lr_e1 {m c:Nat} {f:Mx} {r:Nat} {d:Rat} (hr:r≤m):(∀ i,i<m→Lr m f ((e1 m c (f,r,d)).1 i))∧∀ i,i<m→Lr m (e1 m c (f,r,d)).1 (f i):=by
 rcases k5k m c f r d hr with ⟨e,hz⟩ | ⟨p,h1,h2,h3,e⟩
 · rw [e];exact ⟨fun i hi=>Lr.row hi,fun i hi=>Lr.row hi⟩
 · rw [e]
   have hg0:sg f p r r c≠0:=by rw [sg_r];exact h3
   have hrm:r<m:=by omega
   have hsg:∀ i,i<m→Lr m f (sg f p r i):=by
    intro i hi
    by_cases ep:i=p
    · rw [ep,sg_p];exact Lr.row hrm
    · by_cases er:i=r
      · rw [er,sg_r];exact Lr.row h2
      · rw [q9p ep er];exact Lr.row hi
   refine ⟨fun i hi=>?_,fun i hi=>?_⟩
   · by_cases er:i=r
     · refine ((hsg r hrm).mul (1 / sg f p r r c)).cong fun j=>?_
       simp only [st,if_pos er,Rat.div_def];grind
     · refine ((hsg i hi).sub ((hsg r hrm).mul (sg f p r i c / sg f p r r c))).cong fun j=>?_
       simp only [st,if_neg er,Rat.div_def];grind
   · have hback:∀ i,i<m→Lr m (st (sg f p r) r c) (sg f p r i):=by
      have hR:Lr m (st (sg f p r) r c) (fun j=>sg f p r r j / sg f p r r c):=(Lr.row (f:=st (sg f p r) r c) hrm).cong fun j=>by simp [st]
      intro i hi
      by_cases er:i=r
      · refine (hR.mul (sg f p r r c)).cong fun j=>?_
        rw [er,Rat.div_def];grind
      · refine ((Lr.row (f:=st (sg f p r) r c) hi).sub (hR.mul (-sg f p r i c))).cong fun j=>?_
        simp only [st,if_neg er];grind
     by_cases ep:i=p
     · rw [ep];exact (hback r hrm).cong fun j=>by rw [sg_r]
     · by_cases er:i=r
       · rw [er];exact (hback p h2).cong fun j=>by rw [sg_p]
       · exact (hback i hi).cong fun j=>by rw [q9p ep er]
def s0 (f:Mx):El:=(f,0,1)
def rk (m w:Nat) (f:Mx):Nat:=(el m w (s0 f)).2.1
def dtE (n:Nat) (f:Mx):Rat:=if rk n n f<n then 0 else (el n n (s0 f)).2.2
theorem x3b (m k:Nat) (s:El):el m (k+1) s=e1 m k (el m k s):=rfl
theorem rk_le (m w:Nat) (f:Mx):rk m w f≤m∧rk m w f≤w:=by
 obtain ⟨q,h⟩:=k1j m f w
 exact ⟨h.rm,h.rc⟩
theorem lr_el (m:Nat) (f:Mx) (k:Nat):(∀ i,i<m→Lr m f ((el m k (s0 f)).1 i))∧∀ i,i<m→Lr m (el m k (s0 f)).1 (f i):=by
 induction k with
 | zero=>exact ⟨fun i hi=>Lr.row hi,fun i hi=>Lr.row hi⟩
 | succ k ih =>
  obtain ⟨q,hq⟩:=k1j m f k
  rw [x3b]
  revert ih hq
  rw [show el m k (f,0,1)=el m k (s0 f) from rfl]
  generalize el m k (s0 f)=s
  obtain ⟨g,r,d⟩:=s
  intro ih hq
  have h:=lr_e1 (c:=k) (f:=g) (d:=d) hq.rm
  exact ⟨fun i hi=>(h.1 i hi).trans ih.1,fun i hi=>(ih.2 i hi).trans h.2⟩
theorem el_mat (m:Nat) (f:Mx) (k:Nat):(∃ E:Mx,∀ i,i<m→∀ j,(el m k (s0 f)).1 i j=mm m E f i j)∧∃ F:Mx,∀ i,i<m→∀ j,f i j=mm m F (el m k (s0 f)).1 i j :=
 ⟨Lr.mat (lr_el m f k).1,Lr.mat (lr_el m f k).2⟩
theorem v1a {m n:Nat} {f:Mx} (h:rk m n f=n) {i j:Nat} (hi:i<m) (hj:j<n):(el m n (s0 f)).1 i j=dl i j:=by
 obtain ⟨q,hq⟩:=k1j m f n
 have hr:(el m n (f,0,1)).2.1=n:=h
 have h2:=hq.one j (by rw [hr];exact hj) i hi
 rw [hq.full hr j (by rw [hr];exact hj)] at h2
 exact h2
def aug (n:Nat) (A B:Mx):Mx:=fun i j=>if j<n then A i j else B i (j-n)
def sol (n:Nat) (A B:Mx):Mx:=fun i j=>(el n n (s0 (aug n A B))).1 i (n+j)
theorem q6c {n i j:Nat} {A B:Mx} (h:j<n):aug n A B i j=A i j:=by simp only [aug,if_pos h]
theorem aug_r {n i j:Nat} {A B:Mx}:aug n A B i (n+j)=B i j:=by simp only [aug];rw [if_neg (by omega),Nat.add_sub_cancel_left]
theorem j3e {n:Nat} {A B:Mx} (h:rk n n (aug n A B)=n) {i j:Nat} (hi:i<n):mm n A (sol n A B) i j=B i j:=by
 obtain ⟨F,hF⟩:=(el_mat n (aug n A B) n).2
 rw [← aug_r (n:=n) (A:=A) (B:=B) (i:=i) (j:=j),hF i hi]
 refine z6f fun l hl=>?_
 have e:=hF i hi l
 rw [q6c hl,j8h (f':=F) (g':=dl) (fun _ _=>rfl) (fun a ha=>v1a h ha hl),mm_one hl] at e
 rw [e];rfl
theorem q8r {f:Mx} {σ:Nat→Nat} {c:Nat} (h:σ c=c):∀ k p,pv (fun i j=>f i (σ j)) c k p=pv f c k p
 | 0,p=>rfl
 | k+1,p=>by simp only [pv,h,q8r h k]
theorem e1_sel {m c:Nat} {f:Mx} {r:Nat} {d:Rat} {σ:Nat→Nat} (h:σ c=c):e1 m c (fun i j=>f i (σ j),r,d)=(fun i j=>(e1 m c (f,r,d)).1 i (σ j),(e1 m c (f,r,d)).2):=by
 simp only [e1,q8r h]
 split
 · refine Prod.ext (funext fun i=>funext fun j=>?_) (Prod.ext rfl ?_)
   · simp only [st,sg,h]
   · simp only [sg,h]
 · rfl
theorem q6u {m:Nat} {f:Mx} {σ:Nat→Nat}:∀ k,(∀ c,c<k→σ c=c)→el m k (s0 fun i j=>f i (σ j))=(fun i j=>(el m k (s0 f)).1 i (σ j),(el m k (s0 f)).2)
 | 0,_=>rfl
 | k+1,h=>by
  rw [x3b,q6u k (fun c hc=>h c (by omega)),x3b]
  exact e1_sel (h k (by omega))
theorem x2l {n:Nat} {A B:Mx}:rk n n (aug n A B)=rk n n A:=by
 have k:∀ C:Mx,rk n n (fun i j=>C i (if j<n then j else 0))=rk n n C:=fun C=>by
  unfold rk;rw [q6u (σ:=fun j=>if j<n then j else 0) n (fun c hc=>if_pos hc)]
 rw [← k,← k A]
 by_cases h0:n=0
 · subst h0;rfl
 · congr 1;funext i j
   split
   · rename_i h;rw [q6c h]
   · rw [q6c (by omega)]
theorem Sz.negif {x:Rat} {K:Nat} {p:Prop} [Decidable p] (h:Sz x K):Sz (if p then x else -x) K:=by
 split
 · exact h
 · exact h.neg
theorem sz_st {m w r c K:Nat} {g:Mx} (hr:r<m) (hc:c<w) (h:∀ i,i<m→∀ j,j<w→Sz (g i j) K):∀ i,i<m→∀ j,j<w→Sz (st g r c i j) (K*5):=by
 intro i hi j hj
 have h1:=(h r hr j hj).div (h r hr c hc)
 have h0:=h1.pos
 simp only [st]
 split
 · exact h1.mono (by omega)
 · exact ((h i hi j hj).sub ((h i hi c hc).mul h1)).mono (by omega)
theorem q9v {m w p r K:Nat} {f:Mx} (hp:p<m) (hr:r<m) (h:∀ i,i<m→∀ j,j<w→Sz (f i j) K):∀ i,i<m→∀ j,j<w→Sz (sg f p r i j) K:=by
 intro i hi j hj
 simp only [sg]
 split
 · exact h r hr j hj
 · split
   · exact h p hp j hj
   · exact h i hi j hj
theorem q0b {m w K:Nat} {f:Mx} (hK:1≤K) (h:∀ i,i<m→∀ j,j<w→Sz (f i j) K):∀ k,k≤w→(∀ i,i<m→∀ j,j<w→Sz ((el m k (s0 f)).1 i j) (K*5 ^ k))∧Sz (el m k (s0 f)).2.2 (K*5 ^ k)
 | 0,_=>⟨fun i hi j hj=>by simpa [el,s0] using h i hi j hj,by simpa [el,s0] using Sz.one.mono hK⟩
 | k+1,hk=>by
  have ih:=q0b hK h k (by omega)
  obtain ⟨q,hq⟩:=k1j m f k
  rw [x3b]
  revert ih hq
  rw [show el m k (f,0,1)=el m k (s0 f) from rfl]
  generalize el m k (s0 f)=s
  obtain ⟨g,r,d⟩:=s
  intro ih hq
  have e5:K*5 ^ (k+1)=K*5 ^ k*5:=by rw [Nat.pow_succ,Nat.mul_assoc]
  rw [e5]
  rcases k5k m k g r d hq.rm with ⟨e,hz⟩ | ⟨p,h1,h2,h3,e⟩
  · rw [e]
    exact ⟨fun i hi j hj=>(ih.1 i hi j hj).mono (by omega),ih.2.mono (by omega)⟩
  · rw [e]
    have z1:=q9v h2 (show r<m by omega) ih.1
    have z2:=sz_st (show r<m by omega) (show k<w by omega) z1
    have z3:=(Sz.negif (p:=p=r) ih.2).mul (z1 r (by omega) k (by omega))
    exact ⟨z2,z3.mono (by omega)⟩
theorem x9w {K:Nat}:∀ (n:Nat) (f:Nat→Rat),(∀ k,k<n→Sz (f k) K)→Sz (sm n f) ((K+1)*n+1)
 | 0,_,_=>Sz.zero.mono (by omega)
 | n+1,f,h=>((x9w n f fun k hk=>h k (by omega)).add (h n (by omega))).mono (by rw [Nat.mul_add];omega)
end Gb
namespace Gev
open Go Gb
variable {E:Env}
theorem A8 {α:Type} {l:List α} {i:Nat} {x:Option α} (h:l[i]?=x):l[(Int.toNat (i:Nat))]?=x:=by rw [Int.toNat_natCast];exact h
theorem y1m:1000000000≤Lim:=by rw [K3];omega
def tx (q:Rat):List DV:=[.str (B (decQ q))]
def rw' (c:Rat→List DV) (w:Nat) (v:Nat→Rat):RW:=(List.range w).map fun j=>c (v j)
def mx (c:Rat→List DV) (m w:Nat) (f:Mx):List (RW):=(List.range m).map fun i=>rw' c w (f i)
def rl (l:List (RW)):RW:=l.map fun x=>[DV.list x]
section
variable {c:Rat→List DV} {m w:Nat} {f g:Mx} {v u:Nat→Rat}
theorem C7:(rw' c w v).length=w:=by simp [rw']
theorem y2x:(mx c m w f).length=m:=by simp [mx]
theorem q9j {l:List (RW)}:(rl l).length=l.length:=by simp [rl]
theorem z4c {j:Nat} (h:j<w):(rw' c w v)[j]?=some (c (v j)):=by simp [rw',h]
theorem F9 {i:Nat} (h:i<m):(mx c m w f)[i]?=some (rw' c w (f i)):=by simp [mx,h]
theorem q9i {l:List (RW)} {i:Nat} {x:RW} (h:l[i]?=some x):(rl l)[i]?=some [.list x]:=by simp [rl,h]
theorem j6w {i:Nat} (h:i<m):(rl (mx c m w f))[i]?=some [.list (rw' c w (f i))]:=q9i (F9 h)
theorem z9y {k:Nat} (h:w≤k):(rw' c w v).take k=rw' c w v:=List.take_of_length_le (by rw [C7];exact h)
theorem j9v (h:∀ j,j<w→v j=u j):rw' c w v=rw' c w u:=by
 unfold rw';exact List.map_congr_left fun j hj=>by rw [h j (by simpa using hj)]
theorem H4 (h:∀ i,i<m→∀ j,j<w→f i j=g i j):mx c m w f=mx c m w g:=by
 unfold mx;exact List.map_congr_left fun i hi=>j9v (h i (by simpa using hi))
theorem y2e {α:Type} (n k:Nat) (h:Nat→α) (x:α):List.set ((List.range n).map h) k x=(List.range n).map fun j=>if j=k then x else h j:=by
 apply List.ext_getElem?
 intro j
 rw [List.getElem?_set]
 by_cases e:k=j
 · subst e
   by_cases hk:k<n
   · simp [hk]
   · simp [hk]
 · rw [if_neg e]
   by_cases hj:j<n
   · simp [hj,Ne.symm e]
   · simp [hj]
theorem rw_set {k:Nat} {x:Rat}:List.set (rw' c w v) k (c x)=rw' c w (fun j=>if j=k then x else v j):=by
 unfold rw';rw [y2e]
 exact List.map_congr_left fun j _=>by by_cases h:j=k <;> simp [h]
theorem mx_set {k:Nat}:List.set (mx c m w f) k (rw' c w v)=mx c m w (fun i j=>if i=k then v j else f i j):=by
 unfold mx;rw [y2e]
 exact List.map_congr_left fun i _=>by by_cases h:i=k <;> simp [h]
theorem z1c {k n:Nat} (h:w≤n) (e:∀ i,i<m→∀ j,j<w→g i j=if i=k then v j else f i j):List.set (mx c m w f) (Int.toNat (k:Nat)) ((rw' c w v).take n)=mx c m w g:=by
 rw [Int.toNat_natCast,z9y h,mx_set]
 exact H4 fun i hi j hj=>(e i hi j hj).symm
theorem y4o {k:Nat} {x:Rat} (e:∀ j,j<w→u j=if j=k then x else v j):List.set (rw' c w v) (Int.toNat (k:Nat)) (c x)=rw' c w u:=by
 rw [Int.toNat_natCast,rw_set]
 exact j9v fun j hj=>(e j hj).symm
theorem H5 {k n:Nat} (h:w≤n):List.set (mx c m w f) (Int.toNat (k:Nat)) ((rw' c w (f k)).take n)=mx c m w f :=
 z1c h fun i _ j _=>by split <;> simp_all
theorem q3x:rw' c w v++[c (v w)]=rw' c (w+1) v:=by
 unfold rw';rw [List.range_succ,List.map_append];rfl
theorem q3d:mx c m w f++[rw' c w (f m)]=mx c (m+1) w f:=by
 unfold mx;rw [List.range_succ,List.map_append];rfl
end
theorem j6x {w:Nat} {v:Nat→Rat}:∀ y∈rw' tx w v,y.length=1:=fun y hy=>by
 unfold rw' at hy
 obtain ⟨p,_,rfl⟩:=List.mem_map.1 hy;rfl
theorem Bq0:B (decQ 0)=⟨#[48]⟩:=by rw [j1s];rfl
theorem x5i {q:Rat}:B (decQ q)=⟨#[48]⟩↔q=0:=⟨fun h=>q6k (y1h (h.trans Bq0.symm)),fun h=>by rw [h,Bq0]⟩
theorem x7v:decQ 1=[49]:=by
 have:=y7p 1
 rw [show ((1:Int):Rat)=1 from rfl] at this
 rw [this,J0 (by decide)];exact z7o
theorem B_one:B (decQ 1)=⟨#[49]⟩:=by rw [x7v];rfl
end Gev
namespace Gev
open Go Gb
variable {E:Env}
attribute [local irreducible] Sz
theorem q3c (hlib:Lib E) {x y:Rat} {K L:Nat} (hx:Sz x K) (hy:Sz y L) (h:K+L+1≤Lim):Fn E z5d [.s (B (decQ x)),.s (B (decQ y))] (.s (B (decQ (x-y)))):=j5c (k3p hlib hx hy h)
theorem m_add (hlib:Lib E) {x y:Rat} {K L:Nat} (hx:Sz x K) (hy:Sz y L) (h:K+L+1≤Lim):Fn E y1j [.s (B (decQ x)),.s (B (decQ y))] (.s (B (decQ (x+y)))):=j4y (k3m hlib hx hy h)
theorem j2m (hlib:Lib E) {x y:Rat} {K L:Nat} (hx:Sz x K) (hy:Sz y L) (h:K+L≤Lim):Fn E z0v [.s (B (decQ x)),.s (B (decQ y))] (.s (B (decQ (x*y)))):=j5b (k3o hlib hx hy h)
theorem m_div (hlib:Lib E) {x y:Rat} {K L:Nat} (hx:Sz x K) (hy:Sz y L) (h:K+L≤Lim)(h0:y≠0):Fn E y1k [.s (B (decQ x)),.s (B (decQ y))] (.s (B (decQ (x / y)))):=j4z (k3n hlib hx hy h h0)
def g2 (f:Mx) (r:Nat) (x:Rat) (j:Nat):Mx:=fun i l=>if i=r then (if l<j then f r l / x else f r l) else f i l
def g4 (f:Mx) (r i:Nat) (y:Rat) (j:Nat):Mx:=fun a l=>if a=i then (if l<j then f i l-y*f r l else f i l) else f a l
def g3 (f:Mx) (r c i:Nat):Mx:=fun a l=>if a<i then (if a=r then f r l else f a l-f a c*f r l) else f a l
theorem g2_r {f:Mx} {r:Nat} {x:Rat} {j:Nat}:g2 f r x j r j=f r j:=by simp [g2]
theorem j4c {f:Mx} {r:Nat} {x:Rat} {j i l:Nat}:g2 f r x (j+1) i l=if i=r then (if l=j then f r j / x else g2 f r x j r l) else g2 f r x j i l:=by
 simp only [g2]
 by_cases h1:i=r
 · simp only [h1,if_true]
   by_cases h2:l=j
   · subst h2;simp
   · rw [if_neg h2]
     by_cases h3:l<j
     · rw [if_pos h3,if_pos (by omega)]
     · rw [if_neg h3,if_neg (by omega)]
 · simp only [h1,if_false]
theorem k4k {f:Mx} {r:Nat} {x:Rat} {i l:Nat}:g2 f r x 0 i l=f i l:=by
 simp only [g2];by_cases h:i=r <;> simp [h]
theorem y5b {f:Mx} {r:Nat} {x:Rat} {w i l:Nat} (h:l<w):g2 f r x w i l=if i=r then f r l / x else f i l:=by
 simp only [g2,h,if_true]
theorem g4_i {f:Mx} {r i:Nat} {y:Rat} {j:Nat}:g4 f r i y j i j=f i j:=by simp [g4]
theorem g4_r {f:Mx} {r i l:Nat} {y:Rat} {j:Nat} (h:r≠i):g4 f r i y j r l=f r l:=by simp [g4,h]
theorem j4e {f:Mx} {r i:Nat} {y:Rat} {j a l:Nat}:g4 f r i y (j+1) a l=if a=i then (if l=j then f i j-y*f r j else g4 f r i y j i l) else g4 f r i y j a l:=by
 simp only [g4]
 by_cases h1:a=i
 · simp only [h1,if_true]
   by_cases h2:l=j
   · subst h2;simp
   · rw [if_neg h2]
     by_cases h3:l<j
     · rw [if_pos h3,if_pos (by omega)]
     · rw [if_neg h3,if_neg (by omega)]
 · simp only [h1,if_false]
theorem k4n {f:Mx} {r i:Nat} {y:Rat} {a l:Nat}:g4 f r i y 0 a l=f a l:=by
 simp only [g4];by_cases h:a=i <;> simp [h]
theorem k5x {f:Mx} {r c i a l:Nat} (h:a<i):g3 f r c i a l=if a=r then f r l else f a l-f a c*f r l:=by simp only [g3,if_pos h]
theorem k5w {f:Mx} {r c i a l:Nat} (h:¬ a<i):g3 f r c i a l=f a l:=by simp only [g3,if_neg h]
theorem g3_i {f:Mx} {r c i l:Nat}:g3 f r c i i l=f i l:=k5w (by omega)
theorem g3_r {f:Mx} {r c i l:Nat}:g3 f r c i r l=f r l:=by
 by_cases h:r<i
 · rw [k5x h,if_pos rfl]
 · exact k5w h
theorem k4m {f:Mx} {r c a l:Nat}:g3 f r c 0 a l=f a l:=k5w (by omega)
theorem k4l {f:Mx} {r c i w a l:Nat} (h:i≠r) (hl:l<w):g4 (g3 f r c i) r i (f i c) w a l=g3 f r c (i+1) a l:=by
 simp only [g4,hl,if_true,g3_r,g3_i]
 by_cases h1:a=i
 · rw [if_pos h1,h1,k5x (by omega),if_neg h]
 · rw [if_neg h1]
   by_cases h2:a<i
   · rw [k5x h2,k5x (by omega)]
   · rw [k5w h2,k5w (by omega)]
theorem y4f {f:Mx} {r c i a l:Nat} (h:i=r∨f i c=0):g3 f r c (i+1) a l=g3 f r c i a l:=by
 by_cases h1:a=i
 · rw [h1,k5x (by omega),g3_i]
   by_cases h2:i=r
   · rw [if_pos h2,h2]
   · rw [if_neg h2]
     rcases h with h | h
     · exact absurd h h2
     · rw [h];grind
 · by_cases h2:a<i
   · rw [k5x h2,k5x (by omega)]
   · rw [k5w h2,k5w (by omega)]
theorem j4d {f:Mx} {r c m w i l:Nat} {x:Rat} (hx:f r c=x) (hc:c<w) (hi:i<m) (hl:l<w):g3 (g2 f r x w) r c m i l=st f r c i l:=by
 simp only [g3,hi,if_true,y5b hl,y5b hc,st,hx]
 by_cases h:i=r
 · simp [h]
 · simp [h]
theorem el_L1 {m w r c:Nat} {s:BA} {n ci:Int} {f:Mx} (hc:c<w) (hm:m≤1000):∀ k p,p+k=m →
    (pv f c k p<m→Lp E 1 A1 1 (I3 m (r:Nat) s (c:Nat) (p:Nat) n ci (mx tx m w f)) (.exit 2) (z0m m (r:Nat) s (c:Nat) n ci (pv f c k p:Nat) (mx tx m w f))) ∧
    (¬ pv f c k p<m→Lp E 1 A1 1 (I3 m (r:Nat) s (c:Nat) (p:Nat) n ci (mx tx m w f)) (.exit 1) (z3w m (r:Nat) s n ci (mx tx m w f)))
 | 0,p,h=>⟨fun hp=>by simp [pv] at hp;omega,fun _=>y5e (by omega)⟩
 | k+1,p,h=>by
  have g:=F9 (f:=f) (c:=tx) (w:=w) (show p<m by omega)
  have gc:(rw' tx w (f p))[c]?=some [.str (B (decQ (f p c)))]:=z4c hc
  by_cases e:f p c=0
  · have ep:pv f c (k+1) p=pv f c k (p+1):=by simp [pv,e]
    obtain ⟨a,b⟩:=el_L1 (r:=r) (s:=s) (n:=n) (ci:=ci) hc hm k (p+1) (by omega)
    rw [ep]
    exact ⟨fun hp=>z7w (by omega) (A8 g) ⟨by omega,by omega⟩ ⟨by omega,by omega⟩ (A8 gc) (x5i.2 e) C7 (H5 (Nat.le_refl _)) (wi (by omega)) (a hp),
     fun hp=>z7w (by omega) (A8 g) ⟨by omega,by omega⟩ ⟨by omega,by omega⟩ (A8 gc) (x5i.2 e) C7 (H5 (Nat.le_refl _)) (wi (by omega)) (b hp)⟩
  · have ep:pv f c (k+1) p=p:=by simp [pv,e]
    rw [ep]
    exact ⟨fun _=>y5f (by omega) (A8 g) ⟨by omega,by omega⟩ ⟨by omega,by omega⟩ (A8 gc) (fun x=>e (x5i.1 x)) C7 (H5 (Nat.le_refl _)),fun hp=>by omega⟩
theorem el_L2 (hlib:Lib E) {m w r c K:Nat} {s:BA} {x:Rat} {n ci:Int} {f:Mx} (hr:r<m) (hm:m≤1000) (hw:w≤1000) (hf:∀ j,j<w→Sz (f r j) K) (hx:Sz x K)(h0:x≠0) (hK:K+K≤Lim):∀ d j,j+d=w →
    Lp E 5 A1 2 (Y0 m (r:Nat) s (c:Nat) (B (decQ x)) n ci (w:Nat) (j:Nat) (mx tx m w (g2 f r x j))) (.exit 4) (z3x m (r:Nat) s (c:Nat) n ci (mx tx m w (g2 f r x w)))
 | 0,j,h=>by
  have hj:j=w:=by omega
  subst hj
  exact y5g (by omega)
 | d+1,j,h=>by
  have hj:j<w:=by omega
  have gj:(rw' tx w (g2 f r x j r))[j]?=some [.str (B (decQ (f r j)))]:=by rw [z4c hj,g2_r];rfl
  exact y8b (by omega) (A8 (F9 hr)) ⟨by omega,by omega⟩ ⟨by omega,by omega⟩ (A8 gj) (m_div hlib (hf j hj) hx hK h0) C7 (y4o (c:=tx) (u:=fun l=>if l=j then f r j / x else g2 f r x j r l) (fun _ _=>rfl)) (z1c (g:=g2 f r x (j+1)) (Nat.le_refl _) (fun i _ l _=>j4c)) (wi (by omega)) (el_L2 hlib hr hm hw hf hx h0 hK d (j+1) (by omega))
theorem el_L4 (hlib:Lib E) {m w r c i K L:Nat} {s:BA} {y:Rat} {n ci:Int} {f:Mx} (hr:r<m) (hi:i<m) (hne:r≠i) (hm:m≤1000) (hw:w≤1000) (hf:∀ j,j<w→Sz (f i j) K) (hg:∀ j,j<w→Sz (f r j) L) (hy:Sz y K) (hK:K+(K+L)+1≤Lim):∀ d j,j+d=w →
    Lp E 7 A1 4 (Y1 m (r:Nat) s (c:Nat) (i:Nat) (B (decQ y)) n ci (m:Nat) (i:Nat) (w:Nat) (j:Nat) (mx tx m w (g4 f r i y j))) (.exit 8) (z3z m (r:Nat) s (c:Nat) n ci (m:Nat) (i:Nat) (mx tx m w (g4 f r i y w)))
 | 0,j,h=>by
  have hj:j=w:=by omega
  subst hj
  exact y5i (by omega)
 | d+1,j,h=>by
  have hj:j<w:=by omega
  have gi:(rw' tx w (g4 f r i y j i))[j]?=some [.str (B (decQ (f i j)))]:=by rw [z4c hj,g4_i];rfl
  have gr:(rw' tx w (g4 f r i y j r))[j]?=some [.str (B (decQ (f r j)))]:=by rw [z4c hj,g4_r hne];rfl
  exact y8f (by omega) (A8 (F9 hi)) (A8 (F9 hr)) (by omega) ⟨by omega,by omega⟩ ⟨by omega,by omega⟩ (A8 gi) ⟨by omega,by omega⟩ ⟨by omega,by omega⟩ (A8 gr) (j2m hlib hy (hg j hj) (by omega)) (q3c hlib (hf j hj) (hy.mul (hg j hj)) hK) C7 C7 (y4o (c:=tx) (u:=fun l=>if l=j then f i j-y*f r j else g4 f r i y j i l) (fun _ _=>rfl)) (z1c (g:=g4 f r i y (j+1)) (Nat.le_refl _) (fun a _ l _=>j4e)) (z1c (g:=g4 f r i y (j+1)) (Nat.le_refl _) (fun a _ l _=>by
   by_cases e:a=r
   · rw [if_pos e,e,g4_r hne,g4_r hne]
   · rw [if_neg e])) (wi (by omega)) (el_L4 hlib hr hi hne hm hw hf hg hy hK d (j+1) (by omega))
theorem el_L3 (hlib:Lib E) {m w r c K L:Nat} {s:BA} {n ci:Int} {f:Mx} (hr:r<m) (hc:c<w) (hm:m≤1000) (hw:w≤1000) (hf:∀ i,i<m→∀ j,j<w→i≠r→Sz (f i j) K) (hg:∀ j,j<w→Sz (f r j) L) (hK:K+(K+L)+1≤Lim):∀ d i,i+d=m →
    Lp E 5 A1 3 (I4 m (r:Nat) s (c:Nat) n ci (m:Nat) (i:Nat) (mx tx m w (g3 f r c i))) (.exit 6) (z3y m (r:Nat) s n ci (mx tx m w (g3 f r c m)))
 | 0,i,h=>by
  have hi:i=m:=by omega
  subst hi
  exact y5h (by omega)
 | d+1,i,h=>by
  have hi:i<m:=by omega
  have ih:=el_L3 hlib (s:=s) (n:=n) (ci:=ci) hr hc hm hw hf hg hK d (i+1) (by omega)
  have gi:(rw' tx w (g3 f r c i i))[c]?=some [.str (B (decQ (f i c)))]:=by rw [z4c hc,g3_i];rfl
  by_cases e1:i=r
  · rw [H4 (f:=g3 f r c (i+1)) (g:=g3 f r c i) (fun a _ l _=>y4f (.inl e1))] at ih
    exact y8e (by omega) (A8 (F9 hi)) ⟨by omega,by omega⟩ ⟨by omega,by omega⟩ (A8 gi) (by omega) C7 (H5 (Nat.le_refl _)) (wi (by omega)) ih
  by_cases e2:f i c=0
  · rw [H4 (f:=g3 f r c (i+1)) (g:=g3 f r c i) (fun a _ l _=>y4f (.inr e2))] at ih
    exact y8d (by omega) (A8 (F9 hi)) ⟨by omega,by omega⟩ ⟨by omega,by omega⟩ (A8 gi) (by omega) (x5i.2 e2) C7 (H5 (Nat.le_refl _)) (wi (by omega)) ih
  · have h4:=el_L4 hlib (c:=c) (s:=s) (n:=n) (ci:=ci) (f:=g3 f r c i) (y:=f i c) hr hi (Ne.symm e1) hm hw (fun j hj=>by rw [g3_i];exact hf i hi j hj e1) (fun j hj=>by rw [g3_r];exact hg j hj) (hf i hi c hc e1) hK w 0 (by omega)
    rw [H4 (f:=g4 (g3 f r c i) r i (f i c) 0) (g:=g3 f r c i) (fun a _ l _=>k4n),H4 (f:=g4 (g3 f r c i) r i (f i c) w) (g:=g3 f r c (i+1)) (fun a _ l hl=>k4l e1 hl)] at h4
    exact y8c (by omega) (A8 (F9 hi)) ⟨by omega,by omega⟩ ⟨by omega,by omega⟩ (A8 gi) (by omega) (fun x=>e2 (x5i.1 x)) (A8 (F9 hi)) h4 C7 (H5 (Nat.le_refl _)) C7 (H5 (Nat.le_refl _)) (wi (by omega)) ih
theorem q6q (hlib:Lib E) {m w r c K:Nat} {s:BA} {x:Rat} {n ci:Int} {f:Mx} (hr:r<m) (hm:m≤1000) (hw:w≤1000) (hf:∀ j,j<w→Sz (f r j) K) (hx:Sz x K)(h0:x≠0) (hK:K+K≤Lim):∀ d j,j+d=w →
    Lp E 3 A1 2 (V2 m (r:Nat) s (c:Nat) (B (decQ x)) n ci (w:Nat) (j:Nat) (mx tx m w (g2 f r x j))) (.exit 4) (z2t m (r:Nat) s (c:Nat) n ci (mx tx m w (g2 f r x w)))
 | 0,j,h=>by
  have hj:j=w:=by omega
  subst hj
  exact y3l (by omega)
 | d+1,j,h=>by
  have hj:j<w:=by omega
  have gj:(rw' tx w (g2 f r x j r))[j]?=some [.str (B (decQ (f r j)))]:=by rw [z4c hj,g2_r];rfl
  exact y6c (by omega) (A8 (F9 hr)) ⟨by omega,by omega⟩ ⟨by omega,by omega⟩ (A8 gj) (m_div hlib (hf j hj) hx hK h0) C7 (y4o (c:=tx) (u:=fun l=>if l=j then f r j / x else g2 f r x j r l) (fun _ _=>rfl)) (z1c (g:=g2 f r x (j+1)) (Nat.le_refl _) (fun i _ l _=>j4c)) (wi (by omega)) (q6q hlib hr hm hw hf hx h0 hK d (j+1) (by omega))
theorem q6s (hlib:Lib E) {m w r c i K L:Nat} {s:BA} {y:Rat} {n ci:Int} {f:Mx} (hr:r<m) (hi:i<m) (hne:r≠i) (hm:m≤1000) (hw:w≤1000) (hf:∀ j,j<w→Sz (f i j) K) (hg:∀ j,j<w→Sz (f r j) L) (hy:Sz y K) (hK:K+(K+L)+1≤Lim):∀ d j,j+d=w →
    Lp E 5 A1 4 (V3 m (r:Nat) s (c:Nat) (i:Nat) (B (decQ y)) n ci (m:Nat) (i:Nat) (w:Nat) (j:Nat) (mx tx m w (g4 f r i y j))) (.exit 8) (z2v m (r:Nat) s (c:Nat) n ci (m:Nat) (i:Nat) (mx tx m w (g4 f r i y w)))
 | 0,j,h=>by
  have hj:j=w:=by omega
  subst hj
  exact y3n (by omega)
 | d+1,j,h=>by
  have hj:j<w:=by omega
  have gi:(rw' tx w (g4 f r i y j i))[j]?=some [.str (B (decQ (f i j)))]:=by rw [z4c hj,g4_i];rfl
  have gr:(rw' tx w (g4 f r i y j r))[j]?=some [.str (B (decQ (f r j)))]:=by rw [z4c hj,g4_r hne];rfl
  exact y6g (by omega) (A8 (F9 hi)) (A8 (F9 hr)) (by omega) ⟨by omega,by omega⟩ ⟨by omega,by omega⟩ (A8 gi) ⟨by omega,by omega⟩ ⟨by omega,by omega⟩ (A8 gr) (j2m hlib hy (hg j hj) (by omega)) (q3c hlib (hf j hj) (hy.mul (hg j hj)) hK) C7 C7 (y4o (c:=tx) (u:=fun l=>if l=j then f i j-y*f r j else g4 f r i y j i l) (fun _ _=>rfl)) (z1c (g:=g4 f r i y (j+1)) (Nat.le_refl _) (fun a _ l _=>j4e)) (z1c (g:=g4 f r i y (j+1)) (Nat.le_refl _) (fun a _ l _=>by
   by_cases e:a=r
   · rw [if_pos e,e,g4_r hne,g4_r hne]
   · rw [if_neg e])) (wi (by omega)) (q6s hlib hr hi hne hm hw hf hg hy hK d (j+1) (by omega))
theorem q6r (hlib:Lib E) {m w r c K L:Nat} {s:BA} {n ci:Int} {f:Mx} (hr:r<m) (hc:c<w) (hm:m≤1000) (hw:w≤1000) (hf:∀ i,i<m→∀ j,j<w→i≠r→Sz (f i j) K) (hg:∀ j,j<w→Sz (f r j) L) (hK:K+(K+L)+1≤Lim):∀ d i,i+d=m →
    Lp E 3 A1 3 (H3 m (r:Nat) s (c:Nat) n ci (m:Nat) (i:Nat) (mx tx m w (g3 f r c i))) (.exit 6) (z2u m (r:Nat) s n ci (mx tx m w (g3 f r c m)))
 | 0,i,h=>by
  have hi:i=m:=by omega
  subst hi
  exact y3m (by omega)
 | d+1,i,h=>by
  have hi:i<m:=by omega
  have ih:=q6r hlib (s:=s) (n:=n) (ci:=ci) hr hc hm hw hf hg hK d (i+1) (by omega)
  have gi:(rw' tx w (g3 f r c i i))[c]?=some [.str (B (decQ (f i c)))]:=by rw [z4c hc,g3_i];rfl
  by_cases e1:i=r
  · rw [H4 (f:=g3 f r c (i+1)) (g:=g3 f r c i) (fun a _ l _=>y4f (.inl e1))] at ih
    exact y6f (by omega) (A8 (F9 hi)) ⟨by omega,by omega⟩ ⟨by omega,by omega⟩ (A8 gi) (by omega) C7 (H5 (Nat.le_refl _)) (wi (by omega)) ih
  by_cases e2:f i c=0
  · rw [H4 (f:=g3 f r c (i+1)) (g:=g3 f r c i) (fun a _ l _=>y4f (.inr e2))] at ih
    exact y6e (by omega) (A8 (F9 hi)) ⟨by omega,by omega⟩ ⟨by omega,by omega⟩ (A8 gi) (by omega) (x5i.2 e2) C7 (H5 (Nat.le_refl _)) (wi (by omega)) ih
  · have h4:=q6s hlib (c:=c) (s:=s) (n:=n) (ci:=ci) (f:=g3 f r c i) (y:=f i c) hr hi (Ne.symm e1) hm hw (fun j hj=>by rw [g3_i];exact hf i hi j hj e1) (fun j hj=>by rw [g3_r];exact hg j hj) (hf i hi c hc e1) hK w 0 (by omega)
    rw [H4 (f:=g4 (g3 f r c i) r i (f i c) 0) (g:=g3 f r c i) (fun a _ l _=>k4n),H4 (f:=g4 (g3 f r c i) r i (f i c) w) (g:=g3 f r c (i+1)) (fun a _ l hl=>k4l e1 hl)] at h4
    exact y6d (by omega) (A8 (F9 hi)) ⟨by omega,by omega⟩ ⟨by omega,by omega⟩ (A8 gi) (by omega) (fun x=>e2 (x5i.1 x)) (A8 (F9 hi)) h4 C7 (H5 (Nat.le_refl _)) C7 (H5 (Nat.le_refl _)) (wi (by omega)) ih
theorem k4v {f:Mx} {p r a l:Nat}:sg f p r a l=if a=p then f r l else if a=r then f p l else f a l:=by
 simp only [sg];split
 · rfl
 · split <;> rfl
theorem el_L0 (hlib:Lib E) {m w n K:Nat} {f:Mx} (hn:n≤w) (hm:m≤1000) (hw:w≤1000) (hK1:1≤K) (hf:∀ i,i<m→∀ j,j<w→Sz (f i j) K) (hK:K*5 ^ n≤Lim):∀ k c,c+k=n →
    Lp E 1 A1 0 (I2 m ((el m c (s0 f)).2.1:Nat) (B (decQ (el m c (s0 f)).2.2)) (n:Nat) (c:Nat) (mx tx m w (el m c (s0 f)).1)) (.exit 0) (z3v ((el m n (s0 f)).2.1:Nat) (B (decQ (el m n (s0 f)).2.2)) (mx tx m w (el m n (s0 f)).1))
 | 0,c,h=>by
  have hc:c=n:=by omega
  subst hc
  exact y5d (by omega)
 | k+1,c,h=>by
  have ih:=el_L0 hlib hn hm hw hK1 hf hK k (c+1) (by omega)
  have z:=q0b hK1 hf c (by omega)
  have hK5:K*5 ^ c*5≤Lim:=by
   rw [Nat.mul_assoc,← Nat.pow_succ]
   exact Nat.le_trans (Nat.mul_le_mul_left _ (Nat.pow_le_pow_right (by omega) (by omega))) hK
  have hb1:1≤K*5 ^ c:=Nat.mul_pos hK1 (Nat.pow_pos (by omega))
  obtain ⟨q,hq⟩:=k1j m f c
  have hrm:=hq.rm
  rw [x3b] at ih
  change (el m c (s0 f)).2.1≤m at hrm
  revert ih z hrm
  generalize el m c (s0 f)=s
  generalize K*5 ^ c=Kc at hK5 hb1
  generalize el m n (s0 f)=sn
  obtain ⟨g,r,d⟩:=s
  intro ih z hrm
  simp only at ih z hrm ⊢
  obtain ⟨l1,l2⟩:=el_L1 (E:=E) (m:=m) (w:=w) (r:=r) (c:=c) (s:=B (decQ d)) (n:=(n:Nat)) (ci:=(c:Nat)) (f:=g) (by omega) hm (m-r) r (by omega)
  by_cases hp:pv g c (m-r) r<m
  · simp only [e1,if_pos hp] at ih
    have hp1:=(q3l g c (m-r) r).1
    have hp2:=q3m g c (m-r) r (by omega)
    replace l1:=l1 hp
    generalize pv g c (m-r) r=p at ih l1 hp hp1 hp2
    have hr:r<m:=by omega
    have hcw:c<w:=by omega
    have zG:=q9v hp hr z.1
    have hG0:sg g p r r c≠0:=by rw [sg_r];exact hp2
    have gP:(rw' tx w (sg g p r r))[c]?=some [.str (B (decQ (sg g p r r c)))]:=z4c hcw
    by_cases epr:p=r
    · have eG:sg g p r=g:=by funext i l;rw [k4v,epr];split <;> simp_all
      rw [if_pos epr,eG] at ih
      rw [eG] at zG hG0 gP
      have a2:=q6q hlib (c:=c) (s:=B (decQ (d*g r c))) (n:=(n:Nat)) (ci:=(c:Nat)) (f:=g) (x:=g r c) hr hm hw (zG r hr) (zG r hr c hcw) hG0 (by omega) w 0 (by omega)
      have a3:=q6r hlib (c:=c) (s:=B (decQ (d*g r c))) (n:=(n:Nat)) (ci:=(c:Nat)) (f:=g2 g r (g r c) w) (K:=Kc) (L:=Kc+Kc) hr hcw hm hw (fun i hi j hj hne=>by rw [y5b hj,if_neg hne];exact zG i hi j hj) (fun j hj=>by rw [y5b hj,if_pos rfl];exact (zG r hr j hj).div (zG r hr c hcw)) (by omega) m 0 (by omega)
      rw [H4 (f:=g2 g r (g r c) 0) (g:=g) (fun a _ l _=>k4k)] at a2
      rw [H4 (f:=g3 (g2 g r (g r c) w) r c 0) (g:=g2 g r (g r c) w) (fun a _ l _=>k4m),H4 (f:=g3 (g2 g r (g r c) w) r c m) (g:=st g r c) (fun a ha l hl=>j4d rfl hcw ha hl)] at a3
      exact y8a (by omega) l1 (by omega) (A8 (F9 hr)) ⟨by omega,by omega⟩ ⟨by omega,by omega⟩ (A8 gP) (j2m hlib z.2 (zG r hr c hcw) (by omega)) (A8 (F9 hr)) a2 a3 C7 (H5 (Nat.le_refl _)) C7 (H5 (Nat.le_refl _)) (wi (by omega)) (wi (by omega)) ih
    · rw [if_neg epr] at ih
      have hneg:(0:Rat)-d=-d:=by grind
      have a2:=el_L2 hlib (c:=c) (s:=B (decQ (-d*sg g p r r c))) (n:=(n:Nat)) (ci:=(c:Nat)) (f:=sg g p r) (x:=sg g p r r c) hr hm hw (zG r hr) (zG r hr c hcw) hG0 (by omega) w 0 (by omega)
      have a3:=el_L3 hlib (c:=c) (s:=B (decQ (-d*sg g p r r c))) (n:=(n:Nat)) (ci:=(c:Nat)) (f:=g2 (sg g p r) r (sg g p r r c) w) (K:=Kc) (L:=Kc+Kc) hr hcw hm hw (fun i hi j hj hne=>by rw [y5b hj,if_neg hne];exact zG i hi j hj) (fun j hj=>by rw [y5b hj,if_pos rfl];exact (zG r hr j hj).div (zG r hr c hcw)) (by omega) m 0 (by omega)
      rw [H4 (f:=g2 (sg g p r) r (sg g p r r c) 0) (g:=sg g p r) (fun a _ l _=>k4k)] at a2
      rw [H4 (f:=g3 (g2 (sg g p r) r (sg g p r r c) w) r c 0) (g:=g2 (sg g p r) r (sg g p r r c) w) (fun a _ l _=>k4m),H4 (f:=g3 (g2 (sg g p r) r (sg g p r r c) w) r c m) (g:=st (sg g p r) r c) (fun a ha l hl=>j4d rfl hcw ha hl)] at a3
      have hs:=q3c hlib (x:=0) (y:=d) (Sz.zero.mono hb1) z.2 (by omega)
      rw [hneg,Bq0] at hs
      exact y7z (by omega) l1 (by omega) (A8 (F9 hr)) (A8 (F9 hp)) (by omega) ⟨by omega,by omega⟩ ⟨by omega,by omega⟩ hs (A8 (F9 (f:=sg g p r) hr)) ⟨by omega,by omega⟩ (A8 gP) (j2m hlib z.2.neg (zG r hr c hcw) (by omega)) (A8 (F9 (f:=sg g p r) hr)) a2 a3 C7 C7 (z1c (g:=fun a l=>if a=r then g p l else g a l) (Nat.le_refl _) (fun _ _ _ _=>rfl)) (z1c (g:=sg g p r) (Nat.le_refl _) (fun a _ l _=>k4v)) C7 (H5 (Nat.le_refl _)) C7 (H5 (Nat.le_refl _)) (wi (by omega)) (wi (by omega)) ih
  · simp only [e1,if_neg hp] at ih
    exact y7y (by omega) (l2 hp) (wi (by omega)) ih
theorem y7r (hlib:Lib E) {m w n K:Nat} {f:Mx} (hn:n≤w) (hm:m≤1000) (hw:w≤1000) (hK1:1≤K) (hf:∀ i,i<m→∀ j,j<w→Sz (f i j) K) (hK:K*5 ^ n≤Lim) :
    Rn E A1 [.vec 0 m,.i (n:Nat)] [some (.mat A6 (mx tx m w f) [])] (.tup [.i ((el m n (s0 f)).2.1:Nat),.s (B (decQ (el m n (s0 f)).2.2))]) [some (.mat A6 (mx tx m w (el m n (s0 f)).1) [])]:=by
 have h:=el_L0 hlib hn hm hw hK1 hf hK n 0 (by omega)
 rw [show (el m 0 (s0 f))=s0 f from rfl] at h
 simp only [s0,B_one] at h
 exact x5x h
def qb (q:Rat):Bool:=decide (q.num<0)
def qn (q:Rat):RW:=Wr (words q.num.natAbs)
def qd (q:Rat):RW:=Wr (words q.den)
theorem z8t {w j:Nat} {v:Nat→Rat} {x:Rat} (h:j<w) (e:v j=x):(rw' Qr w v)[(Int.toNat (j:Nat))]?=some [.bool (qb x),.list (qn x),.list (qd x)]:=by
 rw [Int.toNat_natCast,z4c h,e];rfl
theorem y2f {x:Rat}:cmpI x.num 0=0↔x=0:=by rw [y2a,Rat.num_eq_zero]
theorem rd_L1 {m w r c:Nat} {n:Int} {f:Mx} {b0 b1:Bool} {r0 r1:RW} (hc:c<w) (hm:m≤1000):∀ k p,p+k=m →
    Lp E 3 A4 1 (z0s m n (r:Nat) (c:Nat) (p:Nat) (mx Qr m w f) b0 b1 r0 r1) (.exit 2) (z4h m n (r:Nat) (c:Nat) b0 b1 r0 r1 (pv f c k p:Nat) (mx Qr m w f))
 | 0,p,h=>x2f (by omega)
 | k+1,p,h=>by
  have hp:p<m:=by omega
  by_cases e:f p c=0
  · have ep:pv f c (k+1) p=pv f c k (p+1):=by simp [pv,e]
    rw [ep]
    exact x6y (A8 (F9 hp)) (by omega) ⟨by omega,by omega⟩ ⟨by omega,by omega⟩ (z8t hc rfl) (x3j _) (y2f.2 e) C7 (H5 (Nat.le_refl _)) (wi (by omega)) (rd_L1 hc hm k (p+1) (by omega))
  · have ep:pv f c (k+1) p=p:=by simp [pv,e]
    rw [ep]
    exact x2e (A8 (F9 hp)) (by omega) ⟨by omega,by omega⟩ ⟨by omega,by omega⟩ (z8t hc rfl) (x3j _) (fun x=>e (y2f.1 x)) C7 (H5 (Nat.le_refl _))
theorem rd_L2 {m w r c K:Nat} {x:Rat} {n:Int} {f:Mx} {b0 b1:Bool} {r0 r1:RW} (hr:r<m) (hm:m≤1000) (hw:w≤1000) (hf:∀ j,j<w→Sz (f r j) K) (hx:Sz x K) (hK:K+K≤Lim):∀ d j,j+d=w →
    Lp E 8 A4 2 (z3m m n (r:Nat) (c:Nat) (j:Nat) (mx Qr m w (g2 f r x j)) b0 b1 r0 r1 (qb x⁻¹) (qn x⁻¹) (qd x⁻¹)) (.exit 4) (z8j m n (r:Nat) (c:Nat) b0 b1 r0 r1 (qb x⁻¹) (qn x⁻¹) (qd x⁻¹) (mx Qr m w (g2 f r x w)))
 | 0,j,h=>by
  have hj:j=w:=by omega
  subst hj
  exact x2g (A8 (F9 hr)) ⟨by omega,by omega⟩ (by omega) C7 (H5 (Nat.le_refl _))
 | d+1,j,h=>by
  have hj:j<w:=by omega
  have hmul:Fn E K8 [.agg (Qr (f r j)),.agg (Qr x⁻¹)] (.agg (Qr (f r j / x))):=by
   rw [Rat.div_def];exact k1e (hf j hj) hx.inv (by omega)
  exact x6z (A8 (F9 hr)) ⟨by omega,by omega⟩ (by omega) (A8 (F9 hr)) ⟨by omega,by omega⟩ (z8t hj g2_r) hmul C7 (H5 (Nat.le_refl _)) C7 (y4o (c:=Qr) (u:=fun l=>if l=j then f r j / x else g2 f r x j r l) (fun _ _=>rfl)) (z1c (g:=g2 f r x (j+1)) (Nat.le_refl _) (fun i _ l _=>j4c)) (wi (by omega)) (rd_L2 hr hm hw hf hx hK d (j+1) (by omega))
theorem rd_L4 {m w r c i K L:Nat} {y x:Rat} {n:Int} {f:Mx} {b0 b1:Bool} {r0 r1:RW} (hr:r<m) (hi:i<m) (hne:r≠i) (hm:m≤1000) (hw:w≤1000) (hf:∀ j,j<w→Sz (f i j) K) (hg:∀ j,j<w→Sz (f r j) L) (hy:Sz y K) (hK:K+(K+L)+1≤Lim):∀ d j,j+d=w →
    Lp E 10 A4 4 (z3n m n (r:Nat) (c:Nat) (i:Nat) (j:Nat) (mx Qr m w (g4 f r i y j)) b0 b1 r0 r1 (qb x) (qn x) (qd x) (qb y) (qn y) (qd y)) (.exit 8) (z8l m n (r:Nat) (c:Nat) (i:Nat) b0 b1 r0 r1 (qb x) (qn x) (qd x) (qb y) (qn y) (qd y) (mx Qr m w (g4 f r i y w)))
 | 0,j,h=>by
  have hj:j=w:=by omega
  subst hj
  exact x2i (A8 (F9 hi)) ⟨by omega,by omega⟩ (by omega) C7 (H5 (Nat.le_refl _))
 | d+1,j,h=>by
  have hj:j<w:=by omega
  have hmul:Fn E K8 [.agg (Qr y),.agg (Qr (f r j))] (.agg (Qr (y*f r j))):=k1e hy (hg j hj) (by omega)
  have hsub:Fn E z7b [.agg (Qr (f i j)),.agg (Qr (y*f r j))] (.agg (Qr (f i j-y*f r j))):=q8y (hf j hj) (hy.mul (hg j hj)) (by omega)
  exact x7d (A8 (F9 hi)) ⟨by omega,by omega⟩ (by omega) (A8 (F9 hi)) (A8 (F9 hr)) (by omega) ⟨by omega,by omega⟩ (z8t hj g4_i) ⟨by omega,by omega⟩ ⟨by omega,by omega⟩ (z8t hj (g4_r hne)) hmul hsub C7 (H5 (Nat.le_refl _)) C7 C7 (y4o (c:=Qr) (u:=fun l=>if l=j then f i j-y*f r j else g4 f r i y j i l) (fun _ _=>rfl)) (z1c (g:=g4 f r i y (j+1)) (Nat.le_refl _) (fun a _ l _=>j4e)) (z1c (g:=g4 f r i y (j+1)) (Nat.le_refl _) (fun a _ l _=>by
   by_cases e:a=r
   · rw [if_pos e,e,g4_r hne,g4_r hne]
   · rw [if_neg e])) (wi (by omega)) (rd_L4 hr hi hne hm hw hf hg hy hK d (j+1) (by omega))
theorem rd_L3 {m w r c K L:Nat} {x:Rat} {n:Int} {f:Mx} {b0 b1:Bool} {r0 r1:RW} (hr:r<m) (hc:c<w) (hm:m≤1000) (hw:w≤1000) (hf:∀ i,i<m→∀ j,j<w→i≠r→Sz (f i j) K) (hg:∀ j,j<w→Sz (f r j) L) (hK:K+(K+L)+1≤Lim):∀ d i,i+d=m →
    Lp E 8 A4 3 (M7 m n (r:Nat) (c:Nat) (i:Nat) (mx Qr m w (g3 f r c i)) b0 b1 r0 r1 (qb x) (qn x) (qd x)) (.exit 6) (z8k m n (r:Nat) (c:Nat) b0 b1 r0 r1 (qb x) (qn x) (qd x) (mx Qr m w (g3 f r c m)))
 | 0,i,h=>by
  have hi:i=m:=by omega
  subst hi
  exact x2h (by omega)
 | d+1,i,h=>by
  have hi:i<m:=by omega
  have ih:=rd_L3 (n:=n) (b0:=b0) (b1:=b1) (r0:=r0) (r1:=r1) (x:=x) hr hc hm hw hf hg hK d (i+1) (by omega)
  by_cases e1:i=r
  · rw [H4 (f:=g3 f r c (i+1)) (g:=g3 f r c i) (fun a _ l _=>y4f (.inl e1))] at ih
    exact x7c (by omega) (A8 (F9 hi)) ⟨by omega,by omega⟩ ⟨by omega,by omega⟩ (z8t hc g3_i) (by omega) C7 (H5 (Nat.le_refl _)) (wi (by omega)) ih
  by_cases e2:f i c=0
  · rw [H4 (f:=g3 f r c (i+1)) (g:=g3 f r c i) (fun a _ l _=>y4f (.inr e2))] at ih
    exact x7b (by omega) (A8 (F9 hi)) ⟨by omega,by omega⟩ ⟨by omega,by omega⟩ (z8t hc g3_i) (by omega) (x3j _) (y2f.2 e2) C7 (H5 (Nat.le_refl _)) (wi (by omega)) ih
  · have h4:=rd_L4 (E:=E) (c:=c) (n:=n) (b0:=b0) (b1:=b1) (r0:=r0) (r1:=r1) (x:=x) (f:=g3 f r c i) (y:=f i c) hr hi (Ne.symm e1) hm hw (fun j hj=>by rw [g3_i];exact hf i hi j hj e1) (fun j hj=>by rw [g3_r];exact hg j hj) (hf i hi c hc e1) hK w 0 (by omega)
    rw [H4 (f:=g4 (g3 f r c i) r i (f i c) 0) (g:=g3 f r c i) (fun a _ l _=>k4n),H4 (f:=g4 (g3 f r c i) r i (f i c) w) (g:=g3 f r c (i+1)) (fun a _ l hl=>k4l e1 hl)] at h4
    exact x7a (by omega) (A8 (F9 hi)) ⟨by omega,by omega⟩ ⟨by omega,by omega⟩ (z8t hc g3_i) (by omega) (x3j _) (fun x=>e2 (y2f.1 x)) h4 C7 (H5 (Nat.le_refl _)) (wi (by omega)) ih
theorem q9e {m w r c K:Nat} {x:Rat} {n:Int} {f:Mx} {b0 b1:Bool} {r0 r1:RW} (hr:r<m) (hm:m≤1000) (hw:w≤1000) (hf:∀ j,j<w→Sz (f r j) K) (hx:Sz x K) (hK:K+K≤Lim):∀ d j,j+d=w →
    Lp E 6 A4 2 (z2d m n (r:Nat) (c:Nat) (j:Nat) (mx Qr m w (g2 f r x j)) b0 b1 r0 r1 (qb x⁻¹) (qn x⁻¹) (qd x⁻¹)) (.exit 4) (z6w m n (r:Nat) (c:Nat) b0 b1 r0 r1 (qb x⁻¹) (qn x⁻¹) (qd x⁻¹) (mx Qr m w (g2 f r x w)))
 | 0,j,h=>by
  have hj:j=w:=by omega
  subst hj
  exact y9z (A8 (F9 hr)) ⟨by omega,by omega⟩ (by omega) C7 (H5 (Nat.le_refl _))
 | d+1,j,h=>by
  have hj:j<w:=by omega
  have hmul:Fn E K8 [.agg (Qr (f r j)),.agg (Qr x⁻¹)] (.agg (Qr (f r j / x))):=by
   rw [Rat.div_def];exact k1e (hf j hj) hx.inv (by omega)
  exact x4s (A8 (F9 hr)) ⟨by omega,by omega⟩ (by omega) (A8 (F9 hr)) ⟨by omega,by omega⟩ (z8t hj g2_r) hmul C7 (H5 (Nat.le_refl _)) C7 (y4o (c:=Qr) (u:=fun l=>if l=j then f r j / x else g2 f r x j r l) (fun _ _=>rfl)) (z1c (g:=g2 f r x (j+1)) (Nat.le_refl _) (fun i _ l _=>j4c)) (wi (by omega)) (q9e hr hm hw hf hx hK d (j+1) (by omega))
theorem q9g {m w r c i K L:Nat} {y x:Rat} {n:Int} {f:Mx} {b0 b1:Bool} {r0 r1:RW} (hr:r<m) (hi:i<m) (hne:r≠i) (hm:m≤1000) (hw:w≤1000) (hf:∀ j,j<w→Sz (f i j) K) (hg:∀ j,j<w→Sz (f r j) L) (hy:Sz y K) (hK:K+(K+L)+1≤Lim):∀ d j,j+d=w →
    Lp E 8 A4 4 (z2e m n (r:Nat) (c:Nat) (i:Nat) (j:Nat) (mx Qr m w (g4 f r i y j)) b0 b1 r0 r1 (qb x) (qn x) (qd x) (qb y) (qn y) (qd y)) (.exit 8) (z6y m n (r:Nat) (c:Nat) (i:Nat) b0 b1 r0 r1 (qb x) (qn x) (qd x) (qb y) (qn y) (qd y) (mx Qr m w (g4 f r i y w)))
 | 0,j,h=>by
  have hj:j=w:=by omega
  subst hj
  exact x0b (A8 (F9 hi)) ⟨by omega,by omega⟩ (by omega) C7 (H5 (Nat.le_refl _))
 | d+1,j,h=>by
  have hj:j<w:=by omega
  have hmul:Fn E K8 [.agg (Qr y),.agg (Qr (f r j))] (.agg (Qr (y*f r j))):=k1e hy (hg j hj) (by omega)
  have hsub:Fn E z7b [.agg (Qr (f i j)),.agg (Qr (y*f r j))] (.agg (Qr (f i j-y*f r j))):=q8y (hf j hj) (hy.mul (hg j hj)) (by omega)
  exact x4w (A8 (F9 hi)) ⟨by omega,by omega⟩ (by omega) (A8 (F9 hi)) (A8 (F9 hr)) (by omega) ⟨by omega,by omega⟩ (z8t hj g4_i) ⟨by omega,by omega⟩ ⟨by omega,by omega⟩ (z8t hj (g4_r hne)) hmul hsub C7 (H5 (Nat.le_refl _)) C7 C7 (y4o (c:=Qr) (u:=fun l=>if l=j then f i j-y*f r j else g4 f r i y j i l) (fun _ _=>rfl)) (z1c (g:=g4 f r i y (j+1)) (Nat.le_refl _) (fun a _ l _=>j4e)) (z1c (g:=g4 f r i y (j+1)) (Nat.le_refl _) (fun a _ l _=>by
   by_cases e:a=r
   · rw [if_pos e,e,g4_r hne,g4_r hne]
   · rw [if_neg e])) (wi (by omega)) (q9g hr hi hne hm hw hf hg hy hK d (j+1) (by omega))
theorem q9f {m w r c K L:Nat} {x:Rat} {n:Int} {f:Mx} {b0 b1:Bool} {r0 r1:RW} (hr:r<m) (hc:c<w) (hm:m≤1000) (hw:w≤1000) (hf:∀ i,i<m→∀ j,j<w→i≠r→Sz (f i j) K) (hg:∀ j,j<w→Sz (f r j) L) (hK:K+(K+L)+1≤Lim):∀ d i,i+d=m →
    Lp E 6 A4 3 (K5 m n (r:Nat) (c:Nat) (i:Nat) (mx Qr m w (g3 f r c i)) b0 b1 r0 r1 (qb x) (qn x) (qd x)) (.exit 6) (z6x m n (r:Nat) (c:Nat) b0 b1 r0 r1 (qb x) (qn x) (qd x) (mx Qr m w (g3 f r c m)))
 | 0,i,h=>by
  have hi:i=m:=by omega
  subst hi
  exact x0a (by omega)
 | d+1,i,h=>by
  have hi:i<m:=by omega
  have ih:=q9f (n:=n) (b0:=b0) (b1:=b1) (r0:=r0) (r1:=r1) (x:=x) hr hc hm hw hf hg hK d (i+1) (by omega)
  by_cases e1:i=r
  · rw [H4 (f:=g3 f r c (i+1)) (g:=g3 f r c i) (fun a _ l _=>y4f (.inl e1))] at ih
    exact x4v (by omega) (A8 (F9 hi)) ⟨by omega,by omega⟩ ⟨by omega,by omega⟩ (z8t hc g3_i) (by omega) C7 (H5 (Nat.le_refl _)) (wi (by omega)) ih
  by_cases e2:f i c=0
  · rw [H4 (f:=g3 f r c (i+1)) (g:=g3 f r c i) (fun a _ l _=>y4f (.inr e2))] at ih
    exact x4u (by omega) (A8 (F9 hi)) ⟨by omega,by omega⟩ ⟨by omega,by omega⟩ (z8t hc g3_i) (by omega) (x3j _) (y2f.2 e2) C7 (H5 (Nat.le_refl _)) (wi (by omega)) ih
  · have h4:=q9g (E:=E) (c:=c) (n:=n) (b0:=b0) (b1:=b1) (r0:=r0) (r1:=r1) (x:=x) (f:=g3 f r c i) (y:=f i c) hr hi (Ne.symm e1) hm hw (fun j hj=>by rw [g3_i];exact hf i hi j hj e1) (fun j hj=>by rw [g3_r];exact hg j hj) (hf i hi c hc e1) hK w 0 (by omega)
    rw [H4 (f:=g4 (g3 f r c i) r i (f i c) 0) (g:=g3 f r c i) (fun a _ l _=>k4n),H4 (f:=g4 (g3 f r c i) r i (f i c) w) (g:=g3 f r c (i+1)) (fun a _ l hl=>k4l e1 hl)] at h4
    exact x4t (by omega) (A8 (F9 hi)) ⟨by omega,by omega⟩ ⟨by omega,by omega⟩ (z8t hc g3_i) (by omega) (x3j _) (fun x=>e2 (y2f.1 x)) h4 C7 (H5 (Nat.le_refl _)) (wi (by omega)) ih
def dR (c:Nat) (s:El):Rat:=if s.2.1=c then s.2.2 else 0
theorem rd_L0 {m w n K:Nat} {f:Mx} (hn:n≤w) (hm:m≤1000) (hw:w≤1000) (hK1:1≤K) (hf:∀ i,i<m→∀ j,j<w→Sz (f i j) K) (hK:K*5 ^ n≤Lim):∀ k c,c+k=n →
    Lp E 3 A4 0 (M6 m (n:Nat) ((el m c (s0 f)).2.1:Nat) (c:Nat) (mx Qr m w (el m c (s0 f)).1) false (qb (dR c (el m c (s0 f)))) (qn (dR c (el m c (s0 f)))) (qd (dR c (el m c (s0 f))))) (.exit 0) (z8i false ((el m n (s0 f)).2.1:Nat) (mx Qr m w (el m n (s0 f)).1) (qb (dR n (el m n (s0 f)))) (qn (dR n (el m n (s0 f)))) (qd (dR n (el m n (s0 f)))))
 | 0,c,h=>by
  have hc:c=n:=by omega
  subst hc
  exact x2d (by omega)
 | k+1,c,h=>by
  have ih:=rd_L0 hn hm hw hK1 hf hK k (c+1) (by omega)
  have z:=q0b hK1 hf c (by omega)
  have hK5:K*5 ^ c*5≤Lim:=by
   rw [Nat.mul_assoc,← Nat.pow_succ]
   exact Nat.le_trans (Nat.mul_le_mul_left _ (Nat.pow_le_pow_right (by omega) (by omega))) hK
  have hb1:1≤K*5 ^ c:=Nat.mul_pos hK1 (Nat.pow_pos (by omega))
  obtain ⟨q,hq⟩:=k1j m f c
  have hrm:=hq.rm
  have hrc:=hq.rc
  rw [x3b] at ih
  change (el m c (s0 f)).2.1≤m at hrm
  change (el m c (s0 f)).2.1≤c at hrc
  revert ih z hrm hrc
  generalize el m c (s0 f)=s
  generalize K*5 ^ c=Kc at hK5 hb1
  generalize el m n (s0 f)=sn
  obtain ⟨g,r,d⟩:=s
  intro ih z hrm hrc
  simp only at ih z hrm hrc ⊢
  have zd:Sz (dR c (g,r,d)) Kc:=by
   simp only [dR];split
   · exact z.2
   · exact Sz.zero.mono hb1
  have l1:=rd_L1 (E:=E) (m:=m) (w:=w) (r:=r) (c:=c) (n:=(n:Nat)) (b0:=false) (b1:=qb (dR c (g,r,d))) (r0:=qn (dR c (g,r,d))) (r1:=qd (dR c (g,r,d))) (f:=g) (by omega) hm (m-r) r (by omega)
  by_cases hp:pv g c (m-r) r<m
  · simp only [e1,if_pos hp] at ih
    have hp1:=(q3l g c (m-r) r).1
    have hp2:=q3m g c (m-r) r (by omega)
    generalize pv g c (m-r) r=p at ih l1 hp hp1 hp2
    have hr:r<m:=by omega
    have hcw:c<w:=by omega
    have zG:=q9v hp hr z.1
    have hG0:sg g p r r c≠0:=by rw [sg_r];exact hp2
    have ed:∀ (G:Mx) (y:Rat),dR (c+1) (G,r+1,(if p=r then d else -d)*y)=(if p=r then dR c (g,r,d) else -dR c (g,r,d))*y:=fun G y=>by
     simp only [dR]
     by_cases e:r=c
     · rw [if_pos (by omega),if_pos e]
     · rw [if_neg (by omega),if_neg e];split <;> grind
    rw [ed] at ih
    generalize hD:dR c (g,r,d)=D at ih zd l1
    by_cases epr:p=r
    · have eG:sg g p r=g:=by funext i l;rw [k4v,epr];split <;> simp_all
      rw [if_pos epr,eG] at ih
      rw [eG] at zG hG0
      have hmul:Fn E K8 [.agg (Qr D),.agg (Qr (g r c))] (.agg (Qr (D*g r c))):=k1e zd (zG r hr c hcw) (by omega)
      have hinv:Fn E z7a [.agg (Qr (g r c))] (.agg (Qr (g r c)⁻¹)):=q8w hG0
      have a2:=q9e (E:=E) (c:=c) (n:=(n:Nat)) (b0:=false) (b1:=qb (D*g r c)) (r0:=qn (D*g r c)) (r1:=qd (D*g r c)) (f:=g) (x:=g r c) hr hm hw (zG r hr) (zG r hr c hcw) (by omega) w 0 (by omega)
      have a3:=q9f (E:=E) (c:=c) (n:=(n:Nat)) (b0:=false) (b1:=qb (D*g r c)) (r0:=qn (D*g r c)) (r1:=qd (D*g r c)) (x:=(g r c)⁻¹) (f:=g2 g r (g r c) w) (K:=Kc) (L:=Kc+Kc) hr hcw hm hw (fun i hi j hj hne=>by rw [y5b hj,if_neg hne];exact zG i hi j hj) (fun j hj=>by rw [y5b hj,if_pos rfl];exact (zG r hr j hj).div (zG r hr c hcw)) (by omega) m 0 (by omega)
      rw [H4 (f:=g2 g r (g r c) 0) (g:=g) (fun a _ l _=>k4k)] at a2
      rw [H4 (f:=g3 (g2 g r (g r c) w) r c 0) (g:=g2 g r (g r c) w) (fun a _ l _=>k4m),H4 (f:=g3 (g2 g r (g r c) w) r c m) (g:=st g r c) (fun a ha l hl=>j4d rfl hcw ha hl)] at a3
      exact x6x (by omega) l1 (by omega) (by omega) (A8 (F9 hr)) ⟨by omega,by omega⟩ ⟨by omega,by omega⟩ (z8t hcw rfl) hmul (A8 (F9 hr)) ⟨by omega,by omega⟩ (z8t hcw rfl) hinv a2 a3 C7 (H5 (Nat.le_refl _)) C7 (H5 (Nat.le_refl _)) (wi (by omega)) (wi (by omega)) ih
    · rw [if_neg epr] at ih
      have hmul:Fn E K8 [.agg (Qr (-D)),.agg (Qr (sg g p r r c))] (.agg (Qr (-D*sg g p r r c))):=k1e zd.neg (zG r hr c hcw) (by omega)
      have hinv:Fn E z7a [.agg (Qr (sg g p r r c))] (.agg (Qr (sg g p r r c)⁻¹)):=q8w hG0
      have hneg:Fn E y0c [.agg (Qr D)] (.agg (Qr (-D))):=q8x D
      have a2:=rd_L2 (E:=E) (c:=c) (n:=(n:Nat)) (b0:=false) (b1:=qb (-D*sg g p r r c)) (r0:=qn (-D*sg g p r r c)) (r1:=qd (-D*sg g p r r c)) (f:=sg g p r) (x:=sg g p r r c) hr hm hw (zG r hr) (zG r hr c hcw) (by omega) w 0 (by omega)
      have a3:=rd_L3 (E:=E) (c:=c) (n:=(n:Nat)) (b0:=false) (b1:=qb (-D*sg g p r r c)) (r0:=qn (-D*sg g p r r c)) (r1:=qd (-D*sg g p r r c)) (x:=(sg g p r r c)⁻¹) (f:=g2 (sg g p r) r (sg g p r r c) w) (K:=Kc) (L:=Kc+Kc) hr hcw hm hw (fun i hi j hj hne=>by rw [y5b hj,if_neg hne];exact zG i hi j hj) (fun j hj=>by rw [y5b hj,if_pos rfl];exact (zG r hr j hj).div (zG r hr c hcw)) (by omega) m 0 (by omega)
      rw [H4 (f:=g2 (sg g p r) r (sg g p r r c) 0) (g:=sg g p r) (fun a _ l _=>k4k)] at a2
      rw [H4 (f:=g3 (g2 (sg g p r) r (sg g p r r c) w) r c 0) (g:=g2 (sg g p r) r (sg g p r r c) w) (fun a _ l _=>k4m),H4 (f:=g3 (g2 (sg g p r) r (sg g p r r c) w) r c m) (g:=st (sg g p r) r c) (fun a ha l hl=>j4d rfl hcw ha hl)] at a3
      exact x6w (by omega) l1 (by omega) (by omega) (A8 (F9 hr)) (A8 (F9 hp)) (by omega) ⟨by omega,by omega⟩ ⟨by omega,by omega⟩ hneg (A8 (F9 (f:=sg g p r) hr)) ⟨by omega,by omega⟩ (z8t hcw rfl) hmul (A8 (F9 (f:=sg g p r) hr)) ⟨by omega,by omega⟩ (z8t hcw rfl) hinv a2 a3 C7 C7 (z1c (g:=fun a l=>if a=r then g p l else g a l) (Nat.le_refl _) (fun _ _ _ _=>rfl)) (z1c (g:=sg g p r) (Nat.le_refl _) (fun a _ l _=>k4v)) C7 (H5 (Nat.le_refl _)) C7 (H5 (Nat.le_refl _)) (wi (by omega)) (wi (by omega)) ih
  · simp only [e1,if_neg hp] at ih
    have hz:dR (c+1) (g,r,d)=0:=by simp only [dR];rw [if_neg (by omega)]
    have h0:Fn E V0 [.c (.i64 0)] (.agg (Qr 0)):=q1o (z:=0) (by decide)
    rw [hz] at ih
    exact x6v (by omega) l1 (by omega) h0 (wi (by omega)) ih
theorem j2z {m w n K:Nat} {f:Mx} (hn:n≤w) (hm:m≤1000) (hw:w≤1000) (hK1:1≤K) (hf:∀ i,i<m→∀ j,j<w→Sz (f i j) K) (hK:K*5 ^ n≤Lim) :
    Rn E A4 [.vec 0 m,.i (n:Nat)] [some (.mat A5 (mx Qr m w f) [])] (.tup [.i ((el m n (s0 f)).2.1:Nat),.agg (Qr (dR n (el m n (s0 f))))]) [some (.mat A5 (mx Qr m w (el m n (s0 f)).1) [])]:=by
 have h:=rd_L0 (E:=E) hn hm hw hK1 hf hK n 0 (by omega)
 rw [show (el m 0 (s0 f))=s0 f from rfl] at h
 simp only [s0] at h
 have h1:Fn E V0 [.c (.i64 1)] (.agg (Qr 1)):=q1o (z:=1) (by decide)
 exact k8j h1 h
end Gev
namespace Gev
open Go Gb
variable {E:Env}
attribute [local irreducible] Sz
def tq (c:Rat→List DV) (n m:Nat) (F:Mx) (k i:Nat):List (RW):=(List.range n).map fun q=>if q<k then rw' c m (F q) else if q=k then rw' c i (F k) else []
section
variable {c:Rat→List DV} {n m k i:Nat} {F:Mx}
theorem j7b (h:k<n):(tq c n m F k i)[(Int.toNat (k:Nat))]?=some (rw' c i (F k)):=by
 rw [Int.toNat_natCast];simp [tq,h]
theorem j7c:List.set (tq c n m F k i) (Int.toNat (k:Nat)) (((rw' c i (F k)).take i++[c (F k i)]).take (i+1))=tq c n m F k (i+1):=by
 rw [Int.toNat_natCast,z9y (Nat.le_refl _),q3x,z9y (Nat.le_refl _)]
 unfold tq;rw [y2e]
 exact List.map_congr_left fun q _=>by
  by_cases h:q=k
  · simp [h]
  · simp [h]
theorem k4w:tq c n m F k m=tq c n m F (k+1) 0:=by
 unfold tq
 exact List.map_congr_left fun q _=>by
  by_cases h:q<k
  · rw [if_pos h,if_pos (by omega)]
  · rw [if_neg h]
    by_cases h2:q=k
    · rw [if_pos h2,if_pos (by omega),h2]
    · rw [if_neg h2,if_neg (by omega)];split <;> rfl
theorem k4x:(List.replicate n []:List (RW))=tq c n m F 0 0:=by
 unfold tq
 rw [List.map_congr_left (g:=fun _=>[]) fun q _=>by
  rw [if_neg (by omega)];split <;> rfl]
 rw [List.map_const',List.length_range]
theorem j7a:tq c n m F n 0=mx c n m F:=by
 unfold tq mx
 exact List.map_congr_left fun q hq=>by rw [if_pos (by simpa using hq)]
end
theorem rl_eq (l:List (RW)):List.map (fun x=>[DV.list x]) l=rl l:=rfl
theorem y8u {l:List (RW)} {n:Nat} (h:l.length≤n):(rl l).take n=rl l:=List.take_of_length_le (by rw [q9j];exact h)
theorem q0d {w j:Nat} {v:Nat→Rat} (h:j<w):(rw' tx w v)[(Int.toNat (j:Nat))]?=some [.str (B (decQ (v j)))]:=by rw [Int.toNat_natCast,z4c h];rfl
theorem rmI {c:Rat→List DV} {m w i:Nat} {f:Mx} (h:i<m):(rl (mx c m w f))[(Int.toNat (i:Nat))]?=some [.list (rw' c w (f i))]:=by rw [Int.toNat_natCast];exact j6w h
theorem z6z {c:Rat→List DV} {m w:Nat} {f:Mx}:(rl (mx c m w f)).length=m:=by rw [q9j,y2x]
theorem q7i (hlib:Lib E) {w w' K L:Nat} {v u:Nat→Rat} (hw:w≤w') (hw':w'≤1000) (hv:∀ j,j<w→Sz (v j) K) (hu:∀ j,j<w→Sz (u j) L) (h:(K+L+1)*w+1≤Lim):∀ d j,j+d=w →
    Lp E 0 Y5 0 (z5z (rw' tx w v) (rw' tx w' u) (B (decQ (sm j fun k=>v k*u k))) (w:Nat) (j:Nat)) (.exit 0) (y0z (B (decQ (sm w fun k=>v k*u k))))
 | 0,j,hj=>by
  have e:j=w:=by omega
  subst e
  exact x5w (by omega)
 | d+1,j,hj=>by
  have hs:=x9w j (fun k=>v k*u k) fun k hk=>(hv k (by omega)).mul (hu k (by omega))
  have hm:=(hv j (by omega)).mul (hu j (by omega))
  have hb:(K+L+1)*(j+1)≤(K+L+1)*w:=Nat.mul_le_mul_left _ (by omega)
  rw [Nat.mul_add] at hb
  exact k0v (by omega) (by omega) (q0d (by omega)) (q0d (by omega)) (j2m hlib (hv j (by omega)) (hu j (by omega)) (by omega)) (m_add hlib hs hm (by omega)) (wi (by omega)) (q7i hlib hw hw' hv hu h d (j+1) (by omega))
theorem m_dot (hlib:Lib E) {w w' K L:Nat} {v u:Nat→Rat} (hw:w≤w') (hw':w'≤1000) (hv:∀ j,j<w→Sz (v j) K) (hu:∀ j,j<w→Sz (u j) L) (h:(K+L+1)*w+1≤Lim):Fn E Y5 [.l (rw' tx w v),.l (rw' tx w' u)] (.s (B (decQ (sm w fun k=>v k*u k)))):=by
 have h:=q7i hlib hw hw' hv hu h w 0 (by omega)
 have e:B (decQ (sm 0 fun k=>v k*u k))=⟨#[48]⟩:=Bq0
 rw [e] at h
 exact j5a (by rw [C7];exact h)
theorem q7r {m w k:Nat} {f:Mx} {n i1:Int} (hk:k<w) (hm:m≤1000) (hw:w≤1000):∀ d i,i+d=m →
    Lp E 1 C6 1 (Y3 (rl (mx tx m w f)) w (k:Nat) n i1 (rl (mx tx m w f)) (m:Nat) (i:Nat) (tq tx w m (tp f) k i)) (.exit 2) (z4b (rl (mx tx m w f)) w n i1 (tq tx w m (tp f) k m))
 | 0,i,h=>by
  have e:i=m:=by omega
  subst e
  exact y5k (by omega)
 | d+1,i,h=>y8j (by omega) (by omega) (rmI (by omega)) (j7b hk) ⟨by omega,by omega⟩ (by omega) (q0d hk) ⟨by omega,by omega⟩ C7 rfl rfl j7c (wi (by omega)) (q7r hk hm hw d (i+1) (by omega))
theorem q7q {m w:Nat} {f:Mx} (hm:m≤1000) (hw:w≤1000):∀ d k,k+d=w →
    Lp E 1 C6 0 (Y2 (rl (mx tx m w f)) w (w:Nat) (k:Nat) (tq tx w m (tp f) k 0)) (.exit 0) (z4a w (tq tx w m (tp f) w 0))
 | 0,k,h=>by
  have e:k=w:=by omega
  subst e
  exact y5j (by omega)
 | d+1,k,h=>by
  have h1:=q7r (E:=E) (m:=m) (f:=f) (n:=(w:Nat)) (i1:=(k:Nat)) (show k<w by omega) hm hw m 0 (by omega)
  have h2:=q7q (f:=f) hm hw d (k+1) (by omega)
  rw [← k4w] at h2
  exact y8i (by omega) (by rw [z6z];exact h1) (wi (by omega)) h2
theorem y0k {m w:Nat} {f:Mx} (h1:1≤m) (hm:m≤1000) (hw:w≤1000):Fn E C6 [.l (rl (mx tx m w f))] (.l (rl (mx tx w m (tp f)))):=by
 have h:=q7q (E:=E) (f:=f) hm hw w 0 (by omega)
 rw [← k4x,j7a] at h
 exact x6a (j6w (by omega)) (by rw [C7];omega) h (by rw [C7];exact Int.toNat_natCast _) rfl rfl (y8u (by rw [y2x];omega))
theorem q7m (hlib:Lib E) {m k w i K L:Nat} {f g:Mx} {n i1:Int} (hi:i<m) (hm:m≤1000) (hk:k≤1000) (hw:w≤1000) (hf:∀ i,i<m→∀ j,j<k→Sz (f i j) K) (hg:∀ i,i<k→∀ j,j<w→Sz (g i j) L) (hK:(K+L+1)*k+1≤Lim):∀ d j,j+d=w →
    Lp E 1 D1 1 (z1b (rl (mx tx w k (tp g))) m (i:Nat) (rw' tx k (f i)) (rl (mx tx m k f)) n i1 (rl (mx tx w k (tp g))) (w:Nat) (j:Nat) (tq tx m w (mm k f g) i j)) (.exit 2) (z5r (rl (mx tx w k (tp g))) m (rl (mx tx m k f)) n i1 (tq tx m w (mm k f g) i w))
 | 0,j,h=>by
  have e:j=w:=by omega
  subst e
  exact y8h (by omega)
 | d+1,j,h=>x1f (by omega) (by omega) (rmI (by omega)) (j7b hi) ⟨by omega,by omega⟩ (m_dot hlib (Nat.le_refl _) hk (hf i hi) (fun l hl=>hg l hl j (by omega)) hK) ⟨by omega,by omega⟩ C7 rfl rfl j7c (wi (by omega)) (q7m hlib hi hm hk hw hf hg hK d (j+1) (by omega))
theorem q7l (hlib:Lib E) {m k w K L:Nat} {f g:Mx} (hm:m≤1000) (hk:k≤1000) (hw:w≤1000) (hf:∀ i,i<m→∀ j,j<k→Sz (f i j) K) (hg:∀ i,i<k→∀ j,j<w→Sz (g i j) L) (hK:(K+L+1)*k+1≤Lim):∀ d i,i+d=m →
    Lp E 1 D1 0 (z1a (rl (mx tx w k (tp g))) m (rl (mx tx m k f)) (m:Nat) (i:Nat) (tq tx m w (mm k f g) i 0)) (.exit 0) (z5q m (tq tx m w (mm k f g) m 0))
 | 0,i,h=>by
  have e:i=m:=by omega
  subst e
  exact y8g (by omega)
 | d+1,i,h=>by
  have h1:=q7m hlib (n:=(m:Nat)) (i1:=(i:Nat)) (show i<m by omega) hm hk hw hf hg hK w 0 (by omega)
  have h2:=q7l hlib hm hk hw hf hg hK d (i+1) (by omega)
  rw [← k4w] at h2
  exact x1e (by omega) (by omega) (rmI (by omega)) (by rw [z6z];exact h1) (wi (by omega)) h2
theorem k0p (hlib:Lib E) {m k w K L:Nat} {f g:Mx} (h1:1≤k) (hm:m≤1000) (hk:k≤1000) (hw:w≤1000) (hf:∀ i,i<m→∀ j,j<k→Sz (f i j) K) (hg:∀ i,i<k→∀ j,j<w→Sz (g i j) L) (hK:(K+L+1)*k+1≤Lim) :
    Fn E D1 [.l (rl (mx tx m k f)),.l (rl (mx tx k w g))] (.l (rl (mx tx m w (mm k f g)))):=by
 have h:=q7l hlib hm hk hw hf hg hK m 0 (by omega)
 rw [← k4x,j7a] at h
 exact k0w (y0k h1 hk hw) (by rw [z6z];omega) (by rw [z6z];exact h) (by rw [z6z];exact Int.toNat_natCast _) rfl rfl (y8u (by rw [y2x];omega))
end Gev
namespace Gev
open Go Gb
variable {E:Env}
attribute [local irreducible] Sz
structure Cl (E:Env):Prop where
 ra:∀ l:RW,(∀ x∈l,x.length=1)→l.length≤1000→Rn E z0b [.l l] [] (.vec 0 l.length) [some (.vec x2r l)]
 rr:∀ l:RW,(∀ x∈l,x.length=1)→l.length≤1000→Rn E z0w [.l l] [] (.vec 0 l.length) [some (.vec A6 l)]
section
variable {c:Rat→List DV} {n m w k i:Nat} {F A B:Mx} {v u:Nat→Rat}
theorem v2q (h:m≤k):List.set (tq c n m F i 0) (Int.toNat (i:Nat)) ((rw' c m (F i)).take k)=tq c n m F (i+1) 0:=by
 rw [Int.toNat_natCast,z9y h,← k4w]
 unfold tq;rw [y2e]
 exact List.map_congr_left fun q _=>by
  by_cases h:q=i
  · simp [h]
  · simp [h]
theorem rw_app:rw' c n v++rw' c w u=rw' c (n+w) (fun j=>if j<n then v j else u (j-n)):=by
 apply List.ext_getElem?
 intro j
 by_cases h:j<n
 · rw [List.getElem?_append_left (by rw [C7];exact h),z4c h,z4c (by omega),if_pos h]
 · rw [List.getElem?_append_right (by rw [C7];omega),C7]
   by_cases h2:j<n+w
   · rw [z4c (by omega),z4c h2,if_neg h]
   · rw [List.getElem?_eq_none (by rw [C7];omega),List.getElem?_eq_none (by rw [C7];omega)]
theorem v2c:List.drop n (rw' c (n+w) v)=rw' c w (fun j=>v (n+j)):=by
 apply List.ext_getElem?
 intro j
 rw [List.getElem?_drop]
 by_cases h:j<w
 · rw [z4c (by omega),z4c h]
 · rw [List.getElem?_eq_none (by rw [C7];omega),List.getElem?_eq_none (by rw [C7];omega)]
def sq (c:Rat→List DV) (n w:Nat) (A B:Mx) (i:Nat):List (RW):=(List.range n).map fun q=>if q<i then rw' c (n+w) (aug n A B q) else rw' c n (A q)
def dq (c:Rat→List DV) (n w:Nat) (S:Mx) (i:Nat):List (RW):=(List.range n).map fun q=>if q<i then rw' c w (fun j=>S q (n+j)) else rw' c (n+w) (S q)
theorem sq_get (h:i<n):(sq c n w A B i)[(Int.toNat (i:Nat))]?=some (rw' c n (A i)):=by rw [Int.toNat_natCast];simp [sq,h]
theorem sq_set:List.set (sq c n w A B i) (Int.toNat (i:Nat)) (((rw' c n (A i)).take n++rw' c w (B i)).take (n+w))=sq c n w A B (i+1):=by
 rw [Int.toNat_natCast,z9y (Nat.le_refl _),rw_app,z9y (Nat.le_refl _)]
 unfold sq;rw [y2e]
 exact List.map_congr_left fun q _=>by
  by_cases h:q=i
  · rw [if_pos h,if_pos (by omega),h];rfl
  · rw [if_neg h]
    by_cases h2:q<i
    · rw [if_pos h2,if_pos (by omega)]
    · rw [if_neg h2,if_neg (by omega)]
theorem v2i:sq c n w A B 0=mx c n n A:=by
 unfold sq mx;exact List.map_congr_left fun q _=>by rw [if_neg (by omega)]
theorem sq_end:sq c n w A B n=mx c n (n+w) (aug n A B):=by
 unfold sq mx;exact List.map_congr_left fun q hq=>by rw [if_pos (by simpa using hq)]
theorem dq_get (h:i<n):(rl (dq c n w F i))[(Int.toNat (i:Nat))]?=some [.list (rw' c (n+w) (F i))]:=by
 rw [Int.toNat_natCast];exact q9i (by simp [dq,h])
theorem dq_set:List.set (rl (dq c n w F i)) (Int.toNat (i:Nat)) [.list (rw' c w (fun j=>F i (n+j)))]=rl (dq c n w F (i+1)):=by
 rw [Int.toNat_natCast]
 unfold rl
 rw [← List.map_set (f:=fun x=>[DV.list x])]
 congr 1
 unfold dq;rw [y2e]
 exact List.map_congr_left fun q _=>by
  by_cases h:q=i
  · rw [if_pos h,if_pos (by omega),h]
  · rw [if_neg h]
    by_cases h2:q<i
    · rw [if_pos h2,if_pos (by omega)]
    · rw [if_neg h2,if_neg (by omega)]
theorem v0y:dq c n w F 0=mx c n (n+w) F:=by
 unfold dq mx;exact List.map_congr_left fun q _=>by rw [if_neg (by omega)]
theorem dq_end:dq c n w F n=mx c n w (fun i j=>F i (n+j)):=by
 unfold dq mx;exact List.map_congr_left fun q hq=>by rw [if_pos (by simpa using hq)]
end
theorem m_cpL (hc:Cl E) {m w:Nat} {f:Mx} (hm:m≤1000) (hw:w≤1000):∀ d i,i+d=m →
    Lp E 1 F8 0 (V1 m (rl (mx tx m w f)) (m:Nat) (i:Nat) (tq tx m w f i 0)) (.exit 0) (z2s m (tq tx m w f m 0))
 | 0,i,h=>by
  have e:i=m:=by omega
  subst e
  exact y3k (by omega)
 | d+1,i,h=>y6b (by omega) (by omega) (rmI (by omega)) (hc.ra (rw' tx w (f i)) j6x (by rw [C7];exact hw)) ⟨by omega,by omega⟩ (v2q (by rw [C7];exact Nat.le_refl _)) (wi (by omega)) (m_cpL hc hm hw d (i+1) (by omega))
theorem k6o (hc:Cl E) {m w:Nat} {f:Mx} (hm:m≤1000) (hw:w≤1000):Rn E F8 [.l (rl (mx tx m w f))] [] (.vec 0 m) [some (.mat A6 (mx tx m w f) [])]:=by
 have h:=m_cpL hc (f:=f) hm hw m 0 (by omega)
 rw [← k4x,j7a] at h
 exact y9p (by rw [z6z];omega) (by rw [z6z];exact h) (by rw [z6z];exact Int.toNat_natCast _) rfl
theorem q7o {n w:Nat} {A B:Mx} {i0:Int} (hn:n≤1000) (hw:w≤1000):∀ d i,i+d=n →
    Lp E 1 F0 0 (z3f (rl (mx tx n w B)) i0 n (n:Nat) (i:Nat) (sq tx n w A B i)) (.exit 0) (z7x i0 n (sq tx n w A B n))
 | 0,i,h=>by
  have e:i=n:=by omega
  subst e
  exact x1g (by omega)
 | d+1,i,h=>x5y (by omega) (sq_get (by omega)) ⟨by omega,by omega⟩ (by omega) (rmI (by omega)) j6x (by rw [C7];omega) C7 rfl (by rw [C7]) sq_set (wi (by omega)) (q7o hn hw d (i+1) (by omega))
theorem q7p {n w:Nat} {S:Mx} (hn:n≤1000) (hw:w≤1000):∀ d i,i+d=n →
    Lp E 1 F0 1 (z3g (n:Nat) n (n:Nat) (i:Nat) (rl (dq tx n w S i))) (.exit 2) (z7y n (rl (dq tx n w S n)))
 | 0,i,h=>by
  have e:i=n:=by omega
  subst e
  exact x1h (by omega)
 | d+1,i,h=>x5z (by omega) ⟨by omega,by omega⟩ (dq_get (by omega)) ⟨by omega,by rw [C7];omega,Int.le_refl _,j6x⟩ (by rw [C7,Int.toNat_natCast,Int.toNat_natCast,z9y (Nat.le_refl _),v2c]) dq_set (wi (by omega)) (q7p hn hw d (i+1) (by omega))
theorem j4k (hlib:Lib E) (hc:Cl E) {n w K:Nat} {A B:Mx} (hn:n≤500) (hw:w≤500) (hK1:1≤K) (hA:∀ i,i<n→∀ j,j<n→Sz (A i j) K) (hB:∀ i,i<n→∀ j,j<w→Sz (B i j) K) (hK:K*5 ^ n≤Lim) :
    Fn E F0 [.l (rl (mx tx n n A)),.l (rl (mx tx n w B))] (if rk n n A<n then .tup [.l [],.b false] else .tup [.l (rl (mx tx n w (sol n A B))),.b true]):=by
 have h1:=k6o hc (f:=A) (m:=n) (w:=n) (by omega) (by omega)
 have h2:=q7o (E:=E) (A:=A) (B:=B) (i0:=(n:Nat)) (n:=n) (w:=w) (by omega) (by omega) n 0 (by omega)
 rw [v2i,sq_end] at h2
 have h3:=y7r hlib (m:=n) (w:=n+w) (n:=n) (f:=aug n A B) (by omega) (by omega) (by omega) hK1 (fun i hi j hj=>by
  simp only [aug];split
  · rename_i h;exact hA i hi j h
  · exact hB i hi _ (by omega)) hK
 have e:(el n n (s0 (aug n A B))).2.1=rk n n A:=x2l (B:=B)
 rw [e] at h3
 split
 · rename_i hr
   exact k7d h1 (by rw [z6z];exact h2) (by rw [z6z];exact h3) (by rw [z6z];omega) rfl
 · rename_i hr
   have h5:=q7p (E:=E) (S:=(el n n (s0 (aug n A B))).1) (n:=n) (w:=w) (by omega) (by omega) n 0 (by omega)
   rw [v0y,dq_end] at h5
   exact k7e h1 (by rw [z6z];exact h2) (by rw [z6z];exact h3) (by rw [z6z];omega) (by rw [z6z];exact h5) rfl (y8u (by rw [y2x];omega))
theorem v2a {l:List (RW)} {x:RW}:rl l++[[.list x]]=rl (l++[x]):=by simp [rl]
theorem q7h {n:Nat} {v:Nat→Rat} (hn:n≤1000):∀ d i,i+d=n →
    Lp E 0 K0 0 (z2b i (rw' tx n v) (n:Nat) (i:Nat) (rl (mx tx i 1 fun i _=>v i))) (.exit 0) (z6q n (rl (mx tx n 1 fun i _=>v i)))
 | 0,i,h=>by
  have e:i=n:=by omega
  subst e
  exact y9o (by omega)
 | d+1,i,h=>x3s (by omega) (by omega) (q0d (by omega)) ⟨by omega,by omega⟩ rfl (by
     rw [y8u (by rw [y2x];exact Nat.le_refl _),v2a,← q3d];rfl) rfl (wi (by omega)) (q7h hn d (i+1) (by omega))
theorem j8e {n:Nat} {v:Nat→Rat} (hn:n≤1000):Fn E K0 [.l (rw' tx n v)] (.l (rl (mx tx n 1 fun i _=>v i))):=by
 have h:=q7h (E:=E) (v:=v) hn n 0 (by omega)
 exact k3c (by rw [C7];exact h) (y8u (by rw [y2x];exact Nat.le_refl _))
end Gev
namespace Gev
open Go Gb
variable {E:Env}
attribute [local irreducible] Sz
abbrev TR:=List (List UInt8)
abbrev TM:=List (List (List UInt8))
def R1 (l:TR):RW:=l.map fun p=>[.str (B p)]
theorem N5 (l:TR):(R1 l).length=l.length:=by simp [R1]
theorem y0v {l:TR} {i:Nat} {x} (h:l[i]?=some x):(R1 l)[(Int.toNat (i:Nat))]?=some [.str (B x)]:=by rw [Int.toNat_natCast];simp [R1,h]
theorem v0j (l:TR):∀ x∈R1 l,x.length=1:=fun x hx=>by obtain ⟨m,_,rfl⟩:=List.mem_map.1 hx;rfl
def T2 (a:TM):RW:=a.map fun r=>[.list (R1 r)]
theorem z0p (l:TM):(T2 l).length=l.length:=by simp [T2]
theorem z6l {l:TM} {i:Nat} {x} (h:l[i]?=some x):(T2 l)[(Int.toNat (i:Nat))]?=some [.list (R1 x)]:=by rw [Int.toNat_natCast];simp [T2,h]
theorem v0k (l:TM):∀ x∈T2 l,x.length=1:=fun x hx=>by obtain ⟨m,_,rfl⟩:=List.mem_map.1 hx;rfl
noncomputable def ok1 (l:List UInt8):Bool:=(rd l).isSome
noncomputable def rdv (p:List UInt8):Rat:=(rd p).getD 0
theorem v1k (q:Rat):ok1 (decQ q)=true:=by unfold ok1;rw [x3k];rfl
theorem j8j {l:List UInt8} (h:ok1 l=true):∃ q,l=decQ q:=by
 obtain ⟨x,hx⟩:=Option.isSome_iff_exists.1 h
 exact ⟨x,k4s hx⟩
theorem j5o (q:Rat):rdv (decQ q)=q:=by unfold rdv;rw [x3k];rfl
theorem v0x {l:List UInt8} (h:ok1 l=true):decQ (rdv l)=l:=by
 obtain ⟨q,rfl⟩:=j8j h
 rw [j5o]
theorem Sz_rdv {x:List UInt8} {K:Nat} (h:ok1 x=true) (k:x.length≤K):Sz (rdv x) K:=by
 obtain ⟨u,rfl⟩:=j8j h
 rw [j5o]
 exact Sz.of_len k
def tv (n:Nat) (v:Nat→Rat):TR:=(List.range n).map fun j=>decQ (v j)
def tm (m w:Nat) (f:Mx):TM:=(List.range m).map fun i=>tv w (f i)
theorem y3i {n:Nat} {v:Nat→Rat}:(tv n v).length=n:=by simp [tv]
theorem x7h {m w:Nat} {f:Mx}:(tm m w f).length=m:=by simp [tm]
theorem q2m {n:Nat} {v:Nat→Rat}:R1 (tv n v)=rw' tx n v:=by simp [R1,tv,rw',tx]
theorem q2n {m w:Nat} {f:Mx}:T2 (tm m w f)=rl (mx tx m w f):=by
 simp only [T2,tm,rl,mx,List.map_map]
 exact List.map_congr_left fun i _=>by simp [q2m]
theorem q0h {n:Nat} {v u:Nat→Rat} (h:∀ j,j<n→v j=u j):tv n v=tv n u:=by
 unfold tv;exact List.map_congr_left fun j hj=>by rw [h j (by simpa using hj)]
theorem q0e {m w:Nat} {f g:Mx} (h:∀ i,i<m→∀ j,j<w→f i j=g i j):tm m w f=tm m w g:=by
 unfold tm;exact List.map_congr_left fun i hi=>q0h (h i (by simpa using hi))
def hd1 (a:TM):TR:=a.headD []
noncomputable def chkE (a:TM):Int :=
 if a.length=0∨(hd1 a).length=0 then 9 else if 12<a.length∨12<(hd1 a).length then 8 else
 if (a.any fun r=>!decide (r.length=(hd1 a).length))=true then 10 else if (a.any fun r=>!r.all ok1)=true then 1 else 0
noncomputable def lstE (b:TR):Int:=if b.length=0∨12<b.length∨b.all ok1=false then 1 else 0
noncomputable def sqE (a:TM):Int:=if chkE a≠0 then chkE a else if a.length≠(hd1 a).length then 10 else 0
noncomputable def fm (a:TM):Mx:=fun i j=>rdv ((a.getD i []).getD j [])
noncomputable def fv (b:TR):Nat→Rat:=fun j=>rdv (b.getD j [])
theorem v0a {b:TR} (h:b.all ok1=true):b=tv b.length (fv b):=by
 apply List.ext_getElem?
 intro j
 unfold tv fv
 by_cases hj:j<b.length
 · have h1:ok1 b[j]=true:=List.all_eq_true.1 h _ (List.getElem_mem hj)
   simp [hj,v0x h1]
 · simp [hj]
structure Ok (a:TM) (m w:Nat):Prop where
 m1:1≤m
 m2:m≤12
 w1:1≤w
 w2:w≤12
 eq:a=tm m w (fm a)
 len:a.length=m
 hd:(hd1 a).length=w
theorem k8x {m w i:Nat} {f:Mx} (h:i<m):(tm m w f)[i]?=some (tv w (f i)):=by simp [tm,h]
theorem v0b {w j:Nat} {v:Nat→Rat} (h:j<w):(tv w v)[j]?=some (decQ (v j)):=by simp [tv,h]
theorem q6v {m w:Nat} {f:Mx} {i j:Nat} (hi:i<m) (hj:j<w):fm (tm m w f) i j=f i j:=by
 simp only [fm,List.getD_eq_getElem?_getD,k8x hi,Option.getD_some,v0b hj,j5o]
theorem hd_tm {m w:Nat} {f:Mx} (h:1≤m):hd1 (tm m w f)=tv w (f 0):=by
 unfold hd1
 have:=k8x (f:=f) (w:=w) (show 0<m by omega)
 cases e:tm m w f with
 | nil=>rw [e] at this;simp at this
 | cons x l=>rw [e] at this;simpa using this
theorem tv_ok {n:Nat} {v:Nat→Rat}:(tv n v).all ok1=true:=by
 rw [List.all_eq_true];intro x hx
 unfold tv at hx
 obtain ⟨j,_,rfl⟩:=List.mem_map.1 hx
 exact v1k _
theorem ok_tm {m w:Nat} {f:Mx} (m1:1≤m) (m2:m≤12) (w1:1≤w) (w2:w≤12):Ok (tm m w f) m w :=
 ⟨m1,m2,w1,w2,(q0e fun i hi j hj=>q6v hi hj).symm,x7h,by rw [hd_tm m1,y3i]⟩
theorem k1b {a:TM} (h:chkE a=0):Ok a a.length (hd1 a).length:=by
 unfold chkE at h
 split at h;· cases h
 split at h;· cases h
 split at h;· cases h
 split at h;· cases h
 rename_i h1 h2 h3 h4
 refine ⟨by omega,by omega,by omega,by omega,?_,rfl,rfl⟩
 rw [Bool.not_eq_true,List.any_eq_false] at h3 h4
 apply List.ext_getElem?
 intro i
 by_cases hi:i<a.length
 · have hm:=List.getElem_mem hi
   have e1:a[i].length=(hd1 a).length:=by simpa using h3 _ hm
   have e2:a[i].all ok1=true:=by simpa using h4 _ hm
   rw [k8x hi,List.getElem?_eq_getElem hi]
   have e3:=v0a e2
   rw [e1] at e3
   rw [e3]
   refine congrArg some (q0h fun j _=>?_)
   simp only [fv,fm,List.getD_eq_getElem?_getD,List.getElem?_eq_getElem hi,Option.getD_some]
 · rw [List.getElem?_eq_none (by omega),List.getElem?_eq_none (by rw [x7h];omega)]
theorem chk_ok {a:TM} {m w:Nat} (h:Ok a m w):chkE a=0:=by
 unfold chkE
 rw [if_neg (by have:=h.m1;have:=h.w1;rw [h.len,h.hd];omega),if_neg (by have:=h.m2;have:=h.w2;rw [h.len,h.hd];omega),if_neg,if_neg]
 · rw [Bool.not_eq_true,List.any_eq_false]
   intro r hr
   rw [h.eq] at hr
   obtain ⟨i,_,rfl⟩:=List.mem_map.1 hr
   rw [tv_ok];simp
 · rw [Bool.not_eq_true,List.any_eq_false]
   intro r hr
   rw [h.hd]
   rw [h.eq] at hr
   obtain ⟨i,_,rfl⟩:=List.mem_map.1 hr
   rw [y3i];simp
def Sh (K:Nat) (a:TM):Prop:=∀ r∈a,∀ x∈r,x.length≤K
def S1 (K:Nat) (b:TR):Prop:=∀ x∈b,x.length≤K
theorem Sh.at {K:Nat} {a:TM} (h:Sh K a) {i:Nat} {r:TR} (hi:a[i]?=some r):S1 K r:=h r (List.mem_of_getElem? hi)
theorem q0c {K:Nat} {b:TR} (h:b.all ok1=true) (hs:S1 K b) {j:Nat} (hj:j<b.length):Sz (fv b j) K:=by
 unfold fv
 rw [List.getD_eq_getElem?_getD,List.getElem?_eq_getElem hj,Option.getD_some]
 exact Sz_rdv (List.all_eq_true.1 h _ (List.getElem_mem hj)) (hs _ (List.getElem_mem hj))
theorem y9h {K:Nat} {a:TM} {m w:Nat} (h:Ok a m w) (hs:Sh K a):∀ i,i<m→∀ j,j<w→Sz (fm a i j) K:=by
 intro i hi j hj
 have hi':i<a.length:=by rw [h.len];exact hi
 have e:=k8x (w:=w) (f:=fm a) hi
 rw [← h.eq,List.getElem?_eq_getElem hi'] at e
 have e1:=Option.some.inj e
 have hx:=q6v (f:=fm a) hi hj
 have hl:j<(a[i]).length:=by rw [e1,y3i];exact hj
 have e2:a[i].all ok1=true:=by rw [e1];exact tv_ok
 have:=q0c e2 (hs _ (List.getElem_mem hi')) hl
 have e4:fv a[i] j=fm a i j:=by
  simp only [fv,fm,List.getD_eq_getElem?_getD,List.getElem?_eq_getElem hi',Option.getD_some]
 rwa [e4] at this
theorem sh_tm {m w K:Nat} {f:Mx} (h:∀ i,i<m→∀ j,j<w→Sz (f i j) K):Sh (2*K+2) (tm m w f):=by
 intro r hr x hx
 obtain ⟨i,hi,rfl⟩:=List.mem_map.1 hr
 obtain ⟨j,hj,rfl⟩:=List.mem_map.1 hx
 exact (h i (by simpa using hi) j (by simpa using hj)).len
theorem q1e {b:TR} (h:lstE b=0):b.all ok1=true∧1≤b.length∧b.length≤12:=by
 unfold lstE at h
 split at h
 · cases h
 · rename_i h1
   exact ⟨by cases e:b.all ok1 <;> simp_all,by omega,by omega⟩
theorem x7l {a:TM} {m w:Nat} (h:Ok a m w):T2 a=rl (mx tx m w (fm a)):=by rw [← q2n,← h.eq]
theorem R1_eq {b:TR} (h:b.all ok1=true):R1 b=rw' tx b.length (fv b):=by rw [← q2m,← v0a h]
theorem x7u {l:TR} (p:List UInt8→Bool) (hl:l.length≤100000) (h:∀ x∈l,Fn E G8 [.s (B x)] (.b (p x))):Fn E P0 [.l (R1 l),.fn G8 []] (.b (l.any p)):=by
 have h:=z7f (E:=E) (n:=0) (F:=F5) (k:=0) (l:=l) (fun _ x=>p x) (fun i=>I0 (R1 l) (l.length:Nat) (i:Nat)) (oe:=.exit 0) (fin:=z0l) (fun i _ o s=>o=.ret∧s=z0k (i:Nat))
  (y0s (by omega))
  (fun i x hx hp o s ih=>by
   have hi:=z7r hx
   have:=h x (List.mem_of_getElem? hx)
   rw [hp] at this
   exact y1y (by omega) (by omega) (y0v hx) this (wi (by omega)) ih)
  (fun i x hx hp=>by
   have hi:=z7r hx
   have:=h x (List.mem_of_getElem? hx)
   rw [hp] at this
   exact ⟨_,_,⟨rfl,rfl⟩,y0r (by omega) (by omega) (y0v hx) this⟩) l.length 0 (by omega)
 rcases h with ⟨h1,h2⟩ | ⟨j,x,_,_,_,h2,h3,_,⟨rfl,rfl⟩,h4⟩
 · have e:l.any p=false:=by
    rw [List.any_eq_false];intro x hx
    obtain ⟨j,hj⟩:=List.mem_iff_getElem?.1 hx
    rw [h1 j x (Nat.zero_le _) hj];simp
   rw [e]
   exact z3p (z4z (by rw [N5];exact h2)) (by omega)
 · have e:l.any p=true:=List.any_eq_true.2 ⟨x,List.mem_of_getElem? h2,h3⟩
   rw [e]
   exact z3o (z4y (by rw [N5];exact h4)) (by omega)
theorem j4l (hlib:Lib E) {l:TR} {K:Nat} (hl:l.length≤1000) (hs:S1 K l) (hK:K≤Lim):Fn E z1u [.l (R1 l)] (.b (l.all ok1)):=by
 have:=k7f (x7u (fun x=>!ok1 x) (by omega) fun x hx=>k0x (x8v hlib (Nat.le_trans (hs x hx) hK)))
 rwa [show (!l.any fun x=>!ok1 x)=l.all ok1 from by rw [List.all_eq_not_any_not]] at this
theorem q7k (hlib:Lib E) {l:TR} {K:Nat} (hl:l.length≤1000) (hs:S1 K l) (hK:K≤Lim):Fn E z1i [.l (R1 l)] (.i (lstE l)):=by
 have hv:=j4l (E:=E) hlib hl hs hK
 have e:=N5 l
 unfold lstE
 by_cases h0:l.length=0
 · rw [if_pos (.inl h0)];exact k9y (by omega)
 by_cases h1:12<l.length
 · rw [if_pos (.inr (.inl h1))];exact k9z (by omega) (by omega)
 cases c:l.all ok1 with
 | true=>rw [c] at hv;rw [if_neg (fun h=>by rcases h with h | h | h <;> first | omega | cases h)];exact j0a (by omega) (by omega) hv
 | false=>rw [c] at hv;rw [if_pos (by simp)];exact j0b (by omega) (by omega) hv
theorem x7m {a:TM} (h:0<a.length):(T2 a)[0]?=some [.list (R1 (hd1 a))]:=by
 cases a with
 | nil=>simp at h
 | cons r a=>rfl
theorem j4j (hlib:Lib E) {a:TM} {K:Nat} (hs:Sh K a) (hK:K≤Lim) (hl:a.length≤1000) (hr:∀ r∈a,r.length≤1000):Fn E B7 [.l (T2 a)] (.i (chkE a)):=by
 have e:=z0p a
 have eh:=N5 (hd1 a)
 unfold chkE
 by_cases h0:a.length=0
 · rw [if_pos (.inl h0)];exact k6q (by omega)
 have g:=x7m (a:=a) (by omega)
 by_cases h1:(hd1 a).length=0
 · rw [if_pos (.inr h1)];exact k6r (by omega) g (by omega)
 rw [if_neg (by omega)]
 by_cases h2:12<a.length
 · rw [if_pos (.inl h2)];exact k6s (by omega) g (by omega) (by omega)
 by_cases h3:12<(hd1 a).length
 · rw [if_pos (.inr h3)];exact k6t (by omega) g (by omega) (by omega) (by omega)
 rw [if_neg (by omega)]
 have l0:=z7f (E:=E) (n:=0) (F:=B7) (k:=0) (l:=a) (fun _ r=>!decide (r.length=(hd1 a).length)) (fun i=>X5 (T2 a) (T2 a) (a.length:Nat) (i:Nat)) (oe:=.exit 1) (fin:=z7t (T2 a)) (fun i _ o s=>o=.ret∧s=z7s)
  (x0y (by omega))
  (fun i r hx hp o s ih=>by
   have hi:=z7r hx
   have er:=N5 r
   exact x5q (by omega) (by omega) (z6l hx) g (by simp at hp;omega) (wi (by omega)) ih)
  (fun i r hx hp=>by
   have hi:=z7r hx
   have er:=N5 r
   exact ⟨_,_,⟨rfl,rfl⟩,x0x (by omega) (by omega) (z6l hx) g (by simp at hp;omega)⟩) a.length 0 (by omega)
 rcases l0 with ⟨l1,l2⟩ | ⟨j,x,_,_,_,l2,l3,_,⟨rfl,rfl⟩,l4⟩
 rotate_left
 · rw [if_pos (List.any_eq_true.2 ⟨x,List.mem_of_getElem? l2,l3⟩)]
   exact k6u (by omega) g (by omega) (by omega) (by omega) (by rw [z0p];exact l4)
 rw [if_neg (by
  rw [Bool.not_eq_true,List.any_eq_false];intro x hx
  obtain ⟨j,hj⟩:=List.mem_iff_getElem?.1 hx
  rw [l1 j x (Nat.zero_le _) hj];simp)]
 have k0:=z7f (E:=E) (n:=0) (F:=B7) (k:=1) (l:=a) (fun _ r=>!r.all ok1) (fun i=>X6 (T2 a) (a.length:Nat) (i:Nat)) (oe:=.exit 3) (fin:=z7v) (fun i _ o s=>o=.ret∧s=z7u)
  (x1a (by omega))
  (fun i r hx hp o s ih=>by
   have hi:=z7r hx
   have hv:=j4l (E:=E) hlib (hr r (List.mem_of_getElem? hx)) (hs.at hx) hK
   rw [show r.all ok1=true by simpa using hp] at hv
   exact x5r (by omega) (by omega) (z6l hx) hv (wi (by omega)) ih)
  (fun i r hx hp=>by
   have hi:=z7r hx
   have hv:=j4l (E:=E) hlib (hr r (List.mem_of_getElem? hx)) (hs.at hx) hK
   rw [show r.all ok1=false by simpa using hp] at hv
   exact ⟨_,_,⟨rfl,rfl⟩,x0z (by omega) (by omega) (z6l hx) hv⟩) a.length 0 (by omega)
 rcases k0 with ⟨k1,k2⟩ | ⟨j,x,_,_,_,k2,k3,_,⟨rfl,rfl⟩,k4⟩
 rotate_left
 · rw [if_pos (List.any_eq_true.2 ⟨x,List.mem_of_getElem? k2,k3⟩)]
   exact k6v (by omega) g (by omega) (by omega) (by omega) (by rw [z0p];exact l2) (by rw [z0p];exact k4)
 rw [if_neg (by
  rw [Bool.not_eq_true,List.any_eq_false];intro x hx
  obtain ⟨j,hj⟩:=List.mem_iff_getElem?.1 hx
  rw [k1 j x (Nat.zero_le _) hj];simp)]
 exact k6w (by omega) g (by omega) (by omega) (by omega) (by rw [z0p];exact l2) (by rw [z0p];exact k2)
theorem q7n (hlib:Lib E) {a:TM} {K:Nat} (hs:Sh K a) (hK:K≤Lim) (hl:a.length≤1000) (hr:∀ r∈a,r.length≤1000):Fn E X3 [.l (T2 a)] (.i (sqE a)):=by
 have h:=j4j (E:=E) hlib hs hK hl hr
 have e:=z0p a
 have eh:=N5 (hd1 a)
 unfold sqE
 by_cases c:chkE a=0
 · have ho:=k1b c
   have g:=x7m (a:=a) (by have:=ho.m1;omega)
   rw [if_neg (by omega)]
   by_cases c2:a.length=(hd1 a).length
   · rw [if_neg (by omega)];exact k3f h c g (by omega)
   · rw [if_pos c2];exact k3e h c g (by omega)
 · rw [if_pos c];exact k3d h c
structure Sm (K:Nat) (a:TM):Prop where
 sh:Sh K a
 l:a.length≤1000
 r:∀ x∈a,x.length≤1000
 few:chkE a=0→a.length≤5∧(hd1 a).length≤5
theorem pow5 {K n:Nat} (hK:K≤100000) (hn:n≤5):K*5 ^ n≤Lim :=
 Nat.le_trans (Nat.mul_le_mul hK (Nat.pow_le_pow_right (by omega) hn)) (Nat.le_trans (by decide) y1m)
theorem y5a {K:Nat} {a:TM} (h:Sm K a) (c:chkE a=0):Ok a a.length (hd1 a).length∧a.length≤5∧(hd1 a).length≤5:=⟨k1b c,h.few c⟩
theorem j2l (hlib:Lib E) {a:TM} {K:Nat} (h:Sm K a) (hK:K≤100000):Fn E B7 [.l (T2 a)] (.i (chkE a)):=j4j hlib h.sh (by have:=y1m;omega) h.l h.r
theorem m_sqr (hlib:Lib E) {a:TM} {K:Nat} (h:Sm K a) (hK:K≤100000):Fn E X3 [.l (T2 a)] (.i (sqE a)):=q7n hlib h.sh (by have:=y1m;omega) h.l h.r
theorem q2b {a:TM} (h:sqE a=0):chkE a=0∧a.length=(hd1 a).length:=by
 unfold sqE at h
 split at h
 · contradiction
 · split at h
   · cases h
   · omega
noncomputable def mulR (a b:TM):TM × Int :=
 if chkE a≠0 then ([],chkE a) else if chkE b≠0 then ([],chkE b) else if (hd1 a).length≠b.length then ([],10) else (tm a.length (hd1 b).length (mm b.length (fm a) (fm b)),0)
noncomputable def trR (a:TM):TM × Int:=if chkE a≠0 then ([],chkE a) else (tm (hd1 a).length a.length (tp (fm a)),0)
noncomputable def detR (a:TM):List UInt8 × Int:=if sqE a≠0 then ([],sqE a) else (decQ (dtE a.length (fm a)),0)
noncomputable def rkR (a:TM):Int × Int:=if chkE a≠0 then (0,chkE a) else ((rk a.length (hd1 a).length (fm a):Nat),0)
def sv (n:Nat) (f:Mx) (v:Nat→Rat):Nat→Rat:=fun i=>sol n f (fun i _=>v i) i 0
noncomputable def solR (a:TM) (b:TR):TR × Int :=
 if chkE a≠0 then ([],chkE a) else if lstE b≠0 then ([],lstE b) else if a.length≠(hd1 a).length∨b.length≠a.length then ([],10) else
 if rk a.length a.length (fm a)<a.length then ([],18) else (tv a.length (sv a.length (fm a) (fv b)),0)
noncomputable def invR (a:TM):TM × Int :=
 if sqE a≠0 then ([],sqE a) else if rk a.length a.length (fm a)<a.length then ([],18) else (tm a.length a.length (sol a.length (fm a) dl),0)
def gm (m:Nat) (f:Mx):Mx:=mm m (tp f) f
def gv (m:Nat) (f:Mx) (v:Nat→Rat):Nat→Rat:=fun i=>sm m fun k=>f k i*v k
def df (w:Nat) (f:Mx) (x v:Nat→Rat) (i:Nat):Rat:=(sm w fun k=>f i k*x k)-v i
def ss (m w:Nat) (f:Mx) (x v:Nat→Rat):Rat:=sm m fun i=>df w f x v i*df w f x v i
def fx (m w:Nat) (f:Mx) (v:Nat→Rat):Nat→Rat:=sv w (gm m f) (gv m f v)
noncomputable def fitR (a:TM) (b:TR):TR × List UInt8 × Int :=
 if chkE a≠0 then ([],[],chkE a) else if lstE b≠0 then ([],[],lstE b) else if b.length≠a.length then ([],[],10) else
 if rk (hd1 a).length (hd1 a).length (gm a.length (fm a))<(hd1 a).length then ([],[],18) else
 (tv (hd1 a).length (fx a.length (hd1 a).length (fm a) (fv b)),decQ (ss a.length (hd1 a).length (fm a) (fx a.length (hd1 a).length (fm a) (fv b)) (fv b)),0)
theorem m_Mul (hlib:Lib E) {a b:TM} {K:Nat} (ha:Sm K a) (hb:Sm K b) (hK:K≤100000):Fn E N7 [.l (T2 a),.l (T2 b)] (.tup [.l (T2 (mulR a b).1),.i (mulR a b).2]):=by
 have h1:=j2l (E:=E) hlib ha hK
 have h2:=j2l (E:=E) hlib hb hK
 have hLim:=y1m
 unfold mulR
 by_cases c1:chkE a=0
 rotate_left
 · rw [if_pos c1]
   exact x8j (y2w (by decide) ⟨by decide,by decide⟩ rfl h1 c1)
 rw [if_neg (by omega)]
 by_cases c2:chkE b=0
 rotate_left
 · rw [if_pos c2]
   exact x8j (z9d (by decide) ⟨by decide,by decide⟩ rfl h1 c1 (i4:=1) rfl (y2w (by decide) ⟨by decide,by decide⟩ rfl h2 c2))
 rw [if_neg (by omega)]
 obtain ⟨oa,fa⟩:=y5a ha c1
 obtain ⟨ob,fb⟩:=y5a hb c2
 have L:=z9d (r0:=T2 a) (r1:=T2 b) (r2:=[[.l (T2 a)],[.l (T2 b)]]) (n0:=2) (i0:=2) (i1:=0) (by decide) ⟨by decide,by decide⟩ rfl h1 c1 (i4:=1) rfl (z9d (by decide) ⟨by decide,by decide⟩ rfl h2 c2 (i4:=2) rfl (x5t (by decide)))
 have g:=x7m (a:=a) (by have:=oa.m1;omega)
 have e1:=N5 (hd1 a)
 have e2:=z0p b
 by_cases c3:(hd1 a).length=b.length
 · rw [if_neg (by omega)]
   refine j4x L g (by omega) ?_
   rw [x7l oa,x7l ob,q2n,c3]
   refine k0p hlib ob.m1 (by have:=oa.m2;omega) (by have:=ob.m2;omega) (by have:=ob.w2;omega) (fun i hi j hj=>y9h oa ha.sh i hi j (by omega)) (y9h ob hb.sh) ?_
   have:(K+K+1)*b.length≤200001*5:=Nat.mul_le_mul (by omega) (by omega)
   omega
 · rw [if_pos c3]
   exact j4w L g (by omega)
theorem j8d (hlib:Lib E) {a:TM} {K:Nat} (ha:Sm K a) (hK:K≤100000):Fn E z2k [.l (T2 a)] (.tup [.l (T2 (trR a).1),.i (trR a).2]):=by
 have h1:=j2l (E:=E) hlib ha hK
 unfold trR
 by_cases c1:chkE a=0
 · rw [if_neg (by omega)]
   obtain ⟨oa,fa⟩:=y5a ha c1
   refine x5v h1 c1 ?_
   rw [x7l oa,q2n]
   exact y0k oa.m1 (by have:=oa.m2;omega) (by have:=oa.w2;omega)
 · rw [if_pos c1];exact x5u h1 c1
theorem m_Det (hlib:Lib E) (hc:Cl E) {a:TM} {K:Nat} (hK1:1≤K) (ha:Sm K a) (hK:K≤100000):Fn E z5c [.l (T2 a)] (.tup [.s (B (detR a).1),.i (detR a).2]):=by
 have h1:=m_sqr (E:=E) hlib ha hK
 unfold detR
 by_cases c1:sqE a=0
 · rw [if_neg (by omega)]
   obtain ⟨c2,c3⟩:=q2b c1
   obtain ⟨oa,fa⟩:=y5a ha c2
   rw [← c3] at oa
   have h2:=k6o hc (m:=a.length) (w:=a.length) (f:=fm a) (by omega) (by omega)
   have h3:=y7r (E:=E) hlib (m:=a.length) (w:=a.length) (n:=a.length) (Nat.le_refl _) (by omega) (by omega) hK1 (y9h oa ha.sh) (pow5 hK (by omega))
   rw [← x7l oa] at h2
   have e:=z0p a
   unfold dtE
   change Rn E A1 _ _ (.tup [.i (rk a.length a.length (fm a):Nat),_]) _ at h3
   by_cases c4:rk a.length a.length (fm a)<a.length
   · rw [if_pos c4,Bq0]
     exact j4p h1 c1 h2 (by rw [e];exact h3) (by omega)
   · rw [if_neg c4]
     exact j4q h1 c1 h2 (by rw [e];exact h3) (by omega)
 · rw [if_pos c1];exact j4o h1 c1
theorem q7g (hlib:Lib E) (hc:Cl E) {a:TM} {K:Nat} (hK1:1≤K) (ha:Sm K a) (hK:K≤100000):Fn E z5v [.l (T2 a)] (.tup [.i (rkR a).1,.i (rkR a).2]):=by
 have h1:=j2l (E:=E) hlib ha hK
 unfold rkR
 by_cases c1:chkE a=0
 · rw [if_neg (by omega)]
   obtain ⟨oa,fa⟩:=y5a ha c1
   have h2:=k6o hc (m:=a.length) (w:=(hd1 a).length) (f:=fm a) (by omega) (by omega)
   have h3:=y7r (E:=E) hlib (m:=a.length) (w:=(hd1 a).length) (n:=(hd1 a).length) (Nat.le_refl _) (by omega) (by omega) hK1 (y9h oa ha.sh) (pow5 hK (by omega))
   rw [← x7l oa] at h2
   exact k9x h1 c1 h2 (x7m (by have:=oa.m1;omega)) (by rw [N5];exact h3)
 · rw [if_pos c1];exact k9w h1 c1
theorem v1i (hlib:Lib E) (hc:Cl E) {a:TM} {b:TR} {K:Nat} (hK1:1≤K) (ha:Sm K a) (hb:S1 K b) (hbl:b.length≤1000) (hK:K≤100000):Fn E U8 [.l (T2 a),.l (R1 b)] (.tup [.l (R1 (solR a b).1),.i (solR a b).2]):=by
 have h1:=j2l (E:=E) hlib ha hK
 have h2:=q7k (E:=E) hlib hbl hb (by have:=y1m;omega)
 unfold solR
 by_cases c1:chkE a=0
 rotate_left
 · rw [if_pos c1];exact k6x h1 c1
 rw [if_neg (by omega)]
 by_cases c2:lstE b=0
 rotate_left
 · rw [if_pos c2];exact k6y h1 c1 h2 c2
 rw [if_neg (by omega)]
 obtain ⟨oa,fa⟩:=y5a ha c1
 obtain ⟨ob,b1,b2⟩:=q1e c2
 have g:=x7m (a:=a) (by have:=oa.m1;omega)
 have e1:=N5 (hd1 a)
 have e2:=z0p a
 have e3:=N5 b
 by_cases c3:a.length=(hd1 a).length
 rotate_left
 · rw [if_pos (.inl c3)];exact k6z h1 c1 h2 c2 g (by omega)
 by_cases c4:b.length=a.length
 rotate_left
 · rw [if_pos (.inr c4)];exact k7a h1 c1 h2 c2 g (by omega) (by omega)
 rw [if_neg (by omega)]
 rw [← c3] at oa
 have h3:=j8e (E:=E) (n:=b.length) (v:=fv b) (by omega)
 rw [← R1_eq ob] at h3
 have h4:=j4k hlib hc (n:=a.length) (w:=1) (A:=fm a) (B:=fun i _=>fv b i) (by omega) (by omega) hK1 (y9h oa ha.sh) (fun i hi j _=>q0c ob hb (by omega)) (pow5 hK (by omega))
 rw [← x7l oa,← c4] at h4
 rw [c4] at h4 h3
 by_cases c5:rk a.length a.length (fm a)<a.length
 · rw [if_pos c5] at h4
   rw [if_pos c5]
   exact k7c h1 c1 h2 c2 g (by omega) (by omega) h3 h4
 · rw [if_neg c5] at h4
   rw [if_neg c5]
   refine k7b h1 c1 h2 c2 g (by omega) (by omega) h3 h4 (y0k oa.m1 (by omega) (by omega)) ?_
   rw [q2m];exact j6w (by omega)
theorem q2d {n w K:Nat} {A B:Mx} (hK1:1≤K) (hA:∀ i,i<n→∀ j,j<n→Sz (A i j) K) (hB:∀ i,i<n→∀ j,j<w→Sz (B i j) K):∀ i,i<n→∀ j,j<w→Sz (sol n A B i j) (K*5 ^ n):=fun i hi j hj =>
 (q0b (m:=n) (w:=n+w) (f:=aug n A B) hK1 (fun i hi j hj=>by
  simp only [aug];split
  · rename_i h;exact hA i hi j h
  · exact hB i hi _ (by omega)) n (by omega)).1 i hi (n+j) (by omega)
theorem sz_dl {K:Nat} (hK:1≤K) (i j:Nat):Sz (dl i j) K:=by
 simp only [dl];split
 · exact Sz.one.mono hK
 · exact Sz.zero.mono hK
theorem q7t {a:RW} {n i:Nat} {i1 i2:Int} (hi:i<n) (hn:n≤1000):∀ d k,k+d=n →
    Lp E 1 D7 1 (O3 a n (i:Nat) i1 i2 (n:Nat) (k:Nat) (tq tx n n dl i k)) (.exit 2) (z5p a n i1 i2 (tq tx n n dl i n))
 | 0,k,h=>by
  have e:k=n:=by omega
  subst e
  exact y7x (by omega)
 | d+1,k,h=>by
  have ih:=q7t (a:=a) (i1:=i1) (i2:=i2) hi hn d (k+1) (by omega)
  by_cases c:i=k
  · have e:([.str ⟨#[49]⟩]:List DV)=tx (dl i k):=by simp only [dl,if_pos c,tx,B_one]
    exact x1c (by omega) (by omega) (j7b hi) ⟨by omega,by omega⟩ ⟨by omega,by omega⟩ C7 rfl rfl (by rw [show ([[DV.str ⟨#[49]⟩]]:RW)=[tx (dl i k)] from by rw [e]];exact j7c) (wi (by omega)) ih
  · have e:([.str ⟨#[48]⟩]:List DV)=tx (dl i k):=by simp only [dl,if_neg c,tx,Bq0]
    exact x1d (by omega) (by omega) (j7b hi) ⟨by omega,by omega⟩ ⟨by omega,by omega⟩ C7 rfl rfl (by rw [show ([[DV.str ⟨#[48]⟩]]:RW)=[tx (dl i k)] from by rw [e]];exact j7c) (wi (by omega)) ih
theorem q7s {a:RW} {n:Nat} (hn:n≤1000):∀ d i,i+d=n →
    Lp E 1 D7 0 (z0z a n (n:Nat) (i:Nat) (tq tx n n dl i 0)) (.exit 0) (z5o a n (tq tx n n dl n 0))
 | 0,i,h=>by
  have e:i=n:=by omega
  subst e
  exact y7w (by omega)
 | d+1,i,h=>by
  have h1:=q7t (E:=E) (a:=a) (i1:=(n:Nat)) (i2:=(i:Nat)) (show i<n by omega) hn n 0 (by omega)
  have h2:=q7s (a:=a) hn d (i+1) (by omega)
  rw [← k4w] at h2
  exact x1b (by omega) h1 (wi (by omega)) h2
theorem q5a (hlib:Lib E) (hc:Cl E) {a:TM} {K:Nat} (hK1:1≤K) (ha:Sm K a) (hK:K≤100000):Fn E D7 [.l (T2 a)] (.tup [.l (T2 (invR a).1),.i (invR a).2]):=by
 have h1:=m_sqr (E:=E) hlib ha hK
 unfold invR
 by_cases c1:sqE a=0
 rotate_left
 · rw [if_pos c1];exact k0s h1 c1
 rw [if_neg (by omega)]
 obtain ⟨c2,c3⟩:=q2b c1
 obtain ⟨oa,fa⟩:=y5a ha c2
 rw [← c3] at oa
 have e:=z0p a
 have h2:=q7s (E:=E) (a:=T2 a) (n:=a.length) (by omega) a.length 0 (by omega)
 rw [← k4x,j7a] at h2
 have h3:=j4k hlib hc (n:=a.length) (w:=a.length) (A:=fm a) (B:=dl) (by omega) (by omega) hK1 (y9h oa ha.sh) (fun i _ j _=>sz_dl hK1 i j) (pow5 hK (by omega))
 rw [← x7l oa] at h3
 by_cases c4:rk a.length a.length (fm a)<a.length
 · rw [if_pos c4] at h3
   rw [if_pos c4]
   exact k0u h1 c1 (by rw [e];omega) h2 (by rw [rl_eq,y8u (by rw [y2x];exact Nat.le_refl _)];exact h3) (by rw [e];exact Int.toNat_natCast _) rfl rfl rfl
 · rw [if_neg c4] at h3
   rw [if_neg c4,q2n]
   exact k0t h1 c1 (by rw [e];omega) h2 (by rw [rl_eq,y8u (by rw [y2x];exact Nat.le_refl _)];exact h3) (by rw [e];exact Int.toNat_natCast _) rfl rfl rfl
theorem q9u {w K L:Nat} {f:Mx} {x v:Nat→Rat} {i:Nat} (hf:∀ j,j<w→Sz (f i j) K) (hx:∀ j,j<w→Sz (x j) L) (hv:Sz (v i) K):Sz (df w f x v i) ((K+L+1)*w+1+K+1) :=
 (x9w w _ fun j hj=>(hf j hj).mul (hx j hj)).sub hv
theorem q7j (hlib:Lib E) {m w K L:Nat} {f:Mx} {x v:Nat→Rat} (hm:m≤1000) (hw:w≤1000) (hf:∀ i,i<m→∀ j,j<w→Sz (f i j) K) (hx:∀ j,j<w→Sz (x j) L) (hv:∀ i,i<m→Sz (v i) K)
    (hK:((K+L+1)*w+1+K+1+((K+L+1)*w+1+K+1)+1)*m+1≤Lim):∀ d i,i+d=m →
    Lp E 0 M5 0 (z5y (rw' tx m v) (rw' tx w x) (B (decQ (ss i w f x v))) (rl (mx tx m w f)) (m:Nat) (i:Nat)) (.exit 0) (y0y (rw' tx w x) (B (decQ (ss m w f x v))))
 | 0,i,h=>by
  have e:i=m:=by omega
  subst e
  exact x5s (by omega)
 | d+1,i,h=>by
  have hi:i<m:=by omega
  have hd:=q9u (hf i hi) hx (hv i hi)
  have hs:=x9w i (fun i=>df w f x v i*df w f x v i) fun k hk=>(q9u (hf k (by omega)) hx (hv k (by omega))).mul (q9u (hf k (by omega)) hx (hv k (by omega)))
  have hdot:=x9w w _ fun j hj=>(hf i hi j hj).mul (hx j hj)
  revert hd hs hK
  generalize hD:(K+L+1)*w+1=D0 at hdot
  intro hK hd hs
  have hb:(D0+K+1+(D0+K+1)+1)*(i+1)≤(D0+K+1+(D0+K+1)+1)*m:=Nat.mul_le_mul_left _ (by omega)
  rw [Nat.mul_add] at hb
  exact k0r (by omega) (by omega) (rmI hi) (m_dot hlib (Nat.le_refl _) hw (hf i hi) hx (by omega)) (q0d hi) (q3c hlib hdot (hv i hi) (by omega)) (j2m hlib hd hd (by omega)) (m_add hlib hs (hd.mul hd) (by omega)) (wi (by omega)) (q7j hlib hm hw hf hx hv (by rw [hD];exact hK) d (i+1) (by omega))
theorem m_Fit (hlib:Lib E) (hc:Cl E) {a:TM} {b:TR} {K:Nat} (hK1:1≤K) (ha:Sm K a) (hb:S1 K b) (hbl:b.length≤1000) (hK:K≤100):Fn E M5 [.l (T2 a),.l (R1 b)] (.tup [.l (R1 (fitR a b).1),.s (B (fitR a b).2.1),.i (fitR a b).2.2]):=by
 have hLim:=y1m
 have h1:=j2l (E:=E) hlib ha (by omega)
 have h2:=q7k (E:=E) hlib hbl hb (by omega)
 unfold fitR
 by_cases c1:chkE a=0
 rotate_left
 · rw [if_pos c1];exact j4r h1 c1
 rw [if_neg (by omega)]
 by_cases c2:lstE b=0
 rotate_left
 · rw [if_pos c2];exact j4s h1 c1 h2 c2
 rw [if_neg (by omega)]
 obtain ⟨oa,fa⟩:=y5a ha c1
 obtain ⟨ob,b1,b2⟩:=q1e c2
 have g:=x7m (a:=a) (by have:=oa.m1;omega)
 have e1:=N5 (hd1 a)
 have e2:=z0p a
 have e3:=N5 b
 by_cases c4:b.length=a.length
 rotate_left
 · rw [if_pos c4];exact j4t h1 c1 h2 c2 (by omega)
 rw [if_neg (by omega)]
 generalize hw:(hd1 a).length=w at oa fa e1
 generalize hm:a.length=m at oa fa e2 c4
 have hmw:=oa.w1
 have szf:=y9h oa ha.sh
 have szv:∀ i,i<m→Sz (fv b i) K:=fun i hi=>q0c ob hb (by omega)
 have h6:=y0k (E:=E) (f:=fm a) oa.m1 (show m≤1000 by omega) (show w≤1000 by omega)
 have kb:(K+K+1)*m≤201*5:=Nat.mul_le_mul (by omega) (by omega)
 have h7:=k0p hlib (f:=tp (fm a)) (g:=fm a) (m:=w) (k:=m) (w:=w) oa.m1 (by omega) (by omega) (by omega) (fun i hi j hj=>szf j hj i hi) szf (by omega)
 have h8:=j8e (E:=E) (n:=m) (v:=fv b) (by omega)
 have h9:=k0p hlib (f:=tp (fm a)) (g:=fun i _=>fv b i) (m:=w) (k:=m) (w:=1) oa.m1 (by omega) (by omega) (by omega) (fun i hi j hj=>szf j hj i hi) (fun i hi j _=>szv i hi) (by omega)
 have szG:∀ i,i<w→∀ j,j<w→Sz (gm m (fm a) i j) 1006:=fun i hi j hj=>(x9w m _ fun k hk=>(szf k hk i hi).mul (szf k hk j hj)).mono (by omega)
 have szg:∀ i,i<w→Sz (gv m (fm a) (fv b) i) 1006:=fun i hi=>(x9w m _ fun k hk=>(szf k hk i hi).mul (szv k hk)).mono (by omega)
 have hp5:1006*5 ^ w≤1006*3125:=Nat.mul_le_mul_left _ (show 5 ^ w≤5 ^ 5 from Nat.pow_le_pow_right (by omega) (by omega))
 have h10:=j4k hlib hc (n:=w) (w:=1) (K:=1006) (A:=gm m (fm a)) (B:=fun i _=>gv m (fm a) (fv b) i) (by omega) (by omega) (by omega) szG (fun i hi j _=>szg i hi) (by omega)
 change Fn E D1 _ (.l (rl (mx tx w w (gm m (fm a))))) at h7
 change Fn E D1 _ (.l (rl (mx tx w 1 (fun i _=>gv m (fm a) (fv b) i)))) at h9
 rw [← x7l oa] at h6 h7
 have eb:rw' tx m (fv b)=R1 b:=by rw [R1_eq ob,c4]
 rw [eb] at h8
 by_cases c5:rk w w (gm m (fm a))<w
 · rw [if_pos c5] at h10
   rw [if_pos c5]
   exact j4v h1 c1 h2 c2 (by omega) h6 h7 h8 h9 h10
 · rw [if_neg c5] at h10
   rw [if_neg c5]
   have szx:=q2d (n:=w) (w:=1) (K:=1006) (A:=gm m (fm a)) (B:=fun i _=>gv m (fm a) (fv b) i) (by omega) szG (fun i hi j _=>szg i hi)
   have szX:∀ j,j<w→Sz (fx m w (fm a) (fv b) j) 3143750:=fun j hj=>(szx j hj 0 (by omega)).mono (by omega)
   have kc:(K+3143750+1)*w≤3143851*5:=Nat.mul_le_mul (by omega) (by omega)
   have kd:((K+3143750+1)*w+1+K+1+((K+3143750+1)*w+1+K+1)+1)*m≤31438719*5:=Nat.mul_le_mul (by omega) (by omega)
   have h13:=q7j hlib (m:=m) (w:=w) (by omega) (by omega) szf szX szv (by omega) m 0 (by omega)
   have e0:B (decQ (ss 0 w (fm a) (fx m w (fm a) (fv b)) (fv b)))=⟨#[48]⟩:=Bq0
   rw [e0,eb,← x7l oa] at h13
   rw [q2m]
   exact j4u h1 c1 h2 c2 (by omega) h6 h7 h8 h9 h10 (y0k oa.w1 (by omega) (by omega)) (j6w (by omega)) (by rw [e2];exact h13)
theorem j5n {n K:Nat} {v:Nat→Rat} (hn:n≤1000) (hv:∀ j,j<n→Sz (v j) K) (hK:2*K+2≤Lim):∀ d j,j+d=n →
    Lp E 0 F1 0 (N6 (R1 (tv n v)) j (j:Nat) (rw' Qr j v)) (.exit 0) (z3l (R1 (tv n v)) n (rw' Qr n v))
 | 0,j,h=>by
  have e:j=n:=by omega
  subst e
  exact y3g (by rw [N5,y3i];omega)
 | d+1,j,h=>by
  have hj:j<n:=by omega
  have k:=q3r (E:=E) (l:=decQ (v j)) (Nat.le_trans (hv j hj).len hK)
  rw [x3k] at k
  exact z9p (by rw [N5,y3i];omega) (by omega) (y0v (v0b hj)) k ⟨by omega,by omega⟩ (by rw [z9y (Nat.le_refl _)];exact q3x) rfl (wi (by omega)) (j5n hn hv hK d (j+1) (by omega))
theorem r_List {n K:Nat} {v:Nat→Rat} (h1:1≤n) (hn:n≤12) (hv:∀ j,j<n→Sz (v j) K) (hK:2*K+2≤Lim):Fn E F1 [.l (R1 (tv n v))] (.tup [.l (rw' Qr n v),.b true]):=by
 have h:=j5n (E:=E) (v:=v) (show n≤1000 by omega) hv hK n 0 (by omega)
 exact j6n h (by rw [N5,y3i];omega) (by rw [N5,y3i];omega) (z9y (Nat.le_refl _))
theorem q9a {n K:Nat} {v:Nat→Rat} (h1:1≤n) (hn:n≤12) (hv:∀ j,j<n→Sz (v j) K) (hK:2*K+2≤Lim):Rn E F1 [.l (R1 (tv n v))] [] (.tup [.vec 0 n,.b true]) [some (.vec I9 (rw' Qr n v))]:=by
 have h:=j5n (E:=E) (v:=v) (show n≤1000 by omega) hv hK n 0 (by omega)
 exact k8i h (by rw [N5,y3i];omega) (by rw [N5,y3i];omega)
theorem q8z {b:TR} {K:Nat} (hb:S1 K b) (hl:b.length≤1000) (hK:K≤Lim) (h:lstE b≠0):∃ r,Fn E F1 [.l (R1 b)] (.tup [.l r,.b false]):=by
 have e:=N5 b
 have key:∀ d j,j+d=b.length→∀ acc:RW,acc.length=j →
     (b.drop j).all ok1=true∧(∃ r,Lp E 0 F1 0 (N6 (R1 b) j (j:Nat) acc) (.exit 0) (z3l (R1 b) b.length r)) ∨
     (b.drop j).all ok1=false∧Lp E 0 F1 0 (N6 (R1 b) j (j:Nat) acc) .ret y1e:=by
  intro d
  induction d with
  | zero =>
   intro j hj acc ha
   have:j=b.length:=by omega
   subst this
   exact .inl ⟨by simp,acc,y3g (by omega)⟩
  | succ d ih =>
   intro j hj acc ha
   have hjl:j<b.length:=by omega
   have hx:=List.getElem?_eq_getElem hjl
   have k:=q3r (E:=E) (l:=b[j]) (Nat.le_trans (hb _ (List.getElem_mem hjl)) hK)
   rw [q7f hx,List.all_cons]
   cases c:ok1 b[j] with
   | true =>
    unfold ok1 at c
    rw [c] at k
    rcases ih (j+1) (by omega) (acc++[Qr ((rd b[j]).getD 0)]) (by simp [ha]) with ⟨h1,r,h2⟩ | ⟨h1,h2⟩
    · refine .inl ⟨by rw [h1];rfl,r,z9p (by omega) (by omega) (y0v hx) k ⟨by omega,by omega⟩ (by rw [List.take_of_length_le (by omega)];rfl) rfl (wi (by omega)) h2⟩
    · refine .inr ⟨by rw [h1];rfl,z9p (by omega) (by omega) (y0v hx) k ⟨by omega,by omega⟩ (by rw [List.take_of_length_le (by omega)];rfl) rfl (wi (by omega)) h2⟩
   | false =>
    unfold ok1 at c
    rw [c] at k
    exact .inr ⟨rfl,x6u (by omega) (by omega) (y0v hx) k⟩
 rcases key b.length 0 (by omega) [] rfl with ⟨h1,r,h2⟩ | ⟨h1,h2⟩
 · rw [List.drop_zero] at h1
   unfold lstE at h
   by_cases c:b.length=0
   · exact ⟨_,j6p h2 (by omega) rfl⟩
   · by_cases c2:12<b.length
     · exact ⟨_,j6o h2 (by omega) (by omega) rfl⟩
     · rw [if_neg (fun h=>by rcases h with h | h | h <;> first | omega | (rw [h1] at h;cases h))] at h
       exact absurd rfl h
 · exact ⟨_,j6m h2⟩
theorem q9b {m w K:Nat} {f:Mx} (w1:1≤w) (hw:w≤12) (hm:m≤1000) (hf:∀ i,i<m→∀ j,j<w→Sz (f i j) K) (hK:2*K+2≤Lim):∀ d i,i+d=m →
    Lp E 0 O1 0 (z4w (T2 (tm m w f)) i (i:Nat) (mx Qr i w f)) (.exit 0) (z9q m (mx Qr m w f))
 | 0,i,h=>by
  have e:i=m:=by omega
  subst e
  exact x4x (by rw [z0p,x7h];omega)
 | d+1,i,h=>x9r (by rw [z0p,x7h];omega) (by omega) (z6l (k8x (by omega))) (q9a w1 hw (hf i (by omega)) hK) ⟨by rw [y2x],by omega,by omega⟩ rfl rfl (by
     rw [y2x,z9y (Nat.le_refl _),← q3d]
     conv=>lhs;arg 2;rw [← y2x (c:=Qr) (m:=i) (w:=w) (f:=f)]
     rw [List.set_append_right _ _ (Nat.le_refl _),Nat.sub_self];rfl) (wi (by omega)) (q9b w1 hw hm hf hK d (i+1) (by omega))
theorem q9d {m w K:Nat} {f:Mx} (w1:1≤w) (hw:w≤12) (hm:m≤1000) (hf:∀ i,i<m→∀ j,j<w→Sz (f i j) K) (hK:2*K+2≤Lim):Rn E O1 [.l (T2 (tm m w f))] [] (.vec 0 m) [some (.mat A5 (mx Qr m w f) [])] :=
 k8k (q9b w1 hw hm hf hK m 0 (by omega))
theorem q3v {r:TR} (h1:1≤r.length)(h2:r.length≤12):(lstE r=0)=(r.all ok1=true):=by
 unfold lstE
 cases r.all ok1 with
 | true=>rw [if_neg (fun h=>by rcases h with h | h | h <;> first | omega | cases h)];simp
 | false=>rw [if_pos (.inr (.inr rfl))];simp
theorem r_Lst {b:TR} {K:Nat} (hb:S1 K b) (_:b.length≤1000) (hK:2*K+2≤Lim) (h:lstE b=0):Fn E F1 [.l (R1 b)] (.tup [.l (rw' Qr b.length (fv b)),.b true]):=by
 obtain ⟨h1,h2,h3⟩:=q1e h
 have:=r_List (E:=E) (v:=fv b) h2 h3 (fun j hj=>q0c h1 hb hj) hK
 rwa [← v0a h1] at this
theorem v1u {a:TM} {K:Nat} (hs:Sh K a) (hK:2*K+2≤Lim) (hl:a.length≤1000) (hr:∀ r∈a,r.length≤1000):Fn E C9 [.l (T2 a)] (.i (chkE a)):=by
 have e:=z0p a
 have eh:=N5 (hd1 a)
 unfold chkE
 by_cases h0:a.length=0
 · rw [if_pos (.inl h0)];exact j1d (by omega)
 have g:=x7m (a:=a) (by omega)
 by_cases h1:(hd1 a).length=0
 · rw [if_pos (.inr h1)];exact j1e (by omega) g (by omega)
 rw [if_neg (by omega)]
 by_cases h2:12<a.length
 · rw [if_pos (.inl h2)];exact j1f (by omega) g (by omega) (by omega)
 by_cases h3:12<(hd1 a).length
 · rw [if_pos (.inr h3)];exact j1g (by omega) g (by omega) (by omega) (by omega)
 rw [if_neg (by omega)]
 have l0:=z7f (E:=E) (n:=0) (F:=C9) (k:=0) (l:=a) (fun _ r=>!decide (r.length=(hd1 a).length)) (fun i=>z0h (T2 a) (i:Nat)) (oe:=.exit 0) (fin:=z9m (T2 a)) (fun i _ o s=>o=.ret∧s=z9l)
  (x4o (by omega))
  (fun i r hx hp o s ih=>by
   have hi:=z7r hx
   have er:=N5 r
   exact x9n (by omega) (by omega) (z6l hx) g (by simp at hp;omega) (wi (by omega)) ih)
  (fun i r hx hp=>by
   have hi:=z7r hx
   have er:=N5 r
   exact ⟨_,_,⟨rfl,rfl⟩,x4n (by omega) (by omega) (z6l hx) g (by simp at hp;omega)⟩) a.length 0 (by omega)
 rcases l0 with ⟨l1,l2⟩ | ⟨j,x,_,_,_,l2,l3,_,⟨rfl,rfl⟩,l4⟩
 rotate_left
 · rw [if_pos (List.any_eq_true.2 ⟨x,List.mem_of_getElem? l2,l3⟩)]
   exact j1h (by omega) g (by omega) (by omega) (by omega) l4
 rw [if_neg (by
  rw [Bool.not_eq_true,List.any_eq_false];intro x hx
  obtain ⟨j,hj⟩:=List.mem_iff_getElem?.1 hx
  rw [l1 j x (Nat.zero_le _) hj];simp)]
 have rl12:∀ (i:Nat) (r:TR),a[i]?=some r→r.length=(hd1 a).length:=fun i r hx=>by simpa using l1 i r (Nat.zero_le _) hx
 have k0:=z7f (E:=E) (n:=0) (F:=C9) (k:=1) (l:=a) (fun _ r=>!r.all ok1) (fun i=>z0i (T2 a) (i:Nat)) (oe:=.exit 2) (fin:=z9o) (fun i _ o s=>o=.ret∧s=z9n)
  (x4q (by omega))
  (fun i r hx hp o s ih=>by
   have hi:=z7r hx
   have er:=rl12 i r hx
   have hv:=r_Lst (E:=E) (hs.at hx) (hr r (List.mem_of_getElem? hx)) hK ((q3v (by omega) (by omega)).mpr (by simpa using hp))
   exact x9o (by omega) (by omega) (z6l hx) hv (wi (by omega)) ih)
  (fun i r hx hp=>by
   have hi:=z7r hx
   have er:=rl12 i r hx
   obtain ⟨q,hv⟩:=q8z (E:=E) (hs.at hx) (hr r (List.mem_of_getElem? hx)) (by omega) (fun c=>by
    rw [(q3v (by omega) (by omega)).mp c] at hp;cases hp)
   exact ⟨_,_,⟨rfl,rfl⟩,x4p (by omega) (by omega) (z6l hx) hv⟩) a.length 0 (by omega)
 rcases k0 with ⟨k1,k2⟩ | ⟨j,x,_,_,_,k2,k3,_,⟨rfl,rfl⟩,k4⟩
 rotate_left
 · rw [if_pos (List.any_eq_true.2 ⟨x,List.mem_of_getElem? k2,k3⟩)]
   exact j1i (by omega) g (by omega) (by omega) (by omega) l2 k4
 rw [if_neg (by
  rw [Bool.not_eq_true,List.any_eq_false];intro x hx
  obtain ⟨j,hj⟩:=List.mem_iff_getElem?.1 hx
  rw [k1 j x (Nat.zero_le _) hj];simp)]
 exact j1j (by omega) g (by omega) (by omega) (by omega) l2 k2
theorem r_chk {a:TM} {K:Nat} (h:Sm K a) (hK:K≤100000):Fn E C9 [.l (T2 a)] (.i (chkE a)):=v1u h.sh (by have:=y1m;omega) h.l h.r
theorem r_sqr {a:TM} {K:Nat} (ha:Sm K a) (hK:K≤100000):Fn E z4k [.l (T2 a)] (.i (sqE a)):=by
 have h:=r_chk (E:=E) ha hK
 have e:=z0p a
 have eh:=N5 (hd1 a)
 unfold sqE
 by_cases c:chkE a=0
 · have ho:=k1b c
   have g:=x7m (a:=a) (by have:=ho.m1;omega)
   rw [if_neg (by omega)]
   by_cases c2:a.length=(hd1 a).length
   · rw [if_neg (by omega)];exact k8n h c g (by omega)
   · rw [if_pos c2];exact k8m h c g (by omega)
 · rw [if_pos c];exact k8l h c
theorem q9c {a:TM} {m w K:Nat} (ho:Ok a m w) (ha:Sh K a) (hK:K≤100000):Rn E O1 [.l (T2 a)] [] (.vec 0 m) [some (.mat A5 (mx Qr m w (fm a)) [])]:=by
 have h:=q9d (E:=E) (f:=fm a) ho.w1 ho.w2 (by have:=ho.m2;omega) (y9h ho ha) (by have:=y1m;omega)
 rwa [← ho.eq] at h
theorem v1x {m w n K:Nat} {f:Mx} (hn:n≤w) (hm:m≤1000) (hw:w≤1000) (hK1:1≤K) (hf:∀ i,i<m→∀ j,j<w→Sz (f i j) K) (hK:K*5 ^ n≤Lim) :
    Rn E A4 [.vec 0 m,.i (n:Nat)] [some (.mat A5 (mx Qr m w f) []),none] (.tup [.i ((el m n (s0 f)).2.1:Nat),.agg (Qr (dR n (el m n (s0 f))))]) [some (.mat A5 (mx Qr m w (el m n (s0 f)).1) []),none] :=
 (j2z (E:=E) hn hm hw hK1 hf hK).put [0] (by decide) rfl rfl (big:=[some (.mat A5 (mx Qr m w f) []),none]) (big':=[some (.mat A5 (mx Qr m w (el m n (s0 f)).1) []),none])
  (by intro i hi;match i,hi with | 0,_=>rfl) (by intro i hi;match i,hi with | 0,_=>rfl)
  (by
   intro l hl
   match l,hl with
   | 0,hl=>exact absurd rfl (hl 0 Nat.zero_lt_one)
   | 1,_=>rfl
   | l+2,_=>rfl) rfl rfl rfl rfl
theorem dR_dtE {n:Nat} {f:Mx}:dR n (el n n (s0 f))=dtE n f:=by
 have h:=(rk_le n n f).1
 unfold rk at h
 unfold dR dtE rk
 by_cases c:(el n n (s0 f)).2.1=n
 · rw [if_pos c,if_neg (by omega)]
 · rw [if_neg c,if_pos (by omega)]
theorem sz_dtE {n K:Nat} {f:Mx} (hK1:1≤K) (hf:∀ i,i<n→∀ j,j<n→Sz (f i j) K):Sz (dtE n f) (K*5 ^ n):=by
 unfold dtE;split
 · exact Sz.zero.mono (Nat.mul_pos hK1 (Nat.pow_pos (by omega)))
 · exact (q0b hK1 hf n (Nat.le_refl _)).2
theorem r_Det {a:TM} {K:Nat} (hK1:1≤K) (ha:Sm K a) (hK:K≤100000):Fn E y4b [.l (T2 a)] (.tup [.s (B (detR a).1),.i (detR a).2]):=by
 have h1:=r_sqr (E:=E) ha hK
 unfold detR
 by_cases c1:sqE a=0
 · rw [if_neg (by omega)]
   obtain ⟨c2,c3⟩:=q2b c1
   obtain ⟨oa,fa⟩:=y5a ha c2
   rw [← c3] at oa
   have h2:=q9c (E:=E) oa ha.sh hK
   have szf:=y9h oa ha.sh
   have h3:=v1x (E:=E) (m:=a.length) (w:=a.length) (n:=a.length) (Nat.le_refl _) (by omega) (by omega) hK1 szf (pow5 hK (by omega))
   rw [dR_dtE] at h3
   have h4:Fn E y2p [.agg (Qr (dtE a.length (fm a)))] (.s (B (decQ (dtE a.length (fm a))))):=r3_To (sz_dtE hK1 szf) (by have:=pow5 hK (show a.length≤5 by omega);omega)
   exact j9m h1 c1 h2 (by rw [z0p];exact h3) h4
 · rw [if_pos c1];exact j9l h1 c1
theorem sz_sv {n K:Nat} {A:Mx} {v:Nat→Rat} (hK1:1≤K) (hA:∀ i,i<n→∀ j,j<n→Sz (A i j) K) (hv:∀ i,i<n→Sz (v i) K):∀ i,i<n→Sz (sv n A v i) (K*5 ^ n):=fun i hi=>q2d (w:=1) hK1 hA (fun i hi j _=>hv i hi) i hi 0 (by omega)
end Gev
