/- The law of the last text of this claim: its walk, its plain words. -/
import Derived.Test.YtfjcadbekkfddaaGreatDoorE
import Derived.KernelRfl
import Derived.Test.YtfjcadbekkfddaaGreatDoorTie
import Derived.Test.YtfjcadbekkfddaaGreatDoorCards
set_option linter.unusedSectionVars false
set_option linter.unusedVariables false
set_option linter.unusedSimpArgs false
namespace Gev
open Go Go.Proofs
variable {E:Env}
variable {o:Out} {t:St} {r0 r1 r2 r3 r4 r5 r6 r7 r8 r9 r10 r11 r12 r13 r14 r15 r16 r17 r18 r19 r20 r21 r22 r23:RW} {i0 i1 i2 i3 i4 i5 i6 i7 i8 i9 i10 i11 i12 i13 i14:Int} {s0 s1:BA} {n0 n1:Nat}
section
variable (h1:Fn E z5u [] (.b true))
include h1
theorem x3q (h2:Fn E K9 [.l r0] (.b true))(h3:Fn E z2j [.l r0] (.l r1))(h4:Fn E z5c [.l r1] (.tup [.s s0,.i i0]))(h5:Fn E y4b [.l r0] (.tup [.s s1,.i i1]))(h6:Fn E z5v [.l r1] (.tup [.i i2,.i i3]))(h7:Fn E y1l [.l r0] (.tup [.i i4,.i i5]))(h8:s0=s1)(h9:i0=i1)(h10:i2=i4)(h11:i3=i5):Fn E z5l [.l r0] (.b true):=fnM (oF h1 (oF h2 (oF h3 (oF h4 (oF h5 (oF h3 (oF h6 (oF h7 (oB (seT h8) (oB (beT h9) (oB (beT h10) (oB (beT h11) oZ))))))))))))
theorem x3r (h2:Fn E K9 [.l r0] (.b false)):Fn E z5l [.l r0] (.b true):=fnM (oF h1 (oF h2 (oF h1 oZ)))
end
theorem k9s (h1:Fn E z2j [.l r2] (.l r3))(h2:Fn E U8 [.l r3,.l r4] (.tup [.l r5,.i i0]))(h3:Fn E z5c [.l r3] (.tup [.s s0,.i i1]))(h4:Fn E M5 [.l r9,.l r10] (.tup [.l r11,.s s1,.i i2]))(h5:Fn E D7 [.l r3] (.tup [.l r12,.i i3]))(h6:Fn E N7 [.l r3,.l r12] (.tup [.l r13,.i i4]))(h7:Fn E z5v [.l r15] (.tup [.i i5,.i i6]))(h8:Fn E z2k [.l r16] (.tup [.l r17,.i i7]))(h9:i13=0)(h10:Fn E J2 [.l r5,.l r0] (.b true))(h11:s0=(⟨#[45,51]⟩:BA))(h12:Fn E J2 [.l r11,.l r18] (.b true))(h13:s1=(⟨#[49,47,54]⟩:BA))(h14:Fn E U1 [.l r13,.l r20] (.b true))(h15:i5=1)(h16:Fn E U1 [.l r17,.l r23] (.b true))(h17:Fn E B7 [.l []] (.i i14))(h18:i14=9)(e1:(([[.s ⟨#[50]⟩],[.s ⟨#[49]⟩]]:RW).take 2)=r0)(e2:(([[.s ⟨#[49]⟩],[.s ⟨#[45,49]⟩]]:RW).take 2)=r1)(e3:(([[.l r0],[.l r1]]:RW).take 2)=r2)(e4:(([[.s ⟨#[53]⟩],[.s ⟨#[49]⟩]]:RW).take 2)=r4)(e5:(([[.s ⟨#[49]⟩],[.s ⟨#[48]⟩]]:RW).take 2)=r6)(e6:(([[.s ⟨#[49]⟩],[.s ⟨#[49]⟩]]:RW).take 2)=r7)(e7:(([[.s ⟨#[49]⟩],[.s ⟨#[50]⟩]]:RW).take 2)=r8)(e8:(([[.l r6],[.l r7],[.l r8]]:RW).take 3)=r9)(e9:(([[.s ⟨#[49]⟩],[.s ⟨#[50]⟩],[.s ⟨#[52]⟩]]:RW).take 3)=r10)(e10:(([[.s ⟨#[50]⟩],[.s ⟨#[52]⟩]]:RW).take 2)=r14)(e11:(([[.l r8],[.l r14]]:RW).take 2)=r15)(e12:(([[.l r8]]:RW).take 1)=r16)(e13:IntKind.i64.wrap (i0+i1)=i8)(e14:IntKind.i64.wrap (i8+i2)=i9)(e15:IntKind.i64.wrap (i9+i3)=i10)(e16:IntKind.i64.wrap (i10+i4)=i11)(e17:IntKind.i64.wrap (i11+i6)=i12)(e18:IntKind.i64.wrap (i12+i7)=i13)(e19:(([[.s ⟨#[53,47,54]⟩],[.s ⟨#[51,47,50]⟩]]:RW).take 2)=r18)(e20:(([[.s ⟨#[48]⟩],[.s ⟨#[49]⟩]]:RW).take 2)=r19)(e21:(([[.l r6],[.l r19]]:RW).take 2)=r20)(e22:(([[.s ⟨#[49]⟩]]:RW).take 1)=r21)(e23:(([[.s ⟨#[50]⟩]]:RW).take 1)=r22)(e24:(([[.l r21],[.l r22]]:RW).take 2)=r23):Fn E z5u [] (.b true):=by subst e1 e2 e3 e4 e5 e6 e7 e8 e9 e10 e11 e12 e13 e14 e15 e16 e17 e18 e19 e20 e21 e22 e23 e24;exact fnM (oF h1 (oF h2 (oF h1 (oF h3 (oF h4 (oF h1 (oF h5 (oF h1 (oF h6 (oF h7 (oF h8 (oB (beT h9) (oF h10 (oB (seT h11) (oF h12 (oB (seT h13) (oF h14 (oB (beT h15) (oF h16 (oF h17 (oB (beT h18) oZ)))))))))))))))))))))
def y0j (n0:Nat) (i0 i1:Int) (r0:RW):St:=stOf 22 [(3,.vec 0 n0),(8,.i i0),(9,.i i1)] [sV A6 r0]
def y5c (n0:Nat) (r1:RW):St:=stOf 22 [(3,.vec 0 n0)] [sV A6 r1]
theorem k6k (h1:i1<i0)(h2:0≤i1∧i1<((n0:Nat):Int))(h3:r0[(Int.toNat i1)]?=some [.l r2])(h4:Rn E z0b [.l r2] [] (.vec 0 n1) [sV x2r r3])(e1:(r3.take n1)=r4)(e2:List.set r0 (Int.toNat i1) [.l r4]=r5)(e3:IntKind.i64.wrap (i1+1)=i2)(ih:Lp E 1 z2j 0 (y0j n0 i0 i2 r5) o t):Lp E 1 z2j 0 (y0j n0 i0 i1 r0) o t:=by subst e1 e2 e3;exact lpM (oT h1 (oP h2 (oD h3 (oN h4 (oP h2 (oD h3 oZ)))))) ih
theorem k0n (h1:¬ i1<i0):Lp E 1 z2j 0 (y0j n0 i0 i1 r0) (.exit 0) (y5c n0 r0):=lpX (oU h1 oZ)
theorem q1a (h1:Rn E z0w [.l r0] [] (.vec 0 n0) [sV A6 r1])(h2:Lp E 1 z2j 0 (y0j n0 ((n0:Nat):Int) 0 r1) (.exit 0) (y5c n0 r2))(e1:(r2.take n0)=r3):Fn E z2j [.l r0] (.l r3):=by subst e1;exact fnM (oN h1 (oL h2 oZ))
end Gev
namespace Gev
open Go Gb
variable {E:Env}
attribute [local irreducible] Sz
theorem q4z {α:Type} {l:List α} {i:Nat} {x:α} (h:l[i]?=some x):List.set l i x=l:=by
 obtain ⟨h1,h2⟩:=List.getElem?_eq_some_iff.1 h
 rw [← h2];exact List.set_getElem_self h1
theorem cp_ok (hc:Cl E) {a:TM} (hl:a.length≤1000) (hr:∀ r∈a,r.length≤1000):Fn E z2j [.l (T2 a)] (.l (T2 a)):=by
 have e:=z0p a
 have key:∀ d i,i+d=a.length→Lp E 1 z2j 0 (y0j a.length (a.length:Nat) (i:Nat) (T2 a)) (.exit 0) (y5c a.length (T2 a)):=by
  intro d
  induction d with
  | zero=>intro i h;exact k0n (by omega)
  | succ d ih =>
   intro i h
   obtain ⟨x,hx⟩:=x8i (l:=a) (i:=i) (by omega)
   have k:=hc.ra (R1 x) (v0j x) (by rw [N5];exact hr x (List.mem_of_getElem? hx))
   exact k6k (by omega) ⟨by omega,by omega⟩ (z6l hx) k (List.take_length) (q4z (z6l hx)) (wi (by omega)) (ih (i+1) (by omega))
 have k:=hc.rr (T2 a) (v0k a) (by rw [z0p];exact hl)
 rw [e] at k
 exact q1a k (key a.length 0 (by omega)) (by rw [← e];exact List.take_length)
theorem k5q {a:TM} (h:few a=true):Sm 20 a∧(chkE a=0→a.length≤5∧(hd1 a).length≤4):=by
 unfold few at h
 rw [Bool.and_eq_true,Bool.or_eq_true,decide_eq_true_eq,decide_eq_true_eq,Bool.not_eq_true',List.any_eq_false] at h
 obtain ⟨h1,h2⟩:=h
 have hrow:∀ r∈a,(∀ x∈r,x.length≤20)∧(r.length≤4∨r.length=13):=fun r hr=>by
  have h3:fewL r 4=true:=by simpa using h1 r hr
  unfold fewL at h3
  rw [Bool.and_eq_true,Bool.or_eq_true,decide_eq_true_eq,decide_eq_true_eq,Bool.not_eq_true',List.any_eq_false] at h3
  exact ⟨fun x hx=>by have:=h3.1 x hx;simp at this;exact this,h3.2⟩
 have h5:chkE a=0→a.length≤5∧(hd1 a).length≤4:=fun c=>by
  have o:=k1b c
  refine ⟨by have:=o.m2;omega,?_⟩
  have hm:=o.m1
  have:hd1 a∈a:=by
   cases a with
   | nil=>simp at hm
   | cons r a=>simp [hd1]
  have:=(hrow _ this).2
  have:=o.w2
  omega
 exact ⟨⟨fun r hr=>(hrow r hr).1,by omega,fun r hr=>by have:=(hrow r hr).2;omega,fun c=>by have:=h5 c;omega⟩,h5⟩
theorem q2y {b:TR} {n:Nat} (hn:n≤100) (h:fewL b n=true):S1 20 b∧b.length≤1000:=by
 unfold fewL at h
 rw [Bool.and_eq_true,Bool.or_eq_true,decide_eq_true_eq,decide_eq_true_eq,Bool.not_eq_true',List.any_eq_false] at h
 exact ⟨fun x hx=>by have:=h.1 x hx;simp at this;exact this,by omega⟩
theorem Sm.mono {K L:Nat} {a:TM} (h:Sm K a) (k:K≤L):Sm L a:=⟨fun r hr x hx=>Nat.le_trans (h.sh r hr x hx) k,h.l,h.r,h.few⟩
theorem sm_tm {m w K L:Nat} {f:Mx} (hm:m≤5) (hw:w≤5) (hf:∀ i,i<m→∀ j,j<w→Sz (f i j) K) (hK:2*K+2≤L):Sm L (tm m w f):=by
 have hr:∀ r∈tm m w f,r.length=w:=fun r hr=>by obtain ⟨i,_,rfl⟩:=List.mem_map.1 hr;exact y3i
 refine ⟨fun r hr x hx=>Nat.le_trans (sh_tm hf r hr x hx) hK,by rw [x7h];omega,fun r h=>by rw [hr r h];omega,fun c=>⟨by rw [x7h];omega,?_⟩⟩
 have hm':=(k1b c).m1
 rw [x7h] at hm'
 rw [hd_tm hm',y3i];omega
end Gev
namespace Gb
theorem v2h {n:Nat} {A:Mx} {v:Nat→Rat} (h:rk n n A=n) {i:Nat} (hi:i<n):(sm n fun k=>A i k*sol n A (fun i _=>v i) k 0)=v i :=
 j3e (A:=A) (B:=fun i _=>v i) (j:=0) (by rw [x2l];exact h) hi
theorem q4t {n:Nat} {A:Mx} (h:rk n n A=n) {i j:Nat} (hi:i<n):mm n A (sol n A dl) i j=dl i j:=j3e (by rw [x2l];exact h) hi
theorem j9t {m w:Nat} {f:Mx} {x v:Nat→Rat} (h:∀ j,j<w→(sm w fun k=>mm m (fun i l=>f l i) f j k*x k)=sm m fun k=>f k j*v k):∀ j,j<w→(sm m fun i=>f i j*((sm w fun k=>f i k*x k)-v i))=0:=by
 intro j hj
 have e:=h j hj
 rw [z6f (g:=fun i=>(sm w fun k=>f i j*f i k*x k)-f i j*v i) fun i _=>by
  have e5:(sm w fun k=>f i j*f i k*x k)=f i j*sm w fun k=>f i k*x k:=by
   rw [← q1z];exact z6f fun k _=>by grind
  rw [e5];grind]
 rw [q9s,← e,q3z]
 rw [z6f (g:=fun k=>mm m (fun i l=>f l i) f j k*x k) fun k _=>by rw [q4a];rfl]
 grind
end Gb
namespace Gev
open Go Gb
variable {E:Env}
attribute [local irreducible] Sz
structure Ln (a:TM):Prop where
 l:a.length≤9223372036854775807
 r:∀ x∈a,x.length≤9223372036854775807
theorem q3y {a:TM} (hl:a.length≤12) (hr:∀ r∈a,r.length≤12):Fn E U1 [.l (T2 a),.l (T2 a)] (.b true):=r_Same (by omega) fun r h=>by have:=hr r h;omega
end Gev
namespace Gev
open Go Gb
variable {E:Env}
attribute [local irreducible] Sz
theorem sz_fx {m w:Nat} {f:Mx} {v:Nat→Rat} (hm:m≤5) (hw:w≤5) (hf:∀ i,i<m→∀ j,j<w→Sz (f i j) 20) (hv:∀ i,i<m→Sz (v i) 20):∀ j,j<w→Sz (fx m w f v j) 643750:=fun j hj=>by
 have kb:(20+20+1)*m≤41*5:=Nat.mul_le_mul_left _ hm
 have szG:∀ i,i<w→∀ j,j<w→Sz (gm m f i j) 206:=fun i hi j hj=>(x9w m _ fun k hk=>(hf k hk i hi).mul (hf k hk j hj)).mono (by omega)
 have szg:∀ i,i<w→Sz (gv m f v i) 206:=fun i hi=>(x9w m _ fun k hk=>(hf k hk i hi).mul (hv k hk)).mono (by omega)
 have hp5:206*5 ^ w≤206*5 ^ 5:=Nat.mul_le_mul_left _ (Nat.pow_le_pow_right (by omega) hw)
 exact (sz_sv (by omega) szG szg j hj).mono (by omega)
structure Ft (a:TM) (b:TR) (m w:Nat):Prop where
 ok:Ok a m w
 m5:m≤5
 w4:w≤4
 bok:b.all ok1=true
 bl:b.length=m
 rk:rk w w (gm m (fm a))=w
 eq:fitR a b=(tv w (fx m w (fm a) (fv b)),decQ (ss m w (fm a) (fx m w (fm a) (fv b)) (fv b)),0)
theorem Ft.norm {a:TM} {b:TR} {m w:Nat} (h:Ft a b m w):∀ j,j<w→(sm m fun i=>fm a i j*((sm w fun k=>fm a i k*fx m w (fm a) (fv b) k)-fv b i))=0 :=
 j9t fun j hj=>v2h (A:=gm m (fm a)) (v:=gv m (fm a) (fv b)) h.rk hj
theorem Ft.sz {a:TM} {b:TR} {m w:Nat} (h:Ft a b m w) (sa:Sm 20 a) (sb:S1 20 b):(∀ i,i<m→∀ j,j<w→Sz (fm a i j) 20)∧(∀ i,i<m→Sz (fv b i) 20)∧(∀ j,j<w→Sz (fx m w (fm a) (fv b) j) 643750) :=
 have h1:=y9h h.ok sa.sh
 have h2:∀ i,i<m→Sz (fv b i) 20:=fun i hi=>q0c h.bok sb (by rw [h.bl];exact hi)
 ⟨h1,h2,sz_fx h.m5 (by have:=h.w4;omega) h1 h2⟩
end Gev
namespace Gev
open Go Gb
variable {E:Env}
attribute [local irreducible] Sz
end Gev
namespace Gev
open Go Gb
variable {E:Env}
attribute [local irreducible] Sz
theorem r_Rank {a:TM} {K:Nat} (hK1:1≤K) (ha:Sm K a) (hK:K≤100000):Fn E y1l [.l (T2 a)] (.tup [.i (rkR a).1,.i (rkR a).2]):=by
 have h1:=r_chk (E:=E) ha hK
 unfold rkR
 by_cases c1:chkE a=0
 · rw [if_neg (by omega)]
   obtain ⟨oa,fa⟩:=y5a ha c1
   have h2:=q9c (E:=E) oa ha.sh hK
   have h3:=j2z (E:=E) (m:=a.length) (w:=(hd1 a).length) (n:=(hd1 a).length) (Nat.le_refl _) (by omega) (by omega) hK1 (y9h oa ha.sh) (pow5 hK (by omega))
   exact j6r h1 c1 h2 (x7m (by have:=oa.m1;omega)) (by rw [N5];exact h3)
 · rw [if_pos c1];exact j6q h1 c1
theorem law_Ranks (hlib:Lib E) (hc:Cl E) (hA:Fn E z5u [] (.b true)) {a:TM} (na:Ln a):Fn E z5l [.l (T2 a)] (.b true):=by
 have fa:=r_Few (E:=E) na.l na.r
 cases ca:few a with
 | false=>rw [ca] at fa;exact x3r hA fa
 | true =>
  rw [ca] at fa
  obtain ⟨sa,_⟩:=k5q ca
  exact x3q hA fa (cp_ok hc sa.l sa.r) (m_Det hlib hc (by omega) sa (by omega)) (r_Det (by omega) sa (by omega)) (q7g hlib hc (by omega) sa (by omega)) (r_Rank (by omega) sa (by omega)) rfl rfl rfl rfl
end Gev
namespace Gev
open Go Gb Go.Proofs
variable {E:Env}
attribute [local irreducible] Sz
theorem txq {l:List UInt8} {q:Rat} (h:j7l q l=true):decQ q=l:=(k0b.1 h).symm
def aT:TM:=[[[50],[49]],[[49],[45,49]]]
def bT:TR:=[[53],[49]]
def fT:TM:=[[[49],[48]],[[49],[49]],[[49],[50]]]
def gT:TR:=[[49],[50],[52]]
def rT:TM:=[[[49],[50]],[[50],[52]]]
def tT:TM:=[[[49],[50]]]
theorem s_aT:Sm 20 aT:=(k5q (by kernel_rfl)).1
theorem s_fT:Sm 20 fT:=(k5q (by kernel_rfl)).1
theorem s_rT:Sm 20 rT:=(k5q (by kernel_rfl)).1
theorem s_tT:Sm 20 tT:=(k5q (by kernel_rfl)).1
theorem s_bT:S1 20 bT:=(q2y (n:=5) (by omega) (by kernel_rfl)).1
theorem s_gT:S1 20 gT:=(q2y (n:=5) (by omega) (by kernel_rfl)).1
theorem e_sq:sqE aT=0:=by kernel_rfl
theorem q6o:chkE aT=0:=by kernel_rfl
theorem e_lst:lstE bT=0:=by kernel_rfl
theorem e_rk:rk 2 2 (fm aT)=2:=by kernel_rfl
theorem e_sol:solR aT bT=([[50],[49]],0):=by
 unfold solR
 rw [if_neg (by rw [q6o];decide),if_neg (by rw [e_lst];decide),if_neg (by decide),if_neg (by show ¬ rk 2 2 (fm aT)<2;rw [e_rk];decide)]
 have h0:sv 2 (fm aT) (fv bT) 0=2:=by kernel_rfl
 have h1:sv 2 (fm aT) (fv bT) 1=1:=by kernel_rfl
 show ([decQ (sv 2 (fm aT) (fv bT) 0),decQ (sv 2 (fm aT) (fv bT) 1)],(0:Int))=_
 rw [h0,h1,txq (q:=2) (l:=[50]) (by kernel_rfl),x7v]
theorem e_det:detR aT=([45,51],0):=by
 unfold detR
 rw [if_neg (by rw [e_sq];decide)]
 have h0:dtE 2 (fm aT)=-3:=by kernel_rfl
 show (decQ (dtE 2 (fm aT)),(0:Int))=_
 rw [h0,txq (q:=-3) (l:=[45,51]) (by kernel_rfl)]
theorem e_fit:fitR fT gT=([[53,47,54],[51,47,50]],[49,47,54],0):=by
 unfold fitR
 have c1:chkE fT=0:=by kernel_rfl
 have c2:lstE gT=0:=by kernel_rfl
 have c3:rk 2 2 (gm 3 (fm fT))=2:=by kernel_rfl
 rw [if_neg (by rw [c1];decide),if_neg (by rw [c2];decide),if_neg (by decide),if_neg (by show ¬ rk 2 2 (gm 3 (fm fT))<2;rw [c3];decide)]
 have h0:fx 3 2 (fm fT) (fv gT) 0=mkRat 5 6:=by kernel_rfl
 have h1:fx 3 2 (fm fT) (fv gT) 1=mkRat 3 2:=by kernel_rfl
 have h2:ss 3 2 (fm fT) (fx 3 2 (fm fT) (fv gT)) (fv gT)=mkRat 1 6:=by kernel_rfl
 show ([decQ (fx 3 2 (fm fT) (fv gT) 0),decQ (fx 3 2 (fm fT) (fv gT) 1)],decQ (ss 3 2 (fm fT) (fx 3 2 (fm fT) (fv gT)) (fv gT)),(0:Int))=_
 rw [h2,h0,h1,txq (q:=mkRat 5 6) (l:=[53,47,54]) (by kernel_rfl),txq (q:=mkRat 3 2) (l:=[51,47,50]) (by kernel_rfl),txq (q:=mkRat 1 6) (l:=[49,47,54]) (by kernel_rfl)]
theorem e_inv:invR aT=(tm 2 2 (sol 2 (fm aT) dl),0):=by
 unfold invR
 rw [if_neg (by rw [e_sq];decide),if_neg (by show ¬ rk 2 2 (fm aT)<2;rw [e_rk];decide)];rfl
theorem e_mul:mulR aT (tm 2 2 (sol 2 (fm aT) dl))=([[[49],[48]],[[48],[49]]],0):=by
 have om:=ok_tm (m:=2) (w:=2) (f:=sol 2 (fm aT) dl) (by omega) (by omega) (by omega) (by omega)
 unfold mulR
 rw [if_neg (by rw [q6o];decide),if_neg (by rw [chk_ok om];decide),if_neg (by rw [om.len];decide),om.len,om.hd]
 have e:tm aT.length 2 (mm 2 (fm aT) (fm (tm 2 2 (sol 2 (fm aT) dl))))=tm 2 2 dl:=q0e fun i hi j hj=>by rw [← q4t e_rk hi];exact j8h (fun _ _=>rfl) fun l hl=>q6v hl hj
 rw [e]
 show ([[decQ 1,decQ 0],[decQ 0,decQ 1]],(0:Int))=_
 rw [x7v,j1s]
theorem e_rank:rkR rT=(1,0):=by
 unfold rkR
 have c1:chkE rT=0:=by kernel_rfl
 have c2:rk 2 2 (fm rT)=1:=by kernel_rfl
 rw [if_neg (by rw [c1];decide)]
 show (((rk 2 2 (fm rT):Nat):Int),(0:Int))=_
 rw [c2];rfl
theorem e_tr:trR tT=([[[49]],[[50]]],0):=by
 unfold trR
 have c1:chkE tT=0:=by kernel_rfl
 have h0:fm tT 0 0=1:=by kernel_rfl
 have h1:fm tT 0 1=2:=by kernel_rfl
 rw [if_neg (by rw [c1];decide)]
 show ([[decQ (fm tT 0 0)],[decQ (fm tT 0 1)]],(0:Int))=_
 rw [h0,h1,x7v,txq (q:=2) (l:=[50]) (by kernel_rfl)]
theorem q6d (hlib:Lib E) (hc:Cl E):Fn E z5u [] (.b true):=by
 have hLim:=y1m
 have k1:=cp_ok hc s_aT.l s_aT.r
 have k2:=v1i (E:=E) (b:=bT) hlib hc (by omega) s_aT s_bT (by decide) (by omega)
 have k3:=m_Det (E:=E) hlib hc (by omega) s_aT (by omega)
 have k4:=m_Fit (E:=E) (b:=gT) hlib hc (by omega) s_fT s_gT (by decide) (by omega)
 have k5:=q5a (E:=E) hlib hc (by omega) s_aT (by omega)
 have k7:=q7g (E:=E) hlib hc (by omega) s_rT (by omega)
 have k8:=j8d (E:=E) hlib s_tT (by omega)
 have k9:Fn E B7 [.l (T2 [])] (.i (chkE [])):=j4j hlib (K:=20) (fun r hr=>by cases hr) (by omega) (by decide) (fun r hr=>by cases hr)
 have zs:∀ i,i<2→∀ j,j<2→Sz (sol 2 (fm aT) dl i j) 500:=fun i hi j hj=>(q2d (K:=20) (by omega) (y9h (k1b q6o) s_aT.sh) (fun i _ j _=>sz_dl (by omega) i j) i hi j hj).mono (by decide)
 have k6:=m_Mul (E:=E) hlib (s_aT.mono (show 20≤1002 by omega)) (sm_tm (m:=2) (w:=2) (by omega) (by omega) zs (show 2*500+2≤1002 by omega)) (by omega)
 rw [e_sol] at k2
 rw [e_det] at k3
 rw [e_fit] at k4
 rw [e_inv] at k5
 rw [e_mul] at k6
 rw [e_rank] at k7
 rw [e_tr] at k8
 have c9:chkE []=9:=by kernel_rfl
 rw [c9] at k9
 have q1:=j7s (E:=E) (a:=[[50],[49]]) (by decide)
 have q2:=j7s (E:=E) (a:=[[53,47,54],[51,47,50]]) (by decide)
 have q3:=q3y (E:=E) (a:=[[[49],[48]],[[48],[49]]]) (by decide) (by decide)
 have q4:=q3y (E:=E) (a:=[[[49]],[[50]]]) (by decide) (by decide)
 exact k9s k1 k2 k3 k4 k5 k6 k7 k8 rfl q1 rfl q2 rfl q3 rfl q4 k9 rfl rfl rfl rfl rfl rfl rfl rfl rfl rfl rfl rfl rfl rfl rfl rfl rfl rfl rfl rfl rfl rfl rfl rfl rfl
end Gev
namespace Gev
open Go Gb Go.Proofs
variable {P:Program}
inductive LK where
 | int | bool | str | slice (e:TypeId)
def j2g (P:Program) (rec:TypeId→Option (List LK)):Nat→List Field→Option (List LK)
 | _,[]=>some []
 | o,f::fs=>match rec f.type,j2g P rec (o+P.cellsOf f.type) fs with
  | some ks,some rs=>if f.offset=o∧P.cellsOf f.type=ks.length then some (ks++rs) else none
  | _,_=>none
def y0x (P:Program):Nat→TypeId→Option (List LK)
 | 0,_=>none
 | n+1,t=>match P.underlying t with
  | some (.int .i64)=>some [.int]
  | some .bool=>some [.bool]
  | some .string=>some [.str]
  | some (.slice e)=>some [.slice e]
  | some (.struct fs)=>match j2g P (y0x P n) 0 fs.toList with
   | some l=>if P.cellsOf t=l.length then some l else none
   | none=>none
  | _=>none
def InI (n:Int):Prop:=-9223372036854775808≤n∧n≤9223372036854775807
def LeL (n:Nat):Prop:=n≤9223372036854775807
inductive L1 (P:Program):LK→DV→Prop
 | int (n:Int) (h:InI n):L1 P .int (.i64 n)
 | bool (b:Bool):L1 P .bool (.bool b)
 | str (l:List UInt8):L1 P .str (.str (B l))
 | slice {e:TypeId} (xs:RW) (h:∀ x∈xs,TyD P e x) (hl:LeL xs.length):L1 P (.slice e) (.list xs)
inductive LOk (P:Program):List LK→List DV→Prop
 | nil:LOk P [] []
 | cons {k:LK} {ks:List LK} {d:DV} {ds:List DV} (h:L1 P k d) (t:LOk P ks ds):LOk P (k::ks) (d::ds)
theorem LOk.append {ks ls:List LK} {ds es:List DV} (h:LOk P ks ds) (g:LOk P ls es):LOk P (ks++ls) (ds++es):=by
 induction h with
 | nil=>exact g
 | cons h _ ih=>exact .cons h ih
theorem LOk.len {ks:List LK} {ds:List DV} (h:LOk P ks ds):ds.length=ks.length:=by
 induction h with
 | nil=>rfl
 | cons h _ ih=>rw [List.length_cons,List.length_cons,ih]
theorem LOk.hd {k:LK} {ks:List LK} {ds:List DV} (h:LOk P (k::ks) ds):∃ d es,ds=d::es∧L1 P k d∧LOk P ks es:=by
 cases h with
 | cons h t=>exact ⟨_,_,rfl,h,t⟩
theorem LOk.e {ds:List DV} (h:LOk P [] ds):ds=[]:=by cases h;rfl
theorem L1.i {d:DV} (h:L1 P .int d):∃ n,d=.i64 n:=by cases h;exact ⟨_,rfl⟩
theorem L1.j {d:DV} (h:L1 P .int d):∃ n,d=.i64 n∧InI n:=by cases h with | int n h=>exact ⟨_,rfl,h⟩
theorem L1.s {d:DV} (h:L1 P .str d):∃ l,d=.str (B l):=by cases h;exact ⟨_,rfl⟩
theorem L1.l {e:TypeId} {d:DV} (h:L1 P (.slice e) d):∃ xs,d=.list xs∧(∀ x∈xs,TyD P e x)∧LeL xs.length:=by cases h with | slice xs h n=>exact ⟨_,rfl,h,n⟩
theorem inI_wf {m:Int} (h:(Lit.int IntKind.i64 m).wf=true):InI m:=by
 unfold Lit.wf at h
 rw [Bool.and_eq_true,decide_eq_true_eq,decide_eq_true_eq] at h
 exact h
theorem j1w {rec:TypeId→Option (List LK)} (ih:∀ t ks ds,rec t=some ks→TyD P t ds→LOk P ks ds):∀ (fs:List Field) (o:Nat) (l:List LK) (ds:List DV),j2g P rec o fs=some l→(∀ f∈fs,TyD P f.type ((ds.drop f.offset).take (P.cellsOf f.type)))→LOk P l ((ds.drop o).take l.length)
 | [],o,l,ds,h,hp=>by cases h;exact .nil
 | f::fs,o,l,ds,h,hp=>by
  unfold j2g at h
  cases h1:rec f.type with
  | none=>rw [h1] at h;cases h
  | some ks =>
   cases h2:j2g P rec (o+P.cellsOf f.type) fs with
   | none=>rw [h1,h2] at h;cases h
   | some rs =>
    rw [h1,h2] at h
    simp only at h
    split at h
    · rename_i hc
      cases h
      have a1:=ih _ _ _ h1 (hp f (by simp))
      have a2:=j1w ih fs _ rs ds h2 fun g hg=>hp g (List.mem_cons_of_mem _ hg)
      rw [hc.1,hc.2] at a1
      rw [hc.2] at a2
      rw [List.length_append,List.take_add,List.drop_drop]
      exact a1.append a2
    · cases h
theorem x3f:∀ (n:Nat) (t:TypeId) (ks:List LK) (ds:List DV),y0x P n t=some ks→TyD P t ds→LOk P ks ds
 | 0,t,ks,ds,h,hd=>by cases h
 | n+1,t,ks,ds,h,hd=>by
  unfold y0x at h
  cases hd with
  | int m hu hw =>
   rename_i k
   rw [hu] at h
   cases k <;> first | (cases h;exact .cons (.int m (inI_wf hw)) .nil) | cases h
  | bool b hu=>rw [hu] at h;cases h;exact .cons (.bool b) .nil
  | str s hu=>rw [hu] at h;cases h;rw [← B_of s];exact .cons (.str _) .nil
  | slice xs hu hx hl=>rw [hu] at h;cases h;exact .cons (.slice xs hx hl) .nil
  | struct ds hu hl hp =>
   rw [hu] at h
   simp only at h
   rename_i fs
   cases h2:j2g P (y0x P n) 0 fs.toList with
   | none=>rw [h2] at h;cases h
   | some l =>
    rw [h2] at h
    simp only at h
    split at h
    · rename_i hc
      cases h
      have:=j1w (x3f n) fs.toList 0 _ ds h2 hp
      rw [List.drop_zero,← hc,← hl,List.take_length] at this
      exact this
    · cases h
theorem q3w {α:Type} {p:List DV→Prop} {f:α→List DV} (h:∀ x,p x→∃ a,x=f a):∀ xs:RW,(∀ x∈xs,p x)→∃ l:List α,xs=l.map f
 | [],_=>⟨[],rfl⟩
 | x::xs,hx=>by
  obtain ⟨l,rfl⟩:=q3w h xs fun y hy=>hx y (List.mem_cons_of_mem _ hy)
  obtain ⟨a,rfl⟩:=h x (hx x (by simp))
  exact ⟨a::l,rfl⟩
theorem u_R1 {e:TypeId} {n:Nat} (h:y0x P n e=some [.str]) {xs:RW} (hx:∀ x∈xs,TyD P e x):∃ l,xs=R1 l :=
 q3w (fun x k=>by
  have:=x3f _ _ _ _ h k
  match x,this with
  | _,.cons (.str l) .nil=>exact ⟨l,rfl⟩) xs hx
theorem u_R1l {e:TypeId} {n:Nat} (h:y0x P n e=some [.str]) {xs:RW} (hx:∀ x∈xs,TyD P e x) (hl:LeL xs.length):∃ l:TR,xs=R1 l∧l.length≤9223372036854775807:=by
 obtain ⟨l,rfl⟩:=u_R1 h hx
 rw [N5] at hl
 exact ⟨l,rfl,hl⟩
theorem u_T2 {e q:TypeId} {n:Nat} (he:y0x P n e=some [.slice q]) (hq:y0x P n q=some [.str]) {xs:RW} (hx:∀ x∈xs,TyD P e x):∃ l:TM,xs=T2 l∧∀ r∈l,r.length≤9223372036854775807:=by
 induction xs with
 | nil=>exact ⟨[],rfl,fun a h=>by cases h⟩
 | cons x xs ih =>
  obtain ⟨l,rfl,hl⟩:=ih fun y hy=>hx y (List.mem_cons_of_mem _ hy)
  obtain ⟨_,_,rfl,z1,t⟩:=(x3f _ _ _ _ he (hx x (by simp))).hd
  cases t.e
  obtain ⟨ys,rfl,hy,ny⟩:=z1.l
  obtain ⟨r,rfl,hr⟩:=u_R1l hq hy ny
  refine ⟨r::l,rfl,fun z hz=>?_⟩
  rcases List.mem_cons.1 hz with rfl | hz
  · exact hr
  · exact hl z hz
theorem u_Mx {t e q:TypeId} {n:Nat} (ht:y0x P n t=some [.slice e]) (he:y0x P n e=some [.slice q]) (hq:y0x P n q=some [.str]) {a:AV} (ha:AvOf P t a) (hu:P.underlying t=some (.slice e)):∃ l:TM,a=.c (.list (T2 l))∧Ln l:=by
 cases ha with
 | agg h _=>rw [hu] at h;cases h
 | one hd =>
  have:=x3f _ _ _ _ ht hd
  cases this with
  | cons h t=>cases t;cases h with
  | slice xs hx hl =>
  obtain ⟨l,rfl,hr⟩:=u_T2 he hq hx
  have hl:(T2 l).length≤9223372036854775807:=hl
  rw [z0p] at hl
  exact ⟨l,rfl,⟨hl,hr⟩⟩
end Gev
namespace Gev
open Go Gb Go.Proofs
variable {E:Env}
theorem cl_ok:Cl E where
 ra l h1 hl:=j3a (E:=E) (f:=z0b) (T:=x2r) (k:=1) (K4 (by kernel_rfl)) (by kernel_rfl) q4o k9h l h1 (by omega)
 rr l h1 hl:=j3a (E:=E) (f:=z0w) (T:=A6) (k:=1) (K4 (by kernel_rfl)) (by kernel_rfl) q4p k9i l h1 (by omega)
theorem cl0:Cl E0:=cl_ok
theorem awake0:Fn E0 z5u [] (.c (.bool true)):=q6d lib0 cl0
end Gev
