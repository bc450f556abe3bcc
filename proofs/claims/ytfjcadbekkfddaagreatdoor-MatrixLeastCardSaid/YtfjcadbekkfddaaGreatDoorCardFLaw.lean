/- The law of the last text of this claim: its walk, its plain words. -/
import Derived.Test.YtfjcadbekkfddaaGreatDoorE
import Derived.KernelRfl
import Derived.Test.YtfjcadbekkfddaaGreatDoorTie
import Derived.Test.YtfjcadbekkfddaaGreatDoorCards
set_option linter.unusedSectionVars false
set_option linter.unusedVariables false
set_option linter.unusedSimpArgs false
namespace Gev
open Go Go.Proofs
variable {E:Env}
variable {o:Out} {t:St} {r0 r1 r2 r3 r4 r5 r6 r7 r8 r9 r10 r11 r12 r13 r14 r15 r16 r17 r18 r19 r20 r21 r22 r23:RW} {i0 i1 i2 i3 i4 i5 i6 i7 i8 i9 i10 i11 i12 i13 i14:Int} {s0 s1 s2 s3 s4 s5 s6 s7:BA} {n0 n1:Nat} {b0 b1:Bool}
def U8 (r0 r1 r2 r3:RW) (s0:BA) (n0:Nat) (i0 i1:Int) (r4 r5 r6:RW):St:=stOf 138 [(0,.l r0),(1,.l r1),(2,.l r2),(7,.l r3),(8,.s s0),(10,.vec 2 n0),(67,.i i0),(68,.i i1)] [sF r4,sF r5,sV M6 r6]
def z4z (r0 r1 r2:RW) (s0:BA) (n0:Nat) (r4 r5 r7:RW):St:=stOf 138 [(0,.l r0),(1,.l r1),(2,.l r2),(8,.s s0),(10,.vec 2 n0)] [sF r4,sF r5,sV M6 r7]
theorem x0i (h1:i1<i0)(h2:0≤i1)(h3:r3[(Int.toNat i1)]?=some [.s s1])(h4:r2[(Int.toNat i1)]?=some [.s s2])(h5:Fn E z1p [.s s1,.s s2] (.tup [.s s3,.i i2]))(h6:0≤i1∧i1<((n0:Nat):Int))(h7:r6[(Int.toNat i1)]?=some [.s s4])(e1:List.set r6 (Int.toNat i1) [.s s3]=r8)(e2:IntKind.i64.wrap (i1+1)=i3)(ih:Lp E 3 C4 0 (U8 r0 r1 r2 r3 s0 n0 i0 i3 r4 r5 r8) o t):Lp E 3 C4 0 (U8 r0 r1 r2 r3 s0 n0 i0 i1 r4 r5 r6) o t:=by subst e1 e2;exact lpM (oT h1 (oP h2 (oD h3 (oP h2 (oD h4 (oF h5 (oP h6 (oD h7 oZ)))))))) ih
theorem y7n (h1:¬ i1<i0):Lp E 3 C4 0 (U8 r0 r1 r2 r3 s0 n0 i0 i1 r4 r5 r6) (.exit 0) (z4z r0 r1 r2 s0 n0 r4 r5 r6):=lpX (oU h1 oZ)
def Z7 (r0 r1:RW) (s0 s1:BA) (r2:RW) (i0 i1:Int) (r3 r4 r5:RW):St:=stOf 138 [(1,.l r0),(2,.l r1),(8,.s s0),(12,.s s1),(89,.l r2),(90,.i i0),(91,.i i1)] [sF r3,sF r4,sF r5]
def z5a (r1:RW) (s0:BA) (r3 r4 r5:RW) (s2:BA):St:=stOf 138 [(2,.l r1),(8,.s s0),(12,.s s2)] [sF r3,sF r4,sF r5]
theorem x0j (h1:i1<i0)(h2:0≤i1)(h3:r2[(Int.toNat i1)]?=some [.s s3])(h4:r0[(Int.toNat i1)]?=some [.s s4])(h5:Fn E z7d [.s s3,.s s4] (.tup [.s s5,.i i2]))(h6:Fn E z1r [.s s5,.s s5] (.tup [.s s6,.i i3]))(h7:Fn E z1p [.s s1,.s s6] (.tup [.s s7,.i i4]))(e1:IntKind.i64.wrap (i1+1)=i5)(ih:Lp E 3 C4 1 (Z7 r0 r1 s0 s7 r2 i0 i5 r3 r4 r5) o t):Lp E 3 C4 1 (Z7 r0 r1 s0 s1 r2 i0 i1 r3 r4 r5) o t:=by subst e1;exact lpM (oT h1 (oP h2 (oD h3 (oP h2 (oD h4 (oF h5 (oF h6 (oF h7 oZ)))))))) ih
theorem y7o (h1:¬ i1<i0):Lp E 3 C4 1 (Z7 r0 r1 s0 s1 r2 i0 i1 r3 r4 r5) (.exit 2) (z5a r1 s0 r3 r4 r5 s1):=lpX (oU h1 oZ)
section
variable (h1:Fn E J5 [] (.b true))
include h1
section
variable (h2:Fn E F5 [.l r0] (.b true))
include h2
section
variable (h3:Fn E D4 [.l r1,.i 5] (.b true))
include h3
section
variable (h4:Fn E D4 [.l r2,.i 5] (.b true))(h5:Fn E M2 [.l r0] (.l r3))(h6:Rn E H0 [.l r1] [] (.vec 0 n0) [sV M6 r4])(h7:Fn E K4 [.l r3,.l r5] (.tup [.l r6,.s s0,.i i0]))
include h4 h5 h6 h7
theorem x9x (h8:¬ i0=0)(e1:(r4.take n0)=r5):Fn E C4 [.l r0,.l r1,.l r2] (.b true):=by subst e1;exact fnM (oF h1 (oF h2 (oF h3 (oF h4 (oF h5 (oN h6 (oF h7 (oB (bnT h8) oZ))))))))
section
variable (h8:i0=0)
include h8
theorem x9y (h9:¬ (r2.length:Int)=(r6.length:Int))(e1:(r4.take n0)=r5):Fn E C4 [.l r0,.l r1,.l r2] (.b true):=by subst e1;exact fnM (oF h1 (oF h2 (oF h3 (oF h4 (oF h5 (oN h6 (oF h7 (oC (bnF h8) (oB (bnT h9) oZ)))))))))
section
variable (h9:(r2.length:Int)=(r6.length:Int))(h10:Fn E B4 [.l r7] (.i i1))
include h9 h10
theorem x9z (h11:¬ i1=0)(e1:(r4.take n0)=r5)(e2:(([[.l r2]]:RW).take 1)=r7):Fn E C4 [.l r0,.l r1,.l r2] (.b true):=by subst e1 e2;exact fnM (oF h1 (oF h2 (oF h3 (oF h4 (oF h5 (oN h6 (oF h7 (oC (bnF h8) (oC (bnF h9) (oF h10 (oB (bnT h11) oZ)))))))))))
theorem k0a (h11:i1=0)(h12:0≤(r6.length:Int)∧(r6.length:Int)≤(r6.length:Int)∧(Int.toNat (r6.length:Int))*16≤140737488355328∧(Int.toNat (r6.length:Int))≤140737488355328)(h13:Lp E 3 C4 0 (U8 r0 r1 r2 r6 s0 n1 (r6.length:Int) 0 r4 [[.l r2]] r8) (.exit 0) (z4z r0 r1 r2 s0 n1 r4 [[.l r2]] r9))(h14:Fn E F1 [.l r0,.l r10] (.l r11))(h15:Lp E 3 C4 1 (Z7 r1 r2 s0 ⟨#[48]⟩ r11 (r11.length:Int) 0 r4 [[.l r2]] r9) (.exit 2) (z5a r2 s0 r4 [[.l r2]] r9 s1))(h16:Fn E z1q [.s s1,.s s0] (.tup [.i i2,.i i3]))(h17:i3=0)(h18:i2≥0)(h19:Fn E C9 [.l r2,.fn D7 []] (.b b1))(h20:b0=(!b1))(e1:(r4.take n0)=r5)(e2:(([[.l r2]]:RW).take 1)=r7)(e3:Int.toNat (r6.length:Int)=n1)(e4:List.replicate n1 [.s ⟨#[]⟩]=r8)(e5:(r9.take n1)=r10)(e6:(i2 == 0)=b0):Fn E C4 [.l r0,.l r1,.l r2] (.b true):=by subst e1 e2 e3 e4 e5 e6;exact fnM (oF h1 (oF h2 (oF h3 (oF h4 (oF h5 (oN h6 (oF h7 (oC (bnF h8) (oC (bnF h9) (oF h10 (oC (bnF h11) (oP h12 (oL h13 (oF h14 (oL h15 (oF h16 (oB (beT h17) (oT h18 (oK (oF h19 (oB (beT h20) oZ)))))))))))))))))))))
end
end
end
theorem k0b (h4:Fn E D4 [.l r2,.i 5] (.b false)):Fn E C4 [.l r0,.l r1,.l r2] (.b true):=fnM (oF h1 (oF h2 (oF h3 (oF h4 (oF h1 oZ)))))
end
theorem k0c (h3:Fn E D4 [.l r1,.i 5] (.b false)):Fn E C4 [.l r0,.l r1,.l r2] (.b true):=fnM (oF h1 (oF h2 (oF h3 (oF h1 oZ))))
end
theorem k0d (h2:Fn E F5 [.l r0] (.b false)):Fn E C4 [.l r0,.l r1,.l r2] (.b true):=fnM (oF h1 (oF h2 (oF h1 oZ)))
end
theorem j8k (h1:Fn E M2 [.l r2] (.l r3))(h2:Fn E P5 [.l r3,.l r4] (.tup [.l r5,.i i0]))(h3:Fn E Y5 [.l r3] (.tup [.s s0,.i i1]))(h4:Fn E K4 [.l r9,.l r10] (.tup [.l r11,.s s1,.i i2]))(h5:Fn E D8 [.l r3] (.tup [.l r12,.i i3]))(h6:Fn E K5 [.l r3,.l r12] (.tup [.l r13,.i i4]))(h7:Fn E z3e [.l r15] (.tup [.i i5,.i i6]))(h8:Fn E H8 [.l r16] (.tup [.l r17,.i i7]))(h9:i13=0)(h10:Fn E J6 [.l r5,.l r0] (.b true))(h11:s0=(⟨#[45,51]⟩:BA))(h12:Fn E J6 [.l r11,.l r18] (.b true))(h13:s1=(⟨#[49,47,54]⟩:BA))(h14:Fn E M9 [.l r13,.l r20] (.b true))(h15:i5=1)(h16:Fn E M9 [.l r17,.l r23] (.b true))(h17:Fn E B4 [.l []] (.i i14))(h18:i14=9)(e1:(([[.s ⟨#[50]⟩],[.s ⟨#[49]⟩]]:RW).take 2)=r0)(e2:(([[.s ⟨#[49]⟩],[.s ⟨#[45,49]⟩]]:RW).take 2)=r1)(e3:(([[.l r0],[.l r1]]:RW).take 2)=r2)(e4:(([[.s ⟨#[53]⟩],[.s ⟨#[49]⟩]]:RW).take 2)=r4)(e5:(([[.s ⟨#[49]⟩],[.s ⟨#[48]⟩]]:RW).take 2)=r6)(e6:(([[.s ⟨#[49]⟩],[.s ⟨#[49]⟩]]:RW).take 2)=r7)(e7:(([[.s ⟨#[49]⟩],[.s ⟨#[50]⟩]]:RW).take 2)=r8)(e8:(([[.l r6],[.l r7],[.l r8]]:RW).take 3)=r9)(e9:(([[.s ⟨#[49]⟩],[.s ⟨#[50]⟩],[.s ⟨#[52]⟩]]:RW).take 3)=r10)(e10:(([[.s ⟨#[50]⟩],[.s ⟨#[52]⟩]]:RW).take 2)=r14)(e11:(([[.l r8],[.l r14]]:RW).take 2)=r15)(e12:(([[.l r8]]:RW).take 1)=r16)(e13:IntKind.i64.wrap (i0+i1)=i8)(e14:IntKind.i64.wrap (i8+i2)=i9)(e15:IntKind.i64.wrap (i9+i3)=i10)(e16:IntKind.i64.wrap (i10+i4)=i11)(e17:IntKind.i64.wrap (i11+i6)=i12)(e18:IntKind.i64.wrap (i12+i7)=i13)(e19:(([[.s ⟨#[53,47,54]⟩],[.s ⟨#[51,47,50]⟩]]:RW).take 2)=r18)(e20:(([[.s ⟨#[48]⟩],[.s ⟨#[49]⟩]]:RW).take 2)=r19)(e21:(([[.l r6],[.l r19]]:RW).take 2)=r20)(e22:(([[.s ⟨#[49]⟩]]:RW).take 1)=r21)(e23:(([[.s ⟨#[50]⟩]]:RW).take 1)=r22)(e24:(([[.l r21],[.l r22]]:RW).take 2)=r23):Fn E J5 [] (.b true):=by subst e1 e2 e3 e4 e5 e6 e7 e8 e9 e10 e11 e12 e13 e14 e15 e16 e17 e18 e19 e20 e21 e22 e23 e24;exact fnM (oF h1 (oF h2 (oF h1 (oF h3 (oF h4 (oF h1 (oF h5 (oF h1 (oF h6 (oF h7 (oF h8 (oB (beT h9) (oF h10 (oB (seT h11) (oF h12 (oB (seT h13) (oF h14 (oB (beT h15) (oF h16 (oF h17 (oB (beT h18) oZ)))))))))))))))))))))
def y4f (n0:Nat) (i0 i1:Int) (r0:RW):St:=stOf 22 [(3,.vec 0 n0),(8,.i i0),(9,.i i1)] [sV A7 r0]
def y9h (n0:Nat) (r1:RW):St:=stOf 22 [(3,.vec 0 n0)] [sV A7 r1]
theorem j4v (h1:i1<i0)(h2:0≤i1∧i1<((n0:Nat):Int))(h3:r0[(Int.toNat i1)]?=some [.l r2])(h4:Rn E H0 [.l r2] [] (.vec 0 n1) [sV M6 r3])(e1:(r3.take n1)=r4)(e2:List.set r0 (Int.toNat i1) [.l r4]=r5)(e3:IntKind.i64.wrap (i1+1)=i2)(ih:Lp E 1 M2 0 (y4f n0 i0 i2 r5) o t):Lp E 1 M2 0 (y4f n0 i0 i1 r0) o t:=by subst e1 e2 e3;exact lpM (oT h1 (oP h2 (oD h3 (oN h4 (oP h2 (oD h3 oZ)))))) ih
theorem k8l (h1:¬ i1<i0):Lp E 1 M2 0 (y4f n0 i0 i1 r0) (.exit 0) (y9h n0 r0):=lpX (oU h1 oZ)
theorem v1f (h1:Rn E z2r [.l r0] [] (.vec 0 n0) [sV A7 r1])(h2:Lp E 1 M2 0 (y4f n0 ((n0:Nat):Int) 0 r1) (.exit 0) (y9h n0 r2))(e1:(r2.take n0)=r3):Fn E M2 [.l r0] (.l r3):=by subst e1;exact fnM (oN h1 (oL h2 oZ))
def z4b (r0:RW) (n0:Nat) (i0:Int) (r1:RW) (i1 i2:Int) (r2:RW) (i3 i4:Int) (r3:RW):St:=stOf 60 [(1,.l r0),(5,.vec 0 n0),(6,.i i0),(15,.l r1),(16,.i i1),(17,.i i2),(25,.l r2),(26,.i i3),(27,.i i4)] [sV M6 r3]
def z9x (r0:RW) (n0:Nat) (r1:RW) (i1 i2:Int) (r4:RW):St:=stOf 60 [(1,.l r0),(5,.vec 0 n0),(15,.l r1),(16,.i i1),(17,.i i2)] [sV M6 r4]
theorem k0k (h1:i4<i3)(h2:0≤i4)(h3:r2[(Int.toNat i4)]?=some [.s s0])(h4:i4<(r0.length:Int))(h5:r0[(Int.toNat i4)]?=some [.s s1])(h6:Fn E z1r [.s s0,.s s1] (.tup [.s s2,.i i5]))(h7:0≤i0∧i0<((n0:Nat):Int))(h8:r3[(Int.toNat i0)]?=some [.s s3])(h9:Fn E z1p [.s s3,.s s2] (.tup [.s s4,.i i6]))(e1:List.set r3 (Int.toNat i0) [.s s4]=r5)(e2:IntKind.i64.wrap (i4+1)=i7)(ih:Lp E 1 F1 1 (z4b r0 n0 i0 r1 i1 i2 r2 i3 i7 r5) o t):Lp E 1 F1 1 (z4b r0 n0 i0 r1 i1 i2 r2 i3 i4 r3) o t:=by subst e1 e2;exact lpM (oT h1 (oP h2 (oD h3 (oT h4 (oP h2 (oD h5 (oF h6 (oP h7 (oD h8 (oF h9 (oP h7 (oD h8 oZ)))))))))))) ih
theorem x5a (h1:¬ i4<i3):Lp E 1 F1 1 (z4b r0 n0 i0 r1 i1 i2 r2 i3 i4 r3) (.exit 2) (z9x r0 n0 r1 i1 i2 r3):=lpX (oU h1 oZ)
def z4a (r0:RW) (n0:Nat) (r1:RW) (i0 i1:Int) (r2:RW):St:=stOf 60 [(1,.l r0),(5,.vec 0 n0),(15,.l r1),(16,.i i0),(17,.i i1)] [sV M6 r2]
def z9w (n0:Nat) (r3:RW):St:=stOf 60 [(5,.vec 0 n0)] [sV M6 r3]
theorem k0j (h1:i1<i0)(h2:0≤i1)(h3:r1[(Int.toNat i1)]?=some [.l r4])(h4:0≤i1∧i1<((n0:Nat):Int))(h5:r2[(Int.toNat i1)]?=some [.s s0])(h6:Lp E 1 F1 1 (z4b r0 n0 i1 r1 i0 i1 r4 (r4.length:Int) 0 r5) (.exit 2) (z9x r0 n0 r1 i0 i1 r6))(e1:List.set r2 (Int.toNat i1) [.s ⟨#[48]⟩]=r5)(e2:IntKind.i64.wrap (i1+1)=i2)(ih:Lp E 1 F1 0 (z4a r0 n0 r1 i0 i2 r6) o t):Lp E 1 F1 0 (z4a r0 n0 r1 i0 i1 r2) o t:=by subst e1 e2;exact lpM (oT h1 (oP h2 (oD h3 (oP h4 (oD h5 (oL h6 oZ)))))) ih
theorem x4z (h1:¬ i1<i0):Lp E 1 F1 0 (z4a r0 n0 r1 i0 i1 r2) (.exit 0) (z9w n0 r2):=lpX (oU h1 oZ)
theorem j1g (h1:0≤(r0.length:Int)∧(r0.length:Int)≤(r0.length:Int)∧(Int.toNat (r0.length:Int))*16≤140737488355328∧(Int.toNat (r0.length:Int))≤140737488355328)(h2:Lp E 1 F1 0 (z4a r1 n0 r0 (r0.length:Int) 0 r2) (.exit 0) (z9w n0 r3))(e1:Int.toNat (r0.length:Int)=n0)(e2:List.replicate n0 [.s ⟨#[]⟩]=r2)(e3:(r3.take n0)=r4):Fn E F1 [.l r0,.l r1] (.l r4):=by subst e1 e2 e3;exact fnM (oP h1 (oL h2 oZ))
theorem x4v (h1:¬ s0=(⟨#[48]⟩:BA)):Fn E D7 [.s s0] (.b true):=fnM (oB (snT h1) oZ)
theorem x4w (h1:s0=(⟨#[48]⟩:BA)):Fn E D7 [.s s0] (.b false):=fnM (oC (snF h1) oZ)
end Gev
namespace Gev
open Go Gb
variable {E:Env}
attribute [local irreducible] Sz
theorem v5o {α:Type} {l:List α} {i:Nat} {x:α} (h:l[i]?=some x):List.set l i x=l:=by
 obtain ⟨h1,h2⟩:=List.getElem?_eq_some_iff.1 h
 rw [← h2];exact List.set_getElem_self h1
theorem y9y (hc:Cl E) {a:TM} (hl:a.length≤1000) (hr:∀ r∈a,r.length≤1000):Fn E M2 [.l (T2 a)] (.l (T2 a)):=by
 have e:=V7 a
 have key:∀ d i,i+d=a.length→Lp E 1 M2 0 (y4f a.length (a.length:Nat) (i:Nat) (T2 a)) (.exit 0) (y9h a.length (T2 a)):=by
  intro d
  induction d with
  | zero=>intro i h;exact k8l (by omega)
  | succ d ih =>
   intro i h
   obtain ⟨x,hx⟩:=k5v (l:=a) (i:=i) (by omega)
   have k:=hc.ra (R1 x) (v2v x) (by rw [H5];exact hr x (List.mem_of_getElem? hx))
   exact j4v (by omega) ⟨by omega,by omega⟩ (z9r hx) k (List.take_length) (v5o (z9r hx)) (wi (by omega)) (ih (i+1) (by omega))
 have k:=hc.rr (T2 a) (w1n a) (by rw [V7];exact hl)
 rw [e] at k
 exact v1f k (key a.length 0 (by omega)) (by rw [← e];exact List.take_length)
def zq (m:Nat) (v:Nat→Rat) (i:Nat):RW:=(List.range m).map fun q=>if q<i then tx (v q) else [.str ⟨#[]⟩]
def yq (m:Nat) (v:Nat→Rat) (i:Nat) (x:Rat):RW:=(List.range m).map fun q=>if q<i then tx (v q) else if q=i then tx x else [.str ⟨#[]⟩]
theorem v2r {m i:Nat} {v:Nat→Rat} (h:i<m):(zq m v i)[(Int.toNat (i:Nat))]?=some [.str ⟨#[]⟩]:=by
 rw [Int.toNat_natCast];simp [zq,h]
theorem w1j {m i:Nat} {v:Nat→Rat} {x:Rat} (h:i<m):(yq m v i x)[(Int.toNat (i:Nat))]?=some [.str (B (decQ x))]:=by
 rw [Int.toNat_natCast];simp [yq,h,tx]
theorem v2s {m i:Nat} {v:Nat→Rat} {x:Rat}:List.set (zq m v i) (Int.toNat (i:Nat)) [.str (B (decQ x))]=yq m v i x:=by
 rw [Int.toNat_natCast]
 unfold zq yq;rw [z8f]
 exact List.map_congr_left fun q _=>by
  by_cases h:q=i
  · rw [if_pos h,if_neg (by omega),if_pos h];rfl
  · rw [if_neg h]
    by_cases h2:q<i
    · rw [if_pos h2,if_pos h2]
    · rw [if_neg h2,if_neg h2,if_neg h]
theorem yy_set {m i:Nat} {v:Nat→Rat} {x y:Rat}:List.set (yq m v i y) (Int.toNat (i:Nat)) [.str (B (decQ x))]=yq m v i x:=by
 rw [Int.toNat_natCast]
 unfold yq;rw [z8f]
 exact List.map_congr_left fun q _=>by
  by_cases h:q=i
  · rw [if_pos h,if_neg (by omega),if_pos h];rfl
  · rw [if_neg h]
    by_cases h2:q<i
    · rw [if_pos h2,if_pos h2]
    · rw [if_neg h2,if_neg h2,if_neg h,if_neg h]
theorem yz {m i:Nat} {v:Nat→Rat}:yq m v i (v i)=zq m v (i+1):=by
 unfold zq yq
 exact List.map_congr_left fun q _=>by
  by_cases h:q<i
  · rw [if_pos h,if_pos (by omega)]
  · rw [if_neg h]
    by_cases h2:q=i
    · rw [if_pos h2,if_pos (by omega),h2]
    · rw [if_neg h2,if_neg (by omega)]
theorem j3g {m:Nat} {v:Nat→Rat}:List.replicate m ([.str ⟨#[]⟩]:List DV)=zq m v 0:=by
 unfold zq
 rw [List.map_congr_left (g:=fun _=>([.str ⟨#[]⟩]:List DV)) fun q _=>if_neg (by omega)]
 rw [List.map_const',List.length_range]
theorem q6r {m:Nat} {v:Nat→Rat}:zq m v m=rw' tx m v:=by
 unfold zq rw'
 exact List.map_congr_left fun q hq=>if_pos (by simpa using hq)
def ap (w:Nat) (f:Mx) (x:Nat→Rat):Nat→Rat:=fun i=>sm w fun k=>f i k*x k
theorem ap_L1 (hlib:Lib E) {m w i K L:Nat} {f:Mx} {x:Nat→Rat} {i1 i2:Int} (hi:i<m) (hm:m≤1000) (hw:w≤1000) (hf:∀ j,j<w→Sz (f i j) K) (hx:∀ j,j<w→Sz (x j) L) (hK:(K+L+1)*w+1≤Lim):∀ d j,j+d=w →
    Lp E 1 F1 1 (z4b (rw' tx w x) m (i:Nat) (rl (mx tx m w f)) i1 i2 (rw' tx w (f i)) (w:Nat) (j:Nat) (yq m (ap w f x) i (sm j fun k=>f i k*x k))) (.exit 2) (z9x (rw' tx w x) m (rl (mx tx m w f)) i1 i2 (yq m (ap w f x) i (sm w fun k=>f i k*x k)))
 | 0,j,h=>by
  have e:j=w:=by omega
  subst e
  exact x5a (by omega)
 | d+1,j,h=>by
  have hs:=z6f j (fun k=>f i k*x k) fun k hk=>(hf k (by omega)).mul (hx k (by omega))
  have hm':=(hf j (by omega)).mul (hx j (by omega))
  have hb:(K+L+1)*(j+1)≤(K+L+1)*w:=Nat.mul_le_mul_left _ (by omega)
  rw [Nat.mul_add] at hb
  exact k0k (by omega) (by omega) (y8w (by omega)) (by rw [B9];omega) (y8w (by omega)) (z5w hlib (hf j (by omega)) (hx j (by omega)) (by omega)) ⟨by omega,by omega⟩ (w1j hi) (z5v hlib hs hm' (by omega)) yy_set (wi (by omega)) (ap_L1 hlib hi hm hw hf hx hK d (j+1) (by omega))
theorem ap_L0 (hlib:Lib E) {m w K L:Nat} {f:Mx} {x:Nat→Rat} (hm:m≤1000) (hw:w≤1000) (hf:∀ i,i<m→∀ j,j<w→Sz (f i j) K) (hx:∀ j,j<w→Sz (x j) L) (hK:(K+L+1)*w+1≤Lim):∀ d i,i+d=m →
    Lp E 1 F1 0 (z4a (rw' tx w x) m (rl (mx tx m w f)) (m:Nat) (i:Nat) (zq m (ap w f x) i)) (.exit 0) (z9w m (zq m (ap w f x) m))
 | 0,i,h=>by
  have e:i=m:=by omega
  subst e
  exact x4z (by omega)
 | d+1,i,h=>by
  have hi:i<m:=by omega
  have h1:=ap_L1 hlib (i1:=(m:Nat)) (i2:=(i:Nat)) hi hm hw (hf i hi) hx hK w 0 (by omega)
  have h2:=ap_L0 hlib hm hw hf hx hK d (i+1) (by omega)
  rw [← yz] at h2
  exact k0j (by omega) (by omega) (rmI hi) ⟨by omega,by omega⟩ (v2r hi) (by rw [B9];exact h1) (by rw [← Bq0];exact v2s) (wi (by omega)) h2
theorem x2c (hlib:Lib E) {m w K L:Nat} {f:Mx} {x:Nat→Rat} (hm:m≤1000) (hw:w≤1000) (hf:∀ i,i<m→∀ j,j<w→Sz (f i j) K) (hx:∀ j,j<w→Sz (x j) L) (hK:(K+L+1)*w+1≤Lim):Fn E F1 [.l (rl (mx tx m w f)),.l (rw' tx w x)] (.l (rw' tx m (ap w f x))):=by
 have h:=ap_L0 hlib hm hw hf hx hK m 0 (by omega)
 rw [q6r] at h
 exact j1g (by rw [P2];omega) (by rw [P2];exact h) (by rw [P2];exact Int.toNat_natCast _) j3g (X3 (Nat.le_refl _))
theorem y4v {a:TM} (h:few a=true):Sm 20 a∧(chkE a=0→a.length≤5∧(hd1 a).length≤4):=by
 unfold few at h
 rw [Bool.and_eq_true,Bool.or_eq_true,decide_eq_true_eq,decide_eq_true_eq,Bool.not_eq_true',List.any_eq_false] at h
 obtain ⟨h1,h2⟩:=h
 have hrow:∀ r∈a,(∀ x∈r,x.length≤20)∧(r.length≤4∨r.length=13):=fun r hr=>by
  have h3:fewL r 4=true:=by simpa using h1 r hr
  unfold fewL at h3
  rw [Bool.and_eq_true,Bool.or_eq_true,decide_eq_true_eq,decide_eq_true_eq,Bool.not_eq_true',List.any_eq_false] at h3
  exact ⟨fun x hx=>by have:=h3.1 x hx;simp at this;exact this,h3.2⟩
 have h5:chkE a=0→a.length≤5∧(hd1 a).length≤4:=fun c=>by
  have o:=y4y c
  refine ⟨by have:=o.m2;omega,?_⟩
  have hm:=o.m1
  have:hd1 a∈a:=by
   cases a with
   | nil=>simp at hm
   | cons r a=>simp [hd1]
  have:=(hrow _ this).2
  have:=o.w2
  omega
 exact ⟨⟨fun r hr=>(hrow r hr).1,by omega,fun r hr=>by have:=(hrow r hr).2;omega,fun c=>by have:=h5 c;omega⟩,h5⟩
theorem x9f {b:TR} {n:Nat} (hn:n≤100) (h:fewL b n=true):S1 20 b∧b.length≤1000:=by
 unfold fewL at h
 rw [Bool.and_eq_true,Bool.or_eq_true,decide_eq_true_eq,decide_eq_true_eq,Bool.not_eq_true',List.any_eq_false] at h
 exact ⟨fun x hx=>by have:=h.1 x hx;simp at this;exact this,by omega⟩
theorem Sm.mono {K L:Nat} {a:TM} (h:Sm K a) (k:K≤L):Sm L a:=⟨fun r hr x hx=>Nat.le_trans (h.sh r hr x hx) k,h.l,h.r,h.few⟩
theorem v0d {m w K L:Nat} {f:Mx} (hm:m≤5) (hw:w≤5) (hf:∀ i,i<m→∀ j,j<w→Sz (f i j) K) (hK:2*K+2≤L):Sm L (tm m w f):=by
 have hr:∀ r∈tm m w f,r.length=w:=fun r hr=>by obtain ⟨i,_,rfl⟩:=List.mem_map.1 hr;exact z5p
 refine ⟨fun r hr x hx=>Nat.le_trans (sh_tm hf r hr x hx) hK,by rw [y3n];omega,fun r h=>by rw [hr r h];omega,fun c=>⟨by rw [y3n];omega,?_⟩⟩
 have hm':=(y4y c).m1
 rw [y3n] at hm'
 rw [hd_tm hm',z5p];omega
theorem k4y (hc:Cl E) {b:TR} (hl:b.length≤1000):Rn E H0 [.l (R1 b)] [] (.vec 0 b.length) [some (.vec M6 (R1 b))]:=by
 have:=hc.ra (R1 b) (v2v b) (by rw [H5];exact hl)
 rwa [H5] at this
theorem y1a {b:TR}:(R1 b).take b.length=R1 b:=by rw [← H5 b,List.take_length]
end Gev
namespace Gb
theorem v4l {n:Nat} {A:Mx} {v:Nat→Rat} (h:rk n n A=n) {i:Nat} (hi:i<n):(sm n fun k=>A i k*sol n A (fun i _=>v i) k 0)=v i :=
 q2h (A:=A) (B:=fun i _=>v i) (j:=0) (by rw [y0s];exact h) hi
theorem q1i {n:Nat} {A:Mx} (h:rk n n A=n) {i j:Nat} (hi:i<n):mm n A (sol n A dl) i j=dl i j:=q2h (by rw [y0s];exact h) hi
theorem v7t {n:Nat} {A:Mx} (h:rk n n A=n) {d:Nat→Rat} (hd:∀ i,i<n→(sm n fun k=>A i k*d k)=0):∀ i,i<n→d i=0:=by
 intro i hi
 obtain ⟨E,h1,_⟩:=v0e (A:=A) (B:=dl) (by rw [y0s];exact h)
 have e1:(sm n fun j=>dl i j*d j)=d i:=by
  rw [q6o hi fun k _ hk=>by simp only [dl];rw [if_neg (Ne.symm hk)];grind]
  simp only [dl,if_pos];grind
 rw [← e1,N2 (g:=fun j=>sm n fun l=>E i l*(A l j*d j)) fun j hj=>by
  rw [← h1 i hi j hj];simp only [mm];rw [← x9s];exact N2 fun l _=>by grind]
 rw [x9r,y8u]
 intro l hl
 rw [y7k,hd l hl];grind
theorem q9w {m w:Nat} {f:Mx} {x v:Nat→Rat} (h:∀ j,j<w→(sm w fun k=>mm m (fun i l=>f l i) f j k*x k)=sm m fun k=>f k j*v k):∀ j,j<w→(sm m fun i=>f i j*((sm w fun k=>f i k*x k)-v i))=0:=by
 intro j hj
 have e:=h j hj
 rw [N2 (g:=fun i=>(sm w fun k=>f i j*f i k*x k)-f i j*v i) fun i _=>by
  have e5:(sm w fun k=>f i j*f i k*x k)=f i j*sm w fun k=>f i k*x k:=by
   rw [← y7k];exact N2 fun k _=>by grind
  rw [e5];grind]
 rw [v2g,← e,x9r]
 rw [N2 (g:=fun k=>mm m (fun i l=>f l i) f j k*x k) fun k _=>by rw [x9s];rfl]
 grind
theorem v5r {m w:Nat} {f:Mx} {x d v:Nat→Rat} (h:∀ j,j<w→(sm m fun i=>f i j*((sm w fun k=>f i k*x k)-v i))=0) :
    (sm m fun i=>((sm w fun k=>f i k*(x k+d k))-v i)*((sm w fun k=>f i k*(x k+d k))-v i))=(sm m fun i=>((sm w fun k=>f i k*x k)-v i)*((sm w fun k=>f i k*x k)-v i))+sm m fun i=>(sm w fun k=>f i k*d k)*(sm w fun k=>f i k*d k):=by
 have e0:(sm m fun i=>(sm w fun k=>f i k*d k)*((sm w fun k=>f i k*x k)-v i))=0:=by
  rw [N2 (g:=fun i=>sm w fun k=>d k*(f i k*((sm w fun k=>f i k*x k)-v i))) fun i _=>by
   rw [← x9s];exact N2 fun k _=>by grind]
  rw [x9r,y8u]
  intro k hk
  rw [y7k,h k hk];grind
 have e1:∀ i,(sm w fun k=>f i k*(x k+d k))=(sm w fun k=>f i k*x k)+sm w fun k=>f i k*d k:=fun i=>by
  rw [← q6n];exact N2 fun k _=>by grind
 have e2:(sm m fun i=>((sm w fun k=>f i k*(x k+d k))-v i)*((sm w fun k=>f i k*(x k+d k))-v i))=(sm m fun i=>((sm w fun k=>f i k*x k)-v i)*((sm w fun k=>f i k*x k)-v i))+(sm m fun i=>(sm w fun k=>f i k*d k)*(sm w fun k=>f i k*d k))+2*(sm m fun i=>(sm w fun k=>f i k*d k)*((sm w fun k=>f i k*x k)-v i)):=by
  rw [← y7k,← q6n,← q6n]
  exact N2 fun i _=>by rw [e1];grind
 rw [e2,e0];grind
theorem v5g {m w:Nat} {f:Mx} {d:Nat→Rat} (hr:rk w w (mm m (fun i l=>f l i) f)=w) (h:(sm m fun i=>(sm w fun k=>f i k*d k)*(sm w fun k=>f i k*d k))=0):∀ k,k<w→d k=0:=by
 have h1:=v2f h
 refine v7t hr fun i hi=>?_
 rw [N2 (g:=fun k=>sm m fun l=>f l i*(f l k*d k)) fun k _=>by
  simp only [mm];rw [← x9s];exact N2 fun l _=>by grind]
 rw [x9r,y8u]
 intro l hl
 rw [y7k,h1 l hl];grind
end Gb
namespace Gev
open Go Gb
variable {E:Env}
attribute [local irreducible] Sz
structure Ln (a:TM):Prop where
 l:a.length≤9223372036854775807
 r:∀ x∈a,x.length≤9223372036854775807
theorem x3w {a:TM} (hl:a.length≤12) (hr:∀ r∈a,r.length≤12):Fn E M9 [.l (T2 a),.l (T2 a)] (.b true):=r_Same (by omega) fun r h=>by have:=hr r h;omega
end Gev
namespace Gev
open Go Gb
variable {E:Env}
attribute [local irreducible] Sz
theorem sz_fx {m w:Nat} {f:Mx} {v:Nat→Rat} (hm:m≤5) (hw:w≤5) (hf:∀ i,i<m→∀ j,j<w→Sz (f i j) 20) (hv:∀ i,i<m→Sz (v i) 20):∀ j,j<w→Sz (fx m w f v j) 643750:=fun j hj=>by
 have kb:(20+20+1)*m≤41*5:=Nat.mul_le_mul_left _ hm
 have szG:∀ i,i<w→∀ j,j<w→Sz (gm m f i j) 206:=fun i hi j hj=>(z6f m _ fun k hk=>(hf k hk i hi).mul (hf k hk j hj)).mono (by omega)
 have szg:∀ i,i<w→Sz (gv m f v i) 206:=fun i hi=>(z6f m _ fun k hk=>(hf k hk i hi).mul (hv k hk)).mono (by omega)
 have hp5:206*5 ^ w≤206*5 ^ 5:=Nat.mul_le_mul_left _ (Nat.pow_le_pow_right (by omega) hw)
 exact (v4m (by omega) szG szg j hj).mono (by omega)
noncomputable def nz (x:List UInt8):Bool:=!decide (x=[48])
theorem v8x:∀ x:List UInt8,Fn E D7 [.s (B x)] (.b (nz x)):=fun x=>by
 unfold nz
 by_cases c:x=[48]
 · rw [decide_eq_true c,c];exact x4w rfl
 · rw [decide_eq_false c];exact x4v (fun h=>c (y0i h))
theorem v3r {n:Nat} {v:Nat→Rat}:(tv n v).any nz=false↔∀ j,j<n→v j=0:=by
 rw [List.any_eq_false]
 constructor
 · intro h j hj
   have:=h (decQ (v j)) (List.mem_of_getElem? (v2m hj))
   unfold nz at this
   simp at this
   exact q2z.1 this
 · intro h x hx
   obtain ⟨j,hj,rfl⟩:=List.mem_map.1 hx
   rw [h j (by simpa using hj),y9z]
   unfold nz;simp
structure Ft (a:TM) (b:TR) (m w:Nat):Prop where
 ok:Ok a m w
 m5:m≤5
 w4:w≤4
 bok:b.all ok1=true
 bl:b.length=m
 rk:rk w w (gm m (fm a))=w
 eq:fitR a b=(tv w (fx m w (fm a) (fv b)),decQ (ss m w (fm a) (fx m w (fm a) (fv b)) (fv b)),0)
theorem q1d {a:TM} {b:TR} (la:chkE a=0→a.length≤5∧(hd1 a).length≤4):((fitR a b).2.2≠0∧(fitR a b).1=[]∧(fitR a b).2.1=[])∨Ft a b a.length (hd1 a).length:=by
 by_cases c1:chkE a=0
 rotate_left
 · left;unfold fitR;rw [if_pos c1];exact ⟨c1,rfl,rfl⟩
 by_cases c2:lstE b=0
 rotate_left
 · left;unfold fitR;rw [if_neg (by omega),if_pos c2];exact ⟨c2,rfl,rfl⟩
 by_cases c3:b.length=a.length
 rotate_left
 · left;unfold fitR;rw [if_neg (by omega),if_neg (by omega),if_pos c3];exact ⟨by simp,rfl,rfl⟩
 by_cases c4:rk (hd1 a).length (hd1 a).length (gm a.length (fm a))<(hd1 a).length
 · left;unfold fitR;rw [if_neg (by omega),if_neg (by omega),if_neg (by omega),if_pos c4];exact ⟨by simp,rfl,rfl⟩
 right
 have h:=la c1
 have h2:=(j7d (hd1 a).length (hd1 a).length (gm a.length (fm a))).1
 refine ⟨y4y c1,h.1,h.2,(k2q c2).1,c3,by omega,?_⟩
 unfold fitR;rw [if_neg (by omega),if_neg (by omega),if_neg (by omega),if_neg c4]
theorem Ft.norm {a:TM} {b:TR} {m w:Nat} (h:Ft a b m w):∀ j,j<w→(sm m fun i=>fm a i j*((sm w fun k=>fm a i k*fx m w (fm a) (fv b) k)-fv b i))=0 :=
 q9w fun j hj=>v4l (A:=gm m (fm a)) (v:=gv m (fm a) (fv b)) h.rk hj
theorem Ft.sz {a:TM} {b:TR} {m w:Nat} (h:Ft a b m w) (sa:Sm 20 a) (sb:S1 20 b):(∀ i,i<m→∀ j,j<w→Sz (fm a i j) 20)∧(∀ i,i<m→Sz (fv b i) 20)∧(∀ j,j<w→Sz (fx m w (fm a) (fv b) j) 643750) :=
 have h1:=z7x h.ok sa.sh
 have h2:∀ i,i<m→Sz (fv b i) 20:=fun i hi=>k7t h.bok sb (by rw [h.bl];exact hi)
 ⟨h1,h2,sz_fx h.m5 (by have:=h.w4;omega) h1 h2⟩
end Gev
namespace Gev
open Go Gb
variable {E:Env}
attribute [local irreducible] Sz
theorem q7p (hlib:Lib E) {w:Nat} {x d:Nat→Rat} {r0 r1 r4 r5:RW} {s0:BA} (hw:w≤4) (hx:∀ j,j<w→Sz (x j) 643750) (hd:∀ j,j<w→Sz (d j) 20):∀ k i,i+k=w →
    Lp E 3 C4 0 (U8 r0 r1 (rw' tx w d) (rw' tx w x) s0 w (w:Nat) (i:Nat) r4 r5 (zq w (fun k=>x k+d k) i)) (.exit 0) (z4z r0 r1 (rw' tx w d) s0 w r4 r5 (zq w (fun k=>x k+d k) w))
 | 0,i,h=>by
  have e:i=w:=by omega
  subst e
  exact y7n (by omega)
 | k+1,i,h=>by
  have hLim:=z0j
  have hi:i<w:=by omega
  have k1:=z5v hlib (hx i hi) (hd i hi) (by omega)
  have ih:=q7p hlib (r0:=r0) (r1:=r1) (r4:=r4) (r5:=r5) (s0:=s0) hw hx hd k (i+1) (by omega)
  rw [← yz] at ih
  exact x0i (by omega) (by omega) (y8w hi) (y8w hi) k1 ⟨by omega,by omega⟩ (v2r hi) v2s (wi (by omega)) ih
theorem q7q (hlib:Lib E) {m w:Nat} {f:Mx} {x v:Nat→Rat} {r1 r3 r4 r5:RW} {s0:BA} (hm:m≤5) (hd:∀ i,i<m→Sz (ap w f x i) 20000000) (hv:∀ i,i<m→Sz (v i) 20):∀ d i,i+d=m →
    Lp E 3 C4 1 (Z7 (rw' tx m v) r1 s0 (B (decQ (ss i w f x v))) (rw' tx m (ap w f x)) (m:Nat) (i:Nat) r3 r4 r5) (.exit 2) (z5a r1 s0 r3 r4 r5 (B (decQ (ss m w f x v))))
 | 0,i,h=>by
  have e:i=m:=by omega
  subst e
  exact y7o (by omega)
 | d+1,i,h=>by
  have hLim:=z0j
  have hi:i<m:=by omega
  have zd:∀ i,i<m→Sz (df w f x v i) 20000021:=fun i hi=>(hd i hi).sub (hv i hi)
  have zs:=z6f i (fun i=>df w f x v i*df w f x v i) fun k hk=>(zd k (by omega)).mul (zd k (by omega))
  have hb:(20000021+20000021+1)*i≤(20000021+20000021+1)*5:=Nat.mul_le_mul_left _ (by omega)
  have k1:=y4z hlib (hd i hi) (hv i hi) (by omega)
  have k2:=z5w hlib (zd i hi) (zd i hi) (by omega)
  have k3:=z5v hlib zs ((zd i hi).mul (zd i hi)) (by omega)
  exact x0j (by omega) (by omega) (y8w hi) (y8w hi) k1 k2 k3 (wi (by omega)) (q7q hlib hm hd hv d (i+1) (by omega))
theorem w1s {c:TR} (h:chkE [c]=0):c.all ok1=true∧1≤c.length∧c.length≤12:=by
 have o:=y4y h
 refine ⟨?_,o.w1,o.w2⟩
 have e:=o.eq
 have e1:[c]=[tv (hd1 [c]).length (fm [c] 0)]:=e
 rw [(List.cons.inj e1).1];exact w1e
theorem law_Least (hlib:Lib E) (hc:Cl E) (hA:Fn E J5 [] (.b true)) {a:TM} {b c:TR} (na:Ln a) (nb:b.length≤9223372036854775807) (nc:c.length≤9223372036854775807):Fn E C4 [.l (T2 a),.l (R1 b),.l (R1 c)] (.b true):=by
 have hLim:=z0j
 have fa:=j0q (E:=E) na.l na.r
 have fb:=y6h (E:=E) (l:=b) (n:=5) nb
 have fc:=y6h (E:=E) (l:=c) (n:=5) nc
 cases ca:few a with
 | false=>rw [ca] at fa;exact k0d hA fa
 | true =>
 rw [ca] at fa
 cases cb:fewL b 5 with
 | false=>rw [cb] at fb;exact k0c hA fa fb
 | true =>
 rw [cb] at fb
 cases cc:fewL c 5 with
 | false=>rw [cc] at fc;exact k0b hA fa fb fc
 | true =>
 rw [cc] at fc
 obtain ⟨sa,la⟩:=y4v ca
 obtain ⟨sb,lb⟩:=x9f (by omega) cb
 obtain ⟨sc,lc⟩:=x9f (by omega) cc
 have k1:=y9y hc sa.l sa.r
 have k2:=k4y hc lb
 have k4:=v3n (E:=E) hlib hc (by omega) sa sb lb (by omega)
 have ec:=H5 c
 rcases q1d (b:=b) la with h | h
 · exact x9x hA fa fb fc k1 k2 k4 h.1 y1a
 obtain ⟨zf,zv,zx⟩:=h.sz sa sb
 have hn:=h.norm
 have hm5:=h.m5
 have hw4:=h.w4
 have hbl:=h.bl
 have ho:=h.ok
 have heq:=h.eq
 have hbok:=h.bok
 have hrk:=h.rk
 rw [heq] at k4
 generalize hm:a.length=m at *
 generalize hw:(hd1 a).length=w at *
 by_cases c1:c.length=w
 rotate_left
 · exact x9y hA fa fb fc k1 k2 k4 rfl (by show ¬ ((R1 c).length:Int)=((R1 (tv w _)).length:Int);rw [H5,H5,z5p];omega) y1a
 have e6:((R1 c).length:Int)=((R1 (tv w (fx m w (fm a) (fv b)))).length:Int):=by rw [H5,H5,z5p,c1]
 have kc:Fn E B4 [.l (T2 [c])] (.i (chkE [c])):=j2y hlib (K:=20) (a:=[c]) (fun r hr x hx=>by
  rw [List.mem_singleton] at hr;subst hr;exact sc x hx) (by omega) (by simp) (fun r hr=>by rw [List.mem_singleton] at hr;subst hr;exact lc)
 by_cases c2:chkE [c]=0
 rotate_left
 · exact x9z hA fa fb fc k1 k2 k4 rfl e6 kc c2 y1a rfl
 obtain ⟨cok,_,_⟩:=w1s c2
 have zd:∀ j,j<w→Sz (fv c j) 20:=fun j hj=>k7t cok sc (by omega)
 have eC:rw' tx w (fv c)=R1 c:=by rw [q0n cok,c1]
 have eB:rw' tx m (fv b)=R1 b:=by rw [q0n hbok,hbl]
 have kf:(20+643750+1)*w≤643771*4:=Nat.mul_le_mul_left _ hw4
 have ko:(20+643771+1)*w≤643792*4:=Nat.mul_le_mul_left _ hw4
 have zo:∀ j,j<w→Sz (fx m w (fm a) (fv b) j+fv c j) 643771:=fun j hj=>(zx j hj).add (zd j hj)
 have L0:=q7p hlib (r0:=T2 a) (r1:=R1 b) (r4:=R1 b) (r5:=[[.l (R1 c)]]) (s0:=B (decQ (ss m w (fm a) (fx m w (fm a) (fv b)) (fv b)))) hw4 zx zd w 0 (by omega)
 rw [eC] at L0
 have k5:=x2c hlib (m:=m) (w:=w) (f:=fm a) (x:=fun k=>fx m w (fm a) (fv b) k+fv c k) (by omega) (by omega) zf zo (by omega)
 rw [← x4d ho] at k5
 have zap:∀ i,i<m→Sz (ap w (fm a) (fun k=>fx m w (fm a) (fv b) k+fv c k) i) 20000000:=fun i hi=>(z6f w _ fun k hk=>(zf i hi k hk).mul (zo k hk)).mono (by omega)
 have zap0:∀ i,i<m→Sz (ap w (fm a) (fx m w (fm a) (fv b)) i) 20000000:=fun i hi=>(z6f w _ fun k hk=>(zf i hi k hk).mul (zx k hk)).mono (by omega)
 have L1:=q7q hlib (r1:=R1 c) (r3:=R1 b) (r4:=[[.l (R1 c)]]) (r5:=zq w (fun k=>fx m w (fm a) (fv b) k+fv c k) w) (s0:=B (decQ (ss m w (fm a) (fx m w (fm a) (fv b)) (fv b)))) hm5 zap zv m 0 (by omega)
 have e1:B (decQ (ss 0 w (fm a) (fun k=>fx m w (fm a) (fv b) k+fv c k) (fv b)))=⟨#[48]⟩:=Bq0
 rw [e1,eB] at L1
 have hb:(20000021+20000021+1)*m≤(20000021+20000021+1)*5:=Nat.mul_le_mul_left _ hm5
 have zs:Sz (ss m w (fm a) (fun k=>fx m w (fm a) (fv b) k+fv c k) (fv b)) 200000216:=(z6f m _ fun i hi=>((zap i hi).sub (zv i hi)).mul ((zap i hi).sub (zv i hi))).mono (by omega)
 have zs0:Sz (ss m w (fm a) (fx m w (fm a) (fv b)) (fv b)) 200000216:=(z6f m _ fun i hi=>((zap0 i hi).sub (zv i hi)).mul ((zap0 i hi).sub (zv i hi))).mono (by omega)
 have kcmp:=k0u hlib zs zs0 (by omega)
 have kn:=x2g (E:=E) (l:=c) nz (by omega) fun x _=>v8x x
 have hsum:ss m w (fm a) (fun k=>fx m w (fm a) (fv b) k+fv c k) (fv b)=ss m w (fm a) (fx m w (fm a) (fv b)) (fv b)+sm m fun i=>(sm w fun k=>fm a i k*fv c k)*(sm w fun k=>fm a i k*fv c k):=v5r (d:=fv c) hn
 have hpos:=k7s m fun i=>sm w fun k=>fm a i k*fv c k
 have ez:=q6r (m:=w) (v:=fun k=>fx m w (fm a) (fv b) k+fv c k)
 have etv:c=tv w (fv c):=by have:=v4r cok;rw [c1] at this;exact this
 have hzero:(cmpQ (ss m w (fm a) (fun k=>fx m w (fm a) (fv b) k+fv c k) (fv b)) (ss m w (fm a) (fx m w (fm a) (fv b)) (fv b))=0)↔c.any nz=false:=by
  rw [v5e]
  constructor
  · intro h
    have h0:(sm m fun i=>(sm w fun k=>fm a i k*fv c k)*(sm w fun k=>fm a i k*fv c k))=0:=by grind
    rw [etv]
    exact v3r.2 (v5g hrk h0)
  · intro h
    rw [etv] at h
    have hd:=v3r.1 h
    rw [hsum,y8u (f:=fun i=>(sm w fun k=>fm a i k*fv c k)*(sm w fun k=>fm a i k*fv c k)) fun i _=>by
     rw [y8u fun k hk=>by rw [hd k hk];grind];grind]
    grind
 refine k0a (n1:=w) (r9:=zq w (fun k=>fx m w (fm a) (fv b) k+fv c k) w) hA fa fb fc k1 k2 k4 rfl e6 kc c2 ?_ ?_ k5 ?_ kcmp rfl ?_ kn ?_ y1a rfl ?_ (j3g (v:=fun k=>fx m w (fm a) (fv b) k+fv c k)) ?_ rfl
 · show 0≤((R1 (tv w _)).length:Int)∧((R1 (tv w _)).length:Int)≤((R1 (tv w _)).length:Int)∧_
   rw [H5,z5p];omega
 · show Lp E 3 C4 0 (U8 _ _ _ (R1 (tv w _)) _ w ((R1 (tv w _)).length:Int) 0 _ _ (zq w _ 0)) _ _
   rw [H5,z5p,k1w];exact L0
 · rw [B9];exact L1
 · have:¬ cmpQ (ss m w (fm a) (fun k=>fx m w (fm a) (fv b) k+fv c k) (fv b)) (ss m w (fm a) (fx m w (fm a) (fv b)) (fv b))<0:=fun h=>by
    rw [v3b] at h
    grind
   omega
 · cases hcz:c.any nz with
   | false=>rw [hcz] at hzero;rw [beT (hzero.2 rfl)];rfl
   | true=>rw [hcz] at hzero;rw [beF (fun h=>by cases hzero.1 h)];rfl
 · show Int.toNat ((R1 (tv w _)).length:Int)=w
   rw [H5,z5p];exact Int.toNat_natCast _
 · rw [ez];exact X3 (Nat.le_refl _)
end Gev
namespace Gev
open Go Gb Go.Proofs
variable {E:Env}
attribute [local irreducible] Sz
theorem txq {l:List UInt8} {q:Rat} (h:q6z q l=true):decQ q=l:=(k7z.1 h).symm
def aT:TM:=[[[50],[49]],[[49],[45,49]]]
def bT:TR:=[[53],[49]]
def fT:TM:=[[[49],[48]],[[49],[49]],[[49],[50]]]
def gT:TR:=[[49],[50],[52]]
def rT:TM:=[[[49],[50]],[[50],[52]]]
def tT:TM:=[[[49],[50]]]
theorem s_aT:Sm 20 aT:=(y4v (by kernel_rfl)).1
theorem s_fT:Sm 20 fT:=(y4v (by kernel_rfl)).1
theorem s_rT:Sm 20 rT:=(y4v (by kernel_rfl)).1
theorem s_tT:Sm 20 tT:=(y4v (by kernel_rfl)).1
theorem s_bT:S1 20 bT:=(x9f (n:=5) (by omega) (by kernel_rfl)).1
theorem s_gT:S1 20 gT:=(x9f (n:=5) (by omega) (by kernel_rfl)).1
theorem e_sq:sqE aT=0:=by kernel_rfl
theorem v7f:chkE aT=0:=by kernel_rfl
theorem e_lst:lstE bT=0:=by kernel_rfl
theorem e_rk:rk 2 2 (fm aT)=2:=by kernel_rfl
theorem e_sol:solR aT bT=([[50],[49]],0):=by
 unfold solR
 rw [if_neg (by rw [v7f];decide),if_neg (by rw [e_lst];decide),if_neg (by decide),if_neg (by show ¬ rk 2 2 (fm aT)<2;rw [e_rk];decide)]
 have h0:sv 2 (fm aT) (fv bT) 0=2:=by kernel_rfl
 have h1:sv 2 (fm aT) (fv bT) 1=1:=by kernel_rfl
 show ([decQ (sv 2 (fm aT) (fv bT) 0),decQ (sv 2 (fm aT) (fv bT) 1)],(0:Int))=_
 rw [h0,h1,txq (q:=2) (l:=[50]) (by kernel_rfl),k5e]
theorem e_det:detR aT=([45,51],0):=by
 unfold detR
 rw [if_neg (by rw [e_sq];decide)]
 have h0:dtE 2 (fm aT)=-3:=by kernel_rfl
 show (decQ (dtE 2 (fm aT)),(0:Int))=_
 rw [h0,txq (q:=-3) (l:=[45,51]) (by kernel_rfl)]
theorem e_fit:fitR fT gT=([[53,47,54],[51,47,50]],[49,47,54],0):=by
 unfold fitR
 have c1:chkE fT=0:=by kernel_rfl
 have c2:lstE gT=0:=by kernel_rfl
 have c3:rk 2 2 (gm 3 (fm fT))=2:=by kernel_rfl
 rw [if_neg (by rw [c1];decide),if_neg (by rw [c2];decide),if_neg (by decide),if_neg (by show ¬ rk 2 2 (gm 3 (fm fT))<2;rw [c3];decide)]
 have h0:fx 3 2 (fm fT) (fv gT) 0=mkRat 5 6:=by kernel_rfl
 have h1:fx 3 2 (fm fT) (fv gT) 1=mkRat 3 2:=by kernel_rfl
 have h2:ss 3 2 (fm fT) (fx 3 2 (fm fT) (fv gT)) (fv gT)=mkRat 1 6:=by kernel_rfl
 show ([decQ (fx 3 2 (fm fT) (fv gT) 0),decQ (fx 3 2 (fm fT) (fv gT) 1)],decQ (ss 3 2 (fm fT) (fx 3 2 (fm fT) (fv gT)) (fv gT)),(0:Int))=_
 rw [h2,h0,h1,txq (q:=mkRat 5 6) (l:=[53,47,54]) (by kernel_rfl),txq (q:=mkRat 3 2) (l:=[51,47,50]) (by kernel_rfl),txq (q:=mkRat 1 6) (l:=[49,47,54]) (by kernel_rfl)]
theorem e_inv:invR aT=(tm 2 2 (sol 2 (fm aT) dl),0):=by
 unfold invR
 rw [if_neg (by rw [e_sq];decide),if_neg (by show ¬ rk 2 2 (fm aT)<2;rw [e_rk];decide)];rfl
theorem e_mul:mulR aT (tm 2 2 (sol 2 (fm aT) dl))=([[[49],[48]],[[48],[49]]],0):=by
 have om:=q8c (m:=2) (w:=2) (f:=sol 2 (fm aT) dl) (by omega) (by omega) (by omega) (by omega)
 unfold mulR
 rw [if_neg (by rw [v7f];decide),if_neg (by rw [y6q om];decide),if_neg (by rw [om.len];decide),om.len,om.hd]
 have e:tm aT.length 2 (mm 2 (fm aT) (fm (tm 2 2 (sol 2 (fm aT) dl))))=tm 2 2 dl:=x1x fun i hi j hj=>by rw [← q1i e_rk hi];exact z9b (fun _ _=>rfl) fun l hl=>x4g hl hj
 rw [e]
 show ([[decQ 1,decQ 0],[decQ 0,decQ 1]],(0:Int))=_
 rw [k5e,y9z]
theorem e_rank:rkR rT=(1,0):=by
 unfold rkR
 have c1:chkE rT=0:=by kernel_rfl
 have c2:rk 2 2 (fm rT)=1:=by kernel_rfl
 rw [if_neg (by rw [c1];decide)]
 show (((rk 2 2 (fm rT):Nat):Int),(0:Int))=_
 rw [c2];rfl
theorem e_tr:trR tT=([[[49]],[[50]]],0):=by
 unfold trR
 have c1:chkE tT=0:=by kernel_rfl
 have h0:fm tT 0 0=1:=by kernel_rfl
 have h1:fm tT 0 1=2:=by kernel_rfl
 rw [if_neg (by rw [c1];decide)]
 show ([[decQ (fm tT 0 0)],[decQ (fm tT 0 1)]],(0:Int))=_
 rw [h0,h1,k5e,txq (q:=2) (l:=[50]) (by kernel_rfl)]
theorem v6t (hlib:Lib E) (hc:Cl E):Fn E J5 [] (.b true):=by
 have hLim:=z0j
 have k1:=y9y hc s_aT.l s_aT.r
 have k2:=q3u (E:=E) (b:=bT) hlib hc (by omega) s_aT s_bT (by decide) (by omega)
 have k3:=q1p (E:=E) hlib hc (by omega) s_aT (by omega)
 have k4:=v3n (E:=E) (b:=gT) hlib hc (by omega) s_fT s_gT (by decide) (by omega)
 have k5:=k8n (E:=E) hlib hc (by omega) s_aT (by omega)
 have k7:=q3t (E:=E) hlib hc (by omega) s_rT (by omega)
 have k8:=y0o (E:=E) hlib s_tT (by omega)
 have k9:Fn E B4 [.l (T2 [])] (.i (chkE [])):=j2y hlib (K:=20) (fun r hr=>by cases hr) (by omega) (by decide) (fun r hr=>by cases hr)
 have zs:∀ i,i<2→∀ j,j<2→Sz (sol 2 (fm aT) dl i j) 500:=fun i hi j hj=>(j7n (K:=20) (by omega) (z7x (y4y v7f) s_aT.sh) (fun i _ j _=>q2k (by omega) i j) i hi j hj).mono (by decide)
 have k6:=q1q (E:=E) hlib (s_aT.mono (show 20≤1002 by omega)) (v0d (m:=2) (w:=2) (by omega) (by omega) zs (show 2*500+2≤1002 by omega)) (by omega)
 rw [e_sol] at k2
 rw [e_det] at k3
 rw [e_fit] at k4
 rw [e_inv] at k5
 rw [e_mul] at k6
 rw [e_rank] at k7
 rw [e_tr] at k8
 have c9:chkE []=9:=by kernel_rfl
 rw [c9] at k9
 have q1:=j4b (E:=E) (a:=[[50],[49]]) (by decide)
 have q2:=j4b (E:=E) (a:=[[53,47,54],[51,47,50]]) (by decide)
 have q3:=x3w (E:=E) (a:=[[[49],[48]],[[48],[49]]]) (by decide) (by decide)
 have q4:=x3w (E:=E) (a:=[[[49]],[[50]]]) (by decide) (by decide)
 exact j8k k1 k2 k3 k4 k5 k6 k7 k8 rfl q1 rfl q2 rfl q3 rfl q4 k9 rfl rfl rfl rfl rfl rfl rfl rfl rfl rfl rfl rfl rfl rfl rfl rfl rfl rfl rfl rfl rfl rfl rfl rfl rfl
end Gev
namespace Gev
open Go Gb Go.Proofs
variable {P:Program}
inductive LK where
 | int | bool | str | slice (e:TypeId)
def q1k (P:Program) (rec:TypeId→Option (List LK)):Nat→List Field→Option (List LK)
 | _,[]=>some []
 | o,f::fs=>match rec f.type,q1k P rec (o+P.cellsOf f.type) fs with
  | some ks,some rs=>if f.offset=o∧P.cellsOf f.type=ks.length then some (ks++rs) else none
  | _,_=>none
def y1g (P:Program):Nat→TypeId→Option (List LK)
 | 0,_=>none
 | n+1,t=>match P.underlying t with
  | some (.int .i64)=>some [.int]
  | some .bool=>some [.bool]
  | some .string=>some [.str]
  | some (.slice e)=>some [.slice e]
  | some (.struct fs)=>match q1k P (y1g P n) 0 fs.toList with
   | some l=>if P.cellsOf t=l.length then some l else none
   | none=>none
  | _=>none
def InI (n:Int):Prop:=-9223372036854775808≤n∧n≤9223372036854775807
def LeL (n:Nat):Prop:=n≤9223372036854775807
inductive L1 (P:Program):LK→DV→Prop
 | int (n:Int) (h:InI n):L1 P .int (.i64 n)
 | bool (b:Bool):L1 P .bool (.bool b)
 | str (l:List UInt8):L1 P .str (.str (B l))
 | slice {e:TypeId} (xs:RW) (h:∀ x∈xs,TyD P e x) (hl:LeL xs.length):L1 P (.slice e) (.list xs)
inductive LOk (P:Program):List LK→List DV→Prop
 | nil:LOk P [] []
 | cons {k:LK} {ks:List LK} {d:DV} {ds:List DV} (h:L1 P k d) (t:LOk P ks ds):LOk P (k::ks) (d::ds)
theorem LOk.append {ks ls:List LK} {ds es:List DV} (h:LOk P ks ds) (g:LOk P ls es):LOk P (ks++ls) (ds++es):=by
 induction h with
 | nil=>exact g
 | cons h _ ih=>exact .cons h ih
theorem LOk.len {ks:List LK} {ds:List DV} (h:LOk P ks ds):ds.length=ks.length:=by
 induction h with
 | nil=>rfl
 | cons h _ ih=>rw [List.length_cons,List.length_cons,ih]
theorem LOk.hd {k:LK} {ks:List LK} {ds:List DV} (h:LOk P (k::ks) ds):∃ d es,ds=d::es∧L1 P k d∧LOk P ks es:=by
 cases h with
 | cons h t=>exact ⟨_,_,rfl,h,t⟩
theorem LOk.e {ds:List DV} (h:LOk P [] ds):ds=[]:=by cases h;rfl
theorem L1.i {d:DV} (h:L1 P .int d):∃ n,d=.i64 n:=by cases h;exact ⟨_,rfl⟩
theorem L1.j {d:DV} (h:L1 P .int d):∃ n,d=.i64 n∧InI n:=by cases h with | int n h=>exact ⟨_,rfl,h⟩
theorem L1.s {d:DV} (h:L1 P .str d):∃ l,d=.str (B l):=by cases h;exact ⟨_,rfl⟩
theorem L1.l {e:TypeId} {d:DV} (h:L1 P (.slice e) d):∃ xs,d=.list xs∧(∀ x∈xs,TyD P e x)∧LeL xs.length:=by cases h with | slice xs h n=>exact ⟨_,rfl,h,n⟩
theorem inI_wf {m:Int} (h:(Lit.int IntKind.i64 m).wf=true):InI m:=by
 unfold Lit.wf at h
 rw [Bool.and_eq_true,decide_eq_true_eq,decide_eq_true_eq] at h
 exact h
theorem q0y {rec:TypeId→Option (List LK)} (ih:∀ t ks ds,rec t=some ks→TyD P t ds→LOk P ks ds):∀ (fs:List Field) (o:Nat) (l:List LK) (ds:List DV),q1k P rec o fs=some l→(∀ f∈fs,TyD P f.type ((ds.drop f.offset).take (P.cellsOf f.type)))→LOk P l ((ds.drop o).take l.length)
 | [],o,l,ds,h,hp=>by cases h;exact .nil
 | f::fs,o,l,ds,h,hp=>by
  unfold q1k at h
  cases h1:rec f.type with
  | none=>rw [h1] at h;cases h
  | some ks =>
   cases h2:q1k P rec (o+P.cellsOf f.type) fs with
   | none=>rw [h1,h2] at h;cases h
   | some rs =>
    rw [h1,h2] at h
    simp only at h
    split at h
    · rename_i hc
      cases h
      have a1:=ih _ _ _ h1 (hp f (by simp))
      have a2:=q0y ih fs _ rs ds h2 fun g hg=>hp g (List.mem_cons_of_mem _ hg)
      rw [hc.1,hc.2] at a1
      rw [hc.2] at a2
      rw [List.length_append,List.take_add,List.drop_drop]
      exact a1.append a2
    · cases h
theorem x0p:∀ (n:Nat) (t:TypeId) (ks:List LK) (ds:List DV),y1g P n t=some ks→TyD P t ds→LOk P ks ds
 | 0,t,ks,ds,h,hd=>by cases h
 | n+1,t,ks,ds,h,hd=>by
  unfold y1g at h
  cases hd with
  | int m hu hw =>
   rename_i k
   rw [hu] at h
   cases k <;> first | (cases h;exact .cons (.int m (inI_wf hw)) .nil) | cases h
  | bool b hu=>rw [hu] at h;cases h;exact .cons (.bool b) .nil
  | str s hu=>rw [hu] at h;cases h;rw [← B_of s];exact .cons (.str _) .nil
  | slice xs hu hx hl=>rw [hu] at h;cases h;exact .cons (.slice xs hx hl) .nil
  | struct ds hu hl hp =>
   rw [hu] at h
   simp only at h
   rename_i fs
   cases h2:q1k P (y1g P n) 0 fs.toList with
   | none=>rw [h2] at h;cases h
   | some l =>
    rw [h2] at h
    simp only at h
    split at h
    · rename_i hc
      cases h
      have:=q0y (x0p n) fs.toList 0 _ ds h2 hp
      rw [List.drop_zero,← hc,← hl,List.take_length] at this
      exact this
    · cases h
theorem v4k {α:Type} {p:List DV→Prop} {f:α→List DV} (h:∀ x,p x→∃ a,x=f a):∀ xs:RW,(∀ x∈xs,p x)→∃ l:List α,xs=l.map f
 | [],_=>⟨[],rfl⟩
 | x::xs,hx=>by
  obtain ⟨l,rfl⟩:=v4k h xs fun y hy=>hx y (List.mem_cons_of_mem _ hy)
  obtain ⟨a,rfl⟩:=h x (hx x (by simp))
  exact ⟨a::l,rfl⟩
theorem u_R1 {e:TypeId} {n:Nat} (h:y1g P n e=some [.str]) {xs:RW} (hx:∀ x∈xs,TyD P e x):∃ l,xs=R1 l :=
 v4k (fun x k=>by
  have:=x0p _ _ _ _ h k
  match x,this with
  | _,.cons (.str l) .nil=>exact ⟨l,rfl⟩) xs hx
theorem u_R1l {e:TypeId} {n:Nat} (h:y1g P n e=some [.str]) {xs:RW} (hx:∀ x∈xs,TyD P e x) (hl:LeL xs.length):∃ l:TR,xs=R1 l∧l.length≤9223372036854775807:=by
 obtain ⟨l,rfl⟩:=u_R1 h hx
 rw [H5] at hl
 exact ⟨l,rfl,hl⟩
theorem u_Ls {t q:TypeId} {n:Nat} (ht:y1g P n t=some [.slice q]) (hq:y1g P n q=some [.str]) {a:AV} (ha:AvOf P t a) (hu:P.underlying t=some (.slice q)):∃ l:TR,a=.c (.list (R1 l))∧l.length≤9223372036854775807:=by
 cases ha with
 | agg h _=>rw [hu] at h;cases h
 | one hd =>
  have:=x0p _ _ _ _ ht hd
  cases this with
  | cons h t=>cases t;cases h with
  | slice xs hx hl =>
  obtain ⟨l,rfl,h2⟩:=u_R1l hq hx hl
  exact ⟨l,rfl,h2⟩
theorem u_T2 {e q:TypeId} {n:Nat} (he:y1g P n e=some [.slice q]) (hq:y1g P n q=some [.str]) {xs:RW} (hx:∀ x∈xs,TyD P e x):∃ l:TM,xs=T2 l∧∀ r∈l,r.length≤9223372036854775807:=by
 induction xs with
 | nil=>exact ⟨[],rfl,fun a h=>by cases h⟩
 | cons x xs ih =>
  obtain ⟨l,rfl,hl⟩:=ih fun y hy=>hx y (List.mem_cons_of_mem _ hy)
  obtain ⟨_,_,rfl,z1,t⟩:=(x0p _ _ _ _ he (hx x (by simp))).hd
  cases t.e
  obtain ⟨ys,rfl,hy,ny⟩:=z1.l
  obtain ⟨r,rfl,hr⟩:=u_R1l hq hy ny
  refine ⟨r::l,rfl,fun z hz=>?_⟩
  rcases List.mem_cons.1 hz with rfl | hz
  · exact hr
  · exact hl z hz
theorem u_Mx {t e q:TypeId} {n:Nat} (ht:y1g P n t=some [.slice e]) (he:y1g P n e=some [.slice q]) (hq:y1g P n q=some [.str]) {a:AV} (ha:AvOf P t a) (hu:P.underlying t=some (.slice e)):∃ l:TM,a=.c (.list (T2 l))∧Ln l:=by
 cases ha with
 | agg h _=>rw [hu] at h;cases h
 | one hd =>
  have:=x0p _ _ _ _ ht hd
  cases this with
  | cons h t=>cases t;cases h with
  | slice xs hx hl =>
  obtain ⟨l,rfl,hr⟩:=u_T2 he hq hx
  have hl:(T2 l).length≤9223372036854775807:=hl
  rw [V7] at hl
  exact ⟨l,rfl,⟨hl,hr⟩⟩
end Gev
namespace Gev
open Go Gb Go.Proofs
variable {E:Env}
theorem cl_ok:Cl E where
 ra l h1 hl:=q2d (E:=E) (f:=H0) (T:=M6) (k:=1) (O7 (by kernel_rfl)) (by kernel_rfl) v5c j7z l h1 (by omega)
 rr l h1 hl:=q2d (E:=E) (f:=z2r) (T:=A7) (k:=1) (O7 (by kernel_rfl)) (by kernel_rfl) v5d j8a l h1 (by omega)
theorem cl0:Cl E0:=cl_ok
theorem awake0:Fn E0 J5 [] (.c (.bool true)):=v6t lib0 cl0
end Gev
