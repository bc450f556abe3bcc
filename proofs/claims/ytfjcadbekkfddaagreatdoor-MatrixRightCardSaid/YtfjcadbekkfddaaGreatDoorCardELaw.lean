/- The law of the last text of this claim: its walk, its plain words. -/
import Derived.Test.YtfjcadbekkfddaaGreatDoorE
import Derived.KernelRfl
import Derived.Test.YtfjcadbekkfddaaGreatDoorTie
import Derived.Test.YtfjcadbekkfddaaGreatDoorCards
set_option linter.unusedSectionVars false
set_option linter.unusedVariables false
set_option linter.unusedSimpArgs false
namespace Gev
open Go Go.Proofs
variable {E:Env}
variable {o:Out} {t:St} {r0 r1 r2 r3 r4 r5 r6 r7 r8 r9 r10 r11 r12 r13 r14 r15 r16 r17 r18 r19 r20 r21 r22 r23:RW} {i0 i1 i2 i3 i4 i5 i6 i7 i8 i9 i10 i11 i12 i13 i14:Int} {s0 s1 s2 s3 s4 s5 s6 s7 s8 s9:BA} {n0 n1 n2 n3 n4:Nat} {b0 b1:Bool}
def N9 (r0 r1:RW) (s0:BA) (r2:RW) (n0:Nat) (s1:BA) (i0 i1:Int) (r3 r4 r5:RW):St:=stOf 137 [(0,.l r0),(1,.l r1),(8,.s s0),(10,.l r2),(11,.vec 2 n0),(12,.s s1),(79,.i i0),(80,.i i1)] [sF r3,sF r4,sV M6 r5]
def V8 (r0:RW) (s0:BA) (n0:Nat) (r3 r4:RW) (s2:BA) (r6:RW):St:=stOf 137 [(0,.l r0),(8,.s s0),(11,.vec 2 n0),(12,.s s2)] [sF r3,sF r4,sV M6 r6]
theorem x0m (h1:i1<i0)(h2:0≤i1)(h3:r2[(Int.toNat i1)]?=some [.s s3])(h4:r1[(Int.toNat i1)]?=some [.s s4])(h5:Fn E z7d [.s s3,.s s4] (.tup [.s s5,.i i2]))(h6:0≤i1∧i1<((n0:Nat):Int))(h7:r5[(Int.toNat i1)]?=some [.s s6])(h8:r7[(Int.toNat i1)]?=some [.s s7])(h9:Fn E z1r [.s s7,.s s7] (.tup [.s s8,.i i3]))(h10:Fn E z1p [.s s1,.s s8] (.tup [.s s9,.i i4]))(e1:List.set r5 (Int.toNat i1) [.s s5]=r7)(e2:IntKind.i64.wrap (i1+1)=i5)(ih:Lp E 3 F7 0 (N9 r0 r1 s0 r2 n0 s9 i0 i5 r3 r4 r7) o t):Lp E 3 F7 0 (N9 r0 r1 s0 r2 n0 s1 i0 i1 r3 r4 r5) o t:=by subst e1 e2;exact lpM (oT h1 (oP h2 (oD h3 (oP h2 (oD h4 (oF h5 (oP h6 (oD h7 (oP h6 (oD h8 (oP h6 (oD h8 (oF h9 (oF h10 oZ)))))))))))))) ih
theorem y7p (h1:¬ i1<i0):Lp E 3 F7 0 (N9 r0 r1 s0 r2 n0 s1 i0 i1 r3 r4 r5) (.exit 0) (V8 r0 s0 n0 r3 r4 s1 r5):=lpX (oU h1 oZ)
section
variable (h1:Fn E J5 [] (.b true))
include h1
section
variable (h2:Fn E F5 [.l r0] (.b true))
include h2
section
variable (h3:Fn E D4 [.l r1,.i 5] (.b true))(h4:Fn E M2 [.l r0] (.l r2))(h5:Rn E H0 [.l r1] [] (.vec 0 n0) [sV M6 r3])(h6:Fn E P5 [.l r2,.l r4] (.tup [.l r5,.i i0]))
include h3 h4 h5 h6
section
variable (h7:i0=0)(h8:Fn E F1 [.l r0,.l r5] (.l r6))
include h7 h8
section
variable (h9:Fn E J6 [.l r6,.l r1] (.b true))(h10:Rn E H0 [.l r1] [] (.vec 0 n1) [sV M6 r7])(h11:Fn E K4 [.l r2,.l r8] (.tup [.l r9,.s s0,.i i1]))
include h9 h10 h11
theorem k0e (h12:¬ i1=0)(h13:(r9.length:Int)=0)(h14:s0=(⟨#[]⟩:BA))(e1:(r3.take n0)=r4)(e2:(r7.take n1)=r8):Fn E F7 [.l r0,.l r1] (.b true):=by subst e1 e2;exact fnM (oF h1 (oF h2 (oF h3 (oF h4 (oN h5 (oF h6 (oB (beT h7) (oF h8 (oF h9 (oF h4 (oN h10 (oF h11 (oB (bnT h12) (oB (beT h13) (oB (seT h14) oZ)))))))))))))))
theorem k0f (h12:i1=0)(h13:Fn E F1 [.l r0,.l r9] (.l r10))(h14:(r10.length:Int)=(r1.length:Int))(h15:0≤(r1.length:Int)∧(r1.length:Int)≤(r1.length:Int)∧(Int.toNat (r1.length:Int))*16≤140737488355328∧(Int.toNat (r1.length:Int))≤140737488355328)(h16:Lp E 3 F7 0 (N9 r0 r1 s0 r10 n2 ⟨#[48]⟩ (r1.length:Int) 0 r3 r7 r11) (.exit 0) (V8 r0 s0 n2 r3 r7 s1 r12))(h17:Fn E H8 [.l r2] (.tup [.l r13,.i i2]))(h18:i2=0)(h19:s1=s0)(h20:Fn E F1 [.l r13,.l r14] (.l r15))(h21:Fn E C9 [.l r15,.fn D2 []] (.b b0))(e1:(r3.take n0)=r4)(e2:(r7.take n1)=r8)(e3:Int.toNat (r1.length:Int)=n2)(e4:List.replicate n2 [.s ⟨#[]⟩]=r11)(e5:(r12.take n2)=r14):Fn E F7 [.l r0,.l r1] (.b (!b0)):=by subst e1 e2 e3 e4 e5;exact fnM (oF h1 (oF h2 (oF h3 (oF h4 (oN h5 (oF h6 (oB (beT h7) (oF h8 (oF h9 (oF h4 (oN h10 (oF h11 (oC (bnF h12) (oF h13 (oC (bnF h14) (oP h15 (oL h16 (oF h4 (oF h17 (oB (beT h18) (oB (seT h19) (oF h20 (oF h21 oZ)))))))))))))))))))))))
end
end
section
variable (h7:¬ i0=0)(h8:Rn E H0 [.l r1] [] (.vec 0 n3) [sV M6 r16])(h9:Fn E K4 [.l r2,.l r17] (.tup [.l r7,.s s2,.i i3]))
include h7 h8 h9
theorem k0g (h10:¬ i3=0)(h11:(r7.length:Int)=0)(h12:s2=(⟨#[]⟩:BA))(e1:(r3.take n0)=r4)(e2:(r16.take n3)=r17):Fn E F7 [.l r0,.l r1] (.b true):=by subst e1 e2;exact fnM (oF h1 (oF h2 (oF h3 (oF h4 (oN h5 (oF h6 (oC (beF h7) (oF h4 (oN h8 (oF h9 (oB (bnT h10) (oB (beT h11) (oB (seT h12) oZ)))))))))))))
theorem x6p (h10:i3=0)(h11:Fn E F1 [.l r0,.l r7] (.l r18))(h12:(r18.length:Int)=(r1.length:Int))(h13:0≤(r1.length:Int)∧(r1.length:Int)≤(r1.length:Int)∧(Int.toNat (r1.length:Int))*16≤140737488355328∧(Int.toNat (r1.length:Int))≤140737488355328)(h14:Lp E 3 F7 0 (N9 r0 r1 s2 r18 n4 ⟨#[48]⟩ (r1.length:Int) 0 r3 r16 r10) (.exit 0) (V8 r0 s2 n4 r3 r16 s3 r11))(h15:Fn E H8 [.l r2] (.tup [.l r19,.i i4]))(h16:i4=0)(h17:s3=s2)(h18:Fn E F1 [.l r19,.l r13] (.l r20))(h19:Fn E C9 [.l r20,.fn D2 []] (.b b1))(e1:(r3.take n0)=r4)(e2:(r16.take n3)=r17)(e3:Int.toNat (r1.length:Int)=n4)(e4:List.replicate n4 [.s ⟨#[]⟩]=r10)(e5:(r11.take n4)=r13):Fn E F7 [.l r0,.l r1] (.b (!b1)):=by subst e1 e2 e3 e4 e5;exact fnM (oF h1 (oF h2 (oF h3 (oF h4 (oN h5 (oF h6 (oC (beF h7) (oF h4 (oN h8 (oF h9 (oC (bnF h10) (oF h11 (oC (bnF h12) (oP h13 (oL h14 (oF h4 (oF h15 (oB (beT h16) (oB (seT h17) (oF h18 (oF h19 oZ)))))))))))))))))))))
end
end
theorem x6q (h3:Fn E D4 [.l r1,.i 5] (.b false)):Fn E F7 [.l r0,.l r1] (.b true):=fnM (oF h1 (oF h2 (oF h3 (oF h1 oZ))))
end
theorem x6r (h2:Fn E F5 [.l r0] (.b false)):Fn E F7 [.l r0,.l r1] (.b true):=fnM (oF h1 (oF h2 (oF h1 oZ)))
end
theorem j8k (h1:Fn E M2 [.l r2] (.l r3))(h2:Fn E P5 [.l r3,.l r4] (.tup [.l r5,.i i0]))(h3:Fn E Y5 [.l r3] (.tup [.s s0,.i i1]))(h4:Fn E K4 [.l r9,.l r10] (.tup [.l r11,.s s1,.i i2]))(h5:Fn E D8 [.l r3] (.tup [.l r12,.i i3]))(h6:Fn E K5 [.l r3,.l r12] (.tup [.l r13,.i i4]))(h7:Fn E z3e [.l r15] (.tup [.i i5,.i i6]))(h8:Fn E H8 [.l r16] (.tup [.l r17,.i i7]))(h9:i13=0)(h10:Fn E J6 [.l r5,.l r0] (.b true))(h11:s0=(⟨#[45,51]⟩:BA))(h12:Fn E J6 [.l r11,.l r18] (.b true))(h13:s1=(⟨#[49,47,54]⟩:BA))(h14:Fn E M9 [.l r13,.l r20] (.b true))(h15:i5=1)(h16:Fn E M9 [.l r17,.l r23] (.b true))(h17:Fn E B4 [.l []] (.i i14))(h18:i14=9)(e1:(([[.s ⟨#[50]⟩],[.s ⟨#[49]⟩]]:RW).take 2)=r0)(e2:(([[.s ⟨#[49]⟩],[.s ⟨#[45,49]⟩]]:RW).take 2)=r1)(e3:(([[.l r0],[.l r1]]:RW).take 2)=r2)(e4:(([[.s ⟨#[53]⟩],[.s ⟨#[49]⟩]]:RW).take 2)=r4)(e5:(([[.s ⟨#[49]⟩],[.s ⟨#[48]⟩]]:RW).take 2)=r6)(e6:(([[.s ⟨#[49]⟩],[.s ⟨#[49]⟩]]:RW).take 2)=r7)(e7:(([[.s ⟨#[49]⟩],[.s ⟨#[50]⟩]]:RW).take 2)=r8)(e8:(([[.l r6],[.l r7],[.l r8]]:RW).take 3)=r9)(e9:(([[.s ⟨#[49]⟩],[.s ⟨#[50]⟩],[.s ⟨#[52]⟩]]:RW).take 3)=r10)(e10:(([[.s ⟨#[50]⟩],[.s ⟨#[52]⟩]]:RW).take 2)=r14)(e11:(([[.l r8],[.l r14]]:RW).take 2)=r15)(e12:(([[.l r8]]:RW).take 1)=r16)(e13:IntKind.i64.wrap (i0+i1)=i8)(e14:IntKind.i64.wrap (i8+i2)=i9)(e15:IntKind.i64.wrap (i9+i3)=i10)(e16:IntKind.i64.wrap (i10+i4)=i11)(e17:IntKind.i64.wrap (i11+i6)=i12)(e18:IntKind.i64.wrap (i12+i7)=i13)(e19:(([[.s ⟨#[53,47,54]⟩],[.s ⟨#[51,47,50]⟩]]:RW).take 2)=r18)(e20:(([[.s ⟨#[48]⟩],[.s ⟨#[49]⟩]]:RW).take 2)=r19)(e21:(([[.l r6],[.l r19]]:RW).take 2)=r20)(e22:(([[.s ⟨#[49]⟩]]:RW).take 1)=r21)(e23:(([[.s ⟨#[50]⟩]]:RW).take 1)=r22)(e24:(([[.l r21],[.l r22]]:RW).take 2)=r23):Fn E J5 [] (.b true):=by subst e1 e2 e3 e4 e5 e6 e7 e8 e9 e10 e11 e12 e13 e14 e15 e16 e17 e18 e19 e20 e21 e22 e23 e24;exact fnM (oF h1 (oF h2 (oF h1 (oF h3 (oF h4 (oF h1 (oF h5 (oF h1 (oF h6 (oF h7 (oF h8 (oB (beT h9) (oF h10 (oB (seT h11) (oF h12 (oB (seT h13) (oF h14 (oB (beT h15) (oF h16 (oF h17 (oB (beT h18) oZ)))))))))))))))))))))
def y4f (n0:Nat) (i0 i1:Int) (r0:RW):St:=stOf 22 [(3,.vec 0 n0),(8,.i i0),(9,.i i1)] [sV A7 r0]
def y9h (n0:Nat) (r1:RW):St:=stOf 22 [(3,.vec 0 n0)] [sV A7 r1]
theorem j4v (h1:i1<i0)(h2:0≤i1∧i1<((n0:Nat):Int))(h3:r0[(Int.toNat i1)]?=some [.l r2])(h4:Rn E H0 [.l r2] [] (.vec 0 n1) [sV M6 r3])(e1:(r3.take n1)=r4)(e2:List.set r0 (Int.toNat i1) [.l r4]=r5)(e3:IntKind.i64.wrap (i1+1)=i2)(ih:Lp E 1 M2 0 (y4f n0 i0 i2 r5) o t):Lp E 1 M2 0 (y4f n0 i0 i1 r0) o t:=by subst e1 e2 e3;exact lpM (oT h1 (oP h2 (oD h3 (oN h4 (oP h2 (oD h3 oZ)))))) ih
theorem k8l (h1:¬ i1<i0):Lp E 1 M2 0 (y4f n0 i0 i1 r0) (.exit 0) (y9h n0 r0):=lpX (oU h1 oZ)
theorem v1f (h1:Rn E z2r [.l r0] [] (.vec 0 n0) [sV A7 r1])(h2:Lp E 1 M2 0 (y4f n0 ((n0:Nat):Int) 0 r1) (.exit 0) (y9h n0 r2))(e1:(r2.take n0)=r3):Fn E M2 [.l r0] (.l r3):=by subst e1;exact fnM (oN h1 (oL h2 oZ))
def z4b (r0:RW) (n0:Nat) (i0:Int) (r1:RW) (i1 i2:Int) (r2:RW) (i3 i4:Int) (r3:RW):St:=stOf 60 [(1,.l r0),(5,.vec 0 n0),(6,.i i0),(15,.l r1),(16,.i i1),(17,.i i2),(25,.l r2),(26,.i i3),(27,.i i4)] [sV M6 r3]
def z9x (r0:RW) (n0:Nat) (r1:RW) (i1 i2:Int) (r4:RW):St:=stOf 60 [(1,.l r0),(5,.vec 0 n0),(15,.l r1),(16,.i i1),(17,.i i2)] [sV M6 r4]
theorem k0k (h1:i4<i3)(h2:0≤i4)(h3:r2[(Int.toNat i4)]?=some [.s s0])(h4:i4<(r0.length:Int))(h5:r0[(Int.toNat i4)]?=some [.s s1])(h6:Fn E z1r [.s s0,.s s1] (.tup [.s s2,.i i5]))(h7:0≤i0∧i0<((n0:Nat):Int))(h8:r3[(Int.toNat i0)]?=some [.s s3])(h9:Fn E z1p [.s s3,.s s2] (.tup [.s s4,.i i6]))(e1:List.set r3 (Int.toNat i0) [.s s4]=r5)(e2:IntKind.i64.wrap (i4+1)=i7)(ih:Lp E 1 F1 1 (z4b r0 n0 i0 r1 i1 i2 r2 i3 i7 r5) o t):Lp E 1 F1 1 (z4b r0 n0 i0 r1 i1 i2 r2 i3 i4 r3) o t:=by subst e1 e2;exact lpM (oT h1 (oP h2 (oD h3 (oT h4 (oP h2 (oD h5 (oF h6 (oP h7 (oD h8 (oF h9 (oP h7 (oD h8 oZ)))))))))))) ih
theorem x5a (h1:¬ i4<i3):Lp E 1 F1 1 (z4b r0 n0 i0 r1 i1 i2 r2 i3 i4 r3) (.exit 2) (z9x r0 n0 r1 i1 i2 r3):=lpX (oU h1 oZ)
def z4a (r0:RW) (n0:Nat) (r1:RW) (i0 i1:Int) (r2:RW):St:=stOf 60 [(1,.l r0),(5,.vec 0 n0),(15,.l r1),(16,.i i0),(17,.i i1)] [sV M6 r2]
def z9w (n0:Nat) (r3:RW):St:=stOf 60 [(5,.vec 0 n0)] [sV M6 r3]
theorem k0j (h1:i1<i0)(h2:0≤i1)(h3:r1[(Int.toNat i1)]?=some [.l r4])(h4:0≤i1∧i1<((n0:Nat):Int))(h5:r2[(Int.toNat i1)]?=some [.s s0])(h6:Lp E 1 F1 1 (z4b r0 n0 i1 r1 i0 i1 r4 (r4.length:Int) 0 r5) (.exit 2) (z9x r0 n0 r1 i0 i1 r6))(e1:List.set r2 (Int.toNat i1) [.s ⟨#[48]⟩]=r5)(e2:IntKind.i64.wrap (i1+1)=i2)(ih:Lp E 1 F1 0 (z4a r0 n0 r1 i0 i2 r6) o t):Lp E 1 F1 0 (z4a r0 n0 r1 i0 i1 r2) o t:=by subst e1 e2;exact lpM (oT h1 (oP h2 (oD h3 (oP h4 (oD h5 (oL h6 oZ)))))) ih
theorem x4z (h1:¬ i1<i0):Lp E 1 F1 0 (z4a r0 n0 r1 i0 i1 r2) (.exit 0) (z9w n0 r2):=lpX (oU h1 oZ)
theorem j1g (h1:0≤(r0.length:Int)∧(r0.length:Int)≤(r0.length:Int)∧(Int.toNat (r0.length:Int))*16≤140737488355328∧(Int.toNat (r0.length:Int))≤140737488355328)(h2:Lp E 1 F1 0 (z4a r1 n0 r0 (r0.length:Int) 0 r2) (.exit 0) (z9w n0 r3))(e1:Int.toNat (r0.length:Int)=n0)(e2:List.replicate n0 [.s ⟨#[]⟩]=r2)(e3:(r3.take n0)=r4):Fn E F1 [.l r0,.l r1] (.l r4):=by subst e1 e2 e3;exact fnM (oP h1 (oL h2 oZ))
theorem x4x (h1:¬ s0=(⟨#[48]⟩:BA)):Fn E D2 [.s s0] (.b true):=fnM (oB (snT h1) oZ)
theorem x4y (h1:s0=(⟨#[48]⟩:BA)):Fn E D2 [.s s0] (.b false):=fnM (oC (snF h1) oZ)
end Gev
namespace Gev
open Go Gb
variable {E:Env}
attribute [local irreducible] Sz
theorem v5o {α:Type} {l:List α} {i:Nat} {x:α} (h:l[i]?=some x):List.set l i x=l:=by
 obtain ⟨h1,h2⟩:=List.getElem?_eq_some_iff.1 h
 rw [← h2];exact List.set_getElem_self h1
theorem y9y (hc:Cl E) {a:TM} (hl:a.length≤1000) (hr:∀ r∈a,r.length≤1000):Fn E M2 [.l (T2 a)] (.l (T2 a)):=by
 have e:=V7 a
 have key:∀ d i,i+d=a.length→Lp E 1 M2 0 (y4f a.length (a.length:Nat) (i:Nat) (T2 a)) (.exit 0) (y9h a.length (T2 a)):=by
  intro d
  induction d with
  | zero=>intro i h;exact k8l (by omega)
  | succ d ih =>
   intro i h
   obtain ⟨x,hx⟩:=k5v (l:=a) (i:=i) (by omega)
   have k:=hc.ra (R1 x) (v2v x) (by rw [H5];exact hr x (List.mem_of_getElem? hx))
   exact j4v (by omega) ⟨by omega,by omega⟩ (z9r hx) k (List.take_length) (v5o (z9r hx)) (wi (by omega)) (ih (i+1) (by omega))
 have k:=hc.rr (T2 a) (w1n a) (by rw [V7];exact hl)
 rw [e] at k
 exact v1f k (key a.length 0 (by omega)) (by rw [← e];exact List.take_length)
def zq (m:Nat) (v:Nat→Rat) (i:Nat):RW:=(List.range m).map fun q=>if q<i then tx (v q) else [.str ⟨#[]⟩]
def yq (m:Nat) (v:Nat→Rat) (i:Nat) (x:Rat):RW:=(List.range m).map fun q=>if q<i then tx (v q) else if q=i then tx x else [.str ⟨#[]⟩]
theorem v2r {m i:Nat} {v:Nat→Rat} (h:i<m):(zq m v i)[(Int.toNat (i:Nat))]?=some [.str ⟨#[]⟩]:=by
 rw [Int.toNat_natCast];simp [zq,h]
theorem w1j {m i:Nat} {v:Nat→Rat} {x:Rat} (h:i<m):(yq m v i x)[(Int.toNat (i:Nat))]?=some [.str (B (decQ x))]:=by
 rw [Int.toNat_natCast];simp [yq,h,tx]
theorem v2s {m i:Nat} {v:Nat→Rat} {x:Rat}:List.set (zq m v i) (Int.toNat (i:Nat)) [.str (B (decQ x))]=yq m v i x:=by
 rw [Int.toNat_natCast]
 unfold zq yq;rw [z8f]
 exact List.map_congr_left fun q _=>by
  by_cases h:q=i
  · rw [if_pos h,if_neg (by omega),if_pos h];rfl
  · rw [if_neg h]
    by_cases h2:q<i
    · rw [if_pos h2,if_pos h2]
    · rw [if_neg h2,if_neg h2,if_neg h]
theorem yy_set {m i:Nat} {v:Nat→Rat} {x y:Rat}:List.set (yq m v i y) (Int.toNat (i:Nat)) [.str (B (decQ x))]=yq m v i x:=by
 rw [Int.toNat_natCast]
 unfold yq;rw [z8f]
 exact List.map_congr_left fun q _=>by
  by_cases h:q=i
  · rw [if_pos h,if_neg (by omega),if_pos h];rfl
  · rw [if_neg h]
    by_cases h2:q<i
    · rw [if_pos h2,if_pos h2]
    · rw [if_neg h2,if_neg h2,if_neg h,if_neg h]
theorem yz {m i:Nat} {v:Nat→Rat}:yq m v i (v i)=zq m v (i+1):=by
 unfold zq yq
 exact List.map_congr_left fun q _=>by
  by_cases h:q<i
  · rw [if_pos h,if_pos (by omega)]
  · rw [if_neg h]
    by_cases h2:q=i
    · rw [if_pos h2,if_pos (by omega),h2]
    · rw [if_neg h2,if_neg (by omega)]
theorem j3g {m:Nat} {v:Nat→Rat}:List.replicate m ([.str ⟨#[]⟩]:List DV)=zq m v 0:=by
 unfold zq
 rw [List.map_congr_left (g:=fun _=>([.str ⟨#[]⟩]:List DV)) fun q _=>if_neg (by omega)]
 rw [List.map_const',List.length_range]
theorem q6r {m:Nat} {v:Nat→Rat}:zq m v m=rw' tx m v:=by
 unfold zq rw'
 exact List.map_congr_left fun q hq=>if_pos (by simpa using hq)
def ap (w:Nat) (f:Mx) (x:Nat→Rat):Nat→Rat:=fun i=>sm w fun k=>f i k*x k
theorem ap_L1 (hlib:Lib E) {m w i K L:Nat} {f:Mx} {x:Nat→Rat} {i1 i2:Int} (hi:i<m) (hm:m≤1000) (hw:w≤1000) (hf:∀ j,j<w→Sz (f i j) K) (hx:∀ j,j<w→Sz (x j) L) (hK:(K+L+1)*w+1≤Lim):∀ d j,j+d=w →
    Lp E 1 F1 1 (z4b (rw' tx w x) m (i:Nat) (rl (mx tx m w f)) i1 i2 (rw' tx w (f i)) (w:Nat) (j:Nat) (yq m (ap w f x) i (sm j fun k=>f i k*x k))) (.exit 2) (z9x (rw' tx w x) m (rl (mx tx m w f)) i1 i2 (yq m (ap w f x) i (sm w fun k=>f i k*x k)))
 | 0,j,h=>by
  have e:j=w:=by omega
  subst e
  exact x5a (by omega)
 | d+1,j,h=>by
  have hs:=z6f j (fun k=>f i k*x k) fun k hk=>(hf k (by omega)).mul (hx k (by omega))
  have hm':=(hf j (by omega)).mul (hx j (by omega))
  have hb:(K+L+1)*(j+1)≤(K+L+1)*w:=Nat.mul_le_mul_left _ (by omega)
  rw [Nat.mul_add] at hb
  exact k0k (by omega) (by omega) (y8w (by omega)) (by rw [B9];omega) (y8w (by omega)) (z5w hlib (hf j (by omega)) (hx j (by omega)) (by omega)) ⟨by omega,by omega⟩ (w1j hi) (z5v hlib hs hm' (by omega)) yy_set (wi (by omega)) (ap_L1 hlib hi hm hw hf hx hK d (j+1) (by omega))
theorem ap_L0 (hlib:Lib E) {m w K L:Nat} {f:Mx} {x:Nat→Rat} (hm:m≤1000) (hw:w≤1000) (hf:∀ i,i<m→∀ j,j<w→Sz (f i j) K) (hx:∀ j,j<w→Sz (x j) L) (hK:(K+L+1)*w+1≤Lim):∀ d i,i+d=m →
    Lp E 1 F1 0 (z4a (rw' tx w x) m (rl (mx tx m w f)) (m:Nat) (i:Nat) (zq m (ap w f x) i)) (.exit 0) (z9w m (zq m (ap w f x) m))
 | 0,i,h=>by
  have e:i=m:=by omega
  subst e
  exact x4z (by omega)
 | d+1,i,h=>by
  have hi:i<m:=by omega
  have h1:=ap_L1 hlib (i1:=(m:Nat)) (i2:=(i:Nat)) hi hm hw (hf i hi) hx hK w 0 (by omega)
  have h2:=ap_L0 hlib hm hw hf hx hK d (i+1) (by omega)
  rw [← yz] at h2
  exact k0j (by omega) (by omega) (rmI hi) ⟨by omega,by omega⟩ (v2r hi) (by rw [B9];exact h1) (by rw [← Bq0];exact v2s) (wi (by omega)) h2
theorem x2c (hlib:Lib E) {m w K L:Nat} {f:Mx} {x:Nat→Rat} (hm:m≤1000) (hw:w≤1000) (hf:∀ i,i<m→∀ j,j<w→Sz (f i j) K) (hx:∀ j,j<w→Sz (x j) L) (hK:(K+L+1)*w+1≤Lim):Fn E F1 [.l (rl (mx tx m w f)),.l (rw' tx w x)] (.l (rw' tx m (ap w f x))):=by
 have h:=ap_L0 hlib hm hw hf hx hK m 0 (by omega)
 rw [q6r] at h
 exact j1g (by rw [P2];omega) (by rw [P2];exact h) (by rw [P2];exact Int.toNat_natCast _) j3g (X3 (Nat.le_refl _))
theorem y4v {a:TM} (h:few a=true):Sm 20 a∧(chkE a=0→a.length≤5∧(hd1 a).length≤4):=by
 unfold few at h
 rw [Bool.and_eq_true,Bool.or_eq_true,decide_eq_true_eq,decide_eq_true_eq,Bool.not_eq_true',List.any_eq_false] at h
 obtain ⟨h1,h2⟩:=h
 have hrow:∀ r∈a,(∀ x∈r,x.length≤20)∧(r.length≤4∨r.length=13):=fun r hr=>by
  have h3:fewL r 4=true:=by simpa using h1 r hr
  unfold fewL at h3
  rw [Bool.and_eq_true,Bool.or_eq_true,decide_eq_true_eq,decide_eq_true_eq,Bool.not_eq_true',List.any_eq_false] at h3
  exact ⟨fun x hx=>by have:=h3.1 x hx;simp at this;exact this,h3.2⟩
 have h5:chkE a=0→a.length≤5∧(hd1 a).length≤4:=fun c=>by
  have o:=y4y c
  refine ⟨by have:=o.m2;omega,?_⟩
  have hm:=o.m1
  have:hd1 a∈a:=by
   cases a with
   | nil=>simp at hm
   | cons r a=>simp [hd1]
  have:=(hrow _ this).2
  have:=o.w2
  omega
 exact ⟨⟨fun r hr=>(hrow r hr).1,by omega,fun r hr=>by have:=(hrow r hr).2;omega,fun c=>by have:=h5 c;omega⟩,h5⟩
theorem x9f {b:TR} {n:Nat} (hn:n≤100) (h:fewL b n=true):S1 20 b∧b.length≤1000:=by
 unfold fewL at h
 rw [Bool.and_eq_true,Bool.or_eq_true,decide_eq_true_eq,decide_eq_true_eq,Bool.not_eq_true',List.any_eq_false] at h
 exact ⟨fun x hx=>by have:=h.1 x hx;simp at this;exact this,by omega⟩
theorem Sm.mono {K L:Nat} {a:TM} (h:Sm K a) (k:K≤L):Sm L a:=⟨fun r hr x hx=>Nat.le_trans (h.sh r hr x hx) k,h.l,h.r,h.few⟩
theorem v0d {m w K L:Nat} {f:Mx} (hm:m≤5) (hw:w≤5) (hf:∀ i,i<m→∀ j,j<w→Sz (f i j) K) (hK:2*K+2≤L):Sm L (tm m w f):=by
 have hr:∀ r∈tm m w f,r.length=w:=fun r hr=>by obtain ⟨i,_,rfl⟩:=List.mem_map.1 hr;exact z5p
 refine ⟨fun r hr x hx=>Nat.le_trans (sh_tm hf r hr x hx) hK,by rw [y3n];omega,fun r h=>by rw [hr r h];omega,fun c=>⟨by rw [y3n];omega,?_⟩⟩
 have hm':=(y4y c).m1
 rw [y3n] at hm'
 rw [hd_tm hm',z5p];omega
theorem k4y (hc:Cl E) {b:TR} (hl:b.length≤1000):Rn E H0 [.l (R1 b)] [] (.vec 0 b.length) [some (.vec M6 (R1 b))]:=by
 have:=hc.ra (R1 b) (v2v b) (by rw [H5];exact hl)
 rwa [H5] at this
theorem y1a {b:TR}:(R1 b).take b.length=R1 b:=by rw [← H5 b,List.take_length]
end Gev
namespace Gb
theorem v4l {n:Nat} {A:Mx} {v:Nat→Rat} (h:rk n n A=n) {i:Nat} (hi:i<n):(sm n fun k=>A i k*sol n A (fun i _=>v i) k 0)=v i :=
 q2h (A:=A) (B:=fun i _=>v i) (j:=0) (by rw [y0s];exact h) hi
theorem q1i {n:Nat} {A:Mx} (h:rk n n A=n) {i j:Nat} (hi:i<n):mm n A (sol n A dl) i j=dl i j:=q2h (by rw [y0s];exact h) hi
theorem q9w {m w:Nat} {f:Mx} {x v:Nat→Rat} (h:∀ j,j<w→(sm w fun k=>mm m (fun i l=>f l i) f j k*x k)=sm m fun k=>f k j*v k):∀ j,j<w→(sm m fun i=>f i j*((sm w fun k=>f i k*x k)-v i))=0:=by
 intro j hj
 have e:=h j hj
 rw [N2 (g:=fun i=>(sm w fun k=>f i j*f i k*x k)-f i j*v i) fun i _=>by
  have e5:(sm w fun k=>f i j*f i k*x k)=f i j*sm w fun k=>f i k*x k:=by
   rw [← y7k];exact N2 fun k _=>by grind
  rw [e5];grind]
 rw [v2g,← e,x9r]
 rw [N2 (g:=fun k=>mm m (fun i l=>f l i) f j k*x k) fun k _=>by rw [x9s];rfl]
 grind
end Gb
namespace Gev
open Go Gb
variable {E:Env}
attribute [local irreducible] Sz
structure Ln (a:TM):Prop where
 l:a.length≤9223372036854775807
 r:∀ x∈a,x.length≤9223372036854775807
theorem x3w {a:TM} (hl:a.length≤12) (hr:∀ r∈a,r.length≤12):Fn E M9 [.l (T2 a),.l (T2 a)] (.b true):=r_Same (by omega) fun r h=>by have:=hr r h;omega
end Gev
namespace Gev
open Go Gb
variable {E:Env}
attribute [local irreducible] Sz
theorem sz_fx {m w:Nat} {f:Mx} {v:Nat→Rat} (hm:m≤5) (hw:w≤5) (hf:∀ i,i<m→∀ j,j<w→Sz (f i j) 20) (hv:∀ i,i<m→Sz (v i) 20):∀ j,j<w→Sz (fx m w f v j) 643750:=fun j hj=>by
 have kb:(20+20+1)*m≤41*5:=Nat.mul_le_mul_left _ hm
 have szG:∀ i,i<w→∀ j,j<w→Sz (gm m f i j) 206:=fun i hi j hj=>(z6f m _ fun k hk=>(hf k hk i hi).mul (hf k hk j hj)).mono (by omega)
 have szg:∀ i,i<w→Sz (gv m f v i) 206:=fun i hi=>(z6f m _ fun k hk=>(hf k hk i hi).mul (hv k hk)).mono (by omega)
 have hp5:206*5 ^ w≤206*5 ^ 5:=Nat.mul_le_mul_left _ (Nat.pow_le_pow_right (by omega) hw)
 exact (v4m (by omega) szG szg j hj).mono (by omega)
theorem q9v (hlib:Lib E) {m w:Nat} {f:Mx} {x v:Nat→Rat} {r0 r3 r4:RW} {s0:BA} (hm:m≤5) (hd:∀ i,i<m→Sz (ap w f x i) 20000000) (hv:∀ i,i<m→Sz (v i) 20):∀ d i,i+d=m →
    Lp E 3 F7 0 (N9 r0 (rw' tx m v) s0 (rw' tx m (ap w f x)) m (B (decQ (ss i w f x v))) (m:Nat) (i:Nat) r3 r4 (zq m (df w f x v) i)) (.exit 0) (V8 r0 s0 m r3 r4 (B (decQ (ss m w f x v))) (zq m (df w f x v) m))
 | 0,i,h=>by
  have e:i=m:=by omega
  subst e
  exact y7p (by omega)
 | d+1,i,h=>by
  have hLim:=z0j
  have hi:i<m:=by omega
  have zd:∀ i,i<m→Sz (df w f x v i) 20000021:=fun i hi=>(hd i hi).sub (hv i hi)
  have zs:=z6f i (fun i=>df w f x v i*df w f x v i) fun k hk=>(zd k (by omega)).mul (zd k (by omega))
  have hb:(20000021+20000021+1)*i≤(20000021+20000021+1)*5:=Nat.mul_le_mul_left _ (by omega)
  have k1:=y4z hlib (hd i hi) (hv i hi) (by omega)
  have k2:=z5w hlib (zd i hi) (zd i hi) (by omega)
  have k3:=z5v hlib zs ((zd i hi).mul (zd i hi)) (by omega)
  have ih:=q9v hlib (r0:=r0) (r3:=r3) (r4:=r4) (s0:=s0) hm hd hv d (i+1) (by omega)
  rw [← yz] at ih
  exact x0m (by omega) (by omega) (y8w hi) (y8w hi) k1 ⟨by omega,by omega⟩ (v2r hi) (w1j hi) k2 k3 v2s (wi (by omega)) ih
noncomputable def nz (x:List UInt8):Bool:=!decide (x=[48])
theorem q8a:∀ x:List UInt8,Fn E D2 [.s (B x)] (.b (nz x)):=fun x=>by
 unfold nz
 by_cases c:x=[48]
 · rw [decide_eq_true c,c];exact x4y rfl
 · rw [decide_eq_false c];exact x4x (fun h=>c (y0i h))
theorem v3r {n:Nat} {v:Nat→Rat}:(tv n v).any nz=false↔∀ j,j<n→v j=0:=by
 rw [List.any_eq_false]
 constructor
 · intro h j hj
   have:=h (decQ (v j)) (List.mem_of_getElem? (v2m hj))
   unfold nz at this
   simp at this
   exact q2z.1 this
 · intro h x hx
   obtain ⟨j,hj,rfl⟩:=List.mem_map.1 hx
   rw [h j (by simpa using hj),y9z]
   unfold nz;simp
structure Ft (a:TM) (b:TR) (m w:Nat):Prop where
 ok:Ok a m w
 m5:m≤5
 w4:w≤4
 bok:b.all ok1=true
 bl:b.length=m
 rk:rk w w (gm m (fm a))=w
 eq:fitR a b=(tv w (fx m w (fm a) (fv b)),decQ (ss m w (fm a) (fx m w (fm a) (fv b)) (fv b)),0)
theorem q1d {a:TM} {b:TR} (la:chkE a=0→a.length≤5∧(hd1 a).length≤4):((fitR a b).2.2≠0∧(fitR a b).1=[]∧(fitR a b).2.1=[])∨Ft a b a.length (hd1 a).length:=by
 by_cases c1:chkE a=0
 rotate_left
 · left;unfold fitR;rw [if_pos c1];exact ⟨c1,rfl,rfl⟩
 by_cases c2:lstE b=0
 rotate_left
 · left;unfold fitR;rw [if_neg (by omega),if_pos c2];exact ⟨c2,rfl,rfl⟩
 by_cases c3:b.length=a.length
 rotate_left
 · left;unfold fitR;rw [if_neg (by omega),if_neg (by omega),if_pos c3];exact ⟨by simp,rfl,rfl⟩
 by_cases c4:rk (hd1 a).length (hd1 a).length (gm a.length (fm a))<(hd1 a).length
 · left;unfold fitR;rw [if_neg (by omega),if_neg (by omega),if_neg (by omega),if_pos c4];exact ⟨by simp,rfl,rfl⟩
 right
 have h:=la c1
 have h2:=(j7d (hd1 a).length (hd1 a).length (gm a.length (fm a))).1
 refine ⟨y4y c1,h.1,h.2,(k2q c2).1,c3,by omega,?_⟩
 unfold fitR;rw [if_neg (by omega),if_neg (by omega),if_neg (by omega),if_neg c4]
theorem Ft.norm {a:TM} {b:TR} {m w:Nat} (h:Ft a b m w):∀ j,j<w→(sm m fun i=>fm a i j*((sm w fun k=>fm a i k*fx m w (fm a) (fv b) k)-fv b i))=0 :=
 q9w fun j hj=>v4l (A:=gm m (fm a)) (v:=gv m (fm a) (fv b)) h.rk hj
theorem Ft.sz {a:TM} {b:TR} {m w:Nat} (h:Ft a b m w) (sa:Sm 20 a) (sb:S1 20 b):(∀ i,i<m→∀ j,j<w→Sz (fm a i j) 20)∧(∀ i,i<m→Sz (fv b i) 20)∧(∀ j,j<w→Sz (fx m w (fm a) (fv b) j) 643750) :=
 have h1:=z7x h.ok sa.sh
 have h2:∀ i,i<m→Sz (fv b i) 20:=fun i hi=>k7t h.bok sb (by rw [h.bl];exact hi)
 ⟨h1,h2,sz_fx h.m5 (by have:=h.w4;omega) h1 h2⟩
theorem law_Right (hlib:Lib E) (hc:Cl E) (hA:Fn E J5 [] (.b true)) {a:TM} {b:TR} (na:Ln a) (nb:b.length≤9223372036854775807):Fn E F7 [.l (T2 a),.l (R1 b)] (.b true):=by
 have hLim:=z0j
 have fa:=j0q (E:=E) na.l na.r
 have fb:=y6h (E:=E) (l:=b) (n:=5) nb
 cases ca:few a with
 | false=>rw [ca] at fa;exact x6r hA fa
 | true =>
 rw [ca] at fa
 cases cb:fewL b 5 with
 | false=>rw [cb] at fb;exact x6q hA fa fb
 | true =>
 rw [cb] at fb
 obtain ⟨sa,la⟩:=y4v ca
 obtain ⟨sb,lb⟩:=x9f (by omega) cb
 have k1:=y9y hc sa.l sa.r
 have k2:=k4y hc lb
 have k3:=q3u (E:=E) hlib hc (by omega) sa sb lb (by omega)
 have k4:=v3n (E:=E) hlib hc (by omega) sa sb lb (by omega)
 have eb:=H5 b
 have fits:∀ (X:Prop),(∀ h:(fitR a b).2.2≠0∧(fitR a b).1=[]∧(fitR a b).2.1=[],X)→(∀ (m w:Nat) (x:Nat→Rat) (r:Rat),a.length=m→b.length=m→fitR a b=(tv w x,decQ r,0)→Fn E F1 [.l (T2 a),.l (R1 (tv w x))] (.l (rw' tx m (ap w (fm a) x))) →
     (∀ (r0 r3 r4:RW) (s0:BA),Lp E 3 F7 0 (N9 r0 (R1 b) s0 (rw' tx m (ap w (fm a) x)) m ⟨#[48]⟩ (m:Nat) 0 r3 r4 (zq m (df w (fm a) x (fv b)) 0)) (.exit 0) (V8 r0 s0 m r3 r4 (B (decQ r)) (zq m (df w (fm a) x (fv b)) m))) →
     Fn E H8 [.l (T2 a)] (.tup [.l (T2 (tm w m (tp (fm a)))),.i 0])→Fn E F1 [.l (T2 (tm w m (tp (fm a)))),.l (rw' tx m (df w (fm a) x (fv b)))] (.l (R1 (tv w fun _=>0)))→m≤5→w≤4→X)→X:=by
  intro X h1 h2
  rcases q1d (b:=b) la with h | h
  · exact h1 h
  · obtain ⟨zf,zv,zx⟩:=h.sz sa sb
    have hn:=h.norm
    have hm5:=h.m5
    have hw4:=h.w4
    have hbl:=h.bl
    have ho:=h.ok
    have heq:=h.eq
    have hbok:=h.bok
    have kt:=y0o (E:=E) hlib sa (by omega)
    have et:trR a=(tm (hd1 a).length a.length (tp (fm a)),0):=by unfold trR;rw [if_neg (by rw [y6q ho];omega)]
    rw [et] at kt
    generalize hm:a.length=m at *
    generalize hw:(hd1 a).length=w at *
    have kc:(20+643750+1)*w≤643771*4:=Nat.mul_le_mul_left _ (by omega)
    have k5:=x2c hlib (m:=m) (w:=w) (f:=fm a) (x:=fx m w (fm a) (fv b)) (by omega) (by omega) zf zx (by omega)
    rw [← x4d ho,← k1w] at k5
    have zap:∀ i,i<m→Sz (ap w (fm a) (fx m w (fm a) (fv b)) i) 20000000:=fun i hi=>(z6f w _ fun k hk=>(zf i hi k hk).mul (zx k hk)).mono (by omega)
    have zdf:∀ i,i<m→Sz (df w (fm a) (fx m w (fm a) (fv b)) (fv b) i) 20000021:=fun i hi=>(zap i hi).sub (zv i hi)
    have kd:(20+20000021+1)*m≤20000042*5:=Nat.mul_le_mul_left _ (by omega)
    have k6:=x2c hlib (m:=w) (w:=m) (f:=tp (fm a)) (x:=df w (fm a) (fx m w (fm a) (fv b)) (fv b)) (by omega) (by omega) (fun i hi j hj=>zf j hj i hi) zdf (by omega)
    have e0:rw' tx w (ap m (tp (fm a)) (df w (fm a) (fx m w (fm a) (fv b)) (fv b)))=R1 (tv w fun _=>0):=by
     rw [k1w];exact x8r hn
    rw [e0,← j3i] at k6
    have eR:rw' tx m (fv b)=R1 b:=by rw [q0n hbok,hbl]
    refine h2 m w _ _ rfl hbl heq k5 (fun r0 r3 r4 s0=>?_) kt k6 hm5 hw4
    have L:=q9v hlib (r0:=r0) (r3:=r3) (r4:=r4) (s0:=s0) hm5 zap zv m 0 (by omega)
    rw [eR] at L
    have e1:B (decQ (ss 0 w (fm a) (fx m w (fm a) (fv b)) (fv b)))=⟨#[48]⟩:=Bq0
    rw [e1] at L
    exact L
 by_cases c1:(solR a b).2=0
 · -- Solve has an answer
   have hs:∃ n,Ok a n n∧n≤4∧b.all ok1=true∧b.length=n∧rk n n (fm a)=n∧solR a b=(tv n (sv n (fm a) (fv b)),0):=by
    unfold solR at c1
    split at c1;· contradiction
    split at c1;· contradiction
    split at c1;· cases c1
    split at c1;· cases c1
    rename_i d1 d2 d3 d4
    have oa:=y4y (a:=a) (by omega)
    have:=la (by omega)
    rw [← show a.length=(hd1 a).length by omega] at oa
    have hle:=(j7d a.length a.length (fm a)).1
    refine ⟨a.length,oa,by omega,(k2q (by omega)).1,by omega,by omega,?_⟩
    unfold solR;rw [if_neg d1,if_neg d2,if_neg d3,if_neg d4]
   obtain ⟨n,oa,n4,bok,bl,hr,es⟩:=hs
   rw [es] at k3
   have zf:=z7x oa sa.sh
   have zv:∀ i,i<n→Sz (fv b i) 20:=fun i hi=>k7t bok sb (by omega)
   have p54:20*5 ^ n≤20*5 ^ 4:=Nat.mul_le_mul_left _ (Nat.pow_le_pow_right (by omega) n4)
   have zx:∀ i,i<n→Sz (sv n (fm a) (fv b) i) 12500:=fun i hi=>(v4m (by omega) zf zv i hi).mono (by omega)
   have kc:(20+12500+1)*n≤12521*4:=Nat.mul_le_mul_left _ (by omega)
   have k5:=x2c hlib (m:=n) (w:=n) (f:=fm a) (x:=sv n (fm a) (fv b)) (by omega) (by omega) zf zx (by omega)
   have e0:rw' tx n (ap n (fm a) (sv n (fm a) (fv b)))=R1 b:=by
    rw [q0n bok,bl];exact x8r fun i hi=>v4l hr hi
   rw [e0,← x4d oa,← k1w] at k5
   have k6:=j4b (E:=E) lb
   refine fits _ (fun h=>?_) fun m w x r hm hb he ka L kt kz m5 w4=>?_
   · exact k0e hA fa fb k1 k2 k3 rfl k5 k6 k2 k4 h.1 (by rw [h.2.1];rfl) (by rw [h.2.2];rfl) y1a y1a
   · rw [he] at k4
     have hz:(tv w fun _=>(0:Rat)).any nz=false:=v3r.2 fun _ _=>rfl
     have kn:=y1b (E:=E) (l:=tv w fun _=>(0:Rat)) nz (by rw [z5p];omega) fun x _=>q8a x
     rw [hz] at kn
     have ez:=q6r (m:=m) (v:=df w (fm a) x (fv b))
     exact k0f (b0:=false) hA fa fb k1 k2 k3 rfl k5 k6 k2 k4 rfl ka (by rw [B9];omega) (by omega) (by rw [eb,hb];exact L _ _ _ _) kt rfl rfl kz kn y1a y1a (by rw [eb,hb];exact Int.toNat_natCast _) j3g (by rw [ez];exact X3 (Nat.le_refl _))
 · refine fits _ (fun h=>?_) fun m w x r hm hb he ka L kt kz m5 w4=>?_
   · exact k0g hA fa fb k1 k2 k3 c1 k2 k4 h.1 (by rw [h.2.1];rfl) (by rw [h.2.2];rfl) y1a y1a
   · rw [he] at k4
     have hz:(tv w fun _=>(0:Rat)).any nz=false:=v3r.2 fun _ _=>rfl
     have kn:=y1b (E:=E) (l:=tv w fun _=>(0:Rat)) nz (by rw [z5p];omega) fun x _=>q8a x
     rw [hz] at kn
     have ez:=q6r (m:=m) (v:=df w (fm a) x (fv b))
     exact x6p (b1:=false) hA fa fb k1 k2 k3 c1 k2 k4 rfl ka (by rw [B9];omega) (by omega) (by rw [eb,hb];exact L _ _ _ _) kt rfl rfl kz kn y1a y1a (by rw [eb,hb];exact Int.toNat_natCast _) j3g (by rw [ez];exact X3 (Nat.le_refl _))
end Gev
namespace Gev
open Go Gb
variable {E:Env}
attribute [local irreducible] Sz
end Gev
namespace Gev
open Go Gb Go.Proofs
variable {E:Env}
attribute [local irreducible] Sz
theorem txq {l:List UInt8} {q:Rat} (h:q6z q l=true):decQ q=l:=(k7z.1 h).symm
def aT:TM:=[[[50],[49]],[[49],[45,49]]]
def bT:TR:=[[53],[49]]
def fT:TM:=[[[49],[48]],[[49],[49]],[[49],[50]]]
def gT:TR:=[[49],[50],[52]]
def rT:TM:=[[[49],[50]],[[50],[52]]]
def tT:TM:=[[[49],[50]]]
theorem s_aT:Sm 20 aT:=(y4v (by kernel_rfl)).1
theorem s_fT:Sm 20 fT:=(y4v (by kernel_rfl)).1
theorem s_rT:Sm 20 rT:=(y4v (by kernel_rfl)).1
theorem s_tT:Sm 20 tT:=(y4v (by kernel_rfl)).1
theorem s_bT:S1 20 bT:=(x9f (n:=5) (by omega) (by kernel_rfl)).1
theorem s_gT:S1 20 gT:=(x9f (n:=5) (by omega) (by kernel_rfl)).1
theorem e_sq:sqE aT=0:=by kernel_rfl
theorem v7f:chkE aT=0:=by kernel_rfl
theorem e_lst:lstE bT=0:=by kernel_rfl
theorem e_rk:rk 2 2 (fm aT)=2:=by kernel_rfl
theorem e_sol:solR aT bT=([[50],[49]],0):=by
 unfold solR
 rw [if_neg (by rw [v7f];decide),if_neg (by rw [e_lst];decide),if_neg (by decide),if_neg (by show ¬ rk 2 2 (fm aT)<2;rw [e_rk];decide)]
 have h0:sv 2 (fm aT) (fv bT) 0=2:=by kernel_rfl
 have h1:sv 2 (fm aT) (fv bT) 1=1:=by kernel_rfl
 show ([decQ (sv 2 (fm aT) (fv bT) 0),decQ (sv 2 (fm aT) (fv bT) 1)],(0:Int))=_
 rw [h0,h1,txq (q:=2) (l:=[50]) (by kernel_rfl),k5e]
theorem e_det:detR aT=([45,51],0):=by
 unfold detR
 rw [if_neg (by rw [e_sq];decide)]
 have h0:dtE 2 (fm aT)=-3:=by kernel_rfl
 show (decQ (dtE 2 (fm aT)),(0:Int))=_
 rw [h0,txq (q:=-3) (l:=[45,51]) (by kernel_rfl)]
theorem e_fit:fitR fT gT=([[53,47,54],[51,47,50]],[49,47,54],0):=by
 unfold fitR
 have c1:chkE fT=0:=by kernel_rfl
 have c2:lstE gT=0:=by kernel_rfl
 have c3:rk 2 2 (gm 3 (fm fT))=2:=by kernel_rfl
 rw [if_neg (by rw [c1];decide),if_neg (by rw [c2];decide),if_neg (by decide),if_neg (by show ¬ rk 2 2 (gm 3 (fm fT))<2;rw [c3];decide)]
 have h0:fx 3 2 (fm fT) (fv gT) 0=mkRat 5 6:=by kernel_rfl
 have h1:fx 3 2 (fm fT) (fv gT) 1=mkRat 3 2:=by kernel_rfl
 have h2:ss 3 2 (fm fT) (fx 3 2 (fm fT) (fv gT)) (fv gT)=mkRat 1 6:=by kernel_rfl
 show ([decQ (fx 3 2 (fm fT) (fv gT) 0),decQ (fx 3 2 (fm fT) (fv gT) 1)],decQ (ss 3 2 (fm fT) (fx 3 2 (fm fT) (fv gT)) (fv gT)),(0:Int))=_
 rw [h2,h0,h1,txq (q:=mkRat 5 6) (l:=[53,47,54]) (by kernel_rfl),txq (q:=mkRat 3 2) (l:=[51,47,50]) (by kernel_rfl),txq (q:=mkRat 1 6) (l:=[49,47,54]) (by kernel_rfl)]
theorem e_inv:invR aT=(tm 2 2 (sol 2 (fm aT) dl),0):=by
 unfold invR
 rw [if_neg (by rw [e_sq];decide),if_neg (by show ¬ rk 2 2 (fm aT)<2;rw [e_rk];decide)];rfl
theorem e_mul:mulR aT (tm 2 2 (sol 2 (fm aT) dl))=([[[49],[48]],[[48],[49]]],0):=by
 have om:=q8c (m:=2) (w:=2) (f:=sol 2 (fm aT) dl) (by omega) (by omega) (by omega) (by omega)
 unfold mulR
 rw [if_neg (by rw [v7f];decide),if_neg (by rw [y6q om];decide),if_neg (by rw [om.len];decide),om.len,om.hd]
 have e:tm aT.length 2 (mm 2 (fm aT) (fm (tm 2 2 (sol 2 (fm aT) dl))))=tm 2 2 dl:=x1x fun i hi j hj=>by rw [← q1i e_rk hi];exact z9b (fun _ _=>rfl) fun l hl=>x4g hl hj
 rw [e]
 show ([[decQ 1,decQ 0],[decQ 0,decQ 1]],(0:Int))=_
 rw [k5e,y9z]
theorem e_rank:rkR rT=(1,0):=by
 unfold rkR
 have c1:chkE rT=0:=by kernel_rfl
 have c2:rk 2 2 (fm rT)=1:=by kernel_rfl
 rw [if_neg (by rw [c1];decide)]
 show (((rk 2 2 (fm rT):Nat):Int),(0:Int))=_
 rw [c2];rfl
theorem e_tr:trR tT=([[[49]],[[50]]],0):=by
 unfold trR
 have c1:chkE tT=0:=by kernel_rfl
 have h0:fm tT 0 0=1:=by kernel_rfl
 have h1:fm tT 0 1=2:=by kernel_rfl
 rw [if_neg (by rw [c1];decide)]
 show ([[decQ (fm tT 0 0)],[decQ (fm tT 0 1)]],(0:Int))=_
 rw [h0,h1,k5e,txq (q:=2) (l:=[50]) (by kernel_rfl)]
theorem v6t (hlib:Lib E) (hc:Cl E):Fn E J5 [] (.b true):=by
 have hLim:=z0j
 have k1:=y9y hc s_aT.l s_aT.r
 have k2:=q3u (E:=E) (b:=bT) hlib hc (by omega) s_aT s_bT (by decide) (by omega)
 have k3:=q1p (E:=E) hlib hc (by omega) s_aT (by omega)
 have k4:=v3n (E:=E) (b:=gT) hlib hc (by omega) s_fT s_gT (by decide) (by omega)
 have k5:=k8n (E:=E) hlib hc (by omega) s_aT (by omega)
 have k7:=q3t (E:=E) hlib hc (by omega) s_rT (by omega)
 have k8:=y0o (E:=E) hlib s_tT (by omega)
 have k9:Fn E B4 [.l (T2 [])] (.i (chkE [])):=j2y hlib (K:=20) (fun r hr=>by cases hr) (by omega) (by decide) (fun r hr=>by cases hr)
 have zs:∀ i,i<2→∀ j,j<2→Sz (sol 2 (fm aT) dl i j) 500:=fun i hi j hj=>(j7n (K:=20) (by omega) (z7x (y4y v7f) s_aT.sh) (fun i _ j _=>q2k (by omega) i j) i hi j hj).mono (by decide)
 have k6:=q1q (E:=E) hlib (s_aT.mono (show 20≤1002 by omega)) (v0d (m:=2) (w:=2) (by omega) (by omega) zs (show 2*500+2≤1002 by omega)) (by omega)
 rw [e_sol] at k2
 rw [e_det] at k3
 rw [e_fit] at k4
 rw [e_inv] at k5
 rw [e_mul] at k6
 rw [e_rank] at k7
 rw [e_tr] at k8
 have c9:chkE []=9:=by kernel_rfl
 rw [c9] at k9
 have q1:=j4b (E:=E) (a:=[[50],[49]]) (by decide)
 have q2:=j4b (E:=E) (a:=[[53,47,54],[51,47,50]]) (by decide)
 have q3:=x3w (E:=E) (a:=[[[49],[48]],[[48],[49]]]) (by decide) (by decide)
 have q4:=x3w (E:=E) (a:=[[[49]],[[50]]]) (by decide) (by decide)
 exact j8k k1 k2 k3 k4 k5 k6 k7 k8 rfl q1 rfl q2 rfl q3 rfl q4 k9 rfl rfl rfl rfl rfl rfl rfl rfl rfl rfl rfl rfl rfl rfl rfl rfl rfl rfl rfl rfl rfl rfl rfl rfl rfl
end Gev
namespace Gev
open Go Gb Go.Proofs
variable {P:Program}
inductive LK where
 | int | bool | str | slice (e:TypeId)
def q1k (P:Program) (rec:TypeId→Option (List LK)):Nat→List Field→Option (List LK)
 | _,[]=>some []
 | o,f::fs=>match rec f.type,q1k P rec (o+P.cellsOf f.type) fs with
  | some ks,some rs=>if f.offset=o∧P.cellsOf f.type=ks.length then some (ks++rs) else none
  | _,_=>none
def y1g (P:Program):Nat→TypeId→Option (List LK)
 | 0,_=>none
 | n+1,t=>match P.underlying t with
  | some (.int .i64)=>some [.int]
  | some .bool=>some [.bool]
  | some .string=>some [.str]
  | some (.slice e)=>some [.slice e]
  | some (.struct fs)=>match q1k P (y1g P n) 0 fs.toList with
   | some l=>if P.cellsOf t=l.length then some l else none
   | none=>none
  | _=>none
def InI (n:Int):Prop:=-9223372036854775808≤n∧n≤9223372036854775807
def LeL (n:Nat):Prop:=n≤9223372036854775807
inductive L1 (P:Program):LK→DV→Prop
 | int (n:Int) (h:InI n):L1 P .int (.i64 n)
 | bool (b:Bool):L1 P .bool (.bool b)
 | str (l:List UInt8):L1 P .str (.str (B l))
 | slice {e:TypeId} (xs:RW) (h:∀ x∈xs,TyD P e x) (hl:LeL xs.length):L1 P (.slice e) (.list xs)
inductive LOk (P:Program):List LK→List DV→Prop
 | nil:LOk P [] []
 | cons {k:LK} {ks:List LK} {d:DV} {ds:List DV} (h:L1 P k d) (t:LOk P ks ds):LOk P (k::ks) (d::ds)
theorem LOk.append {ks ls:List LK} {ds es:List DV} (h:LOk P ks ds) (g:LOk P ls es):LOk P (ks++ls) (ds++es):=by
 induction h with
 | nil=>exact g
 | cons h _ ih=>exact .cons h ih
theorem LOk.len {ks:List LK} {ds:List DV} (h:LOk P ks ds):ds.length=ks.length:=by
 induction h with
 | nil=>rfl
 | cons h _ ih=>rw [List.length_cons,List.length_cons,ih]
theorem LOk.hd {k:LK} {ks:List LK} {ds:List DV} (h:LOk P (k::ks) ds):∃ d es,ds=d::es∧L1 P k d∧LOk P ks es:=by
 cases h with
 | cons h t=>exact ⟨_,_,rfl,h,t⟩
theorem LOk.e {ds:List DV} (h:LOk P [] ds):ds=[]:=by cases h;rfl
theorem L1.i {d:DV} (h:L1 P .int d):∃ n,d=.i64 n:=by cases h;exact ⟨_,rfl⟩
theorem L1.j {d:DV} (h:L1 P .int d):∃ n,d=.i64 n∧InI n:=by cases h with | int n h=>exact ⟨_,rfl,h⟩
theorem L1.s {d:DV} (h:L1 P .str d):∃ l,d=.str (B l):=by cases h;exact ⟨_,rfl⟩
theorem L1.l {e:TypeId} {d:DV} (h:L1 P (.slice e) d):∃ xs,d=.list xs∧(∀ x∈xs,TyD P e x)∧LeL xs.length:=by cases h with | slice xs h n=>exact ⟨_,rfl,h,n⟩
theorem inI_wf {m:Int} (h:(Lit.int IntKind.i64 m).wf=true):InI m:=by
 unfold Lit.wf at h
 rw [Bool.and_eq_true,decide_eq_true_eq,decide_eq_true_eq] at h
 exact h
theorem q0y {rec:TypeId→Option (List LK)} (ih:∀ t ks ds,rec t=some ks→TyD P t ds→LOk P ks ds):∀ (fs:List Field) (o:Nat) (l:List LK) (ds:List DV),q1k P rec o fs=some l→(∀ f∈fs,TyD P f.type ((ds.drop f.offset).take (P.cellsOf f.type)))→LOk P l ((ds.drop o).take l.length)
 | [],o,l,ds,h,hp=>by cases h;exact .nil
 | f::fs,o,l,ds,h,hp=>by
  unfold q1k at h
  cases h1:rec f.type with
  | none=>rw [h1] at h;cases h
  | some ks =>
   cases h2:q1k P rec (o+P.cellsOf f.type) fs with
   | none=>rw [h1,h2] at h;cases h
   | some rs =>
    rw [h1,h2] at h
    simp only at h
    split at h
    · rename_i hc
      cases h
      have a1:=ih _ _ _ h1 (hp f (by simp))
      have a2:=q0y ih fs _ rs ds h2 fun g hg=>hp g (List.mem_cons_of_mem _ hg)
      rw [hc.1,hc.2] at a1
      rw [hc.2] at a2
      rw [List.length_append,List.take_add,List.drop_drop]
      exact a1.append a2
    · cases h
theorem x0p:∀ (n:Nat) (t:TypeId) (ks:List LK) (ds:List DV),y1g P n t=some ks→TyD P t ds→LOk P ks ds
 | 0,t,ks,ds,h,hd=>by cases h
 | n+1,t,ks,ds,h,hd=>by
  unfold y1g at h
  cases hd with
  | int m hu hw =>
   rename_i k
   rw [hu] at h
   cases k <;> first | (cases h;exact .cons (.int m (inI_wf hw)) .nil) | cases h
  | bool b hu=>rw [hu] at h;cases h;exact .cons (.bool b) .nil
  | str s hu=>rw [hu] at h;cases h;rw [← B_of s];exact .cons (.str _) .nil
  | slice xs hu hx hl=>rw [hu] at h;cases h;exact .cons (.slice xs hx hl) .nil
  | struct ds hu hl hp =>
   rw [hu] at h
   simp only at h
   rename_i fs
   cases h2:q1k P (y1g P n) 0 fs.toList with
   | none=>rw [h2] at h;cases h
   | some l =>
    rw [h2] at h
    simp only at h
    split at h
    · rename_i hc
      cases h
      have:=q0y (x0p n) fs.toList 0 _ ds h2 hp
      rw [List.drop_zero,← hc,← hl,List.take_length] at this
      exact this
    · cases h
theorem v4k {α:Type} {p:List DV→Prop} {f:α→List DV} (h:∀ x,p x→∃ a,x=f a):∀ xs:RW,(∀ x∈xs,p x)→∃ l:List α,xs=l.map f
 | [],_=>⟨[],rfl⟩
 | x::xs,hx=>by
  obtain ⟨l,rfl⟩:=v4k h xs fun y hy=>hx y (List.mem_cons_of_mem _ hy)
  obtain ⟨a,rfl⟩:=h x (hx x (by simp))
  exact ⟨a::l,rfl⟩
theorem u_R1 {e:TypeId} {n:Nat} (h:y1g P n e=some [.str]) {xs:RW} (hx:∀ x∈xs,TyD P e x):∃ l,xs=R1 l :=
 v4k (fun x k=>by
  have:=x0p _ _ _ _ h k
  match x,this with
  | _,.cons (.str l) .nil=>exact ⟨l,rfl⟩) xs hx
theorem u_R1l {e:TypeId} {n:Nat} (h:y1g P n e=some [.str]) {xs:RW} (hx:∀ x∈xs,TyD P e x) (hl:LeL xs.length):∃ l:TR,xs=R1 l∧l.length≤9223372036854775807:=by
 obtain ⟨l,rfl⟩:=u_R1 h hx
 rw [H5] at hl
 exact ⟨l,rfl,hl⟩
theorem u_Ls {t q:TypeId} {n:Nat} (ht:y1g P n t=some [.slice q]) (hq:y1g P n q=some [.str]) {a:AV} (ha:AvOf P t a) (hu:P.underlying t=some (.slice q)):∃ l:TR,a=.c (.list (R1 l))∧l.length≤9223372036854775807:=by
 cases ha with
 | agg h _=>rw [hu] at h;cases h
 | one hd =>
  have:=x0p _ _ _ _ ht hd
  cases this with
  | cons h t=>cases t;cases h with
  | slice xs hx hl =>
  obtain ⟨l,rfl,h2⟩:=u_R1l hq hx hl
  exact ⟨l,rfl,h2⟩
theorem u_T2 {e q:TypeId} {n:Nat} (he:y1g P n e=some [.slice q]) (hq:y1g P n q=some [.str]) {xs:RW} (hx:∀ x∈xs,TyD P e x):∃ l:TM,xs=T2 l∧∀ r∈l,r.length≤9223372036854775807:=by
 induction xs with
 | nil=>exact ⟨[],rfl,fun a h=>by cases h⟩
 | cons x xs ih =>
  obtain ⟨l,rfl,hl⟩:=ih fun y hy=>hx y (List.mem_cons_of_mem _ hy)
  obtain ⟨_,_,rfl,z1,t⟩:=(x0p _ _ _ _ he (hx x (by simp))).hd
  cases t.e
  obtain ⟨ys,rfl,hy,ny⟩:=z1.l
  obtain ⟨r,rfl,hr⟩:=u_R1l hq hy ny
  refine ⟨r::l,rfl,fun z hz=>?_⟩
  rcases List.mem_cons.1 hz with rfl | hz
  · exact hr
  · exact hl z hz
theorem u_Mx {t e q:TypeId} {n:Nat} (ht:y1g P n t=some [.slice e]) (he:y1g P n e=some [.slice q]) (hq:y1g P n q=some [.str]) {a:AV} (ha:AvOf P t a) (hu:P.underlying t=some (.slice e)):∃ l:TM,a=.c (.list (T2 l))∧Ln l:=by
 cases ha with
 | agg h _=>rw [hu] at h;cases h
 | one hd =>
  have:=x0p _ _ _ _ ht hd
  cases this with
  | cons h t=>cases t;cases h with
  | slice xs hx hl =>
  obtain ⟨l,rfl,hr⟩:=u_T2 he hq hx
  have hl:(T2 l).length≤9223372036854775807:=hl
  rw [V7] at hl
  exact ⟨l,rfl,⟨hl,hr⟩⟩
end Gev
namespace Gev
open Go Gb Go.Proofs
variable {E:Env}
theorem cl_ok:Cl E where
 ra l h1 hl:=q2d (E:=E) (f:=H0) (T:=M6) (k:=1) (O7 (by kernel_rfl)) (by kernel_rfl) v5c j7z l h1 (by omega)
 rr l h1 hl:=q2d (E:=E) (f:=z2r) (T:=A7) (k:=1) (O7 (by kernel_rfl)) (by kernel_rfl) v5d j8a l h1 (by omega)
theorem cl0:Cl E0:=cl_ok
theorem awake0:Fn E0 J5 [] (.c (.bool true)):=v6t lib0 cl0
end Gev
