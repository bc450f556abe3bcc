/- The law of the last text of this claim: its walk, its plain words. -/
import Derived.Test.YtpjlnfpbkhcobaaGreatDoorE
import Derived.KernelRfl
import Derived.Test.YtpjlnfpbkhcobaaGreatDoorTie
import Derived.Test.YtpjlnfpbkhcobaaGreatDoorCards
set_option linter.unusedSectionVars false
set_option linter.unusedVariables false
set_option linter.unusedSimpArgs false
namespace Gev
open Go Go.Proofs
variable {E:Env}
variable {o:Out} {t:St} {r0 r1 r2 r3 r4 r5 r6 r7 r8 r9 r10 r11 r12 r13 r14 r15 r16 r17 r18 r19 r20 r21 r22 r23 r24 r25:RW} {i0 i1 i2 i3 i4 i5 i6 i7:Int} {n0 n1 n2 n3 n4 n5 n6:Nat} {s0 s1:BA} {b0:Bool}
def N2 (r0 r1:RW) (b0:Bool) (n0:Nat) (i0 i1:Int) (n1:Nat) (i2 i3:Int) (r2 r3 r4 r5 r6:RW) (i4:Int) (r7 r8 r9 r10 r11 r12:RW):St:=stOf 121 [(1,.l r0),(2,.ptr 0 0),(5,.l r1),(7,.b b0),(8,.ptr 6 0),(11,.vec 10 n0),(54,.i i0),(55,.i i1),(88,.vec 10 n1),(89,.i i2),(90,.i i3)] [sC [.l r2,.l r3,.l r4],none,sF r5,none,none,sF r6,sC [.i i4],none,sC [.l r7,.l r8,.l r9],sF r10,sV N1 r11,sF r12]
def z0v (r0 r1:RW) (b0:Bool) (n0:Nat) (i0 i1:Int) (r2 r3 r4 r5 r6:RW) (i4:Int) (r7 r8 r9 r10 r12 r13:RW):St:=stOf 121 [(1,.l r0),(2,.ptr 0 0),(5,.l r1),(7,.b b0),(8,.ptr 6 0),(11,.vec 10 n0),(54,.i i0),(55,.i i1)] [sC [.l r2,.l r3,.l r4],none,sF r5,none,none,sF r6,sC [.i i4],none,sC [.l r7,.l r8,.l r9],sF r10,sV N1 r13,sF r12]
section
variable (h1:i3<i2)(h2:0≤i3∧i3<((n1:Nat):Int))(h3:r11[(Int.toNat i3)]?=some [.i i5])
include h1 h2 h3
theorem y9c (h4:i5≥i4)(h5:0≤i3∧i3<((n0:Nat):Int))(e1:IntKind.i64.wrap (i5+1)=i6)(e2:List.set r11 (Int.toNat i3) [.i i6]=r14)(e3:IntKind.i64.wrap (i3+1)=i7)(ih:Lp E 12 B2 1 (N2 r0 r1 b0 n0 i0 i1 n1 i2 i7 r2 r3 r4 r5 r6 i4 r7 r8 r9 r10 r14 r12) o t):Lp E 12 B2 1 (N2 r0 r1 b0 n0 i0 i1 n1 i2 i3 r2 r3 r4 r5 r6 i4 r7 r8 r9 r10 r11 r12) o t:=by subst e1 e2 e3;exact lpM (oT h1 (oP h2 (oD h3 (oT h4 (oP h5 (oD h3 (oP h5 (oD h3 oZ)))))))) ih
theorem y9d (h4:¬ i5≥i4)(e1:IntKind.i64.wrap (i3+1)=i6)(ih:Lp E 12 B2 1 (N2 r0 r1 b0 n0 i0 i1 n1 i2 i6 r2 r3 r4 r5 r6 i4 r7 r8 r9 r10 r11 r12) o t):Lp E 12 B2 1 (N2 r0 r1 b0 n0 i0 i1 n1 i2 i3 r2 r3 r4 r5 r6 i4 r7 r8 r9 r10 r11 r12) o t:=by subst e1;exact lpM (oT h1 (oP h2 (oD h3 (oU h4 oZ)))) ih
end
theorem y7f (h1:¬ i3<i2):Lp E 12 B2 1 (N2 r0 r1 b0 n0 i0 i1 n1 i2 i3 r2 r3 r4 r5 r6 i4 r7 r8 r9 r10 r11 r12) (.exit 2) (z0v r0 r1 b0 n0 i0 i1 r2 r3 r4 r5 r6 i4 r7 r8 r9 r10 r12 r11):=lpX (oU h1 oZ)
def K9 (r0 r1:RW) (b0:Bool) (n0:Nat) (i0 i1:Int) (n1:Nat) (i2 i3:Int) (r2 r3 r4 r5 r6:RW) (i4:Int) (r7 r8 r9 r10 r11:RW):St:=stOf 121 [(1,.l r0),(2,.ptr 0 0),(5,.l r1),(7,.b b0),(8,.ptr 6 0),(11,.vec 10 n0),(54,.i i0),(55,.i i1),(88,.vec 10 n1),(89,.i i2),(90,.i i3)] [sC [.l r2,.l r3,.l r4],none,sF r5,none,none,sF r6,sC [.i i4],none,sC [.l r7,.l r8,.l r9],sF r10,sV N1 r11,none]
def z0h (r0 r1:RW) (b0:Bool) (n0:Nat) (i0 i1:Int) (r2 r3 r4 r5 r6:RW) (i4:Int) (r7 r8 r9 r10 r12:RW):St:=stOf 121 [(1,.l r0),(2,.ptr 0 0),(5,.l r1),(7,.b b0),(8,.ptr 6 0),(11,.vec 10 n0),(54,.i i0),(55,.i i1)] [sC [.l r2,.l r3,.l r4],none,sF r5,none,none,sF r6,sC [.i i4],none,sC [.l r7,.l r8,.l r9],sF r10,sV N1 r12,none]
section
variable (h1:i3<i2)(h2:0≤i3∧i3<((n1:Nat):Int))(h3:r11[(Int.toNat i3)]?=some [.i i5])
include h1 h2 h3
theorem y7o (h4:i5≥i4)(h5:0≤i3∧i3<((n0:Nat):Int))(e1:IntKind.i64.wrap (i5+1)=i6)(e2:List.set r11 (Int.toNat i3) [.i i6]=r13)(e3:IntKind.i64.wrap (i3+1)=i7)(ih:Lp E 12 B2 1 (K9 r0 r1 b0 n0 i0 i1 n1 i2 i7 r2 r3 r4 r5 r6 i4 r7 r8 r9 r10 r13) o t):Lp E 12 B2 1 (K9 r0 r1 b0 n0 i0 i1 n1 i2 i3 r2 r3 r4 r5 r6 i4 r7 r8 r9 r10 r11) o t:=by subst e1 e2 e3;exact lpM (oT h1 (oP h2 (oD h3 (oT h4 (oP h5 (oD h3 (oP h5 (oD h3 oZ)))))))) ih
theorem y7p (h4:¬ i5≥i4)(e1:IntKind.i64.wrap (i3+1)=i6)(ih:Lp E 12 B2 1 (K9 r0 r1 b0 n0 i0 i1 n1 i2 i6 r2 r3 r4 r5 r6 i4 r7 r8 r9 r10 r11) o t):Lp E 12 B2 1 (K9 r0 r1 b0 n0 i0 i1 n1 i2 i3 r2 r3 r4 r5 r6 i4 r7 r8 r9 r10 r11) o t:=by subst e1;exact lpM (oT h1 (oP h2 (oD h3 (oU h4 oZ)))) ih
end
theorem y5u (h1:¬ i3<i2):Lp E 12 B2 1 (K9 r0 r1 b0 n0 i0 i1 n1 i2 i3 r2 r3 r4 r5 r6 i4 r7 r8 r9 r10 r11) (.exit 2) (z0h r0 r1 b0 n0 i0 i1 r2 r3 r4 r5 r6 i4 r7 r8 r9 r10 r11):=lpX (oU h1 oZ)
def J3 (r0 r1:RW) (b0:Bool) (i0 i1:Int) (r2 r3 r4 r5 r6:RW):St:=stOf 121 [(1,.l r0),(2,.ptr 0 0),(5,.l r1),(7,.b b0),(54,.i i0),(55,.i i1)] [sC [.l r2,.l r3,.l r4],none,sF r5,none,none,sF r6]
def z0u (r1:RW) (b0:Bool) (r2 r3 r4 r5 r6:RW):St:=stOf 121 [(5,.l r1),(7,.b b0)] [sC [.l r2,.l r3,.l r4],none,sF r5,none,none,sF r6]
section
variable (h1:i1<i0)(h2:Fn E V1 [.agg [.l r2,.l r3,.l r4]] (.agg [.l r7,.l r8,.l r9]))(h3:Fn E N5 [.agg [.l r7,.l r8,.l r9],.i i1] (.tup [.agg [.l r10,.l r11,.l r12],.i i2]))(h4:Rn E N3 [.l r0] [] (.vec 0 n0) [sV D4 r13])(h5:Rn E U1 [.agg [.l r10,.l r11,.l r12],.l r14] [] (.tup [.vec 0 n1,.i i3]) [sV N1 r15])
include h1 h2 h3 h4 h5
theorem y9a (h6:i2=0)(h7:i3=0)(h8:Rn E N3 [.l r0] [] (.vec 0 n2) [sV D4 r16])(h9:Fn E P1 [.agg [.l r10,.l r11,.l r12],.l r17] (.b true))(h10:Lp E 12 B2 1 (N2 r0 r1 true n1 i0 i1 n1 ((n1:Nat):Int) 0 r2 r3 r4 r5 r6 i1 r10 r11 r12 r13 r15 r16) (.exit 2) (z0v r0 r1 true n1 i0 i1 r2 r3 r4 r5 r6 i1 r10 r11 r12 r13 r16 r18))(h11:Rn E Z8 [.l r1] [] (.vec 0 n3) [sV N1 r19])(h12:Rn E D9 [.vec 12 n3,.fn B7 [.ptr 6 0]] [sC [.l r2,.l r3,.l r4],none,sF r5,none,none,sF r6,sC [.i i1],none,sC [.l r10,.l r11,.l r12],sF r13,sV N1 r18,sF r16,sV N1 r19] (.vec 12 n4) [sC [.l r2,.l r3,.l r4],none,sF r5,none,none,sF r6,sC [.i i1],none,sC [.l r10,.l r11,.l r12],sF r13,sV N1 r18,sF r16,sV N1 r20])(h13:Fn E G9 [.l r21,.l r22] (.b true))(e1:(r13.take n0)=r14)(e2:(r16.take n2)=r17)(e3:(r18.take n1)=r21)(e4:(r20.take n4)=r22)(e5:IntKind.i64.wrap (i1+1)=i4)(ih:Lp E 6 B2 0 (J3 r0 r1 true i0 i4 r2 r3 r4 r5 r6) o t):Lp E 6 B2 0 (J3 r0 r1 true i0 i1 r2 r3 r4 r5 r6) o t:=by subst e1 e2 e3 e4 e5;exact lpM (oT h1 (oF h2 (oF h3 (oN h4 (oW h5 (oC (bnF h6) (oC (bnF h7) (oN h8 (oF h9 (oL h10 (oN h11 (oV h12 (oF h13 oZ))))))))))))) ih
theorem y9b (h6:i2=0)(h7:i3=0)(h8:Lp E 12 B2 1 (K9 r0 r1 false n1 i0 i1 n1 ((n1:Nat):Int) 0 r2 r3 r4 r5 r6 i1 r10 r11 r12 r13 r15) (.exit 2) (z0h r0 r1 false n1 i0 i1 r2 r3 r4 r5 r6 i1 r10 r11 r12 r13 r23))(h9:Rn E Z8 [.l r1] [] (.vec 0 n5) [sV N1 r17])(h10:Rn E D9 [.vec 12 n5,.fn B7 [.ptr 6 0]] [sC [.l r2,.l r3,.l r4],none,sF r5,none,none,sF r6,sC [.i i1],none,sC [.l r10,.l r11,.l r12],sF r13,sV N1 r23,none,sV N1 r17] (.vec 12 n6) [sC [.l r2,.l r3,.l r4],none,sF r5,none,none,sF r6,sC [.i i1],none,sC [.l r10,.l r11,.l r12],sF r13,sV N1 r23,none,sV N1 r24])(h11:Fn E G9 [.l r25,.l r19] (.b true))(e1:(r13.take n0)=r14)(e2:(r23.take n1)=r25)(e3:(r24.take n6)=r19)(e4:IntKind.i64.wrap (i1+1)=i5)(ih:Lp E 6 B2 0 (J3 r0 r1 false i0 i5 r2 r3 r4 r5 r6) o t):Lp E 6 B2 0 (J3 r0 r1 false i0 i1 r2 r3 r4 r5 r6) o t:=by subst e1 e2 e3 e4;exact lpM (oT h1 (oF h2 (oF h3 (oN h4 (oW h5 (oC (bnF h6) (oC (bnF h7) (oL h8 (oN h9 (oV h10 (oF h11 oZ))))))))))) ih
end
theorem y7e (h1:¬ i1<i0):Lp E 6 B2 0 (J3 r0 r1 b0 i0 i1 r2 r3 r4 r5 r6) (.exit 0) (z0u r1 b0 r2 r3 r4 r5 r6):=lpX (oU h1 oZ)
section
variable (h1:Fn E z9x [] (.b true))
include h1
section
variable (h2:Fn E G0 [.agg [.l r0,.l r1,.l r2]] (.b true))
include h2
theorem x5x (h3:(r3.length:Int)>40):Fn E B2 [.agg [.l r0,.l r1,.l r2],.l r3] (.b true):=fnM (oF h1 (oF h2 (oT h3 oZ)))
section
variable (h3:¬ (r3.length:Int)>40)(h4:Fn E V1 [.agg [.l r0,.l r1,.l r2]] (.agg [.l r4,.l r5,.l r6]))(h5:Rn E N3 [.l r3] [] (.vec 0 n0) [sV D4 r7])(h6:Fn E U1 [.agg [.l r4,.l r5,.l r6],.l r8] (.tup [.l r9,.i i0]))
include h3 h4 h5 h6
theorem x5y (h7:¬ i0=0)(h8:(r9.length:Int)=0)(h9:Rn E N3 [.l r3] [] (.vec 0 n1) [sV D4 r10])(h10:Fn E P1 [.agg [.l r4,.l r5,.l r6],.l r11] (.b b0))(e1:(r7.take n0)=r8)(e2:(r10.take n1)=r11):Fn E B2 [.agg [.l r0,.l r1,.l r2],.l r3] (.b (!b0)):=by subst e1 e2;exact fnM (oF h1 (oF h2 (oU h3 (oF h4 (oN h5 (oF h6 (oB (bnT h7) (oB (beT h8) (oF h4 (oN h9 (oF h10 oZ)))))))))))
section
variable (h7:i0=0)(h8:Rn E N3 [.l r3] [] (.vec 0 n1) [sV D4 r10])
include h7 h8
theorem x5z (h9:Fn E P1 [.agg [.l r4,.l r5,.l r6],.l r11] (.b true))(h10:Lp E 6 B2 0 (J3 r3 r9 true (r2.length:Int) 0 r0 r1 r2 r7 r10) (.exit 0) (z0u r9 true r0 r1 r2 r7 r10))(h11:(r9.length:Int)=0)(e1:(r7.take n0)=r8)(e2:(r10.take n1)=r11):Fn E B2 [.agg [.l r0,.l r1,.l r2],.l r3] (.b true):=by subst e1 e2;exact fnM (oF h1 (oF h2 (oU h3 (oF h4 (oN h5 (oF h6 (oC (bnF h7) (oF h4 (oN h8 (oF h9 (oL h10 (oB (beT h11) oZ))))))))))))
theorem x6a (h9:Fn E P1 [.agg [.l r4,.l r5,.l r6],.l r11] (.b false))(h10:Lp E 6 B2 0 (J3 r3 r9 false (r2.length:Int) 0 r0 r1 r2 r7 r10) (.exit 0) (z0u r9 false r0 r1 r2 r7 r10))(e1:(r7.take n0)=r8)(e2:(r10.take n1)=r11):Fn E B2 [.agg [.l r0,.l r1,.l r2],.l r3] (.b true):=by subst e1 e2;exact fnM (oF h1 (oF h2 (oU h3 (oF h4 (oN h5 (oF h6 (oC (bnF h7) (oF h4 (oN h8 (oF h9 (oL h10 oZ)))))))))))
end
end
end
theorem x6b (h2:Fn E G0 [.agg [.l r0,.l r1,.l r2]] (.b false)):Fn E B2 [.agg [.l r0,.l r1,.l r2],.l r3] (.b true):=fnM (oF h1 (oF h2 oZ))
end
theorem j8e (h1:Fn E x4n [] (.agg [.l r0,.l r1,.l r2]))(h2:Fn E y8u [.agg [.l r0,.l r1,.l r2],.i 0,.l r3] (.tup [.s s0,.i i0]))(h3:Fn E z9a [.agg [.l r0,.l r1,.l r2],.i 0,.l r3] (.tup [.s s1,.i i1]))(h4:Fn E U1 [.agg [.l r0,.l r1,.l r2],.l r3] (.tup [.l r4,.i i2]))(h5:Fn E A8 [.agg [.l r0,.l r1,.l r2]] (.tup [.agg [.l r5,.l r6,.l r7],.i i3]))(h6:Fn E N5 [.agg [.l r0,.l r1,.l r2],.i 0] (.tup [.agg [.l r8,.l r9,.l r10],.i i4]))(h7:Fn E H0 [.agg [.l r0,.l r1,.l r2]] (.tup [.i i5,.i i6]))(h8:i0=0)(h9:i1=0)(h10:i2=0)(h11:i3=0)(h12:i4=0)(h13:i6=0)(h14:i5=(-1))(h15:s0=(⟨#[55,53,47,50]⟩:BA))(h16:s1=(⟨#[49,53,47,50]⟩:BA))(h17:Fn E G9 [.l r4,.l r11] (.b true))(h18:(r7.length:Int)=4)(h19:(r6.length:Int)=8)(h20:(r10.length:Int)=1)(h21:Fn E P1 [.agg [.l r8,.l r9,.l r10],.l r3] (.b true))(h22:Fn E P1 [.agg [.l r0,.l r1,.l r2],.l r3] (.b b0))(e1:(([[.i 1,.i 1,.i 2],[.i 2,.i 2,.i 1]]:RW).take 2)=r3)(e2:(([[.i 0]]:RW).take 1)=r11):Fn E z9x [] (.b (!b0)):=by subst e1 e2;exact fnM (oF h1 (oF h2 (oF h1 (oF h3 (oF h1 (oF h4 (oF h1 (oF h5 (oF h1 (oF h6 (oF h1 (oF h7 (oB (beT h8) (oB (beT h9) (oB (beT h10) (oB (beT h11) (oB (beT h12) (oB (beT h13) (oB (beT h14) (oB (seT h15) (oB (seT h16) (oF h17 (oB (beT h18) (oB (beT h19) (oB (beT h20) (oF h21 (oF h1 (oF h22 oZ))))))))))))))))))))))))))))
theorem q3i (e1:(([[.i 1,.i 3,.i 1,.s ⟨#[97]⟩,.s ⟨#[50]⟩,.s ⟨#[49]⟩,.s ⟨#[53]⟩],[.i 2,.i 1,.i 2,.s ⟨#[98]⟩,.s ⟨#[49,47,50]⟩,.s ⟨#[52]⟩,.s ⟨#[49]⟩]]:RW).take 2)=r0)(e2:(([[.i 1,.s ⟨#[65]⟩,.s ⟨#[52]⟩,.s ⟨#[55]⟩,.s ⟨#[49,48]⟩,.s ⟨#[48]⟩,.s ⟨#[49]⟩],[.i 2,.s ⟨#[66]⟩,.s ⟨#[57]⟩,.s ⟨#[51]⟩,.s ⟨#[45,53]⟩,.s ⟨#[48]⟩,.s ⟨#[49]⟩]]:RW).take 2)=r1)(e3:(([[.s ⟨#[49,48]⟩],[.s ⟨#[45,53]⟩]]:RW).take 2)=r2)(e4:(([[.s ⟨#[108,105,115,116]⟩,.i 1,.l r2,.s ⟨#[48]⟩,.s ⟨#[51,48]⟩,.i 0,.i 0],[.s ⟨#[97,112,97,114,116]⟩,.i 2,.l [],.s ⟨#[]⟩,.s ⟨#[]⟩,.i 1,.i 2]]:RW).take 2)=r3):Fn E x4n [] (.agg [.l r0,.l r1,.l r3]):=by subst e1 e2 e3 e4;exact fnM oZ
theorem x1t (h1:i0=i1):Rn E B7 [.i i0,.ptr 0 0] [sC [.i i1]] (.b true) [sC [.i i1]]:=rnM (oB (beT h1) oZ)
theorem x1u (h1:¬ i0=i1):Rn E B7 [.i i0,.ptr 0 0] [sC [.i i1]] (.b false) [sC [.i i1]]:=rnM (oC (beF h1) oZ)
end Gev
namespace Gev
open Go Gb
variable {E:Env}
attribute [local irreducible] Sz
structure Ln (ps:List Pc) (hs:List Hd) (rs:List Ru):Prop where
 p:ps.length≤9223372036854775807
 h:hs.length≤9223372036854775807
 r:rs.length≤9223372036854775807
theorem Sp.copy {ps:List Pc} {hs:List Hd} {rs:List Ru} (h:Sp ps hs rs):Fn E V1 [.agg (Pb ps hs rs)] (.agg (Pb ps hs rs)):=by
 have n1:=h.sh.np
 have n2:=h.sh.nh
 have n3:=h.nr
 exact v1z (by omega) (by omega) (by omega) fun r hr=>by have:=(h.r r hr).1;omega
end Gev
namespace Gev
open Go Gb
variable {E:Env}
attribute [local irreducible] Sz
def Rok (b:List (List (List UInt8)) × List (List UInt8)):Prop:=b.1.length=b.2.length∧∀ x∈b.1,x.length≤49
theorem v2k (f:Nat→Nat→List UInt8) (np nh:Nat):(rowF f np nh).length=np*nh:=by
 have:∀ l:List Nat,(l.flatMap fun i=>(List.range nh).map (f i)).length=l.length*nh:=by
  intro l
  induction l with
  | nil=>simp
  | cons x l ih=>rw [List.flatMap_cons,List.length_append,ih,List.length_map,List.length_range,List.length_cons,Nat.add_mul];omega
 unfold rowF
 rw [this,List.length_range]
theorem Rok.snoc {b:List (List (List UInt8)) × List (List UInt8)} (h:Rok b) {f:Nat→Nat→List UInt8} {np nh:Nat} (n1:np≤7) (n2:nh≤7) (x:List UInt8):Rok (b.1++[rowF f np nh],b.2++[x]):=by
 refine ⟨by simp [h.1],fun y hy=>?_⟩
 rcases List.mem_append.1 hy with hy | hy
 · exact h.2 y hy
 · rw [List.mem_singleton.1 hy,v2k];exact Nat.mul_le_mul n1 n2
end Gev
namespace Gev
open Go Gb
def idx2 (p:Ru→Bool):Nat→List Ru→List Int
 | _,[]=>[]
 | o,r::rs=>(if p r=true then [(o:Int)] else [])++idx2 p (o+1) rs
theorem y1g (p:Ru→Bool) (o:Nat) (r:Ru) (rs:List Ru):idx2 p o (r::rs)=(if p r=true then [(o:Int)] else [])++idx2 p (o+1) rs:=rfl
theorem q6s {ps:List Pc} {hs:List Hd} {l:List Sw}:∀ (rs:List Ru) (o:Nat) (b:List Int),(rs.zipIdx o).foldl (brF ps hs l) b=b++idx2 (fun r=>brk ps hs r l) o rs
 | [],o,b=>by simp [idx2]
 | r::rs,o,b=>by
  rw [List.zipIdx_cons,List.foldl_cons,q6s rs (o+1),y1g]
  unfold brF
  cases h:brk ps hs r l with
  | true=>simp
  | false=>simp
theorem v0a {ps:List Pc} {hs:List Hd} {rs:List Ru} {l:List Sw}:brI ps hs rs l=idx2 (fun r=>brk ps hs r l) 0 rs:=by
 unfold brI;rw [q6s];rfl
theorem j4y (p:Ru→Bool):∀ (a c:List Ru) (o:Nat),idx2 p o (a++c)=idx2 p o a++idx2 p (o+a.length) c
 | [],c,o=>by simp [idx2]
 | r::a,c,o=>by
  rw [List.cons_append,y1g,y1g,j4y p a c (o+1),List.append_assoc,List.length_cons,show o+1+a.length=o+(a.length+1) by omega]
theorem x7o (p:Ru→Bool):∀ (a:List Ru) (o:Nat) (x:Int),x∈idx2 p o a→(o:Int)≤x∧x<o+a.length
 | [],o,x,h=>by simp [idx2] at h
 | r::a,o,x,h=>by
  rw [y1g] at h
  rw [List.length_cons]
  rcases List.mem_append.1 h with h | h
  · split at h
    · rw [List.mem_singleton.1 h];omega
    · cases h
  · have:=x7o p a (o+1) x h;omega
theorem q6z (p:Ru→Bool):∀ (a:List Ru) (o:Nat),(idx2 p o a).map (fun n=>n+1)=idx2 p (o+1) a
 | [],o=>rfl
 | r::a,o=>by
  rw [y1g,y1g,List.map_append,q6z p a (o+1)]
  congr 1
  split <;> simp
theorem j4z (p:Ru→Bool):∀ (a:List Ru) (o:Nat),(idx2 p o a).length≤a.length
 | [],o=>by simp [idx2]
 | r::a,o=>by
  rw [y1g]
  have:=j4z p a (o+1)
  rw [List.length_append,List.length_cons]
  split <;> simp <;> omega
def bump (i n:Int):Int:=if n≥i then n+1 else n
theorem q8k (p:Ru→Bool) {rs:List Ru} {i:Nat} (hi:i<rs.length):(idx2 p 0 (rs.eraseIdx i)).map (bump i)=(idx2 p 0 rs).filter fun n=>!(n == (i:Int)):=by
 obtain ⟨r,hr⟩:=z0w hi
 have hl:(rs.take i).length=i:=by rw [List.length_take];omega
 rw [List.eraseIdx_eq_take_drop_succ,j4y,hl,Nat.zero_add]
 conv=>rhs;rw [← List.take_append_drop i rs,y7g hr,j4y,hl,Nat.zero_add]
 rw [List.map_append,List.filter_append]
 congr 1
 · rw [List.filter_eq_self.2 fun x hx=>by have:=x7o p _ _ x hx;rw [hl] at this;simp;omega]
   conv=>rhs;rw [← List.map_id (idx2 p 0 (rs.take i))]
   apply List.map_congr_left
   intro x hx
   have:=x7o p _ _ x hx
   rw [hl] at this
   unfold bump;rw [if_neg (by omega)];rfl
 · have h1:(idx2 p i (rs.drop (i+1))).map (bump i)=idx2 p (i+1) (rs.drop (i+1)):=by
    rw [← q6z]
    apply List.map_congr_left
    intro x hx
    have:=x7o p _ _ x hx
    unfold bump;rw [if_pos (by omega)]
   rw [h1,y1g,List.filter_append,List.filter_eq_self.2 fun x (hx:x∈idx2 p (i+1) (rs.drop (i+1)))=>by have:=x7o p _ _ x hx;simp;omega]
   split <;> simp
theorem fE_of {α:Type} {f:Nat→α→Int}:∀ {l:List α} {i:Nat},(∀ (j:Nat) a,l[j]?=some a→f (i+j) a=0)→fE f i l=0
 | [],i,h=>rfl
 | b::l,i,h=>by
  unfold fE
  rw [if_pos (by have:=h 0 b rfl;rwa [Nat.add_zero] at this)]
  exact fE_of fun j a hj=>by have:=h (j+1) a hj;rwa [show i+(j+1)=i+1+j by omega] at this
theorem fR_sub {ps:List Pc} {hs:List Hd} {rs rs':List Ru} {i j:Nat} {r:Ru} (h:fR ps hs rs i r=0) (h':(rs'.take j).any (fun x=>x.nm == r.nm)=false):fR ps hs rs' j r=0:=by
 have e:=(k3e h).2.2.2.2
 unfold fR at h ⊢
 rw [e] at h
 rw [h']
 exact h
theorem q8b {ps:List Pc} {hs:List Hd} {rs:List Ru} (h:chkE ps hs rs=0) (i:Nat):chkE ps hs (rs.eraseIdx i)=0:=by
 obtain ⟨h1,h2,h3⟩:=y9u h
 have hle:=(List.length_eraseIdx_le rs i)
 unfold chkE
 rw [if_pos h1,if_neg (by omega)]
 have hz:=x1p h3
 refine fE_of fun j r hj=>?_
 rw [Nat.zero_add]
 rw [List.getElem?_eraseIdx] at hj
 obtain ⟨k,hk,hkj⟩:∃ k,rs[k]?=some r∧(k=j∧j<i∨k=j+1∧i≤j):=by
  split at hj
  · exact ⟨j,hj,.inl ⟨rfl,by assumption⟩⟩
  · exact ⟨j+1,hj,.inr ⟨rfl,by omega⟩⟩
 have f0:=hz k r hk
 rw [Nat.zero_add] at f0
 refine fR_sub f0 ?_
 rw [List.any_eq_false]
 intro x hx
 refine List.any_eq_false.1 (k3e f0).2.2.2.2 x ?_
 obtain ⟨m,hm⟩:=List.mem_iff_getElem?.1 hx
 rw [List.getElem?_take] at hm
 split at hm
 · rename_i hmj
   rw [List.getElem?_eraseIdx] at hm
   split at hm
   · exact List.mem_iff_getElem?.2 ⟨m,by rw [List.getElem?_take,if_pos (by omega)];exact hm⟩
   · exact List.mem_iff_getElem?.2 ⟨m+1,by rw [List.getElem?_take,if_pos (by omega)];exact hm⟩
 · cases hm
theorem q9a {ps:List Pc} {hs:List Hd} {rs:List Ru} {l:List Sw} (h:rgtB ps hs rs l=true) (i:Nat):rgtB ps hs (rs.eraseIdx i) l=true:=by
 unfold rgtB at h ⊢
 have:=of_decide_eq_true h
 exact decide_eq_true ⟨q8b this.1 i,this.2⟩
theorem Sp.drop {ps:List Pc} {hs:List Hd} {rs:List Ru} (h:Sp ps hs rs) (i:Nat):Sp ps hs (rs.eraseIdx i) :=
 ⟨h.sh,Nat.le_trans ((List.length_eraseIdx_le rs i)) h.nr,fun r hr=>h.r r (List.mem_of_mem_eraseIdx hr)⟩
end Gev
namespace Gev
open Go Gb
variable {E:Env}
theorem q5u {c1_0:Int} {l:List Int} {w0:RW} (hw:∀ (i:Nat) a,l[i]?=some a→w0[i]?=some [.i64 a]) (p:Int→Bool) (hl:l.length<9223372036854775807) (hf:∀ a∈l,Rn E B7 [.c (.i64 a),.ptr 1 0] [some (.vec N1 w0),some (.cells [.c (.i64 c1_0)])] (.c (.bool (p a))) [some (.vec N1 w0),some (.cells [.c (.i64 c1_0)])]) :
    Rn E H2 [.vec 0 l.length,.fn B7 [.ptr 1 0]] [some (.vec N1 w0),some (.cells [.c (.i64 c1_0)])] (.c (.i64 (ix p l))) [some (.vec N1 w0),some (.cells [.c (.i64 c1_0)])]:=by
 have h:=M9 (l:=l) (fun _ a=>p a) (fun i=>N9 l.length ((l.length:Nat):Int) (i:Nat) w0 c1_0) (fun j _ o s=>o=.ret∧s=z3f w0 c1_0 (j:Int)) (y5n (by omega))
  (fun i a ha hb o s ih=>by
   have hi:=C7 ha;have hc:=hf a (List.mem_of_getElem? ha);rw [show p a=false from hb] at hc
   exact y7k (by omega) (⟨by omega,by omega⟩) (A7 (hw _ _ ha)) hc (wi (by omega)) ih)
  (fun i a ha hb=>by
   have hi:=C7 ha;have hc:=hf a (List.mem_of_getElem? ha);rw [show p a=true from hb] at hc
   exact ⟨_,_,⟨rfl,rfl⟩,y5m (by omega) (⟨by omega,by omega⟩) (A7 (hw _ _ ha)) hc⟩) l.length 0 (by omega)
 rcases h with ⟨h1,h2⟩ | ⟨j,a,o,s,h1,h2,h3,h4,⟨rfl,rfl⟩,h5⟩
 · rw [z7q fun j a hj h=>h1 j a hj h];exact z4l h2
 · rw [z7r h2 h3 fun j a hj hk h=>h4 j a hj hk h];exact z4k h5
theorem q2y {c1_0:Int} {l:List Int} {w0:RW} (hw:∀ (i:Nat) a,l[i]?=some a→w0[i]?=some [.i64 a]) (p:Int→Bool) (hl:l.length<9223372036854775807)
    (hf:∀ a∈l,∀ objs:Objs,lk objs 1=some (.cells [.c (.i64 c1_0)])→Rn E B7 [.c (.i64 a),.ptr 1 0] objs (.c (.bool (p a))) objs) :
    ∃ w k,Rn E D9 [.vec 0 l.length,.fn B7 [.ptr 1 0]] [some (.vec N1 w0),some (.cells [.c (.i64 c1_0)])] (.vec 0 k) [some (.vec N1 w),some (.cells [.c (.i64 c1_0)])]∧w.take k=I1 (l.filter fun a=>!p a)∧k≤w.length:=by
 have h0:=q5u hw p hl fun a ha=>hf a ha _ rfl
 by_cases hx:ix p l=-1
 · rw [hx] at h0
   refine ⟨w0,l.length,z3w h0 rfl,?_,q5v hw⟩
   have hn:l.any p=false:=z5n.1 (by omega)
   rw [List.any_eq_false] at hn
   rw [List.filter_eq_self.2 fun a ha=>by simpa using hn a ha]
   exact x1a (fun a=>[.i64 a]) hw
 · have hx0:¬ ix p l<0:=fun h=>by
    have:=v0t (p:=p) (l:=l)
    omega
   obtain ⟨a0,ha0,hp0⟩:=j5m hx0
   have hlt:=C7 ha0
   have hfst:=j5l hx0
   obtain ⟨n,hn⟩:∃ n:Nat,ix p l=(n:Int):=⟨(ix p l).toNat,by omega⟩
   rw [hn] at h0 hlt ha0 hfst hx
   rw [Int.toNat_natCast] at hlt ha0 hfst
   have hgo:=H7 (l:=l) (n:=2) (F:=D9) (k:=0) (fun (b:RW × Nat) a=>if p a then b else (b.1.set b.2 [.i64 a],b.2+1))
    (fun i b=>b.2≤i∧(∀ j a,i≤j→l[j]?=some a→b.1[j]?=some [.i64 a])∧(∀ j,j<l.length→∃ a:Int,b.1[j]?=some [.i64 a])∧b.1.take b.2=I1 ((l.take i).filter fun a=>!p a))
    (fun i b=>M4 l.length (b.2:Nat) (i:Nat) b.1 c1_0) (oe:=.exit 0) (fin:=fun b=>z2p l.length c1_0 (b.2:Nat) b.1)
    (fun b hb=>y4m (by omega))
    (fun i a b ha hb=>by
     have hi:=C7 ha
     obtain ⟨h1,h2,h3,h4⟩:=hb
     have hc:=hf a (List.mem_of_getElem? ha) [some (.vec N1 b.1),some (.cells [.c (.i64 c1_0)])] rfl
     have ht:l.take (i+1)=l.take i++[a]:=by rw [List.take_add_one,ha];rfl
     cases hp:p a with
     | true =>
      rw [hp] at hc
      rw [if_pos rfl]
      refine ⟨⟨by omega,fun j a' hj hg=>h2 j a' (by omega) hg,h3,?_⟩,fun o s ih=>y6g (by omega) ⟨by omega,by omega⟩ (A7 (h2 i a (Nat.le_refl _) ha)) hc (wi (by omega)) ih⟩
      rw [h4,ht,List.filter_append];simp [hp]
     | false =>
      rw [hp] at hc
      rw [if_neg (by simp)]
      obtain ⟨a1,ha1⟩:=h3 b.2 (by omega)
      refine ⟨⟨Nat.succ_le_succ h1,fun j a' hj hg=>?_,fun j hj=>?_,?_⟩,fun o s ih=>y6h (by omega) ⟨by omega,by omega⟩ (A7 (h2 i a (Nat.le_refl _) ha)) hc ⟨by omega,by omega⟩ (A7 ha1) (by rw [Int.toNat_natCast]) (wi (by omega)) (wi (by omega)) ih⟩
      · show (b.1.set b.2 [.i64 a])[j]?=_
        rw [List.getElem?_set_ne (by omega)];exact h2 j a' (by omega) hg
      · by_cases e:j=b.2
        · subst e;exact ⟨a,List.getElem?_set_self (List.getElem?_eq_some_iff.1 ha1).1⟩
        · obtain ⟨a2,h⟩:=h3 j hj
          exact ⟨a2,(List.getElem?_set_ne (by omega)).trans h⟩
      · show (b.1.set b.2 [.i64 a]).take (b.2+1)=_
        rw [List.take_add_one,List.getElem?_set_self (List.getElem?_eq_some_iff.1 ha1).1,List.take_set_of_le (Nat.le_refl _),h4,ht,List.filter_append]
        simp [hp,I1])
    (l.length-(n+1)) (n+1) (w0,n) (by omega) ⟨by simp,fun j a hj h=>hw j a h,fun j hj=>⟨l[j],hw j _ (List.getElem?_eq_getElem hj)⟩,?_⟩
   · obtain ⟨⟨h1,h2,h3,h4⟩,h5⟩:=hgo
     generalize hb:(List.foldl _ _ _:RW × Nat)=b at h1 h2 h3 h4 h5
     refine ⟨_,b.2,z3x h0 (by omega) h5 ⟨by omega,by omega,by omega⟩ ⟨by omega,by omega⟩ (wi (by omega)) rfl (Int.toNat_natCast _),?_,?_⟩
     rotate_left
     · rw [Int.toNat_natCast,List.append_assoc,List.length_append,List.length_take]
       have hlb:l.length≤b.1.length:=q1m h3
       omega
     rw [Int.toNat_natCast,List.append_assoc,List.take_append_of_le_length (by
      rw [List.length_take]
      obtain ⟨a,ha⟩:=h3 (b.2-1) (by omega)
      have:=(List.getElem?_eq_some_iff.1 ha).1
      omega),List.take_take,Nat.min_self,h4,List.take_length]
   · show w0.take n=_
     have ht:l.take (n+1)=l.take n++[a0]:=by rw [List.take_add_one,ha0];rfl
     rw [ht,List.filter_append,List.filter_eq_self.2 fun a ha=>by
      obtain ⟨j,hj⟩:=List.mem_iff_getElem?.1 ha
      rw [List.getElem?_take] at hj
      split at hj
      · rename_i hjn;rw [hfst j a hjn hj];rfl
      · cases hj]
     rw [show [a0].filter (fun a=>!p a)=[] by simp [hp0],List.append_nil]
     have:=x1a (fun a=>[.i64 a]) (l:=l.take n) (w:=w0) (fun i a h=>by
      rw [List.getElem?_take] at h
      split at h
      · exact hw i a h
      · cases h)
     rwa [List.length_take,Nat.min_eq_left (by omega)] at this
end Gev
namespace Gev
open Go Gb
variable {E:Env}
attribute [local irreducible] Sz
theorem k1y (hlib:Lib E) (hc:Cs E) {ps:List Pc} {hs:List Hd} {rs:List Ru} {l:List Sw} (h:Sp ps hs rs) (hl:Sl l) (hg:rgtB ps hs rs l=true) :
    Rn E U1 [.agg (Pb ps hs rs),.c (.list (Ss l))] [] (.tup [.vec 0 (brI ps hs rs l).length,.c (.i64 0)]) [some (.vec N1 (I1 (brI ps hs rs l)))]:=by
 have hR:=z9l hlib h hl
 rw [hg] at hR
 exact k1x hR (k2c (y5s hlib hc h hl hg))
def upd (i:Int) (c:List Int) (k:Nat):List Int:=(c.take k).map (bump i)++c.drop k
theorem x7w {i:Int} {c:List Int} {k:Nat} {x:Int} (h:c[k]?=some x):(upd i c k)[k]?=some x:=by
 have hk:=C7 h
 unfold upd
 rw [List.getElem?_append_right (by simp;omega),List.length_map,List.length_take,Nat.min_eq_left (by omega),Nat.sub_self,List.getElem?_drop]
 exact h
theorem q7v {i:Int} {c:List Int} {k:Nat} {x:Int} (h:c[k]?=some x):(upd i c k).set k (bump i x)=upd i c (k+1):=by
 have hk:=C7 h
 unfold upd
 have hl:((c.take k).map (bump i)).length=k:=by rw [List.length_map,List.length_take];omega
 rw [List.set_append_right _ _ (by omega),hl,Nat.sub_self,y7g h,List.set_cons_zero,List.take_add_one,h]
 simp
theorem q7u (i:Int) (c:List Int):upd i c c.length=c.map (bump i):=by unfold upd;simp
theorem q9q (l:List Int) (k:Nat) (x:Int):List.set (I1 l) k [.i64 x]=I1 (l.set k x):=by unfold I1;rw [List.map_set]
theorem v0n {r0 r1 r2 r3 r4 r5 r6 r7 r8 r9 r10 r12:RW} {b0:Bool} {i0:Int} {i:Nat} {c:List Int} (hi:i≤17) (hc:∀ x∈c,-100≤x∧x≤100) (hl:c.length≤1000) :
    Lp E 12 B2 1 (N2 r0 r1 b0 c.length i0 (i:Nat) c.length ((c.length:Nat):Int) 0 r2 r3 r4 r5 r6 (i:Nat) r7 r8 r9 r10 (I1 c) r12) (.exit 2) (z0v r0 r1 b0 c.length i0 (i:Nat) r2 r3 r4 r5 r6 (i:Nat) r7 r8 r9 r10 r12 (I1 (c.map (bump i)))):=by
 have h:=k7l (E:=E) (n:=12) (F:=B2) (k:=1) (l:=c) (fun k=>N2 r0 r1 b0 c.length i0 (i:Nat) c.length ((c.length:Nat):Int) (k:Nat) r2 r3 r4 r5 r6 (i:Nat) r7 r8 r9 r10 (I1 (upd i c k)) r12) (oe:=.exit 2) (fin:=z0v r0 r1 b0 c.length i0 (i:Nat) r2 r3 r4 r5 r6 (i:Nat) r7 r8 r9 r10 r12 (I1 (c.map (bump i))))
  (by rw [q7u];exact y7f (by omega)) fun k x hx o s ih=>by
   have hk:=C7 hx
   have hb:=hc x (List.mem_of_getElem? hx)
   have g:=A7 (k0g (x7w (i:=i) hx))
   have hs:=q7v (i:=(i:Int)) hx
   by_cases c1:x≥(i:Int)
   · rw [show bump i x=x+1 from if_pos c1] at hs
     exact y9c (i6:=x+1) (by omega) ⟨by omega,by omega⟩ g c1 ⟨by omega,by omega⟩ (wi (by omega)) (by rw [Int.toNat_natCast,q9q,hs]) (wi (by omega)) ih
   · rw [show bump i x=x from if_neg c1] at hs
     have e:upd i c k=upd i c (k+1):=by
      rw [← hs]
      apply List.ext_getElem?
      intro j
      by_cases hj:j=k
      · subst hj;rw [List.getElem?_set_self (C7 (x7w (i:=i) hx))];exact x7w hx
      · rw [List.getElem?_set_ne (by omega)]
     rw [← e] at ih
     exact y9d (by omega) ⟨by omega,by omega⟩ g c1 (wi (by omega)) ih
 exact h
theorem q8i {r0 r1 r2 r3 r4 r5 r6 r7 r8 r9 r10:RW} {b0:Bool} {i0:Int} {i:Nat} {c:List Int} (hi:i≤17) (hc:∀ x∈c,-100≤x∧x≤100) (hl:c.length≤1000) :
    Lp E 12 B2 1 (K9 r0 r1 b0 c.length i0 (i:Nat) c.length ((c.length:Nat):Int) 0 r2 r3 r4 r5 r6 (i:Nat) r7 r8 r9 r10 (I1 c)) (.exit 2) (z0h r0 r1 b0 c.length i0 (i:Nat) r2 r3 r4 r5 r6 (i:Nat) r7 r8 r9 r10 (I1 (c.map (bump i)))):=by
 have h:=k7l (E:=E) (n:=12) (F:=B2) (k:=1) (l:=c) (fun k=>K9 r0 r1 b0 c.length i0 (i:Nat) c.length ((c.length:Nat):Int) (k:Nat) r2 r3 r4 r5 r6 (i:Nat) r7 r8 r9 r10 (I1 (upd i c k))) (oe:=.exit 2) (fin:=z0h r0 r1 b0 c.length i0 (i:Nat) r2 r3 r4 r5 r6 (i:Nat) r7 r8 r9 r10 (I1 (c.map (bump i))))
  (by rw [q7u];exact y5u (by omega)) fun k x hx o s ih=>by
   have hk:=C7 hx
   have hb:=hc x (List.mem_of_getElem? hx)
   have g:=A7 (k0g (x7w (i:=i) hx))
   have hs:=q7v (i:=(i:Int)) hx
   by_cases c1:x≥(i:Int)
   · rw [show bump i x=x+1 from if_pos c1] at hs
     exact y7o (i6:=x+1) (by omega) ⟨by omega,by omega⟩ g c1 ⟨by omega,by omega⟩ (wi (by omega)) (by rw [Int.toNat_natCast,q9q,hs]) (wi (by omega)) ih
   · rw [show bump i x=x from if_neg c1] at hs
     have e:upd i c k=upd i c (k+1):=by
      rw [← hs]
      apply List.ext_getElem?
      intro j
      by_cases hj:j=k
      · subst hj;rw [List.getElem?_set_self (C7 (x7w (i:=i) hx))];exact x7w hx
      · rw [List.getElem?_set_ne (by omega)]
     rw [← e] at ih
     exact y7p (by omega) ⟨by omega,by omega⟩ g c1 (wi (by omega)) ih
 exact h
theorem I1_all (l:List Int):(I1 l).take l.length=I1 l:=by rw [← x4p l,List.take_length]
theorem q8d {x i:Int} {objs:Objs} (h:lk objs 1=some (.cells [.c (.i64 i)])):Rn E B7 [.c (.i64 x),.ptr 1 0] objs (.c (.bool (x == i))) objs:=by
 by_cases e:x=i
 · rw [show (x == i)=true by simp [e]]
   exact (x1t (E:=E) e).sub [1] (by decide) rfl (by intro j hj;match j,hj with | 0,_=>exact h) (by simp [Ob.plain]) rfl rfl
 · rw [show (x == i)=false by simp [e]]
   exact (x1u (E:=E) e).sub [1] (by decide) rfl (by intro j hj;match j,hj with | 0,_=>exact h) (by simp [Ob.plain]) rfl rfl
theorem law_Fewer (hlib:Lib E) (hc:Cs E) (hci:∀ l:List Int,l.length≤1000→Rn E Z8 [.c (.list (I1 l))] [] (.vec 0 l.length) [some (.vec N1 (I1 l))]) (hA:Fn E z9x [] (.c (.bool true))) {ps:List Pc} {hs:List Hd} {rs:List Ru} {l:List Sw} (n:Ln ps hs rs) (hu:∀ a∈l,-9223372036854775808≤a.un∧a.un≤9223372036854775807):Fn E B2 [.agg (Pb ps hs rs),.c (.list (Ss l))] (.c (.bool true)):=by
 have hF:=v4e (E:=E) n.p n.h n.r
 have hq:=x1i l
 cases c:fewA ps hs rs with
 | false=>rw [c] at hF;exact x6b hA hF
 | true =>
  rw [c] at hF
  have h:=q1j c
  by_cases h40:((Ss l).length:Int)>40
  · exact x5x hA hF h40
  have hl:Sl l:=⟨by omega,hu⟩
  have k:=hc.sw l hl.n
  have e:(Ss l).take l.length=Ss l:=by rw [← hq,List.take_length]
  have hB:=y8l hlib hc h hl
  have hK:=z9j hlib hc h hl
  have n3:=h.nr
  have l3:=z8e rs
  cases g:rgtB ps hs rs l with
  | false =>
   have e1:kpB ps hs rs l=false:=by unfold kpB;rw [g];rfl
   have e2:brR ps hs rs l=[]:=by unfold brR;rw [g];rfl
   have e3:brE ps hs rs l=1:=by unfold brE;rw [g];rfl
   rw [e1] at hK
   rw [e2,e3] at hB
   exact x5y hA hF h40 h.copy k hB (by decide) rfl k hK e e
  | true =>
   have e2:brR ps hs rs l=brI ps hs rs l:=by unfold brR;rw [g];rfl
   have e3:brE ps hs rs l=0:=by unfold brE;rw [g];rfl
   rw [e2,e3] at hB
   obtain ⟨b,hb⟩:∃ b,b=brI ps hs rs l:=⟨_,rfl⟩
   have hbi:b=idx2 (fun r=>brk ps hs r l) 0 rs:=hb.trans v0a
   have hbl:b.length≤17:=by rw [hbi];exact Nat.le_trans (j4z _ _ _) n3
   rw [← hb] at hB
   have loop:Lp E 6 B2 0 (J3 (Ss l) (I1 b) (kpB ps hs rs l) ((Rs rs).length:Int) 0 (Ps ps) (Hs hs) (Rs rs) (Ss l) (Ss l)) (.exit 0) (z0u (I1 b) (kpB ps hs rs l) (Ps ps) (Hs hs) (Rs rs) (Ss l) (Ss l)):=by
    refine k7l (E:=E) (l:=rs) (fun i=>J3 (Ss l) (I1 b) (kpB ps hs rs l) ((Rs rs).length:Int) (i:Nat) (Ps ps) (Hs hs) (Rs rs) (Ss l) (Ss l)) (y7e (by omega)) fun i r hr o s ih=>?_
    have hi:=C7 hr
    have hd:=k7r hlib hc (rule:=(i:Nat)) h
    have gz:=j6b h hl g
    unfold drV drE at hd
    rw [show (if chkE ps hs rs=0 then (if ((i:Nat):Int)<0∨((i:Nat):Int)≥rs.length then (7:Int) else 0) else 1)=0 by rw [if_pos gz.1,if_neg (by omega)],if_pos rfl,Int.toNat_natCast] at hd
    have h':=h.drop i
    have g':=q9a g i
    have hBn:=k1y hlib hc h' hl g'
    have hK':=z9j hlib hc h' hl
    obtain ⟨d,hd2⟩:∃ d,d=brI ps hs (rs.eraseIdx i) l:=⟨_,rfl⟩
    rw [← hd2] at hBn
    have hdi:d=idx2 (fun r=>brk ps hs r l) 0 (rs.eraseIdx i):=hd2.trans v0a
    have hdl:d.length≤17:=by rw [hdi];exact Nat.le_trans (j4z _ _ _) h'.nr
    have hdb:∀ x∈d,-100≤x∧x≤100:=fun x hx=>by
     rw [hdi] at hx
     have:=x7o _ _ _ x hx
     have:=h'.nr
     omega
    have hm:d.map (bump i)=b.filter fun n=>!(n == (i:Int)):=by rw [hdi,hbi];exact q8k _ hi
    have hcl:=hci b (by omega)
    obtain ⟨w,kk,d1,d2,d3⟩:=q2y (E:=E) (c1_0:=(i:Int)) (l:=b) (w0:=I1 b) (fun j a ha=>k0g ha) (fun a=>a == (i:Int)) (by omega) fun a _ objs ho=>q8d ho
    have d2':w.take kk=I1 (d.map (bump i)):=by rw [hm];exact d2
    have hml:(d.map (bump (i:Int))).length≤1000:=by rw [List.length_map];omega
    have eq:=j9i (E:=E) (a:=d.map (bump i)) (b:=d.map (bump i)) hml hml
    rw [show (d.map (bump (i:Int)) == d.map (bump (i:Int)))=true by simp] at eq
    have em:(I1 (d.map (bump (i:Int)))).take d.length=I1 (d.map (bump i)):=by
     have:=I1_all (d.map (bump (i:Int)))
     rw [List.length_map] at this;exact this
    cases gk:kpB ps hs rs l with
    | true =>
     rw [gk] at ih
     have hkk:kpB ps hs (rs.eraseIdx i) l=true:=by
      unfold kpB at gk ⊢
      rw [g,Bool.true_and,Bool.and_eq_true,List.isEmpty_iff] at gk
      rw [g',Bool.true_and,Bool.and_eq_true,List.isEmpty_iff]
      refine ⟨?_,gk.2⟩
      rw [← hd2]
      rw [← hb] at gk
      rw [gk.1] at hm
      exact List.map_eq_nil_iff.1 hm
     rw [hkk] at hK'
     refine y9a (by omega) h.copy hd k hBn rfl rfl k hK' (v0n (by omega) hdb (by omega)) hcl (d1.put [12,6] (by decide) rfl rfl
      (by intro j hj;match j,hj with | 0,_=>rfl | 1,_=>rfl) (by intro j hj;match j,hj with | 0,_=>rfl | 1,_=>rfl) (by
       intro j hj
       match j with
       | 0=>rfl
       | 1=>rfl
       | 2=>rfl
       | 3=>rfl
       | 4=>rfl
       | 5=>rfl
       | 6=>exact absurd rfl (hj 1 (by simp))
       | 7=>rfl
       | 8=>rfl
       | 9=>rfl
       | 10=>rfl
       | 11=>rfl
       | 12=>exact absurd rfl (hj 0 (by simp))
       | j+13=>rfl) rfl rfl rfl rfl) eq e e em d2' (wi (by omega)) ih
    | false =>
     rw [gk] at ih
     refine y9b (by omega) h.copy hd k hBn rfl rfl (q8i (by omega) hdb (by omega)) hcl (d1.put [12,6] (by decide) rfl rfl
      (by intro j hj;match j,hj with | 0,_=>rfl | 1,_=>rfl) (by intro j hj;match j,hj with | 0,_=>rfl | 1,_=>rfl) (by
       intro j hj
       match j with
       | 0=>rfl
       | 1=>rfl
       | 2=>rfl
       | 3=>rfl
       | 4=>rfl
       | 5=>rfl
       | 6=>exact absurd rfl (hj 1 (by simp))
       | 7=>rfl
       | 8=>rfl
       | 9=>rfl
       | 10=>rfl
       | 11=>rfl
       | 12=>exact absurd rfl (hj 0 (by simp))
       | j+13=>rfl) rfl rfl rfl rfl) eq e em d2' (wi (by omega)) ih
   cases gk:kpB ps hs rs l with
   | true =>
    rw [gk] at hK loop
    have hz:b=[]:=by
     unfold kpB at gk
     rw [g,Bool.true_and,Bool.and_eq_true,List.isEmpty_iff] at gk
     rw [hb];exact gk.1
    exact x5z hA hF h40 h.copy k hB rfl k hK loop (by rw [hz];rfl) e e
   | false =>
    rw [gk] at hK loop
    exact x6a hA hF h40 h.copy k hB rfl k hK loop e e
end Gev
namespace Gev
open Go Gb Go.Proofs
variable {E:Env}
attribute [local irreducible] Sz
theorem txq {l:List UInt8} {q:Rat} (h:q2u q l=true):decQ q=l:=(k6k.1 h).symm
def psT:List Pc:=[⟨1,3,1,[97],[50],[49],[53]⟩,⟨2,1,2,[98],[49,47,50],[52],[49]⟩]
def hsT:List Hd:=[⟨1,[65],[52],[55],[49,48],[48],[49]⟩,⟨2,[66],[57],[51],[45,53],[48],[49]⟩]
def ruA:Ru:=⟨[108,105,115,116],1,[[49,48],[45,53]],[48],[51,48],0,0⟩
def ruB:Ru:=⟨[97,112,97,114,116],2,[],[],[],1,2⟩
def rsT:List Ru:=[ruA,ruB]
def lT:List Sw:=[⟨1,1,2⟩,⟨2,2,1⟩]
theorem spT:Sp psT hsT rsT:=q1j (by kernel_rfl)
theorem spD:Sp psT hsT [ruB]:=q1j (by kernel_rfl)
theorem slT:Sl lT:=⟨by decide,by decide⟩
theorem t_chkN:chkN psT hsT rsT=-1:=by kernel_rfl
theorem v2r:chkE psT hsT rsT=0:=by kernel_rfl
theorem t_sm:smE psT hsT rsT 0 lT=0:=by kernel_rfl
theorem t_sum:sumS psT hsT (ruAt rsT 0).fs lT=mkRat 75 2:=by kernel_rfl
theorem t_ex:exS (ruAt rsT 0) (sumS psT hsT (ruAt rsT 0).fs lT)=mkRat 15 2:=by kernel_rfl
theorem t_sumT:sumT psT hsT rsT 0 lT=[55,53,47,50]:=by
 unfold sumT;rw [if_pos t_sm,t_sum];exact txq (by kernel_rfl)
theorem t_excT:excT psT hsT rsT 0 lT=[49,53,47,50]:=by
 unfold excT;rw [if_pos t_sm,t_ex];exact txq (by kernel_rfl)
theorem t_br:brR psT hsT rsT lT=[0]:=by kernel_rfl
theorem t_brE:brE psT hsT rsT lT=0:=by kernel_rfl
theorem t_kp:kpB psT hsT rsT lT=false:=by kernel_rfl
theorem t_kpD:kpB psT hsT [ruB] lT=true:=by kernel_rfl
theorem t_rE:rlxE psT hsT rsT=0:=by kernel_rfl
theorem t_rB:(k0b psT hsT rsT).2.length=8:=by kernel_rfl
theorem t_rC:(rlxC psT hsT).length=4:=by kernel_rfl
theorem t_dr:drR rsT ruA.nm=[ruB]:=by kernel_rfl
theorem two_ok:Fn E x4n [] (.agg (Pb psT hsT rsT)):=q3i rfl rfl rfl rfl
theorem q9x (hlib:Lib E) (hc:Cs E):Fn E z9x [] (.c (.bool true)):=by
 have k2:=j6n hlib hc (rule:=0) spT slT
 have k3:=k4w hlib hc (rule:=0) spT slT
 have k4:=y8l hlib hc spT slT
 have k5:=k7u hlib spT
 have k6:=x3d hlib hc (rule:=0) (r:=ruA) spT v2r rfl
 have k7:=z4n hlib spT
 have k8:=z9j hlib hc spD slT
 have k9:=z9j hlib hc spT slT
 have ke:=j9i (E:=E) (a:=[0]) (b:=[0]) (by decide) (by decide)
 rw [t_sumT,t_sm] at k2
 rw [t_excT,t_sm] at k3
 rw [t_br,t_brE] at k4
 rw [if_pos t_rE] at k5
 rw [t_dr] at k6
 rw [t_chkN,v2r] at k7
 rw [t_kpD] at k8
 rw [t_kp] at k9
 exact j8e two_ok k2 k3 k4 k5 k6 k7 rfl rfl rfl rfl rfl rfl rfl rfl rfl ke (by rw [z4f,t_rC];rfl) (by rw [z4f,t_rB];rfl) rfl k8 k9 rfl rfl
end Gev
namespace Gev
open Go Gb Go.Proofs
variable {P:Program}
inductive LK where
 | int | bool | str | slice (e:TypeId)
def j9s (P:Program) (rec:TypeId→Option (List LK)):Nat→List Field→Option (List LK)
 | _,[]=>some []
 | o,f::fs=>match rec f.type,j9s P rec (o+P.cellsOf f.type) fs with
  | some ks,some rs=>if f.offset=o∧P.cellsOf f.type=ks.length then some (ks++rs) else none
  | _,_=>none
def z6y (P:Program):Nat→TypeId→Option (List LK)
 | 0,_=>none
 | n+1,t=>match P.underlying t with
  | some (.int .i64)=>some [.int]
  | some .bool=>some [.bool]
  | some .string=>some [.str]
  | some (.slice e)=>some [.slice e]
  | some (.struct fs)=>match j9s P (z6y P n) 0 fs.toList with
   | some l=>if P.cellsOf t=l.length then some l else none
   | none=>none
  | _=>none
def InI (n:Int):Prop:=-9223372036854775808≤n∧n≤9223372036854775807
def LeL (n:Nat):Prop:=n≤9223372036854775807
inductive L1 (P:Program):LK→DV→Prop
 | int (n:Int) (h:InI n):L1 P .int (.i64 n)
 | bool (b:Bool):L1 P .bool (.bool b)
 | str (l:List UInt8):L1 P .str (.str (B l))
 | slice {e:TypeId} (xs:RW) (h:∀ x∈xs,TyD P e x) (hl:LeL xs.length):L1 P (.slice e) (.list xs)
inductive LOk (P:Program):List LK→List DV→Prop
 | nil:LOk P [] []
 | cons {k:LK} {ks:List LK} {d:DV} {ds:List DV} (h:L1 P k d) (t:LOk P ks ds):LOk P (k::ks) (d::ds)
theorem LOk.append {ks ls:List LK} {ds es:List DV} (h:LOk P ks ds) (g:LOk P ls es):LOk P (ks++ls) (ds++es):=by
 induction h with
 | nil=>exact g
 | cons h _ ih=>exact .cons h ih
theorem LOk.len {ks:List LK} {ds:List DV} (h:LOk P ks ds):ds.length=ks.length:=by
 induction h with
 | nil=>rfl
 | cons h _ ih=>rw [List.length_cons,List.length_cons,ih]
theorem LOk.hd {k:LK} {ks:List LK} {ds:List DV} (h:LOk P (k::ks) ds):∃ d es,ds=d::es∧L1 P k d∧LOk P ks es:=by
 cases h with
 | cons h t=>exact ⟨_,_,rfl,h,t⟩
theorem LOk.e {ds:List DV} (h:LOk P [] ds):ds=[]:=by cases h;rfl
theorem L1.i {d:DV} (h:L1 P .int d):∃ n,d=.i64 n:=by cases h;exact ⟨_,rfl⟩
theorem L1.j {d:DV} (h:L1 P .int d):∃ n,d=.i64 n∧InI n:=by cases h with | int n h=>exact ⟨_,rfl,h⟩
theorem L1.s {d:DV} (h:L1 P .str d):∃ l,d=.str (B l):=by cases h;exact ⟨_,rfl⟩
theorem L1.l {e:TypeId} {d:DV} (h:L1 P (.slice e) d):∃ xs,d=.list xs∧(∀ x∈xs,TyD P e x)∧LeL xs.length:=by cases h with | slice xs h n=>exact ⟨_,rfl,h,n⟩
theorem inI_wf {m:Int} (h:(Lit.int IntKind.i64 m).wf=true):InI m:=by
 unfold Lit.wf at h
 rw [Bool.and_eq_true,decide_eq_true_eq,decide_eq_true_eq] at h
 exact h
theorem j9j {rec:TypeId→Option (List LK)} (ih:∀ t ks ds,rec t=some ks→TyD P t ds→LOk P ks ds):∀ (fs:List Field) (o:Nat) (l:List LK) (ds:List DV),j9s P rec o fs=some l→(∀ f∈fs,TyD P f.type ((ds.drop f.offset).take (P.cellsOf f.type)))→LOk P l ((ds.drop o).take l.length)
 | [],o,l,ds,h,hp=>by cases h;exact .nil
 | f::fs,o,l,ds,h,hp=>by
  unfold j9s at h
  cases h1:rec f.type with
  | none=>rw [h1] at h;cases h
  | some ks =>
   cases h2:j9s P rec (o+P.cellsOf f.type) fs with
   | none=>rw [h1,h2] at h;cases h
   | some rs =>
    rw [h1,h2] at h
    simp only at h
    split at h
    · rename_i hc
      cases h
      have a1:=ih _ _ _ h1 (hp f (by simp))
      have a2:=j9j ih fs _ rs ds h2 fun g hg=>hp g (List.mem_cons_of_mem _ hg)
      rw [hc.1,hc.2] at a1
      rw [hc.2] at a2
      rw [List.length_append,List.take_add,List.drop_drop]
      exact a1.append a2
    · cases h
theorem z9g:∀ (n:Nat) (t:TypeId) (ks:List LK) (ds:List DV),z6y P n t=some ks→TyD P t ds→LOk P ks ds
 | 0,t,ks,ds,h,hd=>by cases h
 | n+1,t,ks,ds,h,hd=>by
  unfold z6y at h
  cases hd with
  | int m hu hw =>
   rename_i k
   rw [hu] at h
   cases k <;> first | (cases h;exact .cons (.int m (inI_wf hw)) .nil) | cases h
  | bool b hu=>rw [hu] at h;cases h;exact .cons (.bool b) .nil
  | str s hu=>rw [hu] at h;cases h;rw [← B_of s];exact .cons (.str _) .nil
  | slice xs hu hx hl=>rw [hu] at h;cases h;exact .cons (.slice xs hx hl) .nil
  | struct ds hu hl hp =>
   rw [hu] at h
   simp only at h
   rename_i fs
   cases h2:j9s P (z6y P n) 0 fs.toList with
   | none=>rw [h2] at h;cases h
   | some l =>
    rw [h2] at h
    simp only at h
    split at h
    · rename_i hc
      cases h
      have:=j9j (z9g n) fs.toList 0 _ ds h2 hp
      rw [List.drop_zero,← hc,← hl,List.take_length] at this
      exact this
    · cases h
theorem k4v {α:Type} {p:List DV→Prop} {f:α→List DV} (h:∀ x,p x→∃ a,x=f a):∀ xs:RW,(∀ x∈xs,p x)→∃ l:List α,xs=l.map f
 | [],_=>⟨[],rfl⟩
 | x::xs,hx=>by
  obtain ⟨l,rfl⟩:=k4v h xs fun y hy=>hx y (List.mem_cons_of_mem _ hy)
  obtain ⟨a,rfl⟩:=h x (hx x (by simp))
  exact ⟨a::l,rfl⟩
theorem u_R1 {e:TypeId} {n:Nat} (h:z6y P n e=some [.str]) {xs:RW} (hx:∀ x∈xs,TyD P e x):∃ l,xs=R1 l :=
 k4v (fun x k=>by
  have:=z9g _ _ _ _ h k
  match x,this with
  | _,.cons (.str l) .nil=>exact ⟨l,rfl⟩) xs hx
theorem u_Ps {e:TypeId} {n:Nat} (h:z6y P n e=some [.int,.int,.int,.str,.str,.str,.str]) {xs:RW} (hx:∀ x∈xs,TyD P e x):∃ l,xs=Ps l :=
 k4v (fun x k=>by
  obtain ⟨_,_,rfl,z1,t⟩:=(z9g _ _ _ _ h k).hd
  obtain ⟨_,_,rfl,z2,t⟩:=t.hd
  obtain ⟨_,_,rfl,z3,t⟩:=t.hd
  obtain ⟨_,_,rfl,z4,t⟩:=t.hd
  obtain ⟨_,_,rfl,z5,t⟩:=t.hd
  obtain ⟨_,_,rfl,z6,t⟩:=t.hd
  obtain ⟨_,_,rfl,z7,t⟩:=t.hd
  cases t.e
  obtain ⟨a,rfl⟩:=z1.i
  obtain ⟨b,rfl⟩:=z2.i
  obtain ⟨c,rfl⟩:=z3.i
  obtain ⟨d,rfl⟩:=z4.s
  obtain ⟨e,rfl⟩:=z5.s
  obtain ⟨f,rfl⟩:=z6.s
  obtain ⟨g,rfl⟩:=z7.s
  exact ⟨⟨a,b,c,d,e,f,g⟩,rfl⟩) xs hx
theorem u_Hs {e:TypeId} {n:Nat} (h:z6y P n e=some [.int,.str,.str,.str,.str,.str,.str]) {xs:RW} (hx:∀ x∈xs,TyD P e x):∃ l,xs=Hs l :=
 k4v (fun x k=>by
  obtain ⟨_,_,rfl,z1,t⟩:=(z9g _ _ _ _ h k).hd
  obtain ⟨_,_,rfl,z2,t⟩:=t.hd
  obtain ⟨_,_,rfl,z3,t⟩:=t.hd
  obtain ⟨_,_,rfl,z4,t⟩:=t.hd
  obtain ⟨_,_,rfl,z5,t⟩:=t.hd
  obtain ⟨_,_,rfl,z6,t⟩:=t.hd
  obtain ⟨_,_,rfl,z7,t⟩:=t.hd
  cases t.e
  obtain ⟨a,rfl⟩:=z1.i
  obtain ⟨b,rfl⟩:=z2.s
  obtain ⟨c,rfl⟩:=z3.s
  obtain ⟨d,rfl⟩:=z4.s
  obtain ⟨e,rfl⟩:=z5.s
  obtain ⟨f,rfl⟩:=z6.s
  obtain ⟨g,rfl⟩:=z7.s
  exact ⟨⟨a,b,c,d,e,f,g⟩,rfl⟩) xs hx
theorem u_Rs {e q:TypeId} {n:Nat} (h:z6y P n e=some [.str,.int,.slice q,.str,.str,.int,.int]) (hq:z6y P n q=some [.str]) {xs:RW} (hx:∀ x∈xs,TyD P e x):∃ l,xs=Rs l :=
 k4v (fun x k=>by
  obtain ⟨_,_,rfl,z1,t⟩:=(z9g _ _ _ _ h k).hd
  obtain ⟨_,_,rfl,z2,t⟩:=t.hd
  obtain ⟨_,_,rfl,z3,t⟩:=t.hd
  obtain ⟨_,_,rfl,z4,t⟩:=t.hd
  obtain ⟨_,_,rfl,z5,t⟩:=t.hd
  obtain ⟨_,_,rfl,z6,t⟩:=t.hd
  obtain ⟨_,_,rfl,z7,t⟩:=t.hd
  cases t.e
  obtain ⟨a,rfl⟩:=z1.s
  obtain ⟨b,rfl⟩:=z2.i
  obtain ⟨c,rfl,hc,_⟩:=z3.l
  obtain ⟨d,rfl⟩:=z4.s
  obtain ⟨e,rfl⟩:=z5.s
  obtain ⟨f,rfl⟩:=z6.i
  obtain ⟨g,rfl⟩:=z7.i
  obtain ⟨c,rfl⟩:=u_R1 hq hc
  exact ⟨⟨a,b,c,d,e,f,g⟩,rfl⟩) xs hx
theorem u_Ss {e:TypeId} {n:Nat} (h:z6y P n e=some [.int,.int,.int]) {xs:RW} (hx:∀ x∈xs,TyD P e x):∃ l:List Sw,xs=Ss l∧∀ a∈l,-9223372036854775808≤a.un∧a.un≤9223372036854775807:=by
 induction xs with
 | nil=>exact ⟨[],rfl,fun a h=>by cases h⟩
 | cons x xs ih =>
  obtain ⟨l,rfl,hl⟩:=ih fun y hy=>hx y (List.mem_cons_of_mem _ hy)
  obtain ⟨_,_,rfl,z1,t⟩:=(z9g _ _ _ _ h (hx x (by simp))).hd
  obtain ⟨_,_,rfl,z2,t⟩:=t.hd
  obtain ⟨_,_,rfl,z3,t⟩:=t.hd
  cases t.e
  obtain ⟨a,rfl⟩:=z1.i
  obtain ⟨b,rfl⟩:=z2.i
  obtain ⟨c,rfl,hc⟩:=z3.j
  refine ⟨⟨a,b,c⟩::l,rfl,fun z hz=>?_⟩
  rcases List.mem_cons.1 hz with rfl | hz
  · exact hc
  · exact hl z hz
theorem u_Pb {t p h r q:TypeId} {n:Nat} (ht:z6y P n t=some [.slice p,.slice h,.slice r]) (hp:z6y P n p=some [.int,.int,.int,.str,.str,.str,.str]) (hh:z6y P n h=some [.int,.str,.str,.str,.str,.str,.str]) (hr:z6y P n r=some [.str,.int,.slice q,.str,.str,.int,.int]) (hq:z6y P n q=some [.str]) {a:AV} (ha:AvOf P t a) :
    ∃ ps hs rs,a=.agg (Pb ps hs rs)∧Ln ps hs rs:=by
 cases ha with
 | agg hu hd =>
  obtain ⟨_,_,rfl,z1,t⟩:=(z9g _ _ _ _ ht hd).hd
  obtain ⟨_,_,rfl,z2,t⟩:=t.hd
  obtain ⟨_,_,rfl,z3,t⟩:=t.hd
  cases t.e
  obtain ⟨a,rfl,ha,na⟩:=z1.l
  obtain ⟨b,rfl,hb,nb⟩:=z2.l
  obtain ⟨c,rfl,hc,nc⟩:=z3.l
  obtain ⟨ps,rfl⟩:=u_Ps hp ha
  obtain ⟨hs,rfl⟩:=u_Hs hh hb
  obtain ⟨rs,rfl⟩:=u_Rs hr hq hc
  rw [z3l] at na
  rw [z2j] at nb
  rw [z8e] at nc
  exact ⟨ps,hs,rs,rfl,⟨na,nb,nc⟩⟩
 | one hd=>have:=(z9g _ _ _ _ ht hd).len;cases this
theorem u_Sw {t e:TypeId} {n:Nat} (ht:z6y P n t=some [.slice e]) (he:z6y P n e=some [.int,.int,.int]) {a:AV} (ha:AvOf P t a) (hu:P.underlying t=some (.slice e)) :
    ∃ l:List Sw,a=.c (.list (Ss l))∧∀ x∈l,-9223372036854775808≤x.un∧x.un≤9223372036854775807:=by
 cases ha with
 | agg h _=>rw [hu] at h;cases h
 | one hd =>
  have:=z9g _ _ _ _ ht hd
  cases this with
  | cons h t=>cases t;cases h with
  | slice xs hx _ =>
  obtain ⟨l,rfl,hl⟩:=u_Ss he hx
  exact ⟨l,rfl,hl⟩
end Gev
namespace Gev
open Go Gb Go.Proofs
variable {E:Env}
theorem cs_ok:Cs E where
 sw l hl:=by
  have h:=y6p (E:=E) (f:=N3) (T:=D4) (k:=3) (K8 (by kernel_rfl)) (by kernel_rfl) q5n j3z (Ss l) (fun x hx=>by obtain ⟨m,_,rfl⟩:=List.mem_map.1 hx;rfl) (by rw [x1i];omega)
  rw [x1i] at h;exact h
 pc l hl:=by
  have h:=y6p (E:=E) (f:=z2w) (T:=x1j) (k:=7) (K8 (by kernel_rfl)) (by kernel_rfl) q0t k6g (Ps l) (fun x hx=>by obtain ⟨m,_,rfl⟩:=List.mem_map.1 hx;rfl) (by rw [z3l];omega)
  rw [z3l] at h;exact h
 hd l hl:=by
  have h:=y6p (E:=E) (f:=z3y) (T:=k0i) (k:=7) (K8 (by kernel_rfl)) (by kernel_rfl) q5l j3x (Hs l) (fun x hx=>by obtain ⟨m,_,rfl⟩:=List.mem_map.1 hx;rfl) (by rw [z2j];omega)
  rw [z2j] at h;exact h
 ru l hl:=by
  have h:=y6p (E:=E) (f:=z3z) (T:=C9) (k:=7) (K8 (by kernel_rfl)) (by kernel_rfl) q5m j3y (Rs l) (fun x hx=>by obtain ⟨m,_,rfl⟩:=List.mem_map.1 hx;rfl) (by rw [z8e];omega)
  rw [z8e] at h;exact h
 ra l hl:=by
  have h:=y6p (E:=E) (f:=z5h) (T:=A2) (k:=1) (K8 (by kernel_rfl)) (by kernel_rfl) q8f j7s (R1 l) (fun x hx=>by obtain ⟨m,_,rfl⟩:=List.mem_map.1 hx;rfl) (by rw [z4f];omega)
  rw [z4f] at h;exact h
theorem ci_ok (l:List Int) (hl:l.length≤1000):Rn E Z8 [.c (.list (I1 l))] [] (.vec 0 l.length) [some (.vec N1 (I1 l))]:=by
 have h:=y6p (E:=E) (f:=Z8) (T:=N1) (k:=1) (K8 (by kernel_rfl)) (by kernel_rfl) q8e j7r (I1 l) (fun x hx=>by obtain ⟨m,_,rfl⟩:=List.mem_map.1 hx;rfl) (by rw [x4p];omega)
 rw [x4p] at h;exact h
theorem cs0:Cs E0:=cs_ok
theorem awake0:Fn E0 z9x [] (.c (.bool true)):=q9x lib0 cs0
end Gev
