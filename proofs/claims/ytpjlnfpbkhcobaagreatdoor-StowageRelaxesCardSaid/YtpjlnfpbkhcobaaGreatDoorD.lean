/- A part of the proof: see the last text of this claim. -/
import Derived.Test.YtpjlnfpbkhcobaaGreatDoorC
set_option linter.unusedSectionVars false
set_option linter.unusedVariables false
set_option linter.unusedSimpArgs false
namespace Gev
open Go Go.Proofs
variable {E:Env}
variable {o:Out} {t:St} {r0 r1 r2 r3 r4 r5 r6 r7 r8 r9 r10 r11 r12 r13 r14 r15 r16 r17 r18 r19 r20 r21 r22 r23:RW} {i0 i1 i2 i3 i4 i5 i6 i7 i8:Int} {n0 n1 n2 n3 n4 n5 n6 n7 n8 n9 n10:Nat} {s0 s1 s2 s3 s4 s5 s6 s7 s8 s9 s10 s11:BA} {b0 b1 b2:Bool}
def z3u (i0 i1:Int) (r0 r1 r2:RW) (s0:BA) (i2:Int) (r3:RW) (s1 s2:BA) (i3 i4:Int):St:=stOf 63 [(1,.ptr 0 0),(3,.i i0),(4,.ptr 1 0),(5,.i i1)] [sC [.l r0,.l r1,.l r2],sC [.s s0,.i i2,.l r3,.s s1,.s s2,.i i3,.i i4]]
def y6n (r0 r1 r2:RW) (s0:BA) (i2:Int) (r3:RW) (s1 s2:BA) (i3 i4:Int):St:=stOf 63 [(2,.b false)] [sC [.l r0,.l r1,.l r2],sC [.s s0,.i i2,.l r3,.s s1,.s s2,.i i3,.i i4]]
def y6o (i0:Int) (r0 r1 r2:RW) (s0:BA) (i2:Int) (r3:RW) (s1 s2:BA) (i3 i4:Int):St:=stOf 63 [(1,.ptr 0 0),(3,.i i0)] [sC [.l r0,.l r1,.l r2],sC [.s s0,.i i2,.l r3,.s s1,.s s2,.i i3,.i i4]]
section
variable (h1:i1<(r3.length:Int))(h2:0≤i1)(h3:r3[(Int.toNat i1)]?=some [.s s3])
include h1 h2 h3
theorem q3v (h4:¬ (s3.size:Int)>40)(e1:IntKind.i64.wrap (i1+1)=i5)(ih:Lp E 2 H5 1 (z3u i0 i5 r0 r1 r2 s0 i2 r3 s1 s2 i3 i4) o t):Lp E 2 H5 1 (z3u i0 i1 r0 r1 r2 s0 i2 r3 s1 s2 i3 i4) o t:=by subst e1;exact lpM (oT h1 (oP h2 (oD h3 (oU h4 oZ)))) ih
theorem j5z (h4:(s3.size:Int)>40):Lp E 2 H5 1 (z3u i0 i1 r0 r1 r2 s0 i2 r3 s1 s2 i3 i4) .ret (y6n r0 r1 r2 s0 i2 r3 s1 s2 i3 i4):=lpX (oT h1 (oP h2 (oD h3 (oT h4 oZ))))
end
theorem j6a (h1:¬ i1<(r3.length:Int)):Lp E 2 H5 1 (z3u i0 i1 r0 r1 r2 s0 i2 r3 s1 s2 i3 i4) (.exit 2) (y6o i0 r0 r1 r2 s0 i2 r3 s1 s2 i3 i4):=lpX (oU h1 oZ)
def z1e (i0:Int) (r0 r1 r2:RW):St:=stOf 63 [(1,.ptr 0 0),(3,.i i0)] [sC [.l r0,.l r1,.l r2]]
def z4x (r0 r1 r2:RW):St:=stOf 63 [(2,.b false)] [sC [.l r0,.l r1,.l r2]]
def k4p (r0 r1 r2:RW):St:=stOf 63 [(1,.ptr 0 0)] [sC [.l r0,.l r1,.l r2]]
section
variable (h1:i0<(r2.length:Int))(h2:0≤i0)(h3:r2[(Int.toNat i0)]?=some [.s s0,.i i1,.l r3,.s s1,.s s2,.i i2,.i i3])
include h1 h2 h3
theorem q3u (h4:¬ (s0.size:Int)>70)(h5:¬ (s1.size:Int)>40)(h6:¬ (s2.size:Int)>40)(h7:¬ (r3.length:Int)>8)(h8:Lp E 2 H5 1 (z3u i0 0 r0 r1 r2 s0 i1 r3 s1 s2 i2 i3) (.exit 2) (y6o i0 r0 r1 r2 s0 i1 r3 s1 s2 i2 i3))(e1:IntKind.i64.wrap (i0+1)=i4)(ih:Lp E 1 H5 0 (z1e i4 r0 r1 r2) o t):Lp E 1 H5 0 (z1e i0 r0 r1 r2) o t:=by subst e1;exact lpM (oT h1 (oP h2 (oD h3 (oU h4 (oU h5 (oU h6 (oU h7 (oL h8 oZ)))))))) ih
theorem j5t (h4:(s0.size:Int)>70):Lp E 1 H5 0 (z1e i0 r0 r1 r2) .ret (z4x r0 r1 r2):=lpX (oT h1 (oP h2 (oD h3 (oT h4 oZ))))
section
variable (h4:¬ (s0.size:Int)>70)
include h4
theorem j5u (h5:(s1.size:Int)>40):Lp E 1 H5 0 (z1e i0 r0 r1 r2) .ret (z4x r0 r1 r2):=lpX (oT h1 (oP h2 (oD h3 (oU h4 (oT h5 oZ)))))
section
variable (h5:¬ (s1.size:Int)>40)
include h5
theorem j5v (h6:(s2.size:Int)>40):Lp E 1 H5 0 (z1e i0 r0 r1 r2) .ret (z4x r0 r1 r2):=lpX (oT h1 (oP h2 (oD h3 (oU h4 (oU h5 (oT h6 oZ))))))
theorem j5w (h6:¬ (s2.size:Int)>40)(h7:(r3.length:Int)>8):Lp E 1 H5 0 (z1e i0 r0 r1 r2) .ret (z4x r0 r1 r2):=lpX (oT h1 (oP h2 (oD h3 (oU h4 (oU h5 (oU h6 (oT h7 oZ)))))))
theorem j5x (h6:¬ (s2.size:Int)>40)(h7:¬ (r3.length:Int)>8)(h8:Lp E 2 H5 1 (z3u i0 0 r0 r1 r2 s0 i1 r3 s1 s2 i2 i3) .ret (y6n r0 r1 r2 s0 i1 r3 s1 s2 i2 i3)):Lp E 1 H5 0 (z1e i0 r0 r1 r2) .ret (z4x r0 r1 r2):=lpX (oT h1 (oP h2 (oD h3 (oU h4 (oU h5 (oU h6 (oU h7 (oL h8 oZ))))))))
end
end
end
theorem j5y (h1:¬ i0<(r2.length:Int)):Lp E 1 H5 0 (z1e i0 r0 r1 r2) (.exit 0) (k4p r0 r1 r2):=lpX (oU h1 oZ)
theorem w3g (h1:Lp E 1 H5 0 (z1e 0 r0 r1 r2) .ret (z4x r0 r1 r2)):Fn E H5 [.agg [.l r0,.l r1,.l r2]] (.b false):=fnM (oL h1 oZ)
section
variable (h1:Lp E 1 H5 0 (z1e 0 r0 r1 r2) (.exit 0) (k4p r0 r1 r2))
include h1
section
variable (h2:Fn E G3 [.agg [.l r0,.l r1]] (.b true))
include h2
theorem w3h (h3:(r2.length:Int)≤17):Fn E H5 [.agg [.l r0,.l r1,.l r2]] (.b true):=fnM (oL h1 (oF h2 (oT h3 oZ)))
theorem w3i (h3:¬ (r2.length:Int)≤17):Fn E H5 [.agg [.l r0,.l r1,.l r2]] (.b false):=fnM (oL h1 (oF h2 (oU h3 oZ)))
end
theorem w3j (h2:Fn E G3 [.agg [.l r0,.l r1]] (.b false)):Fn E H5 [.agg [.l r0,.l r1,.l r2]] (.b false):=fnM (oL h1 (oF h2 oZ))
end
def z6m (i0:Int) (r0 r1 r2 r3 r4:RW) (n0:Nat) (r5:RW):St:=stOf 34 [(1,.ptr 0 0),(2,.ptr 1 0),(3,.ptr 2 0),(4,.i i0)] [sC [.l r0,.l r1,.l r2],sC [.nils,.nils,.nils],sC [.l r3,.l r4,.vec 3 n0],sV C7 r5]
def z9v (r0 r1 r2 r3 r4:RW) (n1:Nat) (r6:RW):St:=stOf 34 [(2,.ptr 1 0),(3,.ptr 2 0)] [sC [.l r0,.l r1,.l r2],sC [.nils,.nils,.nils],sC [.l r3,.l r4,.vec 3 n1],sV C7 r6]
theorem j9s (h1:i0<(r2.length:Int))(h2:0≤i0)(h3:r2[(Int.toNat i0)]?=some [.s s0,.i i1,.l r7,.s s1,.s s2,.i i2,.i i3])(h4:∀ y∈r7,y.length=1)(h5:(0+r7.length)*16≤140737488355328∧0+r7.length≤140737488355328)(h6:(n0+1)*96≤140737488355328∧n0+1≤140737488355328)(e1:(([]:RW).take 0)++r7=r8)(e2:0+r7.length=n2)(e3:(r8.take n2)=r9)(e4:(r5.take n0)++[[.s s0,.i i1,.l r9,.s s1,.s s2,.i i2,.i i3]]=r10)(e5:n0+1=n3)(e6:IntKind.i64.wrap (i0+1)=i4)(ih:Lp E 3 V5 0 (z6m i4 r0 r1 r2 r3 r4 n3 r10) o t):Lp E 3 V5 0 (z6m i0 r0 r1 r2 r3 r4 n0 r5) o t:=by subst e1 e2 e3 e4 e5 e6;exact lpM (oT h1 (oP h2 (oD h3 (oP h4 (oP h5 (oP (show ∀ y∈([[.s s0,.i i1,.l (((([]:RW).take 0)++r7).take (0+r7.length)),.s s1,.s s2,.i i2,.i i3]]:RW),y.length=7 from by simp) (oP h6 oZ))))))) ih
theorem j2d (h1:¬ i0<(r2.length:Int)):Lp E 3 V5 0 (z6m i0 r0 r1 r2 r3 r4 n0 r5) (.exit 0) (z9v r0 r1 r2 r3 r4 n0 r5):=lpX (oU h1 oZ)
theorem v9x (h1:Fn E x1f [.agg [.l r0,.l r1]] (.agg [.l r3,.l r4]))(h2:Lp E 3 V5 0 (z6m 0 r0 r1 r2 r3 r4 0 []) (.exit 0) (z9v r0 r1 r2 r3 r4 n0 r5))(e1:(r5.take n0)=r6):Fn E V5 [.agg [.l r0,.l r1,.l r2]] (.agg [.l r3,.l r4,.l r6]):=by subst e1;exact fnM (oF h1 (oG (oM [(164,C7)] h2 oZ)))
def z4w (i0:Int) (r0 r1 r2:RW):St:=stOf 31 [(1,.ptr 0 0),(5,.i i0)] [sC [.l r0,.l r1,.l r2]]
def y8h (r0 r1 r2:RW) (i1 i2:Int):St:=stOf 31 [(2,.i i1),(3,.i i2)] [sC [.l r0,.l r1,.l r2]]
def y8i (r0 r1 r2:RW):St:=stOf 31 [] [sC [.l r0,.l r1,.l r2]]
section
variable (h1:i0<(r2.length:Int))(h2:Fn E D6 [.agg [.l r0,.l r1,.l r2],.i i0] (.i i3))
include h1 h2
theorem j5s (h3:i3=0)(e1:IntKind.i64.wrap (i0+1)=i4)(ih:Lp E 1 U6 0 (z4w i4 r0 r1 r2) o t):Lp E 1 U6 0 (z4w i0 r0 r1 r2) o t:=by subst e1;exact lpM (oT h1 (oF h2 (oC (bnF h3) oZ))) ih
theorem k8p (h3:¬ i3=0):Lp E 1 U6 0 (z4w i0 r0 r1 r2) .ret (y8h r0 r1 r2 i0 i3):=lpX (oT h1 (oF h2 (oB (bnT h3) oZ)))
end
theorem k8q (h1:¬ i0<(r2.length:Int)):Lp E 1 U6 0 (z4w i0 r0 r1 r2) (.exit 0) (y8i r0 r1 r2):=lpX (oU h1 oZ)
section
variable (h1:Fn E B7 [.agg [.l r0,.l r1]] (.i i0))
include h1
theorem v4b (h2:¬ i0=0):Fn E U6 [.agg [.l r0,.l r1,.l r2]] (.tup [.i (-1),.i i0]):=fnM (oF h1 (oB (bnT h2) oZ))
theorem v4c (h2:i0=0)(h3:(r2.length:Int)>16):Fn E U6 [.agg [.l r0,.l r1,.l r2]] (.tup [.i (-1),.i 8]):=fnM (oF h1 (oC (bnF h2) (oT h3 oZ)))
theorem v4d (h2:i0=0)(h3:¬ (r2.length:Int)>16)(h4:Lp E 1 U6 0 (z4w 0 r0 r1 r2) .ret (y8h r0 r1 r2 i1 i2)):Fn E U6 [.agg [.l r0,.l r1,.l r2]] (.tup [.i i1,.i i2]):=fnM (oF h1 (oC (bnF h2) (oU h3 (oL h4 oZ))))
theorem v4e (h2:i0=0)(h3:¬ (r2.length:Int)>16)(h4:Lp E 1 U6 0 (z4w 0 r0 r1 r2) (.exit 0) (y8i r0 r1 r2)):Fn E U6 [.agg [.l r0,.l r1,.l r2]] (.tup [.i (-1),.i 0]):=fnM (oF h1 (oC (bnF h2) (oU h3 (oL h4 oZ))))
end
def z7k (i0 i1:Int) (n0 n1 n2:Nat) (i2:Int) (r0 r1 r2 r3 r4 r5:RW):St:=stOf 235 [(1,.ptr 0 0),(2,.ptr 1 0),(6,.i i0),(7,.i i1),(8,.vec 2 n0),(9,.vec 3 n1),(10,.vec 4 n2),(11,.i i2)] [sC [.l r0,.l r1,.l r2],sC [.nils,.nils,.nils],sV A0 r3,sV A0 r4,sV A0 r5]
def y2v (i0 i1:Int) (r0 r1 r2:RW) (n3 n4 n5:Nat) (r6 r7 r8:RW):St:=stOf 235 [(1,.ptr 0 0),(2,.ptr 1 0),(6,.i i0),(7,.i i1),(8,.vec 2 n3),(9,.vec 3 n4),(10,.vec 4 n5)] [sC [.l r0,.l r1,.l r2],sC [.nils,.nils,.nils],sV A0 r6,sV A0 r7,sV A0 r8]
theorem j6b (h1:i2<i0)(h2:0≤i2)(h3:r0[(Int.toNat i2)]?=some [.i i3,.i i4,.i i5,.s s0,.s s1,.s s2,.s s3])(h4:(n0+1)*16≤140737488355328∧n0+1≤140737488355328)(h5:(n1+1)*16≤140737488355328∧n1+1≤140737488355328)(h6:(n2+1)*16≤140737488355328∧n2+1≤140737488355328)(e1:(r3.take n0)++[[.s s1]]=r9)(e2:n0+1=n6)(e3:(r4.take n1)++[[.s s2]]=r10)(e4:n1+1=n7)(e5:(r5.take n2)++[[.s s3]]=r11)(e6:n2+1=n8)(e7:IntKind.i64.wrap (i2+1)=i6)(ih:Lp E 2 B4 0 (z7k i0 i1 n6 n7 n8 i6 r0 r1 r2 r9 r10 r11) o t):Lp E 2 B4 0 (z7k i0 i1 n0 n1 n2 i2 r0 r1 r2 r3 r4 r5) o t:=by subst e1 e2 e3 e4 e5 e6 e7;exact lpM (oT h1 (oP h2 (oD h3 (oP (show ∀ y∈([[.s s1]]:RW),y.length=1 from by simp) (oP h4 (oP h2 (oD h3 (oP (show ∀ y∈([[.s s2]]:RW),y.length=1 from by simp) (oP h5 (oP h2 (oD h3 (oP (show ∀ y∈([[.s s3]]:RW),y.length=1 from by simp) (oP h6 oZ))))))))))))) ih
theorem k8r (h1:¬ i2<i0):Lp E 2 B4 0 (z7k i0 i1 n0 n1 n2 i2 r0 r1 r2 r3 r4 r5) (.exit 0) (y2v i0 i1 r0 r1 r2 n0 n1 n2 r3 r4 r5):=lpX (oU h1 oZ)
def z7l (i0 i1:Int) (n0 n1:Nat) (i2:Int) (r0 r1 r2 r3 r4 r5:RW) (n2 n3:Nat) (r6 r7 r8:RW):St:=stOf 235 [(1,.ptr 0 0),(2,.ptr 1 0),(6,.i i0),(7,.i i1),(8,.vec 2 n0),(9,.vec 3 n1),(12,.ptr 5 0),(13,.i i2)] [sC [.l r0,.l r1,.l r2],sC [.nils,.nils,.nils],sV A0 r3,sV A0 r4,sF r5,sC [.vec 6 n2,.vec 7 n3,.l r6],sV A3 r7,sV A0 r8]
def y2w (i1:Int) (n0 n1:Nat) (r0 r1 r2 r3 r4 r5 r6:RW) (n4 n5:Nat) (r9 r10:RW):St:=stOf 235 [(1,.ptr 0 0),(2,.ptr 1 0),(7,.i i1),(8,.vec 2 n0),(9,.vec 3 n1),(12,.ptr 5 0)] [sC [.l r0,.l r1,.l r2],sC [.nils,.nils,.nils],sV A0 r3,sV A0 r4,sF r5,sC [.vec 6 n4,.vec 7 n5,.l r6],sV A3 r9,sV A0 r10]
theorem j6c (h1:i2<i0)(h2:Fn E P4 [.i i0,.i i2] (.l r11))(h3:Fn E P4 [.i i1,.i (-1)] (.l r12))(h4:Fn E I2 [.l r11,.l r12] (.l r13))(h5:(n2+1)*24≤140737488355328∧n2+1≤140737488355328)(h6:0≤i2)(h7:r0[(Int.toNat i2)]?=some [.i i3,.i i4,.i i5,.s s0,.s s1,.s s2,.s s3])(h8:Fn E z8b [.i i4] (.q b0 r15 r16))(h9:Fn E y7j [.q b0 r15 r16] (.s s4))(h10:(n3+1)*16≤140737488355328∧n3+1≤140737488355328)(e1:(r7.take n2)++[[.l r13]]=r14)(e2:n2+1=n6)(e3:(r8.take n3)++[[.s s4]]=r17)(e4:n3+1=n7)(e5:IntKind.i64.wrap (i2+1)=i6)(ih:Lp E 6 B4 1 (z7l i0 i1 n0 n1 i6 r0 r1 r2 r3 r4 r5 n6 n7 r6 r14 r17) o t):Lp E 6 B4 1 (z7l i0 i1 n0 n1 i2 r0 r1 r2 r3 r4 r5 n2 n3 r6 r7 r8) o t:=by subst e1 e2 e3 e4 e5;exact lpM (oT h1 (oF h2 (oF h3 (oF h4 (oP (show ∀ y∈([[.l r13]]:RW),y.length=1 from by simp) (oP h5 (oP h6 (oD h7 (oF h8 (oF h9 (oP (show ∀ y∈([[.s s4]]:RW),y.length=1 from by simp) (oP h10 oZ)))))))))))) ih
theorem k8s (h1:¬ i2<i0):Lp E 6 B4 1 (z7l i0 i1 n0 n1 i2 r0 r1 r2 r3 r4 r5 n2 n3 r6 r7 r8) (.exit 2) (y2w i1 n0 n1 r0 r1 r2 r3 r4 r5 r6 n2 n3 r7 r8):=lpX (oU h1 oZ)
def z7m (i0:Int) (n0 n1:Nat) (i1:Int) (r0 r1 r2 r3 r4 r5:RW) (n2 n3:Nat) (r6 r7 r8:RW):St:=stOf 235 [(1,.ptr 0 0),(2,.ptr 1 0),(7,.i i0),(8,.vec 2 n0),(9,.vec 3 n1),(12,.ptr 5 0),(14,.i i1)] [sC [.l r0,.l r1,.l r2],sC [.nils,.nils,.nils],sF r3,sV A0 r4,sF r5,sC [.vec 8 n2,.vec 9 n3,.l r6],some .dead,some .dead,sV A3 r7,sV A0 r8]
def y2x (i0:Int) (n0 n1:Nat) (r0 r1 r2 r3 r4 r5 r6:RW) (n4 n5:Nat) (r9 r10:RW):St:=stOf 235 [(1,.ptr 0 0),(2,.ptr 1 0),(7,.i i0),(8,.vec 2 n0),(9,.vec 3 n1),(12,.ptr 5 0)] [sC [.l r0,.l r1,.l r2],sC [.nils,.nils,.nils],sF r3,sV A0 r4,sF r5,sC [.vec 8 n4,.vec 9 n5,.l r6],some .dead,some .dead,sV A3 r9,sV A0 r10]
theorem j6d (h1:i1<i0)(h2:Fn E P4 [.i i0,.i i1] (.l r11))(h3:Fn E I2 [.l r12,.l r11] (.l r13))(h4:(n2+1)*24≤140737488355328∧n2+1≤140737488355328)(h5:0≤i1)(h6:r1[(Int.toNat i1)]?=some [.i i2,.s s0,.s s1,.s s2,.s s3,.s s4,.s s5])(h7:(n3+1)*16≤140737488355328∧n3+1≤140737488355328)(e1:(r3.take n0)=r12)(e2:(r7.take n2)++[[.l r13]]=r14)(e3:n2+1=n6)(e4:(r8.take n3)++[[.s s2]]=r15)(e5:n3+1=n7)(e6:IntKind.i64.wrap (i1+1)=i3)(ih:Lp E 8 B4 2 (z7m i0 n0 n1 i3 r0 r1 r2 r3 r4 r5 n6 n7 r6 r14 r15) o t):Lp E 8 B4 2 (z7m i0 n0 n1 i1 r0 r1 r2 r3 r4 r5 n2 n3 r6 r7 r8) o t:=by subst e1 e2 e3 e4 e5 e6;exact lpM (oT h1 (oF h2 (oF h3 (oP (show ∀ y∈([[.l r13]]:RW),y.length=1 from by simp) (oP h4 (oP h5 (oD h6 (oP (show ∀ y∈([[.s s2]]:RW),y.length=1 from by simp) (oP h7 oZ))))))))) ih
theorem k8t (h1:¬ i1<i0):Lp E 8 B4 2 (z7m i0 n0 n1 i1 r0 r1 r2 r3 r4 r5 n2 n3 r6 r7 r8) (.exit 4) (y2x i0 n0 n1 r0 r1 r2 r3 r4 r5 r6 n2 n3 r7 r8):=lpX (oU h1 oZ)
def z7n (i0:Int) (n0 n1:Nat) (i1:Int) (r0 r1 r2 r3 r4 r5:RW) (n2 n3:Nat) (r6 r7 r8:RW):St:=stOf 235 [(1,.ptr 0 0),(2,.ptr 1 0),(7,.i i0),(8,.vec 2 n0),(9,.vec 3 n1),(12,.ptr 5 0),(15,.i i1)] [sC [.l r0,.l r1,.l r2],sC [.nils,.nils,.nils],sF r3,sF r4,sF r5,sC [.vec 10 n2,.vec 11 n3,.l r6],some .dead,some .dead,some .dead,some .dead,sV A3 r7,sV A0 r8]
def y2y (n0:Nat) (r0 r1 r2 r3 r4 r5 r6:RW) (n4 n5:Nat) (r9 r10:RW):St:=stOf 235 [(1,.ptr 0 0),(2,.ptr 1 0),(8,.vec 2 n0),(12,.ptr 5 0)] [sC [.l r0,.l r1,.l r2],sC [.nils,.nils,.nils],sF r3,sF r4,sF r5,sC [.vec 10 n4,.vec 11 n5,.l r6],some .dead,some .dead,some .dead,some .dead,sV A3 r9,sV A0 r10]
theorem j6e (h1:i1<i0)(h2:Fn E P4 [.i i0,.i i1] (.l r11))(h3:Fn E I2 [.l r12,.l r11] (.l r13))(h4:(n2+1)*24≤140737488355328∧n2+1≤140737488355328)(h5:0≤i1)(h6:r1[(Int.toNat i1)]?=some [.i i2,.s s0,.s s1,.s s2,.s s3,.s s4,.s s5])(h7:(n3+1)*16≤140737488355328∧n3+1≤140737488355328)(e1:(r4.take n1)=r12)(e2:(r7.take n2)++[[.l r13]]=r14)(e3:n2+1=n6)(e4:(r8.take n3)++[[.s s1]]=r15)(e5:n3+1=n7)(e6:IntKind.i64.wrap (i1+1)=i3)(ih:Lp E 10 B4 3 (z7n i0 n0 n1 i3 r0 r1 r2 r3 r4 r5 n6 n7 r6 r14 r15) o t):Lp E 10 B4 3 (z7n i0 n0 n1 i1 r0 r1 r2 r3 r4 r5 n2 n3 r6 r7 r8) o t:=by subst e1 e2 e3 e4 e5 e6;exact lpM (oT h1 (oF h2 (oF h3 (oP (show ∀ y∈([[.l r13]]:RW),y.length=1 from by simp) (oP h4 (oP h5 (oD h6 (oP (show ∀ y∈([[.s s1]]:RW),y.length=1 from by simp) (oP h7 oZ))))))))) ih
theorem k8u (h1:¬ i1<i0):Lp E 10 B4 3 (z7n i0 n0 n1 i1 r0 r1 r2 r3 r4 r5 n2 n3 r6 r7 r8) (.exit 6) (y2y n0 r0 r1 r2 r3 r4 r5 r6 n2 n3 r7 r8):=lpX (oU h1 oZ)
def O5 (n0:Nat) (i0:Int) (r0 r1 r2 r3 r4 r5:RW) (n1 n2:Nat) (r6 r7 r8:RW):St:=stOf 235 [(1,.ptr 0 0),(2,.ptr 1 0),(8,.vec 2 n0),(12,.ptr 5 0),(16,.i i0)] [sC [.l r0,.l r1,.l r2],sC [.nils,.nils,.nils],sF r3,sF r4,sF r5,sC [.vec 12 n1,.vec 13 n2,.l r6],some .dead,some .dead,some .dead,some .dead,some .dead,some .dead,sV A3 r7,sV A0 r8]
def y2z (r0 r1 r2 r3 r4 r5 r6:RW) (n3 n4:Nat) (r9 r10:RW):St:=stOf 235 [(2,.ptr 1 0),(12,.ptr 5 0)] [sC [.l r0,.l r1,.l r2],sC [.nils,.nils,.nils],sF r3,sF r4,sF r5,sC [.vec 12 n3,.vec 13 n4,.l r6],some .dead,some .dead,some .dead,some .dead,some .dead,some .dead,sV A3 r9,sV A0 r10]
section
variable (h1:i0<(r2.length:Int))(h2:0≤i0)(h3:r2[(Int.toNat i0)]?=some [.s s0,.i i1,.l r11,.s s1,.s s2,.i i2,.i i3])
include h1 h2 h3
theorem j6f (h4:i1=1)(h5:¬ s2=(⟨#[]⟩:BA))(h6:Fn E I2 [.l r12,.l r11] (.l r13))(h7:(n1+1)*24≤140737488355328∧n1+1≤140737488355328)(h8:(n2+1)*16≤140737488355328∧n2+1≤140737488355328)(h9:¬ s1=(⟨#[]⟩:BA))(h10:Fn E N4 [.l r11] (.l r16))(h11:Fn E I2 [.l r12,.l r16] (.l r17))(h12:(n5+1)*24≤140737488355328∧n5+1≤140737488355328)(h13:Fn E N4 [.l r19] (.l r20))(h14:r20[0]?=some [.s s3])(h15:(n6+1)*16≤140737488355328∧n6+1≤140737488355328)(e1:(r3.take n0)=r12)(e2:(r7.take n1)++[[.l r13]]=r14)(e3:n1+1=n5)(e4:(r8.take n2)++[[.s s2]]=r15)(e5:n2+1=n6)(e6:(r14.take n5)++[[.l r17]]=r18)(e7:n5+1=n7)(e8:(([[.s s1]]:RW).take 1)=r19)(e9:(r15.take n6)++[[.s s3]]=r21)(e10:n6+1=n8)(e11:IntKind.i64.wrap (i0+1)=i4)(ih:Lp E 12 B4 4 (O5 n0 i4 r0 r1 r2 r3 r4 r5 n7 n8 r6 r18 r21) o t):Lp E 12 B4 4 (O5 n0 i0 r0 r1 r2 r3 r4 r5 n1 n2 r6 r7 r8) o t:=by subst e1 e2 e3 e4 e5 e6 e7 e8 e9 e10 e11;exact lpM (oT h1 (oP h2 (oD h3 (oB (beT h4) (oB (snT h5) (oF h6 (oP (show ∀ y∈([[.l r13]]:RW),y.length=1 from by simp) (oP h7 (oP (show ∀ y∈([[.s s2]]:RW),y.length=1 from by simp) (oP h8 (oB (beT h4) (oB (snT h9) (oF h10 (oF h11 (oP (show ∀ y∈([[.l r17]]:RW),y.length=1 from by simp) (oP h12 (oF h13 (oP (show (0:Int)≤0 from by decide) (oD h14 (oP (show ∀ y∈([[.s s3]]:RW),y.length=1 from by simp) (oP h15 oZ))))))))))))))))))))) ih
theorem j6g (h4:i1=1)(h5:¬ s2=(⟨#[]⟩:BA))(h6:Fn E I2 [.l r12,.l r11] (.l r13))(h7:(n1+1)*24≤140737488355328∧n1+1≤140737488355328)(h8:(n2+1)*16≤140737488355328∧n2+1≤140737488355328)(h9:s1=(⟨#[]⟩:BA))(e1:(r3.take n0)=r12)(e2:(r7.take n1)++[[.l r13]]=r14)(e3:n1+1=n5)(e4:(r8.take n2)++[[.s s2]]=r15)(e5:n2+1=n6)(e6:IntKind.i64.wrap (i0+1)=i5)(ih:Lp E 12 B4 4 (O5 n0 i5 r0 r1 r2 r3 r4 r5 n5 n6 r6 r14 r15) o t):Lp E 12 B4 4 (O5 n0 i0 r0 r1 r2 r3 r4 r5 n1 n2 r6 r7 r8) o t:=by subst e1 e2 e3 e4 e5 e6;exact lpM (oT h1 (oP h2 (oD h3 (oB (beT h4) (oB (snT h5) (oF h6 (oP (show ∀ y∈([[.l r13]]:RW),y.length=1 from by simp) (oP h7 (oP (show ∀ y∈([[.s s2]]:RW),y.length=1 from by simp) (oP h8 (oB (beT h4) (oC (snF h9) oZ)))))))))))) ih
theorem j6h (h4:i1=1)(h5:s2=(⟨#[]⟩:BA))(h6:¬ s1=(⟨#[]⟩:BA))(h7:Fn E N4 [.l r11] (.l r12))(h8:Fn E I2 [.l r13,.l r12] (.l r14))(h9:(n1+1)*24≤140737488355328∧n1+1≤140737488355328)(h10:Fn E N4 [.l r23] (.l r16))(h11:r16[0]?=some [.s s4])(h12:(n2+1)*16≤140737488355328∧n2+1≤140737488355328)(e1:(r3.take n0)=r13)(e2:(r7.take n1)++[[.l r14]]=r22)(e3:n1+1=n9)(e4:(([[.s s1]]:RW).take 1)=r23)(e5:(r8.take n2)++[[.s s4]]=r18)(e6:n2+1=n7)(e7:IntKind.i64.wrap (i0+1)=i6)(ih:Lp E 12 B4 4 (O5 n0 i6 r0 r1 r2 r3 r4 r5 n9 n7 r6 r22 r18) o t):Lp E 12 B4 4 (O5 n0 i0 r0 r1 r2 r3 r4 r5 n1 n2 r6 r7 r8) o t:=by subst e1 e2 e3 e4 e5 e6 e7;exact lpM (oT h1 (oP h2 (oD h3 (oB (beT h4) (oC (snF h5) (oB (beT h4) (oB (snT h6) (oF h7 (oF h8 (oP (show ∀ y∈([[.l r14]]:RW),y.length=1 from by simp) (oP h9 (oF h10 (oP (show (0:Int)≤0 from by decide) (oD h11 (oP (show ∀ y∈([[.s s4]]:RW),y.length=1 from by simp) (oP h12 oZ)))))))))))))))) ih
theorem j6i (h4:i1=1)(h5:s2=(⟨#[]⟩:BA))(h6:s1=(⟨#[]⟩:BA))(e1:IntKind.i64.wrap (i0+1)=i7)(ih:Lp E 12 B4 4 (O5 n0 i7 r0 r1 r2 r3 r4 r5 n1 n2 r6 r7 r8) o t):Lp E 12 B4 4 (O5 n0 i0 r0 r1 r2 r3 r4 r5 n1 n2 r6 r7 r8) o t:=by subst e1;exact lpM (oT h1 (oP h2 (oD h3 (oB (beT h4) (oC (snF h5) (oB (beT h4) (oC (snF h6) oZ))))))) ih
theorem j6j (h4:¬ i1=1)(e1:IntKind.i64.wrap (i0+1)=i7)(ih:Lp E 12 B4 4 (O5 n0 i7 r0 r1 r2 r3 r4 r5 n1 n2 r6 r7 r8) o t):Lp E 12 B4 4 (O5 n0 i0 r0 r1 r2 r3 r4 r5 n1 n2 r6 r7 r8) o t:=by subst e1;exact lpM (oT h1 (oP h2 (oD h3 (oC (beF h4) (oC (beF h4) oZ))))) ih
end
theorem k8v (h1:¬ i0<(r2.length:Int)):Lp E 12 B4 4 (O5 n0 i0 r0 r1 r2 r3 r4 r5 n1 n2 r6 r7 r8) (.exit 8) (y2z r0 r1 r2 r3 r4 r5 r6 n1 n2 r7 r8):=lpX (oU h1 oZ)
section
variable (h1:Fn E U6 [.agg [.l r0,.l r1,.l r2]] (.tup [.i i0,.i i1]))
include h1
theorem v4f (h2:¬ i1=0):Fn E B4 [.agg [.l r0,.l r1,.l r2]] (.tup [.agg [.l [],.l [],.l []],.i 1]):=fnM (oF h1 (oB (bnT h2) (oG oZ)))
section
variable (h2:i1=0)(h3:Lp E 2 B4 0 (z7k (r0.length:Int) (r1.length:Int) 0 0 0 0 r0 r1 r2 [] [] []) (.exit 0) (y2v (r0.length:Int) (r1.length:Int) r0 r1 r2 n0 n1 n2 r3 r4 r5))(h4:Fn E P4 [.i (r1.length:Int),.i (-1)] (.l r6))(h5:Fn E I2 [.l r7,.l r6] (.l r8))(h6:Lp E 6 B4 1 (z7l (r0.length:Int) (r1.length:Int) n0 n1 0 r0 r1 r2 r3 r4 r5 0 0 r8 [] []) (.exit 2) (y2w (r1.length:Int) n0 n1 r0 r1 r2 r3 r4 r5 r8 n3 n4 r9 r10))(h7:Lp E 8 B4 2 (z7m (r1.length:Int) n0 n1 0 r0 r1 r2 r3 r4 r5 n3 n4 r8 r9 r10) (.exit 4) (y2x (r1.length:Int) n0 n1 r0 r1 r2 r3 r4 r5 r8 n5 n6 r11 r12))(h8:Lp E 10 B4 3 (z7n (r1.length:Int) n0 n1 0 r0 r1 r2 r3 r4 r5 n5 n6 r8 r11 r12) (.exit 6) (y2y n0 r0 r1 r2 r3 r4 r5 r8 n7 n8 r13 r14))(h9:Lp E 12 B4 4 (O5 n0 0 r0 r1 r2 r3 r4 r5 n7 n8 r8 r13 r14) (.exit 8) (y2z r0 r1 r2 r3 r4 r5 r8 n9 n10 r15 r16))
include h2 h3 h4 h5 h6 h7 h8 h9
theorem v4g (h10:(r8.length:Int)>12)(e1:(r5.take n2)=r7):Fn E B4 [.agg [.l r0,.l r1,.l r2]] (.tup [.agg [.l [],.l [],.l []],.i 8]):=by subst e1;exact fnM (oF h1 (oC (bnF h2) (oM [(8,A0),(9,A0),(10,A0)] h3 (oF h4 (oF h5 (oG (oM [(555,A3),(556,A0)] h6 (oM [(555,A3),(556,A0),(2,999999999)] h7 (oM [(555,A3),(556,A0),(3,999999999)] h8 (oM [(555,A3),(556,A0)] h9 (oT h10 (oG oZ))))))))))))
theorem v4h (h10:¬ (r8.length:Int)>12)(h11:((n10:Nat):Int)>12)(e1:(r5.take n2)=r7):Fn E B4 [.agg [.l r0,.l r1,.l r2]] (.tup [.agg [.l [],.l [],.l []],.i 8]):=by subst e1;exact fnM (oF h1 (oC (bnF h2) (oM [(8,A0),(9,A0),(10,A0)] h3 (oF h4 (oF h5 (oG (oM [(555,A3),(556,A0)] h6 (oM [(555,A3),(556,A0),(2,999999999)] h7 (oM [(555,A3),(556,A0),(3,999999999)] h8 (oM [(555,A3),(556,A0)] h9 (oU h10 (oT h11 (oG oZ)))))))))))))
theorem v4i (h10:¬ (r8.length:Int)>12)(h11:¬ ((n10:Nat):Int)>12)(e1:(r5.take n2)=r7)(e2:(r15.take n9)=r17)(e3:(r16.take n10)=r18):Fn E B4 [.agg [.l r0,.l r1,.l r2]] (.tup [.agg [.l r17,.l r18,.l r8],.i 0]):=by subst e1 e2 e3;exact fnM (oF h1 (oC (bnF h2) (oM [(8,A0),(9,A0),(10,A0)] h3 (oF h4 (oF h5 (oG (oM [(555,A3),(556,A0)] h6 (oM [(555,A3),(556,A0),(2,999999999)] h7 (oM [(555,A3),(556,A0),(3,999999999)] h8 (oM [(555,A3),(556,A0)] h9 (oU h10 (oU h11 oZ))))))))))))
end
end
section
variable (h1:Fn E U6 [.agg [.l r0,.l r1,.l r2]] (.tup [.i i1,.i i2]))
include h1
theorem v9y (h2:¬ i2=0):Fn E y2k [.agg [.l r0,.l r1,.l r2],.i i0] (.tup [.agg [.l [],.l [],.l []],.i 1]):=fnM (oF h1 (oB (bnT h2) oZ))
theorem v9z (h2:i2=0)(h3:i0<0):Fn E y2k [.agg [.l r0,.l r1,.l r2],.i i0] (.tup [.agg [.l [],.l [],.l []],.i 7]):=fnM (oF h1 (oC (bnF h2) (oT h3 oZ)))
theorem w0a (h2:i2=0)(h3:¬ i0<0)(h4:i0≥(r2.length:Int)):Fn E y2k [.agg [.l r0,.l r1,.l r2],.i i0] (.tup [.agg [.l [],.l [],.l []],.i 7]):=fnM (oF h1 (oC (bnF h2) (oU h3 (oT h4 oZ))))
theorem w0b (h2:i2=0)(h3:¬ i0<0)(h4:¬ i0≥(r2.length:Int))(h5:Rn E V5 [.agg [.l r0,.l r1,.l r2]] [] (.agv [.l r4,.l r5,.vec 0 n0]) [sV C7 r3])(h6:0≤i0∧i0≤((n0:Nat):Int))(h7:0≤i3∧i3≤((n0:Nat):Int)∧((n0:Nat):Int)≤((n0:Nat):Int))(h8:(n1+(n0-(Int.toNat i3)))*96≤140737488355328∧n1+(n0-(Int.toNat i3))≤140737488355328)(e1:(Int.toNat i0)=n1)(e2:IntKind.i64.wrap (i0+1)=i3)(e3:(r3.take n1)++List.drop (Int.toNat i3) (r3.take n0)=r6)(e4:n1+(n0-(Int.toNat i3))=n2)(e5:(r6.take n2)=r7):Fn E y2k [.agg [.l r0,.l r1,.l r2],.i i0] (.tup [.agg [.l r4,.l r5,.l r7],.i 0]):=by subst e1 e2 e3 e4 e5;exact fnM (oF h1 (oC (bnF h2) (oU h3 (oU h4 (oW h5 (oP h6 (oG (oP h7 (oY (oP h8 oZ))))))))))
end
def y3z (i0:Int) (r0 r1 r2 r3 r4 r5:RW):St:=stOf 166 [(2,.ptr 0 0),(3,.ptr 1 0),(5,.i i0)] [sC [.l r0,.l r1,.l r2],sC [.l r3,.l r4,.l r5]]
def x9m (r0 r1 r2 r3 r4 r5:RW):St:=stOf 166 [(2,.ptr 0 0),(3,.ptr 1 0)] [sC [.l r0,.l r1,.l r2],sC [.l r3,.l r4,.l r5]]
theorem j9t (h1:i0<(r0.length:Int))(h2:0≤i0)(h3:r0[(Int.toNat i0)]?=some [.i i1,.i i2,.i i3,.s s0,.s s1,.s s2,.s s3])(h4:r3[(Int.toNat i0)]?=some [.i i4,.i i5,.i i6,.s s4,.s s5,.s s6,.s s7])(h5:(!((i1 == i4) && ((i2 == i5) && ((i3 == i6) && ((s0 == s4) && ((s1 == s5) && ((s2 == s6) && ((s3 == s7) && true))))))))=false)(e1:IntKind.i64.wrap (i0+1)=i7)(ih:Lp E 2 G4 0 (y3z i7 r0 r1 r2 r3 r4 r5) o t):Lp E 2 G4 0 (y3z i0 r0 r1 r2 r3 r4 r5) o t:=by subst e1;exact lpM (oT h1 (oP h2 (oD h3 (oP h2 (oD h4 (oC (id h5) oZ)))))) ih
theorem j2e (h1:¬ i0<(r0.length:Int)):Lp E 2 G4 0 (y3z i0 r0 r1 r2 r3 r4 r5) (.exit 0) (x9m r0 r1 r2 r3 r4 r5):=lpX (oU h1 oZ)
def y4a (i0:Int) (r0 r1 r2 r3 r4 r5:RW):St:=stOf 166 [(2,.ptr 0 0),(3,.ptr 1 0),(6,.i i0)] [sC [.l r0,.l r1,.l r2],sC [.l r3,.l r4,.l r5]]
def x9n (r0 r1 r2 r3 r4 r5:RW):St:=stOf 166 [(2,.ptr 0 0),(3,.ptr 1 0)] [sC [.l r0,.l r1,.l r2],sC [.l r3,.l r4,.l r5]]
theorem j9u (h1:i0<(r1.length:Int))(h2:0≤i0)(h3:r1[(Int.toNat i0)]?=some [.i i1,.s s0,.s s1,.s s2,.s s3,.s s4,.s s5])(h4:r4[(Int.toNat i0)]?=some [.i i2,.s s6,.s s7,.s s8,.s s9,.s s10,.s s11])(h5:(!((i1 == i2) && ((s0 == s6) && ((s1 == s7) && ((s2 == s8) && ((s3 == s9) && ((s4 == s10) && ((s5 == s11) && true))))))))=false)(e1:IntKind.i64.wrap (i0+1)=i3)(ih:Lp E 2 G4 1 (y4a i3 r0 r1 r2 r3 r4 r5) o t):Lp E 2 G4 1 (y4a i0 r0 r1 r2 r3 r4 r5) o t:=by subst e1;exact lpM (oT h1 (oP h2 (oD h3 (oP h2 (oD h4 (oC (id h5) oZ)))))) ih
theorem j2f (h1:¬ i0<(r1.length:Int)):Lp E 2 G4 1 (y4a i0 r0 r1 r2 r3 r4 r5) (.exit 2) (x9n r0 r1 r2 r3 r4 r5):=lpX (oU h1 oZ)
def y4c (i0 i1:Int) (r0 r1 r2 r3 r4 r5:RW) (s0:BA) (i2:Int) (r6:RW) (s1 s2:BA) (i3 i4:Int) (s3:BA) (i5:Int) (r7:RW) (s4 s5:BA) (i6 i7:Int):St:=stOf 166 [(2,.ptr 0 0),(3,.ptr 1 0),(7,.i i0),(8,.ptr 2 0),(9,.ptr 3 0),(10,.i i1)] [sC [.l r0,.l r1,.l r2],sC [.l r3,.l r4,.l r5],sC [.s s0,.i i2,.l r6,.s s1,.s s2,.i i3,.i i4],sC [.s s3,.i i5,.l r7,.s s4,.s s5,.i i6,.i i7]]
def x9p (i0:Int) (r0 r1 r2 r3 r4 r5:RW) (s0:BA) (i2:Int) (r6:RW) (s1 s2:BA) (i3 i4:Int) (s3:BA) (i5:Int) (r7:RW) (s4 s5:BA) (i6 i7:Int):St:=stOf 166 [(2,.ptr 0 0),(3,.ptr 1 0),(7,.i i0)] [sC [.l r0,.l r1,.l r2],sC [.l r3,.l r4,.l r5],sC [.s s0,.i i2,.l r6,.s s1,.s s2,.i i3,.i i4],sC [.s s3,.i i5,.l r7,.s s4,.s s5,.i i6,.i i7]]
theorem j9w (h1:i1<(r6.length:Int))(h2:0≤i1)(h3:r6[(Int.toNat i1)]?=some [.s s6])(h4:r7[(Int.toNat i1)]?=some [.s s7])(h5:s6=s7)(e1:IntKind.i64.wrap (i1+1)=i8)(ih:Lp E 4 G4 3 (y4c i0 i8 r0 r1 r2 r3 r4 r5 s0 i2 r6 s1 s2 i3 i4 s3 i5 r7 s4 s5 i6 i7) o t):Lp E 4 G4 3 (y4c i0 i1 r0 r1 r2 r3 r4 r5 s0 i2 r6 s1 s2 i3 i4 s3 i5 r7 s4 s5 i6 i7) o t:=by subst e1;exact lpM (oT h1 (oP h2 (oD h3 (oP h2 (oD h4 (oC (snF h5) oZ)))))) ih
theorem j2h (h1:¬ i1<(r6.length:Int)):Lp E 4 G4 3 (y4c i0 i1 r0 r1 r2 r3 r4 r5 s0 i2 r6 s1 s2 i3 i4 s3 i5 r7 s4 s5 i6 i7) (.exit 6) (x9p i0 r0 r1 r2 r3 r4 r5 s0 i2 r6 s1 s2 i3 i4 s3 i5 r7 s4 s5 i6 i7):=lpX (oU h1 oZ)
def y4b (i0:Int) (r0 r1 r2 r3 r4 r5:RW):St:=stOf 166 [(2,.ptr 0 0),(3,.ptr 1 0),(7,.i i0)] [sC [.l r0,.l r1,.l r2],sC [.l r3,.l r4,.l r5]]
def x9o (r0 r1 r2 r3 r4 r5:RW):St:=stOf 166 [] [sC [.l r0,.l r1,.l r2],sC [.l r3,.l r4,.l r5]]
theorem j9v (h1:i0<(r2.length:Int))(h2:0≤i0)(h3:r2[(Int.toNat i0)]?=some [.s s0,.i i1,.l r6,.s s1,.s s2,.i i2,.i i3])(h4:r5[(Int.toNat i0)]?=some [.s s3,.i i4,.l r7,.s s4,.s s5,.i i5,.i i6])(h5:s0=s3)(h6:i1=i4)(h7:s1=s4)(h8:s2=s5)(h9:i2=i5)(h10:i3=i6)(h11:(r6.length:Int)=(r7.length:Int))(h12:Lp E 4 G4 3 (y4c i0 0 r0 r1 r2 r3 r4 r5 s0 i1 r6 s1 s2 i2 i3 s3 i4 r7 s4 s5 i5 i6) (.exit 6) (x9p i0 r0 r1 r2 r3 r4 r5 s0 i1 r6 s1 s2 i2 i3 s3 i4 r7 s4 s5 i5 i6))(e1:IntKind.i64.wrap (i0+1)=i7)(ih:Lp E 2 G4 2 (y4b i7 r0 r1 r2 r3 r4 r5) o t):Lp E 2 G4 2 (y4b i0 r0 r1 r2 r3 r4 r5) o t:=by subst e1;exact lpM (oT h1 (oP h2 (oD h3 (oP h2 (oD h4 (oC (snF h5) (oC (bnF h6) (oC (snF h7) (oC (snF h8) (oC (bnF h9) (oC (bnF h10) (oC (bnF h11) (oL h12 oZ))))))))))))) ih
theorem j2g (h1:¬ i0<(r2.length:Int)):Lp E 2 G4 2 (y4b i0 r0 r1 r2 r3 r4 r5) (.exit 4) (x9o r0 r1 r2 r3 r4 r5):=lpX (oU h1 oZ)
theorem w0c (h1:(r2.length:Int)=(r5.length:Int))(h2:(r0.length:Int)=(r3.length:Int))(h3:(r1.length:Int)=(r4.length:Int))(h4:Lp E 2 G4 0 (y3z 0 r0 r1 r2 r3 r4 r5) (.exit 0) (x9m r0 r1 r2 r3 r4 r5))(h5:Lp E 2 G4 1 (y4a 0 r0 r1 r2 r3 r4 r5) (.exit 2) (x9n r0 r1 r2 r3 r4 r5))(h6:Lp E 2 G4 2 (y4b 0 r0 r1 r2 r3 r4 r5) (.exit 4) (x9o r0 r1 r2 r3 r4 r5)):Fn E G4 [.agg [.l r0,.l r1,.l r2],.agg [.l r3,.l r4,.l r5]] (.b true):=fnM (oC (bnF h1) (oC (bnF h2) (oC (bnF h3) (oL h4 (oL h5 (oL h6 oZ))))))
def z4y (i0 i1:Int) (r0 r1 r2:RW) (s0:BA) (i2:Int) (r3:RW) (s1 s2:BA) (i3 i4:Int):St:=stOf 118 [(1,.i i0),(2,.ptr 0 0),(5,.ptr 1 0),(6,.i i1)] [sC [.l r0,.l r1,.l r2],sC [.s s0,.i i2,.l r3,.s s1,.s s2,.i i3,.i i4]]
def y8j (r0 r1 r2:RW) (s0:BA) (i2:Int) (r3:RW) (s1 s2:BA) (i3 i4:Int):St:=stOf 118 [(4,.i 6)] [sC [.l r0,.l r1,.l r2],sC [.s s0,.i i2,.l r3,.s s1,.s s2,.i i3,.i i4]]
def y8k (r0 r1 r2:RW) (s0:BA) (i2:Int) (r3:RW) (s1 s2:BA) (i3 i4:Int):St:=stOf 118 [(2,.ptr 0 0),(5,.ptr 1 0)] [sC [.l r0,.l r1,.l r2],sC [.s s0,.i i2,.l r3,.s s1,.s s2,.i i3,.i i4]]
section
variable (h1:i1<i0)(h2:0≤i1)(h3:r2[(Int.toNat i1)]?=some [.s s3,.i i5,.l r4,.s s4,.s s5,.i i6,.i i7])
include h1 h2 h3
theorem j6k (h4:¬ s3=s0)(e1:IntKind.i64.wrap (i1+1)=i8)(ih:Lp E 2 D6 0 (z4y i0 i8 r0 r1 r2 s0 i2 r3 s1 s2 i3 i4) o t):Lp E 2 D6 0 (z4y i0 i1 r0 r1 r2 s0 i2 r3 s1 s2 i3 i4) o t:=by subst e1;exact lpM (oT h1 (oP h2 (oD h3 (oC (seF h4) oZ)))) ih
theorem k8w (h4:s3=s0):Lp E 2 D6 0 (z4y i0 i1 r0 r1 r2 s0 i2 r3 s1 s2 i3 i4) .ret (y8j r0 r1 r2 s0 i2 r3 s1 s2 i3 i4):=lpX (oT h1 (oP h2 (oD h3 (oB (seT h4) oZ))))
end
theorem k8x (h1:¬ i1<i0):Lp E 2 D6 0 (z4y i0 i1 r0 r1 r2 s0 i2 r3 s1 s2 i3 i4) (.exit 0) (y8k r0 r1 r2 s0 i2 r3 s1 s2 i3 i4):=lpX (oU h1 oZ)
section
variable (h1:0≤i0)(h2:r2[(Int.toNat i0)]?=some [.s s0,.i i1,.l r3,.s s1,.s s2,.i i2,.i i3])
include h1 h2
section
variable (h3:Fn E I6 [.agg [.s s0,.i i1,.l r3,.s s1,.s s2,.i i2,.i i3]] (.b true))
include h3
theorem v4m (h4:(s0.size:Int)<1):Fn E D6 [.agg [.l r0,.l r1,.l r2],.i i0] (.i 4):=fnM (oP h1 (oD h2 (oF h3 (oT h4 oZ))))
section
variable (h4:¬ (s0.size:Int)<1)
include h4
theorem v4n (h5:(s0.size:Int)>64):Fn E D6 [.agg [.l r0,.l r1,.l r2],.i i0] (.i 4):=fnM (oP h1 (oD h2 (oF h3 (oU h4 (oT h5 oZ)))))
section
variable (h5:¬ (s0.size:Int)>64)
include h5
theorem v4o (h6:Lp E 2 D6 0 (z4y i0 0 r0 r1 r2 s0 i1 r3 s1 s2 i2 i3) .ret (y8j r0 r1 r2 s0 i1 r3 s1 s2 i2 i3)):Fn E D6 [.agg [.l r0,.l r1,.l r2],.i i0] (.i 6):=fnM (oP h1 (oD h2 (oF h3 (oU h4 (oU h5 (oL h6 oZ))))))
section
variable (h6:Lp E 2 D6 0 (z4y i0 0 r0 r1 r2 s0 i1 r3 s1 s2 i2 i3) (.exit 0) (y8k r0 r1 r2 s0 i1 r3 s1 s2 i2 i3))
include h6
theorem v4p (h7:i1<1):Fn E D6 [.agg [.l r0,.l r1,.l r2],.i i0] (.i 2):=fnM (oP h1 (oD h2 (oF h3 (oU h4 (oU h5 (oL h6 (oT h7 oZ)))))))
section
variable (h7:¬ i1<1)
include h7
theorem v4q (h8:i1>4):Fn E D6 [.agg [.l r0,.l r1,.l r2],.i i0] (.i 2):=fnM (oP h1 (oD h2 (oF h3 (oU h4 (oU h5 (oL h6 (oU h7 (oT h8 oZ))))))))
section
variable (h8:¬ i1>4)
include h8
section
variable (h9:i1=1)
include h9
theorem v4r (h10:¬ (r3.length:Int)=(r1.length:Int)):Fn E D6 [.agg [.l r0,.l r1,.l r2],.i i0] (.i 10):=fnM (oP h1 (oD h2 (oF h3 (oU h4 (oU h5 (oL h6 (oU h7 (oU h8 (oB (beT h9) (oB (bnT h10) oZ))))))))))
section
variable (h10:(r3.length:Int)=(r1.length:Int))
include h10
theorem v4s (h11:¬ i2=0):Fn E D6 [.agg [.l r0,.l r1,.l r2],.i i0] (.i 10):=fnM (oP h1 (oD h2 (oF h3 (oU h4 (oU h5 (oL h6 (oU h7 (oU h8 (oB (beT h9) (oC (bnF h10) (oB (bnT h11) oZ)))))))))))
section
variable (h11:i2=0)
include h11
theorem v4t (h12:¬ i3=0):Fn E D6 [.agg [.l r0,.l r1,.l r2],.i i0] (.i 10):=fnM (oP h1 (oD h2 (oF h3 (oU h4 (oU h5 (oL h6 (oU h7 (oU h8 (oB (beT h9) (oC (bnF h10) (oC (bnF h11) (oB (bnT h12) oZ))))))))))))
section
variable (h12:i3=0)
include h12
theorem v0b (h13:Fn E J6 [.agg [.s s0,.i i1,.l r3,.s s1,.s s2,.i i2,.i i3]] (.b true))(h14:¬ i1=3)(h15:¬ i1=4):Fn E D6 [.agg [.l r0,.l r1,.l r2],.i i0] (.i 0):=fnM (oP h1 (oD h2 (oF h3 (oU h4 (oU h5 (oL h6 (oU h7 (oU h8 (oB (beT h9) (oC (bnF h10) (oC (bnF h11) (oC (bnF h12) (oC (bnF h9) (oF h13 (oC (beF h14) (oC (beF h15) oZ))))))))))))))))
theorem k4q (h13:Fn E J6 [.agg [.s s0,.i i1,.l r3,.s s1,.s s2,.i i2,.i i3]] (.b false)):Fn E D6 [.agg [.l r0,.l r1,.l r2],.i i0] (.i 2):=fnM (oP h1 (oD h2 (oF h3 (oU h4 (oU h5 (oL h6 (oU h7 (oU h8 (oB (beT h9) (oC (bnF h10) (oC (bnF h11) (oC (bnF h12) (oC (bnF h9) (oF h13 oZ))))))))))))))
end
end
end
end
section
variable (h9:¬ i1=1)
include h9
theorem v0c (h10:¬ (r3.length:Int)=0):Fn E D6 [.agg [.l r0,.l r1,.l r2],.i i0] (.i 10):=fnM (oP h1 (oD h2 (oF h3 (oU h4 (oU h5 (oL h6 (oU h7 (oU h8 (oC (beF h9) (oB (bnT h9) (oB (bnT h10) oZ)))))))))))
section
variable (h10:(r3.length:Int)=0)
include h10
theorem v0d (h11:¬ s1=(⟨#[]⟩:BA)):Fn E D6 [.agg [.l r0,.l r1,.l r2],.i i0] (.i 10):=fnM (oP h1 (oD h2 (oF h3 (oU h4 (oU h5 (oL h6 (oU h7 (oU h8 (oC (beF h9) (oB (bnT h9) (oC (bnF h10) (oB (snT h11) oZ))))))))))))
section
variable (h11:s1=(⟨#[]⟩:BA))
include h11
theorem v0e (h12:¬ s2=(⟨#[]⟩:BA)):Fn E D6 [.agg [.l r0,.l r1,.l r2],.i i0] (.i 10):=fnM (oP h1 (oD h2 (oF h3 (oU h4 (oU h5 (oL h6 (oU h7 (oU h8 (oC (beF h9) (oB (bnT h9) (oC (bnF h10) (oC (snF h11) (oB (snT h12) oZ)))))))))))))
section
variable (h12:s2=(⟨#[]⟩:BA))
include h12
section
variable (h13:Fn E J6 [.agg [.s s0,.i i1,.l r3,.s s1,.s s2,.i i2,.i i3]] (.b true))
include h13
section
variable (h14:i1=3)(h15:Fn E z2b [.agg [.l r0,.l r1],.i i3] (.i i4))
include h14 h15
theorem v0f (h16:i4<0):Fn E D6 [.agg [.l r0,.l r1,.l r2],.i i0] (.i 7):=fnM (oP h1 (oD h2 (oF h3 (oU h4 (oU h5 (oL h6 (oU h7 (oU h8 (oC (beF h9) (oB (bnT h9) (oC (bnF h10) (oC (snF h11) (oC (snF h12) (oF h13 (oB (beT h14) (oF h15 (oT h16 oZ)))))))))))))))))
theorem v0g (h16:¬ i4<0)(h17:¬ i1=4):Fn E D6 [.agg [.l r0,.l r1,.l r2],.i i0] (.i 0):=fnM (oP h1 (oD h2 (oF h3 (oU h4 (oU h5 (oL h6 (oU h7 (oU h8 (oC (beF h9) (oB (bnT h9) (oC (bnF h10) (oC (snF h11) (oC (snF h12) (oF h13 (oB (beT h14) (oF h15 (oU h16 (oC (beF h17) oZ))))))))))))))))))
end
theorem v0h (h14:¬ i1=3)(h15:i1=4)(h16:Fn E X7 [.agg [.l r0,.l r1],.i i2] (.i i4))(h17:i4<0):Fn E D6 [.agg [.l r0,.l r1,.l r2],.i i0] (.i 7):=fnM (oP h1 (oD h2 (oF h3 (oU h4 (oU h5 (oL h6 (oU h7 (oU h8 (oC (beF h9) (oB (bnT h9) (oC (bnF h10) (oC (snF h11) (oC (snF h12) (oF h13 (oC (beF h14) (oB (beT h15) (oF h16 (oT h17 oZ))))))))))))))))))
theorem v0i (h14:¬ i1=3)(h15:i1=4)(h16:Fn E X7 [.agg [.l r0,.l r1],.i i2] (.i i4))(h17:¬ i4<0):Fn E D6 [.agg [.l r0,.l r1,.l r2],.i i0] (.i 0):=fnM (oP h1 (oD h2 (oF h3 (oU h4 (oU h5 (oL h6 (oU h7 (oU h8 (oC (beF h9) (oB (bnT h9) (oC (bnF h10) (oC (snF h11) (oC (snF h12) (oF h13 (oC (beF h14) (oB (beT h15) (oF h16 (oU h17 oZ))))))))))))))))))
theorem v0j (h14:¬ i1=3)(h15:¬ i1=4):Fn E D6 [.agg [.l r0,.l r1,.l r2],.i i0] (.i 0):=fnM (oP h1 (oD h2 (oF h3 (oU h4 (oU h5 (oL h6 (oU h7 (oU h8 (oC (beF h9) (oB (bnT h9) (oC (bnF h10) (oC (snF h11) (oC (snF h12) (oF h13 (oC (beF h14) (oC (beF h15) oZ))))))))))))))))
end
theorem y1y (h13:Fn E J6 [.agg [.s s0,.i i1,.l r3,.s s1,.s s2,.i i2,.i i3]] (.b false)):Fn E D6 [.agg [.l r0,.l r1,.l r2],.i i0] (.i 2):=fnM (oP h1 (oD h2 (oF h3 (oU h4 (oU h5 (oL h6 (oU h7 (oU h8 (oC (beF h9) (oB (bnT h9) (oC (bnF h10) (oC (snF h11) (oC (snF h12) (oF h13 oZ))))))))))))))
end
end
end
end
end
end
end
end
end
end
theorem v0k (h3:Fn E I6 [.agg [.s s0,.i i1,.l r3,.s s1,.s s2,.i i2,.i i3]] (.b false)):Fn E D6 [.agg [.l r0,.l r1,.l r2],.i i0] (.i 1):=fnM (oP h1 (oD h2 (oF h3 oZ)))
end
def z2g (i0 i1:Int) (n0:Nat) (i2:Int) (r0:RW):St:=stOf 26 [(0,.i i0),(1,.i i1),(5,.vec 0 n0),(6,.i i2)] [sV A0 r0]
def x0p (n1:Nat) (r1:RW):St:=stOf 26 [(5,.vec 0 n1)] [sV A0 r1]
theorem j9x (h1:i2<i0)(h2:i2=i1)(h3:(n0+1)*16≤140737488355328∧n0+1≤140737488355328)(e1:(r0.take n0)++[[.s ⟨#[49]⟩]]=r2)(e2:n0+1=n2)(e3:IntKind.i64.wrap (i2+1)=i3)(ih:Lp E 0 P4 0 (z2g i0 i1 n2 i3 r2) o t):Lp E 0 P4 0 (z2g i0 i1 n0 i2 r0) o t:=by subst e1 e2 e3;exact lpM (oT h1 (oB (beT h2) (oP (show ∀ y∈([[.s ⟨#[49]⟩]]:RW),y.length=1 from by simp) (oP h3 oZ)))) ih
theorem j9y (h1:i2<i0)(h2:¬ i2=i1)(h3:i1<0)(h4:(n0+1)*16≤140737488355328∧n0+1≤140737488355328)(e1:(r0.take n0)++[[.s ⟨#[49]⟩]]=r2)(e2:n0+1=n2)(e3:IntKind.i64.wrap (i2+1)=i3)(ih:Lp E 0 P4 0 (z2g i0 i1 n2 i3 r2) o t):Lp E 0 P4 0 (z2g i0 i1 n0 i2 r0) o t:=by subst e1 e2 e3;exact lpM (oT h1 (oC (beF h2) (oT h3 (oP (show ∀ y∈([[.s ⟨#[49]⟩]]:RW),y.length=1 from by simp) (oP h4 oZ))))) ih
theorem j9z (h1:i2<i0)(h2:¬ i2=i1)(h3:¬ i1<0)(h4:(n0+1)*16≤140737488355328∧n0+1≤140737488355328)(e1:(r0.take n0)++[[.s ⟨#[48]⟩]]=r2)(e2:n0+1=n2)(e3:IntKind.i64.wrap (i2+1)=i3)(ih:Lp E 0 P4 0 (z2g i0 i1 n2 i3 r2) o t):Lp E 0 P4 0 (z2g i0 i1 n0 i2 r0) o t:=by subst e1 e2 e3;exact lpM (oT h1 (oC (beF h2) (oU h3 (oP (show ∀ y∈([[.s ⟨#[48]⟩]]:RW),y.length=1 from by simp) (oP h4 oZ))))) ih
theorem j2i (h1:¬ i2<i0):Lp E 0 P4 0 (z2g i0 i1 n0 i2 r0) (.exit 0) (x0p n0 r0):=lpX (oU h1 oZ)
theorem w0d (h1:Lp E 0 P4 0 (z2g i0 i1 0 0 []) (.exit 0) (x0p n0 r0))(e1:(r0.take n0)=r1):Fn E P4 [.i i0,.i i1] (.l r1):=by subst e1;exact fnM (oM [(5,A0)] h1 oZ)
def y0e (r0 r1:RW) (n0:Nat) (i0 i1:Int) (r2:RW):St:=stOf 36 [(0,.l r0),(1,.l r1),(5,.vec 1 n0),(6,.i i0),(7,.i i1)] [some .dead,sV A0 r2]
def y4h (r0 r1:RW) (i0:Int) (n1:Nat) (r3:RW):St:=stOf 36 [(0,.l r0),(1,.l r1),(5,.vec 1 n1),(6,.i i0)] [some .dead,sV A0 r3]
theorem q0b (h1:i1<(r1.length:Int))(h2:0≤i0)(h3:r0[(Int.toNat i0)]?=some [.s s0])(h4:Fn E V3 [.s s0] (.q b0 r4 r5))(h5:0≤i1)(h6:r1[(Int.toNat i1)]?=some [.s s1])(h7:Fn E V3 [.s s1] (.q b1 r6 r7))(h8:Fn E k1o [.q b0 r4 r5,.q b1 r6 r7] (.q b2 r8 r9))(h9:Fn E y7j [.q b2 r8 r9] (.s s2))(h10:(n0+1)*16≤140737488355328∧n0+1≤140737488355328)(e1:(r2.take n0)++[[.s s2]]=r10)(e2:n0+1=n2)(e3:IntKind.i64.wrap (i1+1)=i2)(ih:Lp E 1 I2 1 (y0e r0 r1 n2 i0 i2 r10) o t):Lp E 1 I2 1 (y0e r0 r1 n0 i0 i1 r2) o t:=by subst e1 e2 e3;exact lpM (oT h1 (oP h2 (oD h3 (oF h4 (oP h5 (oD h6 (oF h7 (oF h8 (oF h9 (oP (show ∀ y∈([[.s s2]]:RW),y.length=1 from by simp) (oP h10 oZ))))))))))) ih
theorem j2j (h1:¬ i1<(r1.length:Int)):Lp E 1 I2 1 (y0e r0 r1 n0 i0 i1 r2) (.exit 2) (y4h r0 r1 i0 n0 r2):=lpX (oU h1 oZ)
def y6p (r0 r1:RW) (n0:Nat) (i0:Int) (r2:RW):St:=stOf 36 [(0,.l r0),(1,.l r1),(5,.vec 0 n0),(6,.i i0)] [sV A0 r2]
def x3b (n1:Nat) (r3:RW):St:=stOf 36 [(5,.vec 0 n1)] [sV A0 r3]
theorem q4d (h1:i0<(r0.length:Int))(h2:Lp E 1 I2 1 (y0e r0 r1 n0 i0 0 r2) (.exit 2) (y4h r0 r1 i0 n2 r4))(e1:IntKind.i64.wrap (i0+1)=i1)(ih:Lp E 0 I2 0 (y6p r0 r1 n2 i1 r4) o t):Lp E 0 I2 0 (y6p r0 r1 n0 i0 r2) o t:=by subst e1;exact lpM (oT h1 (oM [(5,A0)] h2 oZ)) ih
theorem j6l (h1:¬ i0<(r0.length:Int)):Lp E 0 I2 0 (y6p r0 r1 n0 i0 r2) (.exit 0) (x3b n0 r2):=lpX (oU h1 oZ)
theorem w3k (h1:Lp E 0 I2 0 (y6p r0 r1 0 0 []) (.exit 0) (x3b n0 r2))(e1:(r2.take n0)=r3):Fn E I2 [.l r0,.l r1] (.l r3):=by subst e1;exact fnM (oM [(5,A0)] h1 oZ)
def z6c (r0:RW) (n0:Nat) (i0:Int) (r1:RW):St:=stOf 22 [(0,.l r0),(3,.vec 0 n0),(4,.i i0)] [sV A0 r1]
def y3l (n1:Nat) (r2:RW):St:=stOf 22 [(3,.vec 0 n1)] [sV A0 r2]
theorem k4r (h1:i0<(r0.length:Int))(h2:0≤i0)(h3:r0[(Int.toNat i0)]?=some [.s s0])(h4:Fn E V3 [.s s0] (.q b0 r3 r4))(h5:Fn E k1p [.q b0 r3 r4] (.q b1 r5 r6))(h6:Fn E y7j [.q b1 r5 r6] (.s s1))(h7:(n0+1)*16≤140737488355328∧n0+1≤140737488355328)(e1:(r1.take n0)++[[.s s1]]=r7)(e2:n0+1=n2)(e3:IntKind.i64.wrap (i0+1)=i1)(ih:Lp E 0 N4 0 (z6c r0 n2 i1 r7) o t):Lp E 0 N4 0 (z6c r0 n0 i0 r1) o t:=by subst e1 e2 e3;exact lpM (oT h1 (oP h2 (oD h3 (oF h4 (oF h5 (oF h6 (oP (show ∀ y∈([[.s s1]]:RW),y.length=1 from by simp) (oP h7 oZ)))))))) ih
theorem x8j (h1:¬ i0<(r0.length:Int)):Lp E 0 N4 0 (z6c r0 n0 i0 r1) (.exit 0) (y3l n0 r1):=lpX (oU h1 oZ)
theorem q0a (h1:Lp E 0 N4 0 (z6c r0 0 0 []) (.exit 0) (y3l n0 r1))(e1:(r1.take n0)=r2):Fn E N4 [.l r0] (.l r2):=by subst e1;exact fnM (oM [(3,A0)] h1 oZ)
theorem q9q (h1:Fn E x1f [.agg [.l r0,.l r1]] (.agg [.l r3,.l r4]))(h2:Lp E 3 V5 0 (z6m 0 r0 r1 r2 r3 r4 0 []) (.exit 0) (z9v r0 r1 r2 r3 r4 n0 r5)):Rn E V5 [.agg [.l r0,.l r1,.l r2]] [] (.agv [.l r3,.l r4,.vec 0 n0]) [sV C7 r5]:=rnM (oF h1 (oG (oM [(164,C7)] h2 (oX oZ))))
def z1r (i0:Int) (s0:BA) (i1:Int) (r0:RW) (s1 s2:BA) (i2 i3:Int):St:=stOf 36 [(1,.ptr 0 0),(3,.i i0)] [sC [.s s0,.i i1,.l r0,.s s1,.s s2,.i i2,.i i3]]
def y4o (s0:BA) (i1:Int) (r0:RW) (s1 s2:BA) (i2 i3:Int):St:=stOf 36 [(2,.b false)] [sC [.s s0,.i i1,.l r0,.s s1,.s s2,.i i2,.i i3]]
def y4p (s0:BA) (i1:Int) (r0:RW) (s1 s2:BA) (i2 i3:Int):St:=stOf 36 [(1,.ptr 0 0)] [sC [.s s0,.i i1,.l r0,.s s1,.s s2,.i i2,.i i3]]
section
variable (h1:i0<(r0.length:Int))(h2:0≤i0)(h3:r0[(Int.toNat i0)]?=some [.s s3])
include h1 h2 h3
theorem k8y (h4:Fn E F8 [.s s3] (.b true))(e1:IntKind.i64.wrap (i0+1)=i4)(ih:Lp E 1 I6 0 (z1r i4 s0 i1 r0 s1 s2 i2 i3) o t):Lp E 1 I6 0 (z1r i0 s0 i1 r0 s1 s2 i2 i3) o t:=by subst e1;exact lpM (oT h1 (oP h2 (oD h3 (oF h4 oZ)))) ih
theorem k0v (h4:Fn E F8 [.s s3] (.b false)):Lp E 1 I6 0 (z1r i0 s0 i1 r0 s1 s2 i2 i3) .ret (y4o s0 i1 r0 s1 s2 i2 i3):=lpX (oT h1 (oP h2 (oD h3 (oF h4 oZ))))
end
theorem k0w (h1:¬ i0<(r0.length:Int)):Lp E 1 I6 0 (z1r i0 s0 i1 r0 s1 s2 i2 i3) (.exit 0) (y4p s0 i1 r0 s1 s2 i2 i3):=lpX (oU h1 oZ)
theorem q3x (h1:Lp E 1 I6 0 (z1r 0 s0 i0 r0 s1 s2 i1 i2) .ret (y4o s0 i0 r0 s1 s2 i1 i2)):Fn E I6 [.agg [.s s0,.i i0,.l r0,.s s1,.s s2,.i i1,.i i2]] (.b false):=fnM (oL h1 oZ)
section
variable (h1:Lp E 1 I6 0 (z1r 0 s0 i0 r0 s1 s2 i1 i2) (.exit 0) (y4p s0 i0 r0 s1 s2 i1 i2))
include h1
theorem q3y (h2:s1=(⟨#[]⟩:BA))(h3:s2=(⟨#[]⟩:BA)):Fn E I6 [.agg [.s s0,.i i0,.l r0,.s s1,.s s2,.i i1,.i i2]] (.b true):=fnM (oL h1 (oB (seT h2) (oB (seT h3) oZ)))
theorem q3z (h2:s1=(⟨#[]⟩:BA))(h3:¬ s2=(⟨#[]⟩:BA))(h4:Fn E F8 [.s s2] (.b b0)):Fn E I6 [.agg [.s s0,.i i0,.l r0,.s s1,.s s2,.i i1,.i i2]] (.b b0):=fnM (oL h1 (oB (seT h2) (oC (seF h3) (oF h4 oZ))))
section
variable (h2:¬ s1=(⟨#[]⟩:BA))
include h2
section
variable (h3:Fn E F8 [.s s1] (.b true))
include h3
theorem q4a (h4:s2=(⟨#[]⟩:BA)):Fn E I6 [.agg [.s s0,.i i0,.l r0,.s s1,.s s2,.i i1,.i i2]] (.b true):=fnM (oL h1 (oC (seF h2) (oF h3 (oB (seT h4) oZ))))
theorem q4b (h4:¬ s2=(⟨#[]⟩:BA))(h5:Fn E F8 [.s s2] (.b b1)):Fn E I6 [.agg [.s s0,.i i0,.l r0,.s s1,.s s2,.i i1,.i i2]] (.b b1):=fnM (oL h1 (oC (seF h2) (oF h3 (oC (seF h4) (oF h5 oZ)))))
end
theorem q4c (h3:Fn E F8 [.s s1] (.b false)):Fn E I6 [.agg [.s s0,.i i0,.l r0,.s s1,.s s2,.i i1,.i i2]] (.b false):=fnM (oL h1 (oC (seF h2) (oF h3 oZ)))
end
end
theorem q9r (h1:i0=1)(h2:¬ s1=(⟨#[]⟩:BA))(h3:s2=(⟨#[]⟩:BA)):Fn E J6 [.agg [.s s0,.i i0,.l r0,.s s1,.s s2,.i i1,.i i2]] (.b true):=fnM (oB (beT h1) (oB (snT h2) (oC (seF h2) (oB (seT h3) oZ))))
theorem q9s (h1:i0=1)(h2:¬ s1=(⟨#[]⟩:BA))(h3:¬ s2=(⟨#[]⟩:BA))(h4:Fn E V3 [.s s2] (.q b0 r1 r2))(h5:Fn E V3 [.s s1] (.q b1 r3 r4))(h6:Fn E x1e [.q b0 r1 r2,.q b1 r3 r4] (.b b2)):Fn E J6 [.agg [.s s0,.i i0,.l r0,.s s1,.s s2,.i i1,.i i2]] (.b (!b2)):=fnM (oB (beT h1) (oB (snT h2) (oC (seF h2) (oC (seF h3) (oF h4 (oF h5 (oF h6 oZ)))))))
theorem q9t (h1:i0=1)(h2:s1=(⟨#[]⟩:BA))(h3:¬ s2=(⟨#[]⟩:BA)):Fn E J6 [.agg [.s s0,.i i0,.l r0,.s s1,.s s2,.i i1,.i i2]] (.b true):=fnM (oB (beT h1) (oC (snF h2) (oB (snT h3) (oB (seT h2) oZ))))
theorem q9u (h1:i0=1)(h2:s1=(⟨#[]⟩:BA))(h3:s2=(⟨#[]⟩:BA)):Fn E J6 [.agg [.s s0,.i i0,.l r0,.s s1,.s s2,.i i1,.i i2]] (.b false):=fnM (oB (beT h1) (oC (snF h2) (oC (snF h3) oZ)))
section
variable (h1:¬ i0=1)
include h1
theorem q9v (h2:i0=2)(h3:Fn E Y2 [.i i1] (.b true))(h4:Fn E Y2 [.i i2] (.b true))(h5:i1<i2):Fn E J6 [.agg [.s s0,.i i0,.l r0,.s s1,.s s2,.i i1,.i i2]] (.b true):=fnM (oC (beF h1) (oB (beT h2) (oF h3 (oF h4 (oT h5 oZ)))))
theorem q9w (h2:i0=2)(h3:Fn E Y2 [.i i1] (.b true))(h4:Fn E Y2 [.i i2] (.b true))(h5:¬ i1<i2):Fn E J6 [.agg [.s s0,.i i0,.l r0,.s s1,.s s2,.i i1,.i i2]] (.b false):=fnM (oC (beF h1) (oB (beT h2) (oF h3 (oF h4 (oU h5 oZ)))))
theorem q9x (h2:i0=2)(h3:Fn E Y2 [.i i1] (.b true))(h4:Fn E Y2 [.i i2] (.b false)):Fn E J6 [.agg [.s s0,.i i0,.l r0,.s s1,.s s2,.i i1,.i i2]] (.b false):=fnM (oC (beF h1) (oB (beT h2) (oF h3 (oF h4 oZ))))
theorem q9y (h2:i0=2)(h3:Fn E Y2 [.i i1] (.b false)):Fn E J6 [.agg [.s s0,.i i0,.l r0,.s s1,.s s2,.i i1,.i i2]] (.b false):=fnM (oC (beF h1) (oB (beT h2) (oF h3 oZ)))
theorem q9z (h2:¬ i0=2)(h3:i0=3)(h4:Fn E Y2 [.i i1] (.b b0)):Fn E J6 [.agg [.s s0,.i i0,.l r0,.s s1,.s s2,.i i1,.i i2]] (.b b0):=fnM (oC (beF h1) (oC (beF h2) (oB (beT h3) (oF h4 oZ))))
theorem v0a (h2:¬ i0=2)(h3:¬ i0=3)(h4:i2=0):Fn E J6 [.agg [.s s0,.i i0,.l r0,.s s1,.s s2,.i i1,.i i2]] (.b true):=fnM (oC (beF h1) (oC (beF h2) (oC (beF h3) (oB (beT h4) oZ))))
theorem q3w (h2:¬ i0=2)(h3:¬ i0=3)(h4:¬ i2=0):Fn E J6 [.agg [.s s0,.i i0,.l r0,.s s1,.s s2,.i i1,.i i2]] (.b false):=fnM (oC (beF h1) (oC (beF h2) (oC (beF h3) (oC (beF h4) oZ))))
end
theorem v4j (h1:i0≥1)(h2:i0≤9):Fn E Y2 [.i i0] (.b true):=fnM (oT h1 (oT h2 oZ))
theorem v4k (h1:i0≥1)(h2:¬ i0≤9):Fn E Y2 [.i i0] (.b false):=fnM (oT h1 (oU h2 oZ))
theorem v4l (h1:¬ i0≥1):Fn E Y2 [.i i0] (.b false):=fnM (oU h1 oZ)
end Gev
namespace Gev
open Go
theorem wi {n m:Int} (h:n=m∧-9223372036854775808≤m∧m≤9223372036854775807):IntKind.i64.wrap n=m:=by rw [IntKind.wrap_i64];omega
theorem wu {n m:Int} (h:n=m∧0≤m∧m≤18446744073709551615):IntKind.u64.wrap n=m:=by simp [IntKind.wrap,IntKind.bits,IntKind.signed];omega
theorem w32 {n m:Int} (h:n=m∧0≤m∧m≤4294967295):IntKind.u32.wrap n=m:=by rw [IntKind.wrap_u32];omega
theorem w8 {n m:Int} (h:n=m∧0≤m∧m≤255):IntKind.u8.wrap n=m:=by rw [IntKind.wrap_u8];omega
theorem tdv {a b c:Int} (ha:0≤a) (h:a / b=c):Int.tdiv a b=c:=by rw [Int.tdiv_eq_ediv_of_nonneg ha];exact h
theorem tmd {a b c:Int} (ha:0≤a) (h:a % b=c):Int.tmod a b=c:=by rw [Int.tmod_eq_emod_of_nonneg ha];exact h
def Wr (ws:List Int):RW:=ws.map fun x=>[.u32 x]
theorem B3 (ws:List Int):(Wr ws).length=ws.length:=by simp [Wr]
theorem w4g {ws:List Int} {i:Nat} {x:Int} (h:ws[i]?=some x):(Wr ws)[i]?=some [.u32 x]:=by simp [Wr,h]
theorem z2d (ws:List Int) (n:Nat):(Wr ws).take n=Wr (ws.take n):=by simp [Wr,List.map_take]
theorem x3v (ws:List Int) (x:Int):Wr ws++[[.u32 x]]=Wr (ws++[x]):=by simp [Wr]
theorem w7r (ws xs:List Int):Wr ws++Wr xs=Wr (ws++xs):=by simp [Wr]
theorem z7d (ws:List Int) (n:Nat) (x:Int):(Wr ws).set n [.u32 x]=Wr (ws.set n x):=by simp [Wr,List.map_set]
theorem z8o (n:Nat) (x:Int):List.replicate n [DV.u32 x]=Wr (List.replicate n x):=by simp [Wr]
theorem w9o (ws:List Int):∀ x∈Wr ws,x.length=1:=by intro x hx;simp [Wr] at hx;obtain ⟨_,_,rfl⟩:=hx;rfl
theorem getD_some {ws:List Int} {i:Nat} (h:i<ws.length):ws[i]?=some (ws.getD i 0):=by
 rw [List.getD_eq_getElem?_getD,List.getElem?_eq_getElem h];rfl
theorem G1 {ws:List Int} {i:Nat} (h:i<ws.length):(Wr ws)[i]?=some [.u32 (ws.getD i 0)]:=w4g (getD_some h)
def B (l:List UInt8):BA:=⟨l.toArray⟩
theorem F4 (l:List UInt8):(B l).size=l.length:=by show l.toArray.size=_;simp
theorem y4j (l:List UInt8):(B l).data.toList=l:=by simp [B]
theorem B_of (a:BA):B a.data.toList=a:=by cases a;simp [B]
theorem y5o {l m:List UInt8} (h:B l=B m):l=m:=by have:=congrArg (fun a:BA=>a.data.toList) h;simpa [B] using this
theorem w9j:B []=⟨#[]⟩:=rfl
theorem x5n (l m:List UInt8):B l++B m=B (l++m):=by
 show ByteArray.append _ _=_
 apply bytes_ext
 rw [toList_eq,toList_eq]
 have:(B l++B m).data=(B l).data++(B m).data:=ByteArray.data_append
 rw [show (ByteArray.append (B l) (B m)).data=(B l++B m).data from rfl,this]
 simp [B]
theorem x1y (l:List UInt8) (i j:Nat):(B l).extract i j=B ((l.take j).drop i):=by
 apply bytes_ext
 rw [toList_eq,toList_eq]
 have:((B l).extract i j).data=(B l).data.extract i j:=ByteArray.data_extract
 rw [this]
 simp [B,List.drop_take]
end Gev
namespace Gev
open Go Gb
variable {E:Env}
def cmpI (a b:Int):Int:=if a<b then -1 else if a>b then 1 else 0
theorem u3o (a b:Int):Fn E z2i [.c (.u32 a),.c (.u32 b)] (.c (.i64 (cmpI a b))):=by
 have ha:=x2o (E:=E) (rfl:a=a)
 have hb:=x2o (E:=E) (rfl:b=b)
 unfold cmpI
 by_cases h:a<b
 · rw [if_pos h];exact k2l ha hb h
 · rw [if_neg h]
   by_cases k:a>b
   · rw [if_pos k];exact k2m ha hb h k
   · rw [if_neg k];exact k2n ha hb h k
theorem v7j (a b:Int):Fn E z0v [.c (.i64 a),.c (.i64 b)] (.c (.i64 (cmpI a b))):=by
 have ha:=x9d (E:=E) (rfl:a=a)
 have hb:=x9d (E:=E) (rfl:b=b)
 unfold cmpI
 by_cases h:a<b
 · rw [if_pos h];exact j3h ha hb h
 · rw [if_neg h]
   by_cases k:a>b
   · rw [if_pos k];exact j3i ha hb h k
   · rw [if_neg k];exact j3j ha hb h k
def z2v (ws:List Int):Nat→Nat
 | 0=>0
 | k+1=>if ws.getD k 0=0 then z2v ws k else k+1
theorem j7v (ws:List Int) (k:Nat):z2v ws k≤k:=by
 induction k with
 | zero=>exact Nat.le_refl 0
 | succ k ih=>unfold z2v;split <;> omega
theorem z2w {ws:List Int} (h:Wd ws) {k:Nat} (hk:k≤ws.length):ws.take (z2v ws k)=words (wv (ws.take k)).toNat:=by
 induction k with
 | zero=>simp [z2v,wv,Y1]
 | succ k ih =>
  unfold z2v
  have e:=z2h ws k (by omega)
  by_cases h0:ws.getD k 0=0
  · rw [if_pos h0,ih (by omega),e,h0];simp
  · rw [if_neg h0]
    refine w1d (h.take _) ?_
    rw [k6b ws k (by omega)]
    exact Tr.snoc h0
theorem v6r (ws:List Int):∀ k,k≤ws.length→k<9223372036854775807→Lp E 1 C4 0 (z1g k (Wr ws)) (.exit 0) (z5g (Wr ws) (z2v ws k))
 | 0,_,_=>x4y (by omega)
 | k+1,hk,hb=>by
  unfold z2v
  by_cases h0:ws.getD k 0=0
  · rw [if_pos h0]
    exact x8a (i0:=(k:Int)) (i1:=ws.getD k 0) (n2:=k) (wi (by omega)) rfl (by omega) (by omega) (G1 (by omega)) h0 (by omega) (v6r ws k (by omega) (by omega))
  · rw [if_neg h0]
    exact x4x (i0:=(k:Int)) (i1:=ws.getD k 0) (wi (by omega)) (by omega) (by omega) (G1 (by omega)) h0
theorem x7i {ws:List Int} {k:Nat} (hk:k≤ws.length) (hb:k<9223372036854775807):Rn E C4 [.vec 0 k] [some (.vec A4 (Wr ws))] (.vec 0 (z2v ws k)) [some (.vec A4 (Wr ws))] :=
 j1g (v6r ws k hk hb)
theorem v1c (ws:List Int):∀ k,k≤ws.length→k<9223372036854775807→Lp E 0 C4 0 (z0k (Wr (ws.take k))) (.exit 0) (z3s (Wr (ws.take (z2v ws k))))
 | 0,_,_=>x3s (by rw [B3];simp)
 | k+1,hk,hb=>by
  have hl:(ws.take (k+1)).length=k+1:=by simp;omega
  have hg:(Wr (ws.take (k+1)))[Int.toNat (k:Int)]?=some [.u32 (ws.getD k 0)]:=by
   refine w4g ?_
   rw [Int.toNat_natCast,List.getElem?_take_of_lt (by omega)]
   exact getD_some (by omega)
  unfold z2v
  by_cases h0:ws.getD k 0=0
  · rw [if_pos h0]
    refine x6q (i0:=(k:Int)) (i1:=ws.getD k 0) (r2:=Wr (ws.take k)) (wi (by rw [B3,hl];omega)) ?_ (by rw [B3,hl];omega) (by omega) hg h0 ⟨by omega,by omega,by rw [B3,hl];omega,w9o _⟩ (v1c ws k (by omega) (by omega))
    rw [Int.toNat_natCast,List.drop_zero,z2d,List.take_take,Nat.min_eq_left (by omega)]
  · rw [if_neg h0]
    exact x3r (i0:=(k:Int)) (i1:=ws.getD k 0) (wi (by rw [B3,hl];omega)) (by rw [B3,hl];omega) (by omega) hg h0
theorem w9f {ws:List Int} (h:Wd ws) (hb:ws.length<9223372036854775807):Rn E C4 [.c (.list (Wr ws))] [] (.c (.list (Wr (words (wv ws).toNat)))) []:=by
 have:=v1c (E:=E) ws ws.length (Nat.le_refl _) hb
 rw [List.take_length,z2w h (Nat.le_refl _),List.take_length] at this
 exact k3n this
theorem k6d {n:Nat} (h:n<1000000000000000000):words n=[]∧n=0∨(words n=[(n:Int)]∧n≠0∧n<1000000000)∨(words n=[((n % 1000000000:Nat):Int),((n / 1000000000:Nat):Int)]∧1000000000≤n):=by
 by_cases h0:n=0
 · exact .inl ⟨by rw [h0,Y1],h0⟩
 · by_cases h1:n<1000000000
   · refine .inr (.inl ⟨?_,h0,h1⟩)
     rw [x2e h0,show n / 1000000000=0 by omega,Y1,show n % 1000000000=n by omega]
   · refine .inr (.inr ⟨?_,by omega⟩)
     rw [x2e h0,x2e (n:=n / 1000000000) (by omega),show n / 1000000000 / 1000000000=0 by omega,Y1,show n / 1000000000 % 1000000000=n / 1000000000 by omega]
theorem v6v {n:Nat}:(words n).length≤2↔n<1000000000000000000:=by
 constructor
 · intro h
   have h1:=y2g (C0 n)
   rw [B6] at h1
   have h2:=q6e h
   have:pw 2=1000000000000000000:=by decide
   omega
 · intro h
   exact z5r (by rw [show pw 2=1000000000000000000 by decide];omega)
theorem v5y {n:Nat} (h:n<1000000000000000000):Fn E z8j [.c (.u64 n)] (.c (.list (Wr (words n)))):=by
 have hw:Wd [((n % 1000000000:Nat):Int),((n / 1000000000:Nat):Int)]:=Wd.cons (by omega) (by omega) (Wd.cons (by omega) (by omega) Wd.nil)
 have ht:=x7i (E:=E) (ws:=[((n % 1000000000:Nat):Int),((n / 1000000000:Nat):Int)]) (k:=2) (Nat.le_refl _) (by decide)
 refine v8e (i1:=((n % 1000000000:Nat):Int)) (i2:=((n % 1000000000:Nat):Int)) (i3:=((n / 1000000000:Nat):Int)) (i4:=((n / 1000000000:Nat):Int)) (tmd (by omega) (by omega)) (w32 (by omega)) (wu ⟨tdv (by omega) (by omega),by omega,by omega⟩) (w32 (by omega)) ?_ ht
 show (Wr [((n % 1000000000:Nat):Int),((n / 1000000000:Nat):Int)]).take _=_
 rw [z2d,z2w hw (by simp)]
 have:(wv (List.take 2 [((n % 1000000000:Nat):Int),((n / 1000000000:Nat):Int)])).toNat=n:=by simp [wv];omega
 rw [this]
theorem z7o {n:Nat} (h:n<1000000000000000000):Fn E D2 [.c (.list (Wr (words n)))] (.tup [.c (.u64 n),.c (.bool true)]):=by
 rcases k6d h with ⟨e,rfl⟩ | ⟨e,h0,h1⟩ | ⟨e,h1⟩
 · rw [e];exact k7f rfl
 · rw [e]
   exact k7g (i0:=(n:Int)) (i1:=(n:Int)) (wu (by omega)) (by simp [Wr]) (by simp [Wr]) rfl
 · rw [e]
   exact k7h (i0:=((n % 1000000000:Nat):Int)) (i1:=((n % 1000000000:Nat):Int)) (i2:=((n / 1000000000:Nat):Int)) (i3:=((n / 1000000000:Nat):Int)) (i4:=1000000000*((n / 1000000000:Nat):Int)) (i5:=(n:Int))
    (wu (by omega)) (wu (by omega)) (wu (by omega)) (wu (by omega)) (by simp [Wr]) (by simp [Wr]) (by simp [Wr]) rfl rfl
theorem y6w {n:Nat} (h:¬ n<1000000000000000000):Fn E D2 [.c (.list (Wr (words n)))] (.tup [.c (.u64 0),.c (.bool false)]):=by
 have hl:¬ (words n).length≤2:=fun e=>h (v6v.1 e)
 exact k7i (by rw [B3];omega) (by rw [B3];omega) (by rw [B3];omega)
theorem y9l {xs ys:List Int} (hx:Wd xs) (hy:Wd ys) {i:Nat} (hi:i<xs.length) (hj:i<ys.length) (h:xs.getD i 0<ys.getD i 0) (he:xs.drop (i+1)=ys.drop (i+1)):wv xs<wv ys:=by
 rw [H1 xs i (by omega),H1 ys i (by omega),X4 xs i hi,X4 ys i hj,he]
 have h1:=y2g (hx.take i)
 have h2:=D4 (hy.take i)
 rw [List.length_take,Nat.min_eq_left (by omega)] at h1
 rw [Int.mul_add,Int.mul_add]
 have h3:pw i*(xs.getD i 0+1)≤pw i*ys.getD i 0:=Int.mul_le_mul_of_nonneg_left (by omega) (by have:=z2p i;omega)
 rw [Int.mul_add,Int.mul_one] at h3
 omega
theorem w0v (xs ys:List Int) (hx:Wd xs) (hy:Wd ys) (hl:xs.length=ys.length) (hb:xs.length<9223372036854775807):∀ k:Nat,k≤xs.length→xs.drop k=ys.drop k →
    (xs=ys∧Lp E 0 D1 0 (O3 (Wr xs) (Wr ys) ((k:Int)-1)) (.exit 0) z6i) ∨
    (xs≠ys∧Lp E 0 D1 0 (O3 (Wr xs) (Wr ys) ((k:Int)-1)) .ret (z6h (cmpI (wv xs) (wv ys))))
 | 0,_,h=>.inl ⟨by simpa using h,x1k (by omega)⟩
 | k+1,hk,h=>by
  have ek:((k+1:Nat):Int)-1=(k:Int):=by omega
  rw [ek]
  have g1:(Wr xs)[Int.toNat (k:Int)]?=some [.u32 (xs.getD k 0)]:=G1 (by omega)
  have g2:(Wr ys)[Int.toNat (k:Int)]?=some [.u32 (ys.getD k 0)]:=G1 (by omega)
  by_cases h0:xs.getD k 0=ys.getD k 0
  · have hd:xs.drop k=ys.drop k:=by rw [x5v xs k (by omega),x5v ys k (by omega),h0,h]
    rcases w0v xs ys hx hy hl hb k (by omega) hd with ⟨e,ih⟩ | ⟨e,ih⟩
    · exact .inl ⟨e,y3d (wi (by omega)) (by omega) (by omega) g1 g2 h0 ih⟩
    · exact .inr ⟨e,y3d (wi (by omega)) (by omega) (by omega) g1 g2 h0 ih⟩
  · refine .inr ⟨fun e=>h0 (by rw [e]),?_⟩
    have hc:cmpI (wv xs) (wv ys)=cmpI (xs.getD k 0) (ys.getD k 0):=by
     rcases Int.lt_or_gt_of_ne h0 with c | c
     · have:=y9l hx hy (by omega) (by omega) c h
       unfold cmpI;rw [if_pos this,if_pos c]
     · have:=y9l hy hx (by omega) (by omega) c h.symm
       unfold cmpI;rw [if_neg (by omega),if_pos this,if_neg (by omega),if_pos c]
    rw [hc]
    exact x1j (by omega) (by omega) g1 g2 h0 (u3o _ _)
theorem q5y {a b:Int} (h:a=b):cmpI a b=0:=by unfold cmpI;rw [if_neg (by omega),if_neg (by omega)]
theorem x2p {m n:Nat} (hm:(words m).length<9223372036854775807):Fn E D1 [.c (.list (Wr (words m))),.c (.list (Wr (words n)))] (.c (.i64 (cmpI m n))):=by
 by_cases hl:(words m).length=(words n).length
 · rcases w0v (E:=E) (words m) (words n) (C0 m) (C0 n) hl hm (words m).length (Nat.le_refl _) (by rw [List.drop_length,hl,List.drop_length]) with ⟨e,h⟩ | ⟨e,h⟩
   · have:=v6u e
     subst this
     rw [q5y rfl]
     exact k0j (wi (by rw [B3];omega)) (by rw [B3]) h
   · rw [B6,B6] at h
     exact k0i (wi (by rw [B3];omega)) (by rw [B3,B3];omega) h
 · have hc:cmpI m n=cmpI ((Wr (words m)).length:Int) ((Wr (words n)).length:Int):=by
    rw [B3,B3]
    rcases Nat.lt_or_gt_of_ne hl with c | c
    · have:m<n:=by
       rcases Nat.lt_or_ge m n with h | h
       · exact h
       · have:=(z0n n).length_le (C0 n) (C0 m) (by rw [B6,B6];omega)
         omega
      unfold cmpI;rw [if_pos (by omega),if_pos (by omega)]
    · have:n<m:=by
       rcases Nat.lt_or_ge n m with h | h
       · exact h
       · have:=(z0n m).length_le (C0 m) (C0 n) (by rw [B6,B6];omega)
         omega
      unfold cmpI;rw [if_neg (by omega),if_pos (by omega),if_neg (by omega),if_pos (by omega)]
   rw [hc]
   exact k0h (by rw [B3,B3];omega) (v7j _ _)
theorem drop_nil {xs:List Int} {i:Nat} (h:xs.length≤i):xs.drop i=[]:=List.drop_eq_nil_of_le h
theorem z9r {xs:List Int} {i:Nat} (h:xs.length≤i):xs.getD i 0=0:=by rw [List.getD_eq_getElem?_getD,List.getElem?_eq_none h];rfl
theorem y1e (xs:List Int) (i:Nat):wv (xs.drop i)=xs.getD i 0+1000000000*wv (xs.drop (i+1)):=by
 rcases Nat.lt_or_ge i xs.length with h | h
 · exact X4 xs i h
 · rw [drop_nil h,drop_nil (by omega),z9r h];rfl
theorem u5g (S:Int):(if Int.tmod S 1000000000<0 then Int.tmod S 1000000000+1000000000 else Int.tmod S 1000000000)=S % 1000000000:=by
 rw [Int.tmod_eq_emod]
 split <;> split <;> omega
theorem w1q {xs ys:List Int} {sg:Int} (hsg:sg=1∨sg=-1) (hx:Wd xs) (hy:Wd ys) {N:Int} (hN:N<4611686018427387904) {i:Nat} {c:Int} (hc:-1≤c∧c≤1) {zs:List Int} (hz:zs.length=i) (hi:(i:Int)<N) (hM:i+1≤35184372088832) {o:Out} {st':St}
    (ih:Lp E 1 B5 0 (C3 (Wr xs) (Wr ys) sg (i+1) ((c+xs.getD i 0+sg*ys.getD i 0) / 1000000000) N ((i+1:Nat):Int) (Wr (zs++[(c+xs.getD i 0+sg*ys.getD i 0) % 1000000000]))) o st') :
    Lp E 1 B5 0 (C3 (Wr xs) (Wr ys) sg i c N i (Wr zs)) o st':=by
 have ha:=hx.getD i
 have hb:=hy.getD i
 obtain ⟨a,ea⟩:∃ a,a=xs.getD i 0:=⟨_,rfl⟩
 obtain ⟨b,eb⟩:∃ b,b=ys.getD i 0:=⟨_,rfl⟩
 obtain ⟨p,ep⟩:∃ p,p=sg*b:=⟨_,rfl⟩
 have hp:-1000000000<p∧p<1000000000:=by rcases hsg with rfl | rfl <;> omega
 rw [← ea,← eb] at ih
 rw [← ea] at ha
 rw [← eb] at hb
 rw [← ep] at ih
 obtain ⟨S,eS⟩:∃ S,S=c+a+p:=⟨_,rfl⟩
 rw [← eS] at ih
 have gx:i<xs.length→(Wr xs)[Int.toNat (i:Int)]?=some [.u32 a]:=fun h=>by rw [ea];exact G1 h
 have gy:i<ys.length→(Wr ys)[Int.toNat (i:Int)]?=some [.u32 b]:=fun h=>by rw [eb];exact G1 h
 have hS:-2000000000<S∧S<3000000000:=by omega
 have hlen:(i+1)*4≤140737488355328∧i+1≤140737488355328:=by omega
 have hap:∀ w,(Wr zs).take i++[[DV.u32 w]]=Wr (zs++[w]):=fun w=>by rw [z2d,← hz,List.take_length,x3v]
 have ht:=u5g S
 have hq:Int.tmod S 1000000000<0→Int.tdiv S 1000000000-1=S / 1000000000:=fun h=>by
  have:=Int.tmod_add_mul_tdiv S 1000000000
  have:=Int.emod_add_mul_ediv S 1000000000
  rw [if_pos h] at ht;omega
 have hq':¬ Int.tmod S 1000000000<0→Int.tdiv S 1000000000=S / 1000000000:=fun h=>by
  have:=Int.tmod_add_mul_tdiv S 1000000000
  have:=Int.emod_add_mul_ediv S 1000000000
  rw [if_neg h] at ht;omega
 have hr:0≤S % 1000000000∧S % 1000000000<1000000000:=by omega
 have hd:-4≤S / 1000000000∧S / 1000000000≤4:=by omega
 by_cases c1:i<xs.length
 · by_cases c2:i<ys.length
   · by_cases c3:Int.tmod S 1000000000<0
     · rw [if_pos c3] at ht
       exact x6d (i5:=a) (i6:=a) (i7:=c+a) (i8:=b) (i9:=b) (i10:=p) (i11:=S) (i13:=Int.tdiv S 1000000000) (wi (by omega)) (wi (by omega)) (wi (by omega)) (wi (by omega)) (wi (by omega)) rfl (wi (by have:=hq c3;omega)) (wi ⟨ht,by omega⟩) (wi ⟨hq c3,by omega⟩) (w32 (by omega)) (hap _) rfl (wi (by omega))
        (by omega) (by rw [B3];omega) (by omega) (gx c1) (by rw [B3];omega) (gy c2) c3 hlen ih
     · rw [if_neg c3] at ht
       exact x6e (i5:=a) (i6:=a) (i7:=c+a) (i8:=b) (i9:=b) (i10:=p) (i11:=S) (i12:=S % 1000000000) (wi (by omega)) (wi (by omega)) (wi (by omega)) (wi (by omega)) (wi (by omega)) ht (wi ⟨hq' c3,by omega⟩) (w32 (by omega)) (hap _) rfl (wi (by omega))
        (by omega) (by rw [B3];omega) (by omega) (gx c1) (by rw [B3];omega) (gy c2) (by omega) hlen ih
   · have b0:b=0:=by rw [eb];exact z9r (by omega)
     have p0:p=0:=by rw [ep,b0];exact Int.mul_zero _
     by_cases c3:Int.tmod S 1000000000<0
     · rw [if_pos c3] at ht
       exact x6f (i5:=a) (i6:=a) (i7:=S) (i9:=Int.tdiv S 1000000000) (wi (by omega)) (wi (by omega)) rfl (wi (by have:=hq c3;omega)) (wi ⟨ht,by omega⟩) (wi ⟨hq c3,by omega⟩) (w32 (by omega)) (hap _) rfl (wi (by omega))
        (by omega) (by rw [B3];omega) (by omega) (gx c1) (by rw [B3];omega) c3 hlen ih
     · rw [if_neg c3] at ht
       exact x6g (i5:=a) (i6:=a) (i7:=S) (i8:=S % 1000000000) (wi (by omega)) (wi (by omega)) ht (wi ⟨hq' c3,by omega⟩) (w32 (by omega)) (hap _) rfl (wi (by omega))
        (by omega) (by rw [B3];omega) (by omega) (gx c1) (by rw [B3];omega) (by omega) hlen ih
 · have a0:a=0:=by rw [ea];exact z9r (by omega)
   by_cases c2:i<ys.length
   · by_cases c3:Int.tmod S 1000000000<0
     · rw [if_pos c3] at ht
       exact x6h (i5:=b) (i6:=b) (i7:=p) (i8:=S) (i10:=Int.tdiv S 1000000000) (wi (by omega)) (wi (by omega)) (wi (by omega)) rfl (wi (by have:=hq c3;omega)) (wi ⟨ht,by omega⟩) (wi ⟨hq c3,by omega⟩) (w32 (by omega)) (hap _) rfl (wi (by omega))
        (by omega) (by rw [B3];omega) (by rw [B3];omega) (by omega) (gy c2) c3 hlen ih
     · rw [if_neg c3] at ht
       exact x6i (i5:=b) (i6:=b) (i7:=p) (i8:=S) (i9:=S % 1000000000) (wi (by omega)) (wi (by omega)) (wi (by omega)) ht (wi ⟨hq' c3,by omega⟩) (w32 (by omega)) (hap _) rfl (wi (by omega))
        (by omega) (by rw [B3];omega) (by rw [B3];omega) (by omega) (gy c2) (by omega) hlen ih
   · have b0:b=0:=by rw [eb];exact z9r (by omega)
     have p0:p=0:=by rw [ep,b0];exact Int.mul_zero _
     have e0:S=c:=by omega
     subst e0
     by_cases c3:Int.tmod S 1000000000<0
     · rw [if_pos c3] at ht
       exact x6j (i6:=Int.tdiv S 1000000000) rfl (wi (by have:=hq c3;omega)) (wi ⟨ht,by omega⟩) (wi ⟨hq c3,by omega⟩) (w32 (by omega)) (hap _) rfl (wi (by omega))
        (by omega) (by rw [B3];omega) (by rw [B3];omega) c3 hlen ih
     · rw [if_neg c3] at ht
       exact x6k (i5:=S % 1000000000) ht (wi ⟨hq' c3,by omega⟩) (w32 (by omega)) (hap _) rfl (wi (by omega))
        (by omega) (by rw [B3];omega) (by rw [B3];omega) (by omega) hlen ih
theorem q8p {xs ys:List Int} {sg:Int} (hsg:sg=1∨sg=-1) (hx:Wd xs) (hy:Wd ys) {N:Nat} (hN:N<35184372088832):∀ d i c zs,i+d=N→-1≤c∧c≤1→zs.length=i→Wd zs →
    ∃ c' zs',Lp E 1 B5 0 (C3 (Wr xs) (Wr ys) sg i c N i (Wr zs)) (.exit 0) (z3r N c' (Wr zs'))∧zs'.length=N∧Wd zs'∧(-1≤c'∧c'≤1) ∧
     wv zs'+pw N*(c'+wv (xs.drop N)+sg*wv (ys.drop N))=wv zs+pw i*(c+wv (xs.drop i)+sg*wv (ys.drop i))
 | 0,i,c,zs,hi,hc,hz,hw=>by
  have:i=N:=by omega
  subst this
  exact ⟨c,zs,x3h (by omega),hz,hw,hc,rfl⟩
 | d+1,i,c,zs,hi,hc,hz,hw=>by
  have ha:=hx.getD i
  have hb:=hy.getD i
  obtain ⟨p,ep⟩:∃ p,p=sg*ys.getD i 0:=⟨_,rfl⟩
  have hp:-1000000000<p∧p<1000000000:=by rcases hsg with rfl | rfl <;> omega
  obtain ⟨S,eS⟩:∃ S,S=c+xs.getD i 0+sg*ys.getD i 0:=⟨_,rfl⟩
  rw [← ep] at eS
  have hr:0≤S % 1000000000∧S % 1000000000<1000000000:=by omega
  obtain ⟨c',zs',h1,h2,h3,h4,h5⟩:=q8p hsg hx hy hN d (i+1) (S / 1000000000) (zs++[S % 1000000000]) (by omega) (by omega) (by simp [hz]) (hw.append (Wd.cons hr.1 hr.2 Wd.nil))
  refine ⟨c',zs',w1q hsg hx hy (by omega) hc hz (by omega) (by omega) (by rw [← ep,← eS];exact h1),h2,h3,h4,?_⟩
  rw [h5,y2h,hz,y1e xs i,y1e ys i,z5z]
  have e1:S % 1000000000=S-1000000000*(S / 1000000000):=by omega
  rw [e1,eS,ep]
  grind
theorem w1p {xs ys:List Int} {sg:Int} (hsg:sg=1∨sg=-1) (hx:Wd xs) (hy:Wd ys)(h1:xs.length<35184372088000)(h2:ys.length<35184372088000) :
    ∃ c zs,Fn E B5 [.c (.list (Wr xs)),.c (.list (Wr ys)),.c (.i64 sg)] (.c (.list (Wr (if c>0 then zs++[c] else zs))))∧zs.length=max xs.length ys.length∧Wd zs∧(-1≤c∧c≤1)∧wv zs+pw (max xs.length ys.length)*c=wv xs+sg*wv ys:=by
 obtain ⟨c,zs,k1,k2,k3,k4,k5⟩:=q8p (E:=E) hsg hx hy (N:=max xs.length ys.length) (by omega) (max xs.length ys.length) 0 0 [] (by omega) (by omega) rfl Wd.nil
 rw [drop_nil (xs:=xs) (by omega),drop_nil (xs:=ys) (by omega),List.drop_zero,List.drop_zero,x8c] at k5
 have e5:wv zs+pw (max xs.length ys.length)*c=wv xs+sg*wv ys:=by
  rw [show wv []=0 from rfl] at k5
  have:c+0+sg*0=c:=by omega
  rw [this] at k5
  omega
 have em:(if ((Wr ys).length:Int)>((Wr xs).length:Int) then ((Wr ys).length:Int) else ((Wr xs).length:Int))=((max xs.length ys.length:Nat):Int):=by
  rw [B3,B3];split <;> omega
 have hcap:0≤(0:Int)∧(0:Int)≤(xs.length:Int)+1∧(Int.toNat ((xs.length:Int)+1))*4≤140737488355328∧(Int.toNat ((xs.length:Int)+1))≤140737488355328:=by omega
 have tk:(Wr zs).take (max xs.length ys.length)=Wr zs:=by rw [← k2,z2d,List.take_length]
 refine ⟨c,zs,?_,k2,k3,k4,e5⟩
 by_cases hc:c>0
 · rw [if_pos hc]
   refine k7c (i1:=(xs.length:Int)+1) (i4:=c) (r3:=Wr (zs++[c])) (wi (by rw [B3];omega)) em (w32 (by omega)) (by rw [tk,x3v]) rfl ?_ hcap k1 hc (by omega)
   rw [z2d,List.take_of_length_le (by simp;omega)]
 · rw [if_neg hc]
   exact k7d (i1:=(xs.length:Int)+1) (wi (by rw [B3];omega)) em tk hcap k1 hc
theorem u4l {m n:Nat} (h1:(words m).length<35184372088000)(h2:(words n).length<35184372088000):Fn E z4o [.c (.list (Wr (words m))),.c (.list (Wr (words n)))] (.c (.list (Wr (words (m+n))))):=by
 obtain ⟨c,zs,k1,k2,k3,k4,k5⟩:=w1p (E:=E) (.inl rfl) (C0 m) (C0 n) h1 h2
 refine j1f ?_
 have hv:=B6 m
 have hv':=B6 n
 rw [hv,hv',Int.one_mul] at k5
 have hz:=y2g k3
 have hz0:=D4 k3
 have hpos:=z2p (max (words m).length (words n).length)
 rw [k2] at hz
 have hc0:0≤c:=by
  rcases Int.lt_or_le c 0 with h | h
  · have:c=-1:=by omega
    subst this
    rw [Int.mul_neg,Int.mul_one] at k5
    omega
  · exact h
 have e:(if c>0 then zs++[c] else zs)=words (m+n):=by
  have hval:wv (if c>0 then zs++[c] else zs)=((m+n:Nat):Int):=by
   split
   · rw [y2h,k2,k5];omega
   · have:c=0:=by omega
     subst this
     rw [Int.mul_zero] at k5;omega
  have hwd:Wd (if c>0 then zs++[c] else zs):=by
   split
   · exact k3.append (Wd.cons hc0 (by omega) Wd.nil)
   · exact k3
  rw [← show (((m+n:Nat):Int)).toNat=m+n from rfl,← hval]
  refine w1d hwd ?_
  split
  · exact Tr.snoc (by omega)
  · rename_i hn
    have hc:c=0:=by omega
    subst hc
    rw [Int.mul_zero] at k5
    intro hl
    by_cases hzn:zs=[]
    · rw [hzn] at hl;cases hl
    · obtain ⟨ys,y,rfl⟩:∃ ys y,zs=ys++[y]:=by
       rcases List.eq_nil_or_concat zs with h | ⟨ys,y,h⟩
       · exact absurd h hzn
       · exact ⟨ys,y,by rw [h,List.concat_eq_append]⟩
      have hy:y=0:=by simpa using hl
      subst hy
      rw [y2h,Int.mul_zero] at k5
      have h6:=y2g k3.left
      simp only [List.length_append,List.length_singleton] at k2
      have h7:wv ys+0=(m:Int)+n:=by omega
      rcases Nat.le_total (words m).length (words n).length with hmn | hmn
      · have hne:words n≠[]:=by intro h0;rw [h0] at k2 hmn;simp at hmn;rw [hmn] at k2;simp at k2
        have h8:=(z0n n).val_ge (C0 n) hne
        rw [hv',show (words n).length-1=ys.length by omega] at h8
        omega
      · have hne:words m≠[]:=by intro h0;rw [h0] at k2 hmn;simp at hmn;rw [hmn] at k2;simp at k2
        have h8:=(z0n m).val_ge (C0 m) hne
        rw [hv,show (words m).length-1=ys.length by omega] at h8
        omega
 rw [e] at k1
 exact k1
theorem u0t {m n:Nat} (h1:(words m).length<35184372088000) (hmn:n≤m):Fn E z3h [.c (.list (Wr (words m))),.c (.list (Wr (words n)))] (.c (.list (Wr (words (m-n))))):=by
 have hle:(words n).length≤(words m).length:=(z0n n).length_le (C0 n) (C0 m) (by rw [B6,B6];omega)
 obtain ⟨c,zs,k1,k2,k3,k4,k5⟩:=w1p (E:=E) (.inr rfl) (C0 m) (C0 n) h1 (by omega)
 rw [B6,B6] at k5
 have hz:=y2g k3
 have hz0:=D4 k3
 have hpos:=z2p (max (words m).length (words n).length)
 rw [k2] at hz
 have hm:=y2g (C0 m)
 rw [B6] at hm
 rw [Nat.max_eq_left hle] at k5 k2 hz hpos
 have hc:c=0:=by
  rcases Int.lt_trichotomy c 0 with h | h | h
  · have:c=-1:=by omega
    subst this
    rw [Int.mul_neg,Int.mul_one] at k5
    omega
  · exact h
  · have:c=1:=by omega
    subst this
    rw [Int.mul_one] at k5
    omega
 subst hc
 rw [if_neg (by decide)] at k1
 refine k7e k1 ?_
 have:=w9f (E:=E) k3 (by omega)
 rw [show (wv zs).toNat=m-n by omega] at this
 exact this
theorem y3u {xs:List Int} {i:Nat} (h:i<xs.length) (x:Int):(xs.set i x).getD i 0=x:=by
 rw [List.getD_eq_getElem?_getD,List.getElem?_set_self h];rfl
theorem O2 {xs:List Int} {i j:Nat} (h:i≠j) (x:Int):(xs.set i x).getD j 0=xs.getD j 0:=by
 rw [List.getD_eq_getElem?_getD,List.getD_eq_getElem?_getD,List.getElem?_set_ne h]
theorem k5u {x y:Int} (hx:0≤x∧x<1000000000) (hy:0≤y∧y<1000000000):0≤x*y∧x*y≤999999998000000001:=by
 constructor
 · exact Int.mul_nonneg hx.1 hy.1
 · have:=Int.mul_le_mul (show x≤999999999 by omega) (show y≤999999999 by omega) hy.1 (by decide)
   omega
theorem Wd.at {xs:List Int} (h:Wd xs) {i:Nat}:0≤xs.getD i 0∧xs.getD i 0<1000000000:=h.getD i
theorem alg1 {O O0 P K c T x y w S q r p:Int} (hv:O+P*K*c=O0+P*(x*T)) (ep:p=x*y) (hS:S=c+(p+w)) (hr:r+1000000000*q=S):O+P*K*(r-w)+1000000000*(P*K)*q=O0+P*(x*(T+K*y)):=by
 have e:r=c+x*y+w-1000000000*q:=by omega
 subst e
 grind
theorem alg2 {A x w S q r V:Int} (hS:S=r*1000000000+x) (hr:A+w*q=S):(q+1000000000*V)*w+A=x+1000000000*(V*w+r):=by
 have e:A=r*1000000000+x-w*q:=by omega
 subst e
 grind
theorem q2h {xs ys:List Int} (hy:Wd ys) {N i:Nat} {x:Int} (hx:0≤x∧x<1000000000) (hN:N<4611686018427387904) (hiN:i+ys.length≤N) {out0:List Int} :
    ∀ d k c out,k+d=ys.length→0≤c∧c<1000000000→Wd out→out.length=N→(∀ j,i+k≤j→out.getD j 0=out0.getD j 0) →
    wv out+pw (i+k)*c=wv out0+pw i*(x*wv (ys.take k)) →
    ∃ c' out',Lp E 1 D3 1 (z2o (Wr ys) N i x c (Wr xs) xs.length i (Wr ys) ys.length k (Wr out)) (.exit 2) (z8v (Wr ys) N i (Wr xs) xs.length i c' (Wr out')) ∧
     (0≤c'∧c'<1000000000)∧Wd out'∧out'.length=N∧(∀ j,i+ys.length≤j→out'.getD j 0=out0.getD j 0)∧wv out'+pw (i+ys.length)*c'=wv out0+pw i*(x*wv ys)
 | 0,k,c,out,hk,hc,hw,hl,hj,hv=>by
  have:k=ys.length:=by omega
  subst this
  rw [List.take_length] at hv
  exact ⟨c,out,x3q (by omega),hc,hw,hl,hj,hv⟩
 | d+1,k,c,out,hk,hc,hw,hl,hj,hv=>by
  have hyk:=hy.getD k
  obtain ⟨y,ey⟩:∃ y,y=ys.getD k 0:=⟨_,rfl⟩
  rw [← ey] at hyk
  have ho:=hw.getD (i+k)
  obtain ⟨w,ew⟩:∃ w,w=out.getD (i+k) 0:=⟨_,rfl⟩
  rw [← ew] at ho
  have hxy:=k5u hx hyk
  obtain ⟨p,ep⟩:∃ p,p=x*y:=⟨_,rfl⟩
  rw [← ep] at hxy
  obtain ⟨S,eS⟩:∃ S,S=c+(p+w):=⟨_,rfl⟩
  have hS:0≤S∧S≤999999999999999999:=by omega
  have hik:i+k<out.length:=by omega
  obtain ⟨c',out',k1,k2,k3,k4,k5,k6⟩:=q2h hy hx hN hiN (out0:=out0) d (k+1) (S / 1000000000) (out.set (i+k) (S % 1000000000)) (by omega) (by omega) (hw.set _ (by omega) (by omega)) (by simpa using hl)
   (fun j h=>by rw [O2 (by omega)];exact hj j (by omega)) (by
    rw [y4i out (i+k) hik,← ew,z2h ys k (by omega),← ey,← Nat.add_assoc,z5z,y4n]
    rw [y4n] at hv
    exact alg1 hv ep eS (Int.emod_add_mul_ediv S 1000000000))
  refine ⟨c',out',?_,k2,k3,k4,k5,k6⟩
  refine x6p (i8:=y) (i9:=x) (i10:=y) (i11:=p) (i12:=((i+k:Nat):Int)) (i13:=w) (i14:=w) (i15:=p+w) (i16:=S) (i17:=S % 1000000000) (i18:=S % 1000000000) (r5:=Wr (out.set (i+k) (S % 1000000000))) (i19:=S / 1000000000) (i20:=((k+1:Nat):Int))
   (wu (by omega)) (wu (by omega)) (wu (by omega)) (wi (by omega)) (wu (by omega)) (wu (by omega)) (wu (by omega)) (tmd hS.1 rfl) (w32 (by omega)) ?_ (wu ⟨tdv hS.1 rfl,by omega,by omega⟩) (wi (by omega))
   (by omega) (by omega) (by rw [ey];exact G1 (by omega)) (by omega) (by rw [ew];exact G1 hik) k1
  rw [Int.toNat_natCast,z7d]
theorem q2i {xs ys:List Int} (hx:Wd xs) (hy:Wd ys) {N:Nat} (hN:N<4611686018427387904) (hl:N=xs.length+ys.length) :
    ∀ d i out,i+d=xs.length→Wd out→out.length=N→(∀ j,i+ys.length≤j→out.getD j 0=0)→wv out=wv (xs.take i)*wv ys →
    ∃ out',Lp E 1 D3 0 (z2n (Wr ys) N (Wr xs) xs.length i (Wr out)) (.exit 0) (z8u N (Wr out'))∧Wd out'∧out'.length=N∧wv out'=wv xs*wv ys
 | 0,i,out,hi,hw,ho,_,hv=>by
  have:i=xs.length:=by omega
  subst this
  rw [List.take_length] at hv
  exact ⟨out,x3p (by omega),hw,ho,hv⟩
 | d+1,i,out,hi,hw,ho,hj,hv=>by
  have hxi:=hx.getD i
  obtain ⟨x,ex⟩:∃ x,x=xs.getD i 0:=⟨_,rfl⟩
  rw [← ex] at hxi
  obtain ⟨c',out1,k1,k2,k3,k4,k5,k6⟩:=q2h (E:=E) (xs:=xs) hy hxi hN (i:=i) (by omega) (out0:=out) ys.length 0 0 out (by omega) (by omega) hw ho (fun _ _=>rfl) (by simp [wv])
  have hik:i+ys.length<out1.length:=by omega
  have h0:out1.getD (i+ys.length) 0=0:=by rw [k5 _ (Nat.le_refl _)];exact hj _ (Nat.le_refl _)
  obtain ⟨out',g1,g2,g3,g4⟩:=q2i hx hy hN hl d (i+1) (out1.set (i+ys.length) c') (by omega) (k3.set _ k2.1 k2.2) (by simp [k4])
   (fun j h=>by rw [O2 (by omega),k5 j (by omega)];exact hj j (by omega)) (by
    rw [y4i out1 _ hik,h0,z2h xs i (by omega),← ex,Int.sub_zero,k6,hv]
    grind)
  refine ⟨out',?_,g2,g3,g4⟩
  refine x6o (i2:=x) (i3:=c') (r4:=Wr out1) (i4:=((i+ys.length:Nat):Int)) (i5:=c') (i6:=0) (r5:=Wr (out1.set (i+ys.length) c')) (i7:=((i+1:Nat):Int))
   (wi (by rw [B3];omega)) (w32 (by omega)) (by rw [Int.toNat_natCast,z7d]) (wi (by omega)) (by omega) (by omega) (by rw [ex];exact G1 (by omega)) (by rw [B3];exact k1) (by omega) (by rw [← h0];exact G1 hik) g1
theorem w9d {a b:Int} {m n:Nat} (ha:a=m) (hb:b=n):(a*b).toNat=m*n:=by
 rw [ha,hb,← Int.natCast_mul];rfl
theorem v1b {m n:Nat} (hl:(words m).length+(words n).length<35184372088000):∃ k xs,Rn E D3 [.c (.list (Wr (words m))),.c (.list (Wr (words n)))] [] (.vec 0 k) [some (.vec A4 (Wr xs))]∧xs.take k=words (m*n)∧k≤xs.length∧xs.length=(words m).length+(words n).length:=by
 obtain ⟨out,k1,k2,k3,k4⟩:=q2i (E:=E) (C0 m) (C0 n) (N:=(words m).length+(words n).length) (by omega) rfl (words m).length 0 (List.replicate ((words m).length+(words n).length) 0) (by omega) (Wd.replicate _) (by simp)
  (fun j _=>by rw [List.getD_eq_getElem?_getD,List.getElem?_replicate];split <;> rfl) (by rw [j0a];simp [wv])
 have ht:=x7i (E:=E) (ws:=out) (k:=(words m).length+(words n).length) (by omega) (by omega)
 have hw:=z2w k2 (k:=(words m).length+(words n).length) (by omega)
 rw [← k3,List.take_length,k4,w9d (B6 m) (B6 n),k3] at hw
 refine ⟨z2v out ((words m).length+(words n).length),out,?_,hw,by have:=j7v out ((words m).length+(words n).length);omega,k3⟩
 refine k7j (i0:=(((words m).length+(words n).length:Nat):Int)) (n0:=(words m).length+(words n).length) (r2:=Wr (List.replicate ((words m).length+(words n).length) 0)) (wi (by rw [B3,B3];omega)) (Int.toNat_natCast _) (z8o _ _) (by omega) ?_ ht
 rw [B3];exact k1
theorem u2y {m n:Nat} (hl:(words m).length+(words n).length<35184372088000):Fn E D3 [.c (.list (Wr (words m))),.c (.list (Wr (words n)))] (.c (.list (Wr (words (m*n))))):=by
 obtain ⟨k,xs,h,hk,_,_⟩:=v1b (E:=E) hl
 have:=h.toFn hTT E.hs hmm
 rwa [z2d,hk] at this
theorem w6i {xs:List Int} (hx:Wd xs) {N:Nat} (hN:xs.length=N) (hb:N<4611686018427387904) {w:Int} (hw:0<w∧w<1000000000):∀ k rest out,k≤N→0≤rest∧rest<w→Wd out→out.length=N →
    wv (out.drop k)*w+rest=wv (xs.drop k) →
    ∃ rest' out',Lp E 1 Y5 0 (z5x (Wr xs) w N rest ((k:Int)-1) (Wr out)) (.exit 0) (y3j N rest' (Wr out'))∧(0≤rest'∧rest'<w)∧Wd out'∧out'.length=N∧wv out'*w+rest'=wv xs
 | 0,rest,out,_,hr,ho,hl,hv=>by
  rw [List.drop_zero,List.drop_zero] at hv
  exact ⟨rest,out,x7z (by omega),hr,ho,hl,hv⟩
 | k+1,rest,out,hk,hr,ho,hl,hv=>by
  have ek:((k+1:Nat):Int)-1=(k:Int):=by omega
  rw [ek]
  have hxk:=hx.getD k
  obtain ⟨x,ex⟩:∃ x,x=xs.getD k 0:=⟨_,rfl⟩
  rw [← ex] at hxk
  obtain ⟨S,eS⟩:∃ S,S=rest*1000000000+x:=⟨_,rfl⟩
  have hS:0≤S∧S<w*1000000000:=by omega
  have hq0:0≤S / w:=Int.ediv_nonneg hS.1 (by omega)
  have hq:S / w<1000000000:=Int.ediv_lt_of_lt_mul (by omega) (by rw [Int.mul_comm];exact hS.2)
  have hm0:=Int.emod_nonneg S (show w≠0 by omega)
  have hm1:=Int.emod_lt_of_pos S (show 0<w by omega)
  have hdm:=Int.emod_add_mul_ediv S w
  have hkl:k<out.length:=by omega
  have hd:(out.set k (S / w)).drop (k+1)=out.drop (k+1):=List.drop_set_of_lt (Nat.lt_succ_self k)
  obtain ⟨rest',out',k1,k2,k3,k4,k5⟩:=w6i hx hN hb hw k (S % w) (out.set k (S / w)) (by omega) ⟨hm0,hm1⟩ (ho.set _ hq0 hq) (by simp [hl]) (by
   rw [y1e _ k,y1e xs k,← ex,y3u hkl,hd,← hv]
   exact alg2 eS hdm)
  refine ⟨rest',out',?_,k2,k3,k4,k5⟩
  exact k3j (i4:=rest*1000000000) (i5:=x) (i6:=x) (i7:=S) (i8:=S / w) (i9:=S / w) (i10:=out.getD k 0) (r3:=Wr (out.set k (S / w))) (i11:=S % w) (i12:=(k:Int)-1)
   (wu (by omega)) (wu (by omega)) (wu (by omega)) (wu ⟨tdv hS.1 rfl,hq0,by omega⟩) (w32 (by omega)) (by rw [Int.toNat_natCast,z7d]) (tmd hS.1 rfl) (wi (by omega))
   (by omega) (by omega) (by rw [ex];exact G1 (by omega)) (by omega) (by omega) (G1 hkl) k1
theorem by_ok {n w:Nat} (hw:0<w∧w<1000000000) (hl:(words n).length<35184372088000):Fn E Y5 [.c (.list (Wr (words n))),.c (.u64 w)] (.tup [.c (.list (Wr (words (n / w)))),.c (.list (Wr (words (n % w))))]):=by
 obtain ⟨rest,out,k1,k2,k3,k4,k5⟩:=w6i (E:=E) (C0 n) (N:=(words n).length) rfl (by omega) (w:=w) (by omega) (words n).length 0 (List.replicate (words n).length 0) (Nat.le_refl _) (by omega) (Wd.replicate _) (by simp)
  (by rw [drop_nil (by simp),drop_nil (Nat.le_refl _)];simp [wv])
 rw [B6] at k5
 have h0:=D4 k3
 obtain ⟨q,hq⟩:∃ q:Nat,wv out=q:=⟨(wv out).toNat,by omega⟩
 obtain ⟨r,hr⟩:∃ r:Nat,rest=r:=⟨rest.toNat,by omega⟩
 rw [hq,hr] at k5
 subst hr
 have hn:q*w+r=n:=by
  have:((q*w+r:Nat):Int)=n:=by rw [Int.natCast_add,Int.natCast_mul];exact k5
  omega
 have hrw:r<w:=by omega
 have e1:n / w=q:=by rw [← hn,Nat.mul_comm,Nat.mul_add_div (by omega),Nat.div_eq_of_lt hrw,Nat.add_zero]
 have e2:n % w=r:=by rw [← hn,Nat.mul_comm,Nat.mul_add_mod,Nat.mod_eq_of_lt hrw]
 rw [e1,e2]
 have ht:=x7i (E:=E) (ws:=out) (k:=(words n).length) (by omega) (by omega)
 have hw':=z2w k3 (k:=(words n).length) (by omega)
 rw [← k4,List.take_length,hq,k4] at hw'
 refine j8u (n0:=(words n).length) (r1:=Wr (List.replicate (words n).length 0)) (i1:=((words n).length:Int)-1) (i2:=(r:Int)) (r2:=Wr out) (r3:=Wr (words r)) (by rw [B3];rfl) (z8o _ _) (wi (by rw [B3];omega)) ?_ ?_ k1 ht (v5y (by omega))
 · rw [z2d];exact congrArg Wr hw'
 · rw [B3];omega
structure Dv (u v:List Int) (lu k j:Nat):Prop where
 hu:Wd u
 hv:Wd v
 elu:u.length=lu
 elv:v.length=k
 two:2≤k
 norm:1000000000≤2*v.getD (k-1) 0
 jk:j+k<lu
 small:lu<35184372088832
 low:wv (u.drop (j+1))<wv v
theorem Dv.vk {u v:List Int} {lu k j:Nat} (h:Dv u v lu k j):wv v<pw k:=by have:=y2g h.hv;rwa [h.elv] at this
theorem Dv.zero {u v:List Int} {lu k j:Nat} (h:Dv u v lu k j):wv (u.drop (j+k+1))=0:=w4h h.hu (Int.lt_trans h.low h.vk)
theorem Dv.vpos {u v:List Int} {lu k j:Nat} (h:Dv u v lu k j):0<wv v:=by
 have e:=x6z h.elv h.two
 have h1:=D4 (h.hv.take (k-2))
 have h2:=h.hv.getD (k-2)
 have h3:=h.norm
 have:0<(v.getD (k-1) 0*1000000000+v.getD (k-2) 0)*pw (k-2):=Int.mul_pos (by omega) (z2p _)
 omega
theorem w1r {m w1 w3 w4:RW} {lq lu k j:Nat} {u v:List Int} (D:Dv u v lu k j) (hw3:∀ i:Nat,i<k→w3[i]?=some [.u32 (v.getD i 0)]) :
    ∀ (t:Nat) (g rest:Int),0≤g→g<t→g≤1000000001→0≤rest∧rest<1000000000→g*v.getD (k-1) 0+rest=u.getD (j+k) 0*1000000000+u.getD (j+k-1) 0→wv (u.drop j)<(g+1)*wv v→(g=1000000001→rest+v.getD (k-1) 0<1000000000) →
    ∃ g',Lp E 5 A8 1 (H8 m lu k k lq j g rest w1 (Wr u) w3 w4) (.exit 3) (O6 m lu k k lq j w1 (Wr u) w3 w4 g')∧(0≤g'∧g'<1000000000)∧wv (u.drop j)<(g'+1)*wv v∧(g'-1)*wv v≤wv (u.drop j)
 | 0,g,rest,h0,ht,_,_,_,_,_=>by omega
 | t+1,g,rest,h0,ht,hg,hr,he,hX,hbig=>by
  have h2:=D.two
  have hjk:=D.jk
  have hsm:=D.small
  have hlu:=D.elu
  have a1:=D.hv.getD (k-1)
  have a2:=D.hv.getD (k-2)
  have b2:=D.hu.getD (j+k-2)
  have b1:=D.hu.getD (j+k-1)
  have b0:=D.hu.getD (j+k)
  have hnorm:=D.norm
  have eV:=x6z D.elv D.two
  have eX:=x4g (u:=u) (j:=j) (k:=k) D.two (by omega) D.zero
  have vl0:=D4 (D.hv.take (k-2))
  have vl1:=D.hv.val_take_lt (k-2) (by have:=D.elv;omega)
  have xl0:=D4 ((D.hu.drop j).take (k-2))
  have xl1:=(D.hu.drop j).val_take_lt (k-2) (by simp;omega)
  have hP:=z2p (k-2)
  have gk1:w3[Int.toNat ((k:Int)-1)]?=some [.u32 (v.getD (k-1) 0)]:=by
   rw [show Int.toNat ((k:Int)-1)=k-1 by omega];exact hw3 _ (by omega)
  have gk2:w3[Int.toNat ((k:Int)-2)]?=some [.u32 (v.getD (k-2) 0)]:=by
   rw [show Int.toNat ((k:Int)-2)=k-2 by omega];exact hw3 _ (by omega)
  have gu:(Wr u)[Int.toNat ((j:Int)+k-2)]?=some [.u32 (u.getD (j+k-2) 0)]:=by
   rw [show Int.toNat ((j:Int)+k-2)=j+k-2 by omega];exact G1 (by omega)
  obtain ⟨v1,e1⟩:∃ x,x=v.getD (k-1) 0:=⟨_,rfl⟩
  obtain ⟨v2,e2⟩:∃ x,x=v.getD (k-2) 0:=⟨_,rfl⟩
  obtain ⟨u2,e3⟩:∃ x,x=u.getD (j+k-2) 0:=⟨_,rfl⟩
  obtain ⟨top,e4⟩:∃ x,x=u.getD (j+k) 0*1000000000+u.getD (j+k-1) 0:=⟨_,rfl⟩
  rw [← e1] at a1 hnorm eV gk1 he hbig
  rw [← e2] at a2 eV gk2
  rw [← e3] at b2 eX gu
  rw [← e4] at eX he
  have hg2:0≤g*v2∧g*v2≤1000000001*999999999:=by
   constructor
   · exact Int.mul_nonneg h0 a2.1
   · exact Int.mul_le_mul hg (by omega) a2.1 (by decide)
  have down:1≤g→wv (u.drop j)<g*wv v→(g=1000000001→rest+v1<1000000000) →
      (¬ rest+v1≥1000000000→∃ g',Lp E 5 A8 1 (H8 m lu k k lq j (g-1) (rest+v1) w1 (Wr u) w3 w4) (.exit 3) (O6 m lu k k lq j w1 (Wr u) w3 w4 g')∧(0≤g'∧g'<1000000000)∧wv (u.drop j)<(g'+1)*wv v∧(g'-1)*wv v≤wv (u.drop j)) ∧
      (rest+v1≥1000000000→(0≤g-1∧g-1<1000000000)∧wv (u.drop j)<(g-1+1)*wv v∧(g-1-1)*wv v≤wv (u.drop j)):=by
   intro hg1 hlt hb
   have hmul:(g-1)*v1+(rest+v1)=top:=by
    have:(g-1)*v1=g*v1-v1:=by grind
    omega
   refine ⟨fun hc=>?_,fun hc=>?_⟩
   · refine w1r D hw3 t (g-1) (rest+v1) (by omega) (by omega) (by omega) (by omega) ?_ (by rw [show g-1+1=g by omega];exact hlt) (fun h=>by omega)
     rw [← e1,← e4];exact hmul
   · have hgB:g-1<1000000000:=by
      rcases Int.lt_or_le (g-1) 1000000000 with h | h
      · exact h
      · have:=hb (by omega);omega
     refine ⟨⟨by omega,hgB⟩,by rw [show g-1+1=g by omega];exact hlt,?_⟩
     refine x7t hP ⟨vl0,vl1⟩ xl0 eV eX hmul ⟨by omega,hgB⟩ ?_ hnorm a2.1
     have h5:(g-1)*v2≤999999999*999999999:=Int.mul_le_mul (by omega) (by omega) a2.1 (by decide)
     omega
  by_cases c1:g≥1000000000
  · have hlt:wv (u.drop j)<g*wv v:=by
     have h6:=X4 u j (by omega)
     have h7:=D.hu.getD j
     have h8:=D.low
     have h9:1000000000*wv v≤g*wv v:=Int.mul_le_mul_of_nonneg_right c1 (by have:=D.vpos;omega)
     omega
    obtain ⟨d1,d2⟩:=down (by omega) hlt hbig
    by_cases c2:rest+v1≥1000000000
    · obtain ⟨d3,d4,d5⟩:=d2 c2
      exact ⟨g-1,x1m (i6:=(k:Int)-1) (i7:=v1) (i8:=v1) (i9:=rest+v1) (wu (by omega)) (wi (by omega)) (wu (by omega)) (wu (by omega)) c1 (by omega) gk1 c2,d3,d4,d5⟩
    · obtain ⟨g',d3,d4⟩:=d1 c2
      exact ⟨g',x3k (i6:=(k:Int)-1) (i7:=v1) (i8:=v1) (wu (by omega)) (wi (by omega)) (wu (by omega)) (wu (by omega)) c1 (by omega) gk1 c2 d3,d4⟩
  · by_cases c3:g*v2>rest*1000000000+u2
    · have hlt:=v5p hP vl0 xl1 eV eX he h0 c3
      have hg1:1≤g:=by
       rcases Int.lt_or_le g 1 with h | h
       · have:g=0:=by omega
         subst this
         rw [Int.zero_mul] at c3
         omega
       · exact h
      obtain ⟨d1,d2⟩:=down hg1 hlt hbig
      by_cases c2:rest+v1≥1000000000
      · obtain ⟨d3,d4,d5⟩:=d2 c2
        exact ⟨g-1,x1n (i5:=(k:Int)-2) (i6:=v2) (i7:=v2) (i8:=g*v2) (i9:=rest*1000000000) (i10:=(j:Int)+k) (i11:=(j:Int)+k-2) (i12:=u2) (i13:=u2) (i14:=rest*1000000000+u2) (i16:=(k:Int)-1) (i17:=v1) (i18:=v1) (i19:=rest+v1)
         (wi (by omega)) (wu (by omega)) (wu (by omega)) (wu (by omega)) (wi (by omega)) (wi (by omega)) (wu (by omega)) (wu (by omega)) (wu (by omega)) (wi (by omega)) (wu (by omega)) (wu (by omega)) c1 (by omega) gk2 (by omega) gu c3 (by omega) gk1 c2,d3,d4,d5⟩
      · obtain ⟨g',d3,d4⟩:=d1 c2
        exact ⟨g',x3l (i5:=(k:Int)-2) (i6:=v2) (i7:=v2) (i8:=g*v2) (i9:=rest*1000000000) (i10:=(j:Int)+k) (i11:=(j:Int)+k-2) (i12:=u2) (i13:=u2) (i14:=rest*1000000000+u2) (i16:=(k:Int)-1) (i17:=v1) (i18:=v1)
         (wi (by omega)) (wu (by omega)) (wu (by omega)) (wu (by omega)) (wi (by omega)) (wi (by omega)) (wu (by omega)) (wu (by omega)) (wu (by omega)) (wi (by omega)) (wu (by omega)) (wu (by omega)) c1 (by omega) gk2 (by omega) gu c3 (by omega) gk1 c2 d3,d4⟩
    · refine ⟨g,x1o (i5:=(k:Int)-2) (i6:=v2) (i7:=v2) (i8:=g*v2) (i9:=rest*1000000000) (i10:=(j:Int)+k) (i11:=(j:Int)+k-2) (i12:=u2) (i13:=u2) (i14:=rest*1000000000+u2)
          (wi (by omega)) (wu (by omega)) (wu (by omega)) (wu (by omega)) (wi (by omega)) (wi (by omega)) (wu (by omega)) (wu (by omega)) c1 (by omega) gk2 (by omega) gu c3,⟨h0,by omega⟩,hX,?_⟩
      exact x7t hP ⟨vl0,vl1⟩ xl0 eV eX he ⟨h0,by omega⟩ (by omega) hnorm a2.1
theorem u0w {m w1 w3 w4:RW} {lq lu k j:Nat} {u v:List Int} (D:Dv u v lu k j) (hw3:∀ i:Nat,i<k→w3[i]?=some [.u32 (v.getD i 0)]) {g:Int} (hg:0≤g∧g<1000000000) :
    ∀ d i c b u',i+d=k→0≤c∧c<1000000000→b=0∨b=1→Wd u'→u'.length=lu→(∀ n,n<j∨j+i≤n→u'.getD n 0=u.getD n 0)→wv u'=wv u-pw j*(g*wv (v.take i))+pw j*pw i*(c+b) →
    ∃ c' b' u'',Lp E 5 A8 2 (H9 m lu k k lq j g c b k i w1 (Wr u') w3 w4) (.exit 5) (Z9 m lu k k lq j g w1 w3 w4 c' b' (Wr u''))∧(0≤c'∧c'<1000000000)∧(b'=0∨b'=1)∧Wd u''∧u''.length=lu∧(∀ n,n<j∨j+k≤n→u''.getD n 0=u.getD n 0)∧wv u''=wv u-pw j*(g*wv v)+pw j*pw k*(c'+b')
 | 0,i,c,b,u',hi,hc,hb,hw,hl,hn,hv=>by
  have:i=k:=by omega
  subst this
  have:=D.elv
  rw [List.take_of_length_le (by omega)] at hv
  exact ⟨c,b,u',x1p (by omega),hc,hb,hw,hl,hn,hv⟩
 | d+1,i,c,b,u',hi,hc,hb,hw,hl,hn,hv=>by
  have hjk:=D.jk
  have hsm:=D.small
  have a0:=D.hv.getD i
  have b0:=hw.getD (i+j)
  have gk:w3[Int.toNat (i:Int)]?=some [.u32 (v.getD i 0)]:=hw3 i (by omega)
  have gu:(Wr u')[Int.toNat ((i+j:Nat):Int)]?=some [.u32 (u'.getD (i+j) 0)]:=G1 (by omega)
  have et:=z2h v i (by have:=D.elv;omega)
  have es:=y4i u' (i+j) (by omega)
  obtain ⟨x,ex⟩:∃ x,x=v.getD i 0:=⟨_,rfl⟩
  obtain ⟨w,ew⟩:∃ w,w=u'.getD (i+j) 0:=⟨_,rfl⟩
  rw [← ex] at a0 gk et
  rw [← ew] at b0 gu es
  have hgx:0≤g*x∧g*x≤999999998000000001:=k5u hg a0
  obtain ⟨S,eS⟩:∃ S,S=g*x+c:=⟨_,rfl⟩
  have hS:0≤S∧S≤999999999000000000:=by omega
  obtain ⟨dd,ed⟩:∃ dd,dd=w-S % 1000000000-b:=⟨_,rfl⟩
  have key:∀ b' d',d'=dd+1000000000*b'→0≤d'∧d'<1000000000→(b'=0∨b'=1) →
      (∀ {c2:Int} {st:St},Lp E 5 A8 2 (H9 m lu k k lq j g (S / 1000000000) b' k ((i+1:Nat):Int) w1 (Wr (u'.set (i+j) d')) w3 w4) (.exit 5) st→Lp E 5 A8 2 (H9 m lu k k lq j g c b k i w1 (Wr u') w3 w4) (.exit 5) st) →
      ∃ c' b' u'',Lp E 5 A8 2 (H9 m lu k k lq j g c b k i w1 (Wr u') w3 w4) (.exit 5) (Z9 m lu k k lq j g w1 w3 w4 c' b' (Wr u''))∧(0≤c'∧c'<1000000000)∧(b'=0∨b'=1)∧Wd u''∧u''.length=lu∧(∀ n,n<j∨j+k≤n→u''.getD n 0=u.getD n 0)∧wv u''=wv u-pw j*(g*wv v)+pw j*pw k*(c'+b'):=by
   intro b' d' hd' hd0 hb' hstep
   obtain ⟨c2,b2,u2,k1,k2⟩:=u0w D hw3 hg d (i+1) (S / 1000000000) b' (u'.set (i+j) d') (by omega) (by omega) hb' (hw.set _ hd0.1 hd0.2) (by simpa using hl)
    (fun n h=>by rw [O2 (by omega)];exact hn n (by omega)) (by
     rw [es d',et,z5z,show i+j=j+i by omega,y4n]
     have:=w3z hv eS (Int.emod_add_mul_ediv S 1000000000) ed hd'
     rw [this];grind)
   exact ⟨c2,b2,u2,hstep (c2:=0) k1,k2⟩
  by_cases c1:dd<0
  · refine key 1 (dd+1000000000) (by omega) (by omega) (.inr rfl) fun k1=>?_
    exact x3m (i9:=g) (i10:=x) (i11:=x) (i12:=g*x) (i13:=S) (i14:=S / 1000000000) (i15:=((i+j:Nat):Int)) (i16:=w) (i17:=w) (i18:=S % 1000000000) (i19:=w-S % 1000000000) (i20:=dd) (i21:=dd+1000000000) (i22:=dd+1000000000) (r6:=Wr (u'.set (i+j) (dd+1000000000))) (i23:=((i+1:Nat):Int))
     (wi (by omega)) (wi (by omega)) (wi (by omega)) (wi (by omega)) (wi ⟨tdv hS.1 rfl,by omega,by omega⟩) (wi (by omega)) (wi (by omega)) (tmd hS.1 rfl) (wi (by omega)) (wi (by omega)) (wi (by omega)) (w32 (by omega)) (by rw [Int.toNat_natCast,z7d]) (wi (by omega))
     (by omega) (by omega) gk (by omega) gu c1 k1
  · refine key 0 dd (by omega) (by omega) (.inl rfl) fun k1=>?_
    exact x3n (i9:=g) (i10:=x) (i11:=x) (i12:=g*x) (i13:=S) (i14:=S / 1000000000) (i15:=((i+j:Nat):Int)) (i16:=w) (i17:=w) (i18:=S % 1000000000) (i19:=w-S % 1000000000) (i20:=dd) (i21:=dd) (r7:=Wr (u'.set (i+j) dd)) (i24:=((i+1:Nat):Int))
     (wi (by omega)) (wi (by omega)) (wi (by omega)) (wi (by omega)) (wi ⟨tdv hS.1 rfl,by omega,by omega⟩) (wi (by omega)) (wi (by omega)) (tmd hS.1 rfl) (wi (by omega)) (wi (by omega)) (w32 (by omega)) (by rw [Int.toNat_natCast,z7d]) (wi (by omega))
     (by omega) (by omega) gk (by omega) gu c1 k1
theorem u0u {m w1 w3 w4:RW} {lq lu k j:Nat} {u v:List Int} (D:Dv u v lu k j) (hw3:∀ i:Nat,i<k→w3[i]?=some [.u32 (v.getD i 0)]) {g last:Int} {u1:List Int} :
    ∀ d i up u',i+d=k→0≤up∧up≤1→Wd u'→u'.length=lu→(∀ n,n<j∨j+i≤n→u'.getD n 0=u1.getD n 0)→wv u'=wv u1+pw j*wv (v.take i)-pw j*pw i*up →
    ∃ up' u'',Lp E 5 A8 3 (z1c m lu k k lq j g last up k i w1 (Wr u') w3 w4) (.exit 7) (z6k m lu k k lq j g last w1 w3 w4 up' (Wr u''))∧(0≤up'∧up'≤1)∧Wd u''∧u''.length=lu∧(∀ n,n<j∨j+k≤n→u''.getD n 0=u1.getD n 0)∧wv u''=wv u1+pw j*wv v-pw j*pw k*up'
 | 0,i,up,u',hi,hc,hw,hl,hn,hv=>by
  have:i=k:=by omega
  subst this
  have:=D.elv
  rw [List.take_of_length_le (by omega)] at hv
  exact ⟨up,u',x1q (by omega),hc,hw,hl,hn,hv⟩
 | d+1,i,up,u',hi,hc,hw,hl,hn,hv=>by
  have hjk:=D.jk
  have hsm:=D.small
  have a0:=D.hv.getD i
  have b0:=hw.getD (i+j)
  have gk:w3[Int.toNat (i:Int)]?=some [.u32 (v.getD i 0)]:=hw3 i (by omega)
  have gu:(Wr u')[Int.toNat ((i+j:Nat):Int)]?=some [.u32 (u'.getD (i+j) 0)]:=G1 (by omega)
  have et:=z2h v i (by have:=D.elv;omega)
  have es:=y4i u' (i+j) (by omega)
  obtain ⟨x,ex⟩:∃ x,x=v.getD i 0:=⟨_,rfl⟩
  obtain ⟨w,ew⟩:∃ w,w=u'.getD (i+j) 0:=⟨_,rfl⟩
  rw [← ex] at a0 gk et
  rw [← ew] at b0 gu es
  obtain ⟨S,eS⟩:∃ S,S=up+(w+x):=⟨_,rfl⟩
  have hS:0≤S∧S≤1999999999:=by omega
  obtain ⟨up2,u2,k1,k2⟩:=u0u (g:=g) (last:=last) D hw3 (u1:=u1) d (i+1) (S / 1000000000) (u'.set (i+j) (S % 1000000000)) (by omega) (by omega) (hw.set _ (by omega) (by omega)) (by simpa using hl)
   (fun n h=>by rw [O2 (by omega)];exact hn n (by omega)) (by
    rw [es,et,z5z,show i+j=j+i by omega,y4n]
    have:=w0n hv eS (Int.emod_add_mul_ediv S 1000000000)
    rw [this];grind)
  refine ⟨up2,u2,?_,k2⟩
  exact x3o (i8:=((i+j:Nat):Int)) (i9:=w) (i10:=w) (i11:=x) (i12:=x) (i13:=w+x) (i14:=S) (i15:=S % 1000000000) (i16:=S % 1000000000) (r6:=Wr (u'.set (i+j) (S % 1000000000))) (i17:=S / 1000000000) (i18:=((i+1:Nat):Int))
   (wi (by omega)) (wu (by omega)) (wu (by omega)) (wu (by omega)) (wu (by omega)) (tmd hS.1 rfl) (w32 (by omega)) (by rw [Int.toNat_natCast,z7d]) (wu ⟨tdv hS.1 rfl,by omega,by omega⟩) (wi (by omega))
   (by omega) (by omega) gu (by omega) gk k1
theorem u5e {xs ys:List Int} (hl:xs.length=ys.length) (j:Nat) (h:∀ n,n<j→xs.getD n 0=ys.getD n 0):xs.take j=ys.take j:=by
 induction j with
 | zero=>simp
 | succ j ih =>
  rcases Nat.lt_or_ge j xs.length with hj | hj
  · rw [k6b xs j hj,k6b ys j (by omega),ih (fun n hn=>h n (by omega)),h j (by omega)]
  · rw [List.take_of_length_le (by omega),List.take_of_length_le (by omega)]
    rw [List.take_of_length_le hj,List.take_of_length_le (by omega)] at ih
    exact ih fun n hn=>h n (by omega)
theorem w5c {p a b:Int} (hp:0<p) (h:p*a=p*b):a=b:=Int.eq_of_mul_eq_mul_left (by omega) h
theorem y9p {xs ys:List Int} (hl:xs.length=ys.length) {j:Nat} (hj:j≤xs.length) (h:∀ n,n<j→xs.getD n 0=ys.getD n 0) {T:Int} (hv:wv xs=wv ys-pw j*T):wv (xs.drop j)=wv (ys.drop j)-T:=by
 have e1:=H1 xs j hj
 have e2:=H1 ys j (by omega)
 rw [u5e hl j h] at e1
 refine w5c (z2p j) ?_
 rw [Int.mul_sub]
 omega
theorem u0v {m w1 w3:RW} {lq lu k j:Nat} {u v q:List Int} (D:Dv u v lu k j) (hw3:∀ i:Nat,i<k→w3[i]?=some [.u32 (v.getD i 0)]) (hq:q.length=lq) (hj:j<lq) :
    ∃ u' g,(∀ {o:Out} {st:St},Lp E 5 A8 0 (J8 m lu k k lq ((j:Int)-1) w1 (Wr u') w3 (Wr (q.set j g))) o st→Lp E 5 A8 0 (J8 m lu k k lq j w1 (Wr u) w3 (Wr q)) o st) ∧
     (0≤g∧g<1000000000)∧Wd u'∧u'.length=lu∧wv u'=wv u-pw j*(g*wv v)∧0≤wv (u'.drop j)∧wv (u'.drop j)<wv v:=by
 have h2:=D.two
 have hjk:=D.jk
 have hsm:=D.small
 have hlu:=D.elu
 have hlv:=D.elv
 have hnorm:=D.norm
 have hV:=D.vpos
 have hVk:=D.vk
 have a1:=D.hv.getD (k-1)
 have b1:=D.hu.getD (j+k-1)
 have b0:=D.hu.getD (j+k)
 have bj:=D.hu.getD j
 have hlow:=D.low
 have hz:=D.zero
 have eX1:=X4 u j (by omega)
 obtain ⟨v1,e1⟩:∃ x,x=v.getD (k-1) 0:=⟨_,rfl⟩
 obtain ⟨u0,e3⟩:∃ x,x=u.getD (j+k) 0:=⟨_,rfl⟩
 obtain ⟨u1',e4⟩:∃ x,x=u.getD (j+k-1) 0:=⟨_,rfl⟩
 obtain ⟨top,et⟩:∃ x,x=u0*1000000000+u1':=⟨_,rfl⟩
 have gk1:w3[Int.toNat ((k:Int)-1)]?=some [.u32 v1]:=by
  rw [show Int.toNat ((k:Int)-1)=k-1 by omega,e1];exact hw3 _ (by omega)
 have gu0:(Wr u)[Int.toNat ((j:Int)+k)]?=some [.u32 u0]:=by
  rw [show Int.toNat ((j:Int)+k)=j+k by omega,e3];exact G1 (by omega)
 have gu1:(Wr u)[Int.toNat ((j:Int)+k-1)]?=some [.u32 u1']:=by
  rw [show Int.toNat ((j:Int)+k-1)=j+k-1 by omega,e4];exact G1 (by omega)
 rw [← e1] at a1 hnorm
 rw [← e3] at b0
 rw [← e4] at b1
 have htop:0≤top:=by omega
 have hdm:=Int.emod_add_mul_ediv top v1
 have hr0:=Int.emod_nonneg top (show v1≠0 by omega)
 have hr1:=Int.emod_lt_of_pos top (show 0<v1 by omega)
 have hg0:0≤top / v1:=Int.ediv_nonneg htop (by omega)
 have hmul:top / v1*v1+top % v1=top:=by rw [Int.mul_comm];omega
 have hX3:=x4g (u:=u) (j:=j) (k:=k) h2 (by omega) hz
 rw [← e3,← e4,← et] at hX3
 have hV2:=x6z hlv h2
 rw [← e1] at hV2
 have a2:=D.hv.getD (k-2)
 have vl1:=D.hv.val_take_lt (k-2) (by omega)
 have xl0:=D4 ((D.hu.drop j).take (k-2))
 have hP:=z2p (k-2)
 have b2:=D.hu.getD (j+k-2)
 have hu0:u0≤v1:=by
  rcases Int.lt_or_le v1 u0 with h | h
  · exfalso
    have e5:=H1 (u.drop (j+1)) (k-1) (by simp;omega)
    rw [List.drop_drop,show j+1+(k-1)=j+k by omega,X4 u (j+k) (by omega),hz,← e3] at e5
    have h6:=D4 ((D.hu.drop (j+1)).take (k-1))
    have e7:=H1 v (k-1) (by omega)
    rw [X4 v (k-1) (by omega),← e1,show k-1+1=k by omega,List.drop_eq_nil_of_le (by omega),show wv []=0 from rfl] at e7
    have h8:=D.hv.val_take_lt (k-1) (by omega)
    have h9:pw (k-1)*(v1+1)≤pw (k-1)*u0:=Int.mul_le_mul_of_nonneg_left (by omega) (by have:=z2p (k-1);omega)
    rw [Int.mul_add,Int.mul_one] at h9
    simp at e5 e7
    omega
  · exact h
 have hgB:top / v1≤1000000001:=by
  have:top / v1<1000000002:=Int.ediv_lt_of_lt_mul (by omega) (by omega)
  omega
 have hbig:top / v1=1000000001→top % v1+v1<1000000000:=by
  intro h
  rw [h] at hmul
  omega
 have hXg:wv (u.drop j)<(top / v1+1)*wv v:=by
  have h5:top+1≤(top / v1+1)*v1:=by
   have:(top / v1+1)*v1=top / v1*v1+v1:=by grind
   omega
  have h6:=Int.mul_le_mul_of_nonneg_right h5 (show 0≤1000000000*pw (k-2) by omega)
  have h7:(top / v1+1)*(v1*(1000000000*pw (k-2)))≤(top / v1+1)*wv v:=by
   refine Int.mul_le_mul_of_nonneg_left ?_ (by omega)
   have h8:(v1*1000000000+v.getD (k-2) 0)*pw (k-2)=v1*(1000000000*pw (k-2))+v.getD (k-2) 0*pw (k-2):=by grind
   have h9:0≤v.getD (k-2) 0*pw (k-2):=Int.mul_nonneg a2.1 (by omega)
   have h10:=D4 (D.hv.take (k-2))
   omega
  have h8:(top / v1+1)*v1*(1000000000*pw (k-2))=(top / v1+1)*(v1*(1000000000*pw (k-2))):=by grind
  have h9:(top+1)*(1000000000*pw (k-2))=top*1000000000*pw (k-2)+1000000000*pw (k-2):=by grind
  have h10:(top*1000000000+u.getD (j+k-2) 0)*pw (k-2)=top*1000000000*pw (k-2)+u.getD (j+k-2) 0*pw (k-2):=by grind
  have h11:u.getD (j+k-2) 0*pw (k-2)≤999999999*pw (k-2):=Int.mul_le_mul_of_nonneg_right (by omega) (by omega)
  have h12:=(D.hu.drop j).val_take_lt (k-2) (by simp;omega)
  omega
 obtain ⟨g,k1,k2,k3,k4⟩:=w1r (E:=E) (m:=m) (w1:=w1) (w4:=Wr q) (lq:=lq) D hw3 1000000002 (top / v1) (top % v1) hg0 (by omega) hgB ⟨hr0,by omega⟩ (by rw [← e1,← e3,← e4,← et];exact hmul) hXg (by rw [← e1];exact hbig)
 obtain ⟨c,b,us,s1,s2,s3,s4,s5,s6,s7⟩:=u0w (E:=E) (m:=m) (w1:=w1) (w4:=Wr q) (lq:=lq) D hw3 k2 k 0 0 0 u (by omega) (by omega) (.inl rfl) D.hu D.elu (fun _ _=>rfl) (by simp [wv])
 have hsu:us.getD (j+k) 0=u0:=by rw [s6 _ (.inr (Nat.le_refl _)),← e3]
 have gs0:(Wr us)[Int.toNat ((j:Int)+k)]?=some [.u32 u0]:=by
  rw [show Int.toNat ((j:Int)+k)=j+k by omega,← hsu];exact G1 (by omega)
 obtain ⟨last,hlast⟩:∃ x,x=u0-c-b:=⟨_,rfl⟩
 have hset:=y4i us (j+k) (by omega)
 rw [hsu] at hset
 have sv:wv us=wv u-pw j*(g*wv v-pw k*(c+b)):=by rw [s7];grind
 have sd:=y9p (xs:=us) (ys:=u) (by omega) (j:=j) (by omega) (fun n hn=>s6 n (.inl hn)) sv
 have sk:=H1 (us.drop j) k (by simp;omega)
 have sz:wv (us.drop (j+k+1))=0:=by
  have h0:wv (us.drop (j+k+1))=wv (u.drop (j+k+1)):=by
   congr 1
   apply List.ext_getElem?
   intro i
   rw [List.getElem?_drop,List.getElem?_drop]
   rcases Nat.lt_or_ge (j+k+1+i) lu with h | h
   · rw [getD_some (by omega),getD_some (by omega),s6 _ (.inr (by omega))]
   · rw [List.getElem?_eq_none (by omega),List.getElem?_eq_none (by omega)]
  rw [h0];exact hz
 rw [List.drop_drop,X4 us (j+k) (by omega),sz,hsu] at sk
 have sk0:=D4 ((s4.drop j).take k)
 have sk1:=(s4.drop j).val_take_lt k (by simp;omega)
 have hpk:=z2p k
 have hpj:=z2p j
 have wj:((j:Int)+k)=((j+k:Nat):Int):=by omega
 have gq:(Wr q)[Int.toNat (j:Int)]?=some [.u32 (q.getD j 0)]:=G1 (by omega)
 have hXV:(g+1)*wv v=g*wv v+wv v:=by grind
 by_cases c1:last<0
 · -- once too often
   have hneg:wv (u.drop j)<g*wv v:=by
    have h5:pw k*last≤pw k*(-1):=Int.mul_le_mul_of_nonneg_left (by omega) (by omega)
    have h6:pw k*last=pw k*u0-pw k*(c+b):=by rw [hlast];grind
    simp at sk
    omega
   have hg1:1≤g:=by
    rcases Int.lt_or_le g 1 with h | h
    · have:g=0:=by omega
      subst this
      have:=D4 (D.hu.drop j)
      omega
    · exact h
   obtain ⟨up,ua,t1,t2,t3,t4,t5,t6⟩:=u0u (E:=E) (m:=m) (w1:=w1) (w4:=Wr q) (lq:=lq) (g:=g-1) (last:=last) D hw3 (u1:=us) k 0 0 us (by omega) (by omega) s4 s5 (fun _ _=>rfl) (by simp [wv])
   have hau:ua.getD (j+k) 0=u0:=by rw [t5 _ (.inr (Nat.le_refl _)),hsu]
   have ga0:(Wr ua)[Int.toNat ((j:Int)+k)]?=some [.u32 u0]:=by
    rw [show Int.toNat ((j:Int)+k)=j+k by omega,← hau];exact G1 (by omega)
   have hset2:=y4i ua (j+k) (by omega)
   rw [hau] at hset2
   have tv:wv ua=wv u-pw j*((g-1)*wv v-pw k*(c+b)+pw k*up):=by rw [t6,s7];grind
   have td:=y9p (xs:=ua) (ys:=u) (by omega) (j:=j) (by omega) (fun n hn=>by rw [t5 n (.inl hn)];exact s6 n (.inl hn)) tv
   have tk:=H1 (ua.drop j) k (by simp;omega)
   have tz:wv (ua.drop (j+k+1))=0:=by
    have h0:wv (ua.drop (j+k+1))=wv (us.drop (j+k+1)):=by
     congr 1
     apply List.ext_getElem?
     intro i
     rw [List.getElem?_drop,List.getElem?_drop]
     rcases Nat.lt_or_ge (j+k+1+i) lu with h | h
     · rw [getD_some (by omega),getD_some (by omega),t5 _ (.inr (by omega))]
     · rw [List.getElem?_eq_none (by omega),List.getElem?_eq_none (by omega)]
    rw [h0];exact sz
   rw [List.drop_drop,X4 ua (j+k) (by omega),tz,hau] at tk
   have tk0:=D4 ((t3.drop j).take k)
   have tk1:=(t3.drop j).val_take_lt k (by simp;omega)
   have hg1V:(g-1)*wv v=g*wv v-wv v:=by grind
   have hzero:last+up=0:=by
    have h5:pw k*(last+up)=pw k*u0-pw k*(c+b)+pw k*up:=by rw [hlast];grind
    have h6:-pw k<pw k*(last+up)∧pw k*(last+up)<pw k:=by
     simp at tk
     omega
    rcases Int.lt_trichotomy (last+up) 0 with h | h | h
    · have:pw k*(last+up)≤pw k*(-1):=Int.mul_le_mul_of_nonneg_left (by omega) (by omega)
      omega
    · exact h
    · have:pw k*1≤pw k*(last+up):=Int.mul_le_mul_of_nonneg_left (by omega) (by omega)
      omega
   have hfin:wv (ua.set (j+k) 0)=wv u-pw j*((g-1)*wv v):=by
    rw [hset2,tv,y4n]
    have:u0=c+b-up:=by omega
    rw [this];grind
   have hd:=y9p (xs:=ua.set (j+k) 0) (ys:=u) (by simp;omega) (j:=j) (by simp;omega) (fun n hn=>by rw [O2 (by omega),t5 n (.inl hn)];exact s6 n (.inl hn)) hfin
   refine ⟨ua.set (j+k) 0,g-1,fun {o} {st} ih=>?_,by omega,t3.set _ (by omega) (by omega),by simpa using t4,hfin,?_,?_⟩
   · exact x3i (i2:=(j:Int)+k) (i3:=u0) (i4:=u0) (i5:=u0*1000000000) (i6:=(j:Int)+k-1) (i7:=u1') (i8:=u1') (i9:=top) (i10:=(k:Int)-1) (i11:=v1) (i12:=v1) (i13:=top / v1) (i14:=top % v1) (i15:=g) (i16:=c) (i17:=b) (r7:=Wr us) (i18:=u0) (i19:=u0) (i20:=u0-c) (i21:=last) (i22:=g-1) (i23:=up) (r8:=Wr ua) (i24:=up) (i25:=0) (i26:=0) (i27:=0) (i28:=u0) (r9:=Wr (ua.set (j+k) 0)) (i29:=g-1) (i30:=q.getD j 0) (r10:=Wr (q.set j (g-1))) (i31:=(j:Int)-1)
      (wi (by omega)) (wu (by omega)) (wu (by omega)) (wi (by omega)) (wu (by omega)) (wu (by omega)) (wi (by omega)) (wu (by omega)) (wu ⟨tdv htop rfl,hg0,by omega⟩) (tmd htop rfl) (wi (by omega)) (wi (by omega)) (wi (by omega)) (wu (by omega)) (wi (by omega)) (wi (by omega)) (by simp) (w32 (by omega)) (by rw [wj,Int.toNat_natCast,z7d]) (w32 (by omega)) (by rw [Int.toNat_natCast,z7d]) (wi (by omega))
      (by omega) (by omega) gu0 (by omega) gu1 (by omega) gk1 (by omega) k1 s1 gs0 c1 t1 ga0 (by omega) gq ih
   · rw [hd];omega
   · rw [hd];omega
 · have hfin:wv (us.set (j+k) last)=wv u-pw j*(g*wv v):=by
    rw [hset,sv,y4n,hlast];grind
   have hd:=y9p (xs:=us.set (j+k) last) (ys:=u) (by simp;omega) (j:=j) (by simp;omega) (fun n hn=>by rw [O2 (by omega)];exact s6 n (.inl hn)) hfin
   refine ⟨us.set (j+k) last,g,fun {o} {st} ih=>?_,k2,s4.set _ (by omega) (by omega),by simpa using s5,hfin,?_,?_⟩
   · exact x3j (i2:=(j:Int)+k) (i3:=u0) (i4:=u0) (i5:=u0*1000000000) (i6:=(j:Int)+k-1) (i7:=u1') (i8:=u1') (i9:=top) (i10:=(k:Int)-1) (i11:=v1) (i12:=v1) (i13:=top / v1) (i14:=top % v1) (i15:=g) (i16:=c) (i17:=b) (r7:=Wr us) (i18:=u0) (i19:=u0) (i20:=u0-c) (i21:=last) (i22:=last) (i23:=last) (r8:=Wr (us.set (j+k) last)) (i24:=g) (i25:=q.getD j 0) (r11:=Wr (q.set j g)) (i27:=(j:Int)-1)
      (wi (by omega)) (wu (by omega)) (wu (by omega)) (wi (by omega)) (wu (by omega)) (wu (by omega)) (wi (by omega)) (wu (by omega)) (wu ⟨tdv htop rfl,hg0,by omega⟩) (tmd htop rfl) (wi (by omega)) (wi (by omega)) (wi (by omega)) (if_neg (by omega)) (w32 (by omega)) (by rw [wj,Int.toNat_natCast,z7d]) (w32 (by omega)) (by rw [Int.toNat_natCast,z7d]) (wi (by omega))
      (by omega) (by omega) gu0 (by omega) gu1 (by omega) gk1 (by omega) k1 s1 gs0 c1 (by omega) gq ih
   · have h5:=D4 ((s4.set (j+k) (show 0≤last by omega) (by omega)).drop j)
     exact h5
   · rw [hd];omega
theorem w6v {m w1 w3:RW} {lq lu k:Nat} {v:List Int} (hv:Wd v) (hlv:v.length=k)(h2:2≤k) (hn:1000000000≤2*v.getD (k-1) 0) (hsm:lu<35184372088832) (hw3:∀ i:Nat,i<k→w3[i]?=some [.u32 (v.getD i 0)]) :
    ∀ j u q,Wd u→u.length=lu→Wd q→q.length=lq→j≤lq→(0<j→j-1+k<lu)→wv (u.drop j)<wv v →
    ∃ u' q',Lp E 5 A8 0 (J8 m lu k k lq ((j:Int)-1) w1 (Wr u) w3 (Wr q)) (.exit 1) (z6j m lu k lq w1 w3 (Wr u') (Wr q'))∧Wd u'∧u'.length=lu∧Wd q'∧q'.length=lq∧wv u'<wv v∧wv u'+wv v*wv q'=wv u+wv v*(pw j*wv (q.drop j))
 | 0,u,q,hu,hlu,hq,hlq,_,_,hlow=>⟨u,q,x1l (by omega),hu,hlu,hq,hlq,by simpa using hlow,by simp [x8c]⟩
 | j+1,u,q,hu,hlu,hq,hlq,hj,hjk,hlow=>by
  have D:Dv u v lu k j:=⟨hu,hv,hlu,hlv,h2,hn,by have:=hjk (by omega);omega,hsm,hlow⟩
  obtain ⟨u1,g,st,hg,k1,k2,k3,k4,k5⟩:=u0v (E:=E) (m:=m) (w1:=w1) D hw3 hlq (by omega)
  obtain ⟨u',q',r1,r2,r3,r4,r5,r6,r7⟩:=w6v hv hlv h2 hn hsm hw3 j u1 (q.set j g) k1 k2 (hq.set _ hg.1 hg.2) (by simpa using hlq) (by omega) (fun h=>by have:=D.jk;omega) k5
  refine ⟨u',q',?_,r2,r3,r4,r5,r6,?_⟩
  · rw [show ((j+1:Nat):Int)-1=(j:Int) by omega];exact st r1
  · have hd:(q.set j g).drop (j+1)=q.drop (j+1):=List.drop_set_of_lt (Nat.lt_succ_self j)
    rw [r7,k3,y1e (q.set j g) j,y3u (by omega),hd,z5z]
    grind
theorem x4v {n m q r:Nat} (h:n=q*m+r) (hr:r<m):n / m=q∧n % m=r:=by
 subst h
 rw [Nat.mul_comm]
 exact ⟨by rw [Nat.mul_add_div (by omega),Nat.div_eq_of_lt hr,Nat.add_zero],by rw [Nat.mul_add_mod,Nat.mod_eq_of_lt hr]⟩
theorem w8x {xs:List Int} {k i:Nat} (h:i<k):(xs.take k).getD i 0=xs.getD i 0:=by
 rw [List.getD_eq_getElem?_getD,List.getD_eq_getElem?_getD,List.getElem?_take_of_lt h]
theorem v7m {m n:Nat} (hm:2≤(words m).length) (hmn:m≤n) (hl:(words n).length<1099511627776) (hns:¬ n<1000000000000000000):Fn E A8 [.c (.list (Wr (words n))),.c (.list (Wr (words m)))] (.tup [.c (.list (Wr (words (n / m)))),.c (.list (Wr (words (n % m))))]):=by
 have hlm:(words m).length≤(words n).length:=(z0n m).length_le (C0 m) (C0 n) (by rw [B6,B6];omega)
 obtain ⟨k,hk⟩:∃ k,k=(words m).length:=⟨_,rfl⟩
 rw [← hk] at hm hlm
 have ht:=(C0 m).getD (k-1)
 obtain ⟨t,et⟩:∃ t,t=(words m).getD (k-1) 0:=⟨_,rfl⟩
 rw [← et] at ht
 obtain ⟨f,hf⟩:∃ f:Nat,(f:Int)=1000000000 / (t+1):=⟨(1000000000 / (t+1)).toNat,by have:0≤1000000000 / (t+1):=Int.ediv_nonneg (by decide) (by omega);omega⟩
 obtain ⟨f1,f2,lv,nv⟩:=q1w (n:=m) rfl hk.symm (by omega) (f:=f) (by rw [← et];exact hf)
 have hfl:(words f).length≤1:=z5r (by rw [show pw 1=1000000000 by decide];omega)
 obtain ⟨ku,xu,hru,eu,hku,hxu⟩:=v1b (E:=E) (m:=n) (n:=f) (by omega)
 obtain ⟨kv,xv,hrv,ev,hkv,hxv⟩:=v1b (E:=E) (m:=m) (n:=f) (by omega)
 have hkv':kv=k:=by
  have:=congrArg List.length ev
  rw [List.length_take,lv] at this
  omega
 subst hkv'
 have hku':ku=(words (n*f)).length:=by
  have:=congrArg List.length eu
  rw [List.length_take] at this
  omega
 have hnf:n≤n*f:=by have:=Nat.mul_le_mul_left n f1;omega
 have hkn:(words n).length≤ku:=by rw [hku'];exact (z0n n).length_le (C0 n) (C0 _) (by rw [B6,B6];omega)
 have hku2:ku≤(words n).length+1:=by omega
 have hu0:Wd (words (n*f)++[0]):=(C0 _).append (Wd.cons (by omega) (by omega) Wd.nil)
 have hu0l:(words (n*f)++[0]).length=ku+1:=by simp [hku']
 have hw3:∀ i:Nat,i<kv→(Wr xv)[i]?=some [.u32 ((words (m*f)).getD i 0)]:=fun i hi=>by
  rw [← ev,w8x hi];exact G1 (by omega)
 have hvk:=y2g (C0 (m*f))
 have hvge:=(z0n (m*f)).val_ge (C0 _) (by intro h;rw [h] at lv;simp at lv;omega)
 rw [lv] at hvk hvge
 have hlow:wv ((words (n*f)++[0]).drop (ku+1-kv))<wv (words (m*f)):=by
  have h5:=y2g ((C0 (n*f)).drop (ku+1-kv))
  rw [List.length_drop,← hku',show ku-(ku+1-kv)=kv-1 by omega] at h5
  rw [List.drop_append_of_le_length (by omega),y2h]
  omega
 obtain ⟨u',q',r1,r2,r3,r4,r5,r6,r7⟩:=w6v (E:=E) (m:=Wr (words f)) (w1:=[[.u32 0]]) (w3:=Wr xv) (lq:=ku+1-kv) (lu:=ku+1) (C0 (m*f)) lv hm nv (by omega) hw3 (ku+1-kv) (words (n*f)++[0]) (List.replicate (ku+1-kv) 0) hu0 hu0l (Wd.replicate _) (by simp) (Nat.le_refl _) (fun _=>by omega) hlow
 rw [drop_nil (by simp),y2h,B6,B6,show wv []=0 from rfl] at r7
 rw [B6] at r6
 have hq0:=D4 r4
 have hr0:=D4 r2
 obtain ⟨Q,hQ⟩:∃ Q:Nat,wv q'=Q:=⟨(wv q').toNat,by omega⟩
 obtain ⟨R,hR⟩:∃ R:Nat,wv u'=R:=⟨(wv u').toNat,by omega⟩
 rw [hQ,hR] at r7
 rw [hR] at r6
 have hmf0:0<m*f:=by omega
 have e1:n*f=Q*(m*f)+R:=by
  have:((n*f:Nat):Int)=((Q*(m*f)+R:Nat):Int):=by
   rw [Int.natCast_add,Int.natCast_mul Q]
   have:((Q:Int))*((m*f:Nat):Int)=((m*f:Nat):Int)*Q:=Int.mul_comm _ _
   simp at r7
   simp at this ⊢
   omega
  omega
 have hfR:f ∣ R:=by
  have h5:f ∣ Q*(m*f):=⟨Q*m,by rw [← Nat.mul_assoc,Nat.mul_comm]⟩
  exact (Nat.dvd_add_right h5).1 (by rw [← e1];exact ⟨n,Nat.mul_comm _ _⟩)
 obtain ⟨R',hR'⟩:=hfR
 have e2:n=Q*m+R':=by
  have:f*n=f*(Q*m+R'):=by
   rw [Nat.mul_add,← hR',Nat.mul_comm f n,e1,← Nat.mul_assoc,Nat.mul_comm f]
  exact Nat.eq_of_mul_eq_mul_left (by omega) this
 have e3:R'<m:=by
  have:f*R'<f*m:=by rw [← hR',Nat.mul_comm f m];omega
  exact Nat.lt_of_mul_lt_mul_left this
 obtain ⟨d1,d2⟩:=x4v e2 e3
 have hRf:R / f=R':=by rw [hR',Nat.mul_div_cancel_left _ (by omega)]
 have hul:wv (u'.take kv)=R:=by
  have h5:=H1 u' kv (by omega)
  have h6:=D4 (r2.take kv)
  have h7:=D4 (r2.drop kv)
  rw [B6] at hvk
  rcases Int.lt_or_le 0 (wv (u'.drop kv)) with h | h
  · have h8:pw kv*1≤pw kv*wv (u'.drop kv):=Int.mul_le_mul_of_nonneg_left (by omega) (by have:=z2p kv;omega)
    omega
  · have:wv (u'.drop kv)=0:=by omega
    rw [this,Int.mul_zero] at h5
    omega
 have t1:=(x7i (E:=E) (ws:=u') (k:=kv) (by omega) (by omega)).at (args:=[]) rfl rfl rfl rfl (objs:=[some .dead,some (.vec A4 [[.u32 0]]),some (.vec A4 (Wr u')),some (.vec A4 (Wr xv)),some (.vec A4 (Wr q'))]) (l:=2) rfl
 have t2:=(x7i (E:=E) (ws:=q') (k:=ku+1-kv) (by omega) (by omega)).at (args:=[]) rfl rfl rfl rfl (objs:=[some .dead,some (.vec A4 [[.u32 0]]),some (.fro (Wr u')),some (.vec A4 (Wr xv)),some (.vec A4 (Wr q'))]) (l:=4) rfl
 have w1:=z2w r2 (k:=kv) (by omega)
 rw [hul] at w1
 have w2:=z2w r4 (k:=ku+1-kv) (by omega)
 rw [← r5,List.take_length,hQ,r5] at w2
 have hRl:(words R).length<35184372088000:=by
  have:=congrArg List.length w1
  rw [List.length_take,Int.toNat_natCast] at this
  have:=j7v u' kv
  omega
 have hby:=by_ok (E:=E) (n:=R) (w:=f) ⟨by omega,by omega⟩ hRl
 rw [hRf,show words R=u'.take (z2v u' kv) from w1.symm,← z2d] at hby
 rw [d1,d2]
 have h18:(18446744073709551615:Int)≥0:=by decide
 by_cases hsm:m<1000000000000000000
 · exact y9t (i0:=cmpI n m) (i1:=0) (i2:=(m:Int)) (b2:=true) (i3:=(kv:Int)-1) (i5:=t) (i4:=t) (i6:=t+1) (i7:=(f:Int)) (r5:=Wr (words f)) (n0:=ku) (r6:=Wr xu) (r7:=Wr (words (n*f)++[0])) (n1:=ku+1) (n2:=kv) (r8:=Wr xv) (i11:=((ku+1-kv:Nat):Int)) (n3:=ku+1-kv) (r17:=Wr (List.replicate (ku+1-kv) 0)) (i12:=((ku+1-kv:Nat):Int)-1) (r10:=Wr u') (r18:=Wr q') (i13:=(f:Int)) (b1:=true) (n8:=kv) (n9:=z2v u' kv) (n10:=z2v q' (ku+1-kv))
    (wi (by rw [B3,← hk];omega)) (wu (by omega)) (wu (by omega)) (wu ⟨tdv (by omega) hf.symm,by omega,by omega⟩) (by rw [z2d,eu,x3v]) rfl (wi (by omega)) (Int.toNat_natCast _) (z8o _ _) (wi (by omega)) (Int.toNat_natCast _) rfl (by rw [z2d,w2,Int.toNat_natCast])
    (x2p (by omega)) (by unfold cmpI;split <;> (try split) <;> omega) (y6w hns) (z7o hsm) (by rw [B3,← hk];omega) (by omega) (by rw [show Int.toNat ((kv:Int)-1)=kv-1 by omega,et];exact G1 (by omega)) (by omega) (v5y (by omega)) hru (by omega) hrv (by rw [B3];omega) (by omega) r1 (z7o (by omega)) (by omega) t1 hby t2
 · exact y9t (i0:=cmpI n m) (i1:=0) (i2:=0) (b2:=false) (i3:=(kv:Int)-1) (i5:=t) (i4:=t) (i6:=t+1) (i7:=(f:Int)) (r5:=Wr (words f)) (n0:=ku) (r6:=Wr xu) (r7:=Wr (words (n*f)++[0])) (n1:=ku+1) (n2:=kv) (r8:=Wr xv) (i11:=((ku+1-kv:Nat):Int)) (n3:=ku+1-kv) (r17:=Wr (List.replicate (ku+1-kv) 0)) (i12:=((ku+1-kv:Nat):Int)-1) (r10:=Wr u') (r18:=Wr q') (i13:=(f:Int)) (b1:=true) (n8:=kv) (n9:=z2v u' kv) (n10:=z2v q' (ku+1-kv))
    (wi (by rw [B3,← hk];omega)) (wu (by omega)) (wu (by omega)) (wu ⟨tdv (by omega) hf.symm,by omega,by omega⟩) (by rw [z2d,eu,x3v]) rfl (wi (by omega)) (Int.toNat_natCast _) (z8o _ _) (wi (by omega)) (Int.toNat_natCast _) rfl (by rw [z2d,w2,Int.toNat_natCast])
    (x2p (by omega)) (by unfold cmpI;split <;> (try split) <;> omega) (y6w hns) (y6w hsm) (by rw [B3,← hk];omega) (by omega) (by rw [show Int.toNat ((kv:Int)-1)=kv-1 by omega,et];exact G1 (by omega)) (by omega) (v5y (by omega)) hru (by omega) hrv (by rw [B3];omega) (by omega) r1 (z7o (by omega)) (by omega) t1 hby t2
def Lim:Nat:=1000000000
structure Lib (E:Env):Prop where
 parseUint:∀ l:List UInt8,Dg l→1≤l.length→l.length≤9→Fn E y3g [.c (.str (B l)),.c (.i64 10),.c (.i64 32)] (.tup [.c (.u64 (dval l:Int)),.undef])
 /-- what is behind a text in front of another one -/
 cutPrefix:∀ l p:List UInt8,l.length<10000000000000→p.length<10000000000000→Fn E y3h [.c (.str (B l)),.c (.str (B p))] (.tup [.c (.str (B (if p.isPrefixOf l then l.drop p.length else l))),.c (.bool (p.isPrefixOf l))])
 /-- what is ahead of the first slash,and behind it -/
 cutYes:∀ p q:List UInt8,(47:UInt8) ∉ p→p.length+q.length<4000000000→Fn E z9z [.c (.str (B (p++47::q))),.c (.str (B [47]))] (.tup [.c (.str (B p)),.c (.str (B q)),.c (.bool true)])
 cutNo:∀ p:List UInt8,(47:UInt8) ∉ p→p.length<4000000000→Fn E z9z [.c (.str (B p)),.c (.str (B [47]))] (.tup [.c (.str (B p)),.c (.str (B [])),.c (.bool false)])
 parseInt:∀ z:Int,(decZ z).length≤9→Fn E z8m [.c (.str (B (decZ z))),.c (.i64 10),.c (.i64 64)] (.tup [.c (.i64 z),.undef])
 formatInt:∀ z:Int,-9223372036854775808≤z∧z≤9223372036854775807→Fn E z6v [.c (.i64 z),.c (.i64 10)] (.c (.str (B (decZ z))))
 itoa:∀ z:Int,-9223372036854775808≤z∧z≤9223372036854775807→Fn E y5x [.c (.i64 z)] (.c (.str (B (decZ z))))
 /-- an operation of package rational,by its byte -/
 apply:∀ (op:Int) (f:Nat),(op,f)∈[(43,z2z),(42,z4g),(45,z0h),(47,y5c)]→∀ (a b x1 x2 y1 y2 z1 z2 t:BA),Fn E F_rational_both [.c (.str a),.c (.str b)] (.tup [.agg [.str x1,.str x2],.agg [.str y1,.str y2],.c (.i64 0)])→(op=47→¬ y1=B [48]) →
  Fn E f [.agg [.str x1,.str x2],.agg [.str y1,.str y2]] (.agg [.str z1,.str z2])→Fn E F_rational_frac_text [.agg [.str z1,.str z2]] (.c (.str t))→Fn E z7a [.c (.u8 op),.c (.str a),.c (.str b)] (.tup [.c (.str t),.c (.i64 0)])
 text:∀ n K:Nat,n<10 ^ K→K≤Lim+1→Fn E V4 [.c (.list (Wr (words n)))] (.c (.str (B (dec n))))
theorem w8o (K:Nat):((10 ^ K:Nat):Int)≤pw K:=by
 unfold pw
 rw [show (1000000000:Int) ^ K=((1000000000 ^ K:Nat):Int) by rw [Int.natCast_pow];rfl]
 exact Int.ofNat_le.2 (Nat.pow_le_pow_left (by decide) K)
theorem z9y {n K:Nat} (h:n<10 ^ K):(words n).length≤K:=z5r (Int.lt_of_lt_of_le (Int.ofNat_lt.2 h) (w8o K))
theorem y9f {a b:Int}:cmpI a b<0↔a<b:=by unfold cmpI;split <;> (try split) <;> omega
theorem v5h {m n:Nat} (hm:m≠0) (hl:(words n).length<1099511627776):Fn E A8 [.c (.list (Wr (words n))),.c (.list (Wr (words m)))] (.tup [.c (.list (Wr (words (n / m)))),.c (.list (Wr (words (n % m))))]):=by
 have hc:=x2p (E:=E) (m:=n) (n:=m) (by omega)
 by_cases h1:n<m
 · rw [Nat.div_eq_of_lt h1,Nat.mod_eq_of_lt h1,Y1]
   exact k3k hc (y9f.2 (by omega))
 · have hc':¬ cmpI n m<0:=fun h=>h1 (by have:=y9f.1 h;omega)
   by_cases h2:n<1000000000000000000
   · have hd:n / m<1000000000000000000:=Nat.lt_of_le_of_lt (Nat.div_le_self _ _) h2
     have hr:n % m<1000000000000000000:=Nat.lt_of_lt_of_le (Nat.mod_lt _ (by omega)) (by omega)
     have hdz:0≤((n / m:Nat):Int)∧((n / m:Nat):Int)≤18446744073709551615:=⟨Int.natCast_nonneg _,by have:=Int.ofNat_lt.2 hd;exact Int.le_trans (Int.le_of_lt this) (by decide)⟩
     exact k3l (i3:=((n / m:Nat):Int)) (i4:=((n % m:Nat):Int)) (wu ⟨tdv (by omega) rfl,hdz⟩) (tmd (by omega) rfl) hc hc' (z7o h2) (z7o (by omega)) (by omega) (v5y hd) (v5y hr)
   · by_cases h3:(words m).length=1
     · have hm1:m<1000000000:=by
        have:=y2g (C0 m)
        rw [B6,h3,show pw 1=1000000000 by decide] at this
        omega
       have e:words m=[(m:Int)]:=by
        rcases k6d (n:=m) (by omega) with ⟨_,h⟩ | ⟨e,_,_⟩ | ⟨_,h⟩
        · exact absurd h hm
        · exact e
        · omega
       have hs:=z7o (E:=E) (n:=m) (by omega)
       have hb:=by_ok (E:=E) (n:=n) (w:=m) ⟨by omega,hm1⟩ (by omega)
       exact k3m (i3:=(m:Int)) (i5:=(m:Int)) (wu (by omega)) hc hc' (y6w h2) hs (by rw [B3,h3];rfl) (by rw [e];rfl) hb
     · have:words m≠[]:=fun h=>hm (z7q.1 h)
       have:=y2s this
       exact v7m (by omega) (by omega) hl h2
theorem v5o:∀ (t y x:Nat),y<t→x<1000000000000000000→y<1000000000000000000→Lp E 0 D5 1 (z4u x y) (.exit 2) (y1r (Nat.gcd x y:Nat))
 | 0,y,x,h,_,_=>by omega
 | t+1,y,x,h,hx,hy=>by
  by_cases h0:y=0
  · subst h0
    rw [Nat.gcd_zero_right]
    exact x6n (by omega)
  · have hm:=Nat.mod_lt x (show 0<y by omega)
    have e:Nat.gcd x y=Nat.gcd y (x % y):=by rw [Nat.gcd_comm x y,Nat.gcd_rec y x,Nat.gcd_comm]
    rw [e]
    exact k0k (i3:=((x % y:Nat):Int)) (tmd (by omega) rfl) (by omega) (by omega) (v5o t (x % y) y (by omega) hy (by omega))
theorem q7y {L:Nat} (hL:L<1099511627776):∀ (t n m:Nat),n<t→(words m).length≤L→(words n).length≤L →
    (Lp E 0 D5 0 (O7 (Wr (words m)) (Wr (words n))) .ret (y1p (Wr (words (Nat.gcd m n))))) ∨
    (Lp E 0 D5 0 (O7 (Wr (words m)) (Wr (words n))) (.exit 0) (y1q (Wr (words (Nat.gcd m n)))))
 | 0,n,m,h,_,_=>by omega
 | t+1,n,m,h,hm,hn=>by
  by_cases h0:n=0
  · subst h0
    rw [Nat.gcd_zero_right,Y1]
    exact .inr (x6m (by simp [Wr]))
  · have hpos:((Wr (words n)).length:Int)>0:=by
     have:words n≠[]:=fun h=>h0 (z7q.1 h)
     have:=y2s this
     rw [B3];omega
    have hr:=Nat.mod_lt m (show 0<n by omega)
    have e:Nat.gcd m n=Nat.gcd n (m % n):=by rw [Nat.gcd_comm m n,Nat.gcd_rec n m,Nat.gcd_comm]
    have hrl:(words (m % n)).length≤L:=Nat.le_trans ((z0n _).length_le (C0 _) (C0 n) (by rw [B6,B6];omega)) hn
    have hd:=v5h (E:=E) (m:=n) (n:=m) h0 (by omega)
    by_cases s1:m<1000000000000000000
    · by_cases s2:n<1000000000000000000
      · refine .inl (x6l hpos (z7o s1) (z7o s2) (v5o (n+1) n m (by omega) s1 s2) (v5y ?_))
        exact Nat.lt_of_le_of_lt (Nat.gcd_le_right m (by omega)) s2
      · rw [e]
        rcases q7y hL t (m % n) n (by omega) hn hrl with ih | ih
        · exact .inl (y7f hpos (z7o s1) (y6w s2) hd ih)
        · exact .inr (y7f hpos (z7o s1) (y6w s2) hd ih)
    · rw [e]
      have hs:∃ v b,Fn E D2 [.c (.list (Wr (words n)))] (.tup [.c (.u64 v),.c (.bool b)]):=by
       by_cases s2:n<1000000000000000000
       · exact ⟨_,_,z7o s2⟩
       · exact ⟨_,_,y6w s2⟩
      obtain ⟨v,b,hs⟩:=hs
      rcases q7y hL t (m % n) n (by omega) hn hrl with ih | ih
      · exact .inl (y7g hpos (y6w s1) hs hd ih)
      · exact .inr (y7g hpos (y6w s1) hs hd ih)
theorem gcd_ok {m n L:Nat} (hL:L<1099511627776) (hm:(words m).length≤L) (hn:(words n).length≤L):Fn E D5 [.c (.list (Wr (words m))),.c (.list (Wr (words n)))] (.c (.list (Wr (words (Nat.gcd m n))))):=by
 rcases q7y (E:=E) hL (n+1) n m (by omega) hm hn with h | h
 · exact j3x h
 · exact j3y h
def x3x (c:UInt8):Bool:=decide (48≤c.toNat) && decide (c.toNat≤57)
def natB (l:List UInt8):Bool:=!l.isEmpty && l.all x3x && (decide (l.length≤1) || !(l.head? == some 48))
theorem k5t {c:UInt8}:x3x c=true↔48≤c.toNat∧c.toNat≤57:=by simp [x3x]
theorem x3y {c:UInt8} (h:c.toNat<48∨57<c.toNat):x3x c=false:=by
 cases hb:x3x c with
 | false=>rfl
 | true=>have:=k5t.1 hb;omega
theorem x6c {l:List UInt8}:natB l=true↔q1t l:=by
 unfold natB q1t Dg
 simp only [Bool.and_eq_true,Bool.not_eq_true',List.isEmpty_eq_false_iff,List.all_eq_true,k5t,Bool.or_eq_true,decide_eq_true_eq,beq_eq_false_iff_ne,and_assoc]
 constructor
 · rintro ⟨h1,h2,h3⟩
   exact ⟨h1,h2,fun h=>h3.resolve_left (by omega)⟩
 · rintro ⟨h1,h2,h3⟩
   refine ⟨h1,h2,?_⟩
   by_cases h:l.length≤1
   · exact .inl h
   · exact .inr (h3 (by omega))
theorem q8q (n:Nat):natB (dec n)=true:=x6c.2 (k5l n)
theorem x1h (l:List UInt8) (i:Nat):(((B l).data.toList.getD (Int.toNat (i:Int)) 0).toNat:Int)=((l.getD i 0).toNat:Int):=by rw [y4j,Int.toNat_natCast]
theorem v1h (l:List UInt8) (hl:l.length<9223372036854775807):∀ d i:Nat,i+d=l.length →
    ((l.drop i).all x3x=true∧Lp E 0 D8 0 (U1 (B l) l.length i) (.exit 0) z8t) ∨
    ((l.drop i).all x3x=false∧Lp E 0 D8 0 (U1 (B l) l.length i) .ret z4t)
 | 0,i,hi=>.inl ⟨by rw [List.drop_eq_nil_of_le (by omega)];rfl,k0g (by omega)⟩
 | d+1,i,hi=>by
  have hd:l.drop i=l.getD i 0::l.drop (i+1):=by
   rw [List.drop_eq_getElem_cons (by omega),List.getD_eq_getElem?_getD,List.getElem?_eq_getElem (by omega)];rfl
  have hlt:0≤(i:Int)∧(i:Int)<(B l).size:=by rw [F4];omega
  rw [hd,List.all_cons]
  by_cases c1:(l.getD i 0).toNat<48
  · have:x3x (l.getD i 0)=false:=x3y (by omega)
    exact .inr ⟨by rw [this];rfl,k0e (x1h l i) (by omega) hlt (by omega)⟩
  · by_cases c2:(l.getD i 0).toNat>57
    · have:x3x (l.getD i 0)=false:=x3y (by omega)
      exact .inr ⟨by rw [this];rfl,k0f (x1h l i) (by omega) hlt (by omega) (by omega)⟩
    · have:x3x (l.getD i 0)=true:=k5t.2 (by omega)
      rw [this,Bool.true_and]
      rcases v1h l hl d (i+1) (by omega) with ⟨h1,h2⟩ | ⟨h1,h2⟩
      · exact .inl ⟨h1,x1c (x1h l i) (wi (by omega)) (by omega) hlt (by omega) (by omega) h2⟩
      · exact .inr ⟨h1,x1c (x1h l i) (wi (by omega)) (by omega) hlt (by omega) (by omega) h2⟩
theorem w9i {l:List UInt8} (h:l≠[]):¬ B l=(⟨#[]⟩:BA):=fun e=>h (y5o (e.trans w9j.symm))
theorem z4i (l:List UInt8) (hl:l.length<9223372036854775807):Fn E D8 [.c (.str (B l))] (.c (.bool (natB l))):=by
 cases l with
 | nil=>exact q2v w9j
 | cons c m =>
  have hne:=w9i (l:=c::m) (by simp)
  have h0:(((B (c::m)).data.toList.getD 0 0).toNat:Int)=(c.toNat:Int):=by rw [y4j];rfl
  have hloop:=v1h (E:=E) (c::m) hl (c::m).length 0 (by omega)
  simp only [List.drop_zero] at hloop
  by_cases h1:1<(c::m).length
  · have hlt:0≤(0:Int)∧(0:Int)<(B (c::m)).size:=by rw [F4];omega
    by_cases h2:c.toNat=48
    · have hc:c=48:=UInt8.toNat_inj.1 h2
      have e:natB (c::m)=false:=by
       unfold natB
       have:decide ((c::m).length≤1)=false:=decide_eq_false (by omega)
       rw [this];subst hc;simp
      rw [e]
      exact q2w h0 hne (by rw [F4];omega) hlt (by omega)
    · have hc:¬ c=48:=fun e=>h2 (by rw [e];rfl)
      have e:natB (c::m)=(c::m).all x3x:=by
       unfold natB
       have:((c::m).head? == some 48)=false:=by simp [hc]
       rw [this];simp
      rw [e]
      rcases hloop with ⟨g1,g2⟩ | ⟨g1,g2⟩
      · rw [g1];exact q2y h0 hne (by rw [F4];omega) hlt (by omega) (by rw [F4];exact g2)
      · rw [g1];exact q2x h0 hne (by rw [F4];omega) hlt (by omega) (by rw [F4];exact g2)
  · have e:natB (c::m)=(c::m).all x3x:=by
     unfold natB
     have:decide ((c::m).length≤1)=true:=decide_eq_true (by omega)
     rw [this];simp
    rw [e]
    rcases hloop with ⟨g1,g2⟩ | ⟨g1,g2⟩
    · rw [g1];exact q3a hne (by rw [F4];omega) (by rw [F4];exact g2)
    · rw [g1];exact q2z hne (by rw [F4];omega) (by rw [F4];exact g2)
theorem Dg.take {l:List UInt8} (h:Dg l) (n:Nat):Dg (l.take n):=fun c hc=>h c (List.mem_of_mem_take hc)
theorem Dg.drop {l:List UInt8} (h:Dg l) (n:Nat):Dg (l.drop n):=fun c hc=>h c (List.mem_of_mem_drop hc)
theorem x0h:(10:Nat) ^ 9=1000000000:=by decide
theorem v6i (hlib:Lib E) {l:List UInt8} (hd:Dg l) (hl:l.length<10000000000000):∀ (t i:Nat) (ws:List Int) (n:Nat),n≤t→n≤l.length→9*i≤l.length+8→ws.length=i→(0<n→n+9*i=l.length)→Wd ws→wv ws+pw i*(dval (l.take n):Int)=dval l →
    ∃ ws',Lp E 0 z0w 0 (z9s (B (l.take n)) i (Wr ws)) (.exit 0) (y6d ws'.length (Wr ws'))∧Wd ws'∧wv ws'=dval l∧ws'.length≤l.length+8
 | t,i,ws,0,_,_,hi,hw,_,hwd,hv=>by
  rw [List.take_zero,show dval []=0 from rfl] at hv
  exact ⟨ws,by rw [hw];exact k3o (by rw [F4];simp),hwd,by simpa using hv,by omega⟩
 | 0,i,ws,n+1,h,_,_,_,_,_,_=>by omega
 | t+1,i,ws,n+1,hn,hnl,hi,hw,hni,hwd,hv=>by
  obtain ⟨at',ha⟩:∃ a,a=n+1-9:=⟨_,rfl⟩
  have hlen:(l.take (n+1)).length=n+1:=by simp;omega
  obtain ⟨p,hp⟩:∃ p,p=(l.take (n+1)).drop at':=⟨_,rfl⟩
  have hpd:Dg p:=by rw [hp];exact Dg.drop (Dg.take hd _) _
  have hpl:p.length=n+1-at':=by rw [hp,List.length_drop,hlen]
  have hval:dval p<1000000000:=by
   have:=j3m hpd
   have h9:(10:Nat) ^ p.length≤10 ^ 9:=Nat.pow_le_pow_right (by decide) (by omega)
   rw [x0h] at h9
   omega
  have hsplit:l.take (n+1)=l.take at'++p:=by
   rw [hp]
   have:=(List.take_append_drop at' (l.take (n+1))).symm
   rwa [List.take_take,Nat.min_eq_left (by omega)] at this
  have hvs:wv (ws++[(dval p:Int)])+pw (i+1)*(dval (l.take at'):Int)=dval l:=by
   rw [y2h,hw,z5z]
   rw [hsplit,y9q] at hv
   by_cases h9:p.length=9
   · rw [h9,x0h] at hv
     have e:((dval (l.take at')*1000000000+dval p:Nat):Int)=1000000000*(dval (l.take at'):Int)+dval p:=by omega
     rw [e] at hv
     grind
   · have:at'=0:=by omega
     subst this
     rw [List.take_zero,show dval []=0 from rfl] at hv ⊢
     rw [show ((0*10 ^ p.length+dval p:Nat):Int)=(dval p:Int) by simp] at hv
     simp
     omega
  obtain ⟨ws',k1,k2,k3,k4⟩:=v6i hlib hd hl t (i+1) (ws++[(dval p:Int)]) at' (by omega) (by omega) (by omega) (by simp [hw]) (by omega) (hwd.append (Wd.cons (by omega) (by omega) Wd.nil)) hvs
  refine ⟨ws',?_,k2,k3,k4⟩
  have hsz:((B (l.take (n+1))).size:Int)=((n+1:Nat):Int):=by rw [F4,hlen]
  refine j1h (i0:=((n+1:Nat):Int)-9) (i1:=(at':Int)) (s1:=B p) (i2:=(dval p:Int)) (i3:=(dval p:Int)) (r2:=Wr (ws++[(dval p:Int)])) (n2:=i+1) (s2:=B (l.take at'))
   (wi (by rw [hsz];omega)) (by split <;> omega) (by rw [hsz,Int.toNat_natCast,Int.toNat_natCast,x1y,List.take_of_length_le (by omega),hp]) (w32 (by omega)) (by rw [z2d,← hw,List.take_length,x3v]) rfl (by rw [Int.toNat_natCast,x1y,List.drop_zero,List.take_take,Nat.min_eq_left (by omega)])
   (by rw [hsz];omega) (by rw [F4,hlen];omega) (hlib.parseUint p hpd (by omega) (by omega)) (by omega) (by rw [F4,hlen];omega) k1
theorem w7i (hlib:Lib E) {l:List UInt8} (hd:Dg l) (hl:l.length<10000000000000):Fn E z0w [.c (.str (B l))] (.c (.list (Wr (words (dval l))))):=by
 obtain ⟨ws,k1,k2,k3,k4⟩:=v6i (E:=E) hlib hd hl l.length 0 [] l.length (Nat.le_refl _) (Nat.le_refl _) (by omega) rfl (by omega) Wd.nil (by rw [List.take_length,x8c];simp [wv])
 rw [List.take_length] at k1
 have h:=z2w k2 (k:=ws.length) (Nat.le_refl _)
 rw [List.take_length,k3,Int.toNat_natCast] at h
 exact q8t (by rw [z2d,h]) k1 (x7i (Nat.le_refl _) (by omega))
theorem j0q {n K:Nat} (h:n<10 ^ K):(dec n).length≤K+1:=by
 rcases Nat.eq_zero_or_pos K with rfl | hK
 · have:n=0:=by simpa using h
   subst this;rw [z7f];simp
 · exact Nat.le_succ_of_le (dec_length h hK)
theorem Y7:Lim=1000000000:=rfl
theorem k5g (hlib:Lib E) {a b K L:Nat} (ha:a<10 ^ K) (hb:b<10 ^ L) (hK:K≤Lim) (hL:L≤Lim):Fn E z2l [.c (.str (B (dec a))),.c (.str (B (dec b)))] (.tup [.c (.list (Wr (words a))),.c (.list (Wr (words b))),.c (.i64 0)]):=by
 have h1:=j0q ha
 have h2:=j0q hb
 rw [Y7] at hK hL
 have v1:=z4i (E:=E) (dec a) (by omega)
 have v2:=z4i (E:=E) (dec b) (by omega)
 have r1:=w7i hlib (y7t a) (by omega)
 have r2:=w7i hlib (y7t b) (by omega)
 rw [q8q] at v1 v2
 rw [z5v] at r1 r2
 exact q8s v1 v2 r1 r2
theorem j1e (hlib:Lib E) {a b K L:Nat} (ha:a<10 ^ K) (hb:b<10 ^ L) (hK:K≤Lim) (hL:L≤Lim):Fn E y5s [.c (.str (B (dec a))),.c (.str (B (dec b)))] (.tup [.c (.i64 (cmpI a b)),.c (.i64 0)]):=by
 have w1:=z9y ha
 have hK':=hK
 rw [Y7] at hK'
 exact j3w (k5g hlib ha hb hK hL) rfl (x2p (by omega))
theorem z5y {a K M:Nat} (h:a<10 ^ K) (k:K≤M):a<10 ^ M:=Nat.lt_of_lt_of_le h (Nat.pow_le_pow_right (by decide) k)
theorem w4i {a b K:Nat} (h:a<10 ^ K) (k:b<10 ^ K):a+b<10 ^ (K+1):=by rw [Nat.pow_succ];omega
theorem k3i (hlib:Lib E) {a b K L:Nat} (ha:a<10 ^ K) (hb:b<10 ^ L) (hK:K≤Lim) (hL:L≤Lim):Fn E y9d [.c (.str (B (dec a))),.c (.str (B (dec b)))] (.tup [.c (.str (B (dec (a+b)))),.c (.i64 0)]):=by
 have w1:=z9y ha
 have w2:=z9y hb
 have hK':=hK
 have hL':=hL
 rw [Y7] at hK' hL'
 have hs:=w4i (z5y ha (show K≤max K L by omega)) (z5y hb (show L≤max K L by omega))
 exact v2p (k5g hlib ha hb hK hL) rfl (y5n (u4l (by omega) (by omega)) (hlib.text _ _ hs (by omega)))
theorem x2v (hlib:Lib E) {a b K L:Nat} (ha:a<10 ^ K) (hb:b<10 ^ L) (hK:K≤Lim) (hL:L≤Lim) (hab:b≤a):Fn E y3q [.c (.str (B (dec a))),.c (.str (B (dec b)))] (.tup [.c (.str (B (dec (a-b)))),.c (.i64 0)]):=by
 have w1:=z9y ha
 have hK':=hK
 rw [Y7] at hK'
 exact v2s (k5g hlib ha hb hK hL) rfl (x2p (by omega)) (fun h=>by have:=y9f.1 h;omega) (y4l (u0t (by omega) hab) (hlib.text _ _ (Nat.lt_of_le_of_lt (Nat.sub_le _ _) ha) (by omega)))
theorem x2u (hlib:Lib E) {a b K L:Nat} (ha:a<10 ^ K) (hb:b<10 ^ L) (hKL:K+L≤Lim):Fn E z6e [.c (.str (B (dec a))),.c (.str (B (dec b)))] (.tup [.c (.str (B (dec (a*b)))),.c (.i64 0)]):=by
 have w1:=z9y ha
 have w2:=z9y hb
 have hK':=hKL
 rw [Y7] at hK'
 exact v2r (k5g hlib ha hb (by omega) (by omega)) rfl (y4m (u2y (by omega)) (hlib.text _ _ (z6g ha hb) (by omega)))
theorem x4a (hlib:Lib E) {a b K L:Nat} (ha:a<10 ^ K) (hb:b<10 ^ L) (hK:K≤Lim) (hL:L≤Lim)(h0:b≠0):Fn E z4f [.c (.str (B (dec a))),.c (.str (B (dec b)))] (.tup [.c (.str (B (dec (a / b)))),.c (.str (B (dec (a % b)))),.c (.i64 0)]):=by
 have w1:=z9y ha
 have hK':=hK
 rw [Y7] at hK'
 have hne:((Wr (words b)).length:Int)≠0:=by
  have:words b≠[]:=fun h=>h0 (z7q.1 h)
  have:=y2s this
  rw [B3];omega
 exact j8t (k5g hlib ha hb hK hL) rfl hne (v5h h0 (by omega)) (hlib.text _ _ (Nat.lt_of_le_of_lt (Nat.div_le_self _ _) ha) (by omega)) (hlib.text _ _ (Nat.lt_of_le_of_lt (Nat.mod_le _ _) ha) (by omega))
theorem q8r (hlib:Lib E) {a b K L:Nat} (ha:a<10 ^ K) (hb:b<10 ^ L) (hK:K≤Lim) (hL:L≤Lim) (hp:0<a∨0<b):Fn E x4o [.c (.str (B (dec a))),.c (.str (B (dec b)))] (.tup [.c (.str (B (dec (Nat.gcd a b)))),.c (.i64 0)]):=by
 have w1:=z9y ha
 have w2:=z9y hb
 have hK':=hK
 have hL':=hL
 rw [Y7] at hK' hL'
 have hg:Nat.gcd a b<10 ^ max K L:=by
  rcases hp with h | h
  · exact Nat.lt_of_le_of_lt (Nat.gcd_le_left b h) (z5y ha (by omega))
  · exact Nat.lt_of_le_of_lt (Nat.gcd_le_right a h) (z5y hb (by omega))
 exact v2q (k5g hlib ha hb hK hL) rfl (y6c (gcd_ok (L:=max K L) (by omega) (by omega) (by omega)) (hlib.text _ _ hg (by omega)))
theorem w9h (l m:List UInt8):(B l == B m)=(l == m):=by
 rw [beq_toListBytes,toList_eq,toList_eq,y4j,y4j]
theorem B48:(⟨#[48]⟩:BA)=B [48]:=rfl
theorem B45:(⟨#[45]⟩:BA)=B [45]:=rfl
theorem B49:(⟨#[49]⟩:BA)=B [49]:=rfl
theorem u0d:B [49]=B (dec 1):=by rw [y9g]
def Zc (z:Int):List DV:=[.bool (decide (z<0)),.str (B (dec z.natAbs))]
def intB (l:List UInt8):Bool:=if [45].isPrefixOf l then natB (l.drop 1) && !(l.drop 1 == [48]) else natB l
theorem w2a (c:UInt8) (m:List UInt8):[45].isPrefixOf (c::m)=(c == 45):=by
 show ((45:UInt8) == c && [].isPrefixOf m)=(c == 45)
 simp [Bool.beq_eq_decide_eq,eq_comm]
theorem k3b {l:List UInt8}:intB l=true↔w0m l:=by
 unfold intB w0m
 cases l with
 | nil =>
  show natB []=true↔_
  constructor
  · intro h;exact absurd h (by decide)
  · rintro (h | ⟨m,h,_⟩)
    · exact absurd rfl h.1
    · cases h
 | cons c m =>
  rw [w2a]
  by_cases hc:c=45
  · subst hc
    simp only [beq_self_eq_true,if_true,List.drop_succ_cons,List.drop_zero,Bool.and_eq_true,Bool.not_eq_true',beq_eq_false_iff_ne,x6c]
    constructor
    · rintro ⟨h1,h2⟩;exact .inr ⟨m,rfl,h1,h2⟩
    · rintro (h | ⟨m',h,h1,h2⟩)
      · have:=h.2.1 45 (by simp)
        exact absurd this.1 (by decide)
      · cases h;exact ⟨h1,h2⟩
  · simp only [beq_eq_false_iff_ne.2 hc,Bool.false_eq_true,if_false,x6c]
    constructor
    · exact .inl
    · rintro (h | ⟨m',h,_⟩)
      · exact h
      · cases h;exact absurd rfl hc
theorem k5s (z:Int):intB (decZ z)=true:=k3b.2 (w4u z)
theorem w2o (hlib:Lib E) {l:List UInt8} (hl:l.length<10000000000000):Fn E z2k [.c (.str (B l))] (.tup [.agg [.bool ([45].isPrefixOf l),.str (B (if [45].isPrefixOf l then l.drop 1 else l))],.c (.bool (intB l))]):=by
 have hc:=hlib.cutPrefix l [45] hl (by decide)
 unfold intB
 cases hb:[45].isPrefixOf l with
 | true =>
  rw [hb] at hc
  simp only [if_true,List.length_singleton] at hc ⊢
  have hv:=z4i (E:=E) (l.drop 1) (by simp;omega)
  cases hn:natB (l.drop 1) with
  | true =>
   rw [hn] at hv
   by_cases h48:l.drop 1=[48]
   · rw [h48,show (true && !([48] == ([48]:List UInt8)))=false from rfl]
     rw [h48] at hc hv
     exact q8h hc hv (by rw [B48,w9h];rfl)
   · rw [show (true && !(l.drop 1 == [48]))=true by rw [beq_eq_false_iff_ne.2 h48];rfl]
     exact k3e hc hv (by rw [B48,w9h,beq_eq_false_iff_ne.2 h48];rfl)
  | false =>
   rw [hn] at hv
   rw [Bool.false_and]
   exact k3f hc hv
 | false =>
  rw [hb] at hc
  simp only [Bool.false_eq_true,if_false] at hc ⊢
  have hv:=z4i (E:=E) l (by omega)
  cases hn:natB l with
  | true=>rw [hn] at hv;exact k3e hc hv rfl
  | false=>rw [hn] at hv;exact k3f hc hv
theorem w0x (z:Int):[45].isPrefixOf (decZ z)=decide (z<0)∧(if [45].isPrefixOf (decZ z) then (decZ z).drop 1 else decZ z)=dec z.natAbs:=by
 by_cases h:z<0
 · rw [z5u h,w2a];simp [h]
 · rw [Z3 (by omega)]
   have:[45].isPrefixOf (dec z.natAbs)=false:=by
    cases hd:dec z.natAbs with
    | nil=>rfl
    | cons c m =>
     rw [w2a]
     refine beq_eq_false_iff_ne.2 fun e=>?_
     have:=y7t z.natAbs c (by rw [hd];simp)
     rw [e] at this
     exact absurd this.1 (by decide)
   rw [this];simp [h]
theorem v6h (hlib:Lib E) {z:Int} (hl:(decZ z).length<10000000000000):Fn E z2k [.c (.str (B (decZ z)))] (.tup [.agg (Zc z),.c (.bool true)]):=by
 have:=w2o hlib hl
 rw [(w0x z).2,(w0x z).1,k5s] at this
 exact this
theorem j3l {z:Int} {K:Nat} (h:z.natAbs<10 ^ K):(decZ z).length≤K+2:=by
 have:=j0q h
 unfold decZ
 split <;> simp <;> omega
theorem y7x (hlib:Lib E) {l:List UInt8} (hl:l.length<10000000000000):Fn E z9p [.c (.str (B l))] (.c (.bool (intB l))):=q2u (w2o hlib hl)
theorem k1u (hlib:Lib E) {a b:Int} {K L:Nat} (ha:a.natAbs<10 ^ K) (hb:b.natAbs<10 ^ L) (hK:K≤Lim) (hL:L≤Lim):Fn E z4n [.c (.str (B (decZ a))),.c (.str (B (decZ b)))] (.tup [.agg (Zc a),.agg (Zc b),.c (.i64 0)]):=by
 have h1:=j3l ha
 have h2:=j3l hb
 rw [Y7] at hK hL
 exact q8g (v6h hlib (by omega)) (v6h hlib (by omega))
theorem v8i (hlib:Lib E) {a:Int} {K:Nat} (ha:a.natAbs<10 ^ K) (hK:K≤Lim):Fn E y3o [.c (.str (B (decZ a)))] (.tup [.agg (Zc a),.c (.i64 0)]):=by
 have:=k1u hlib ha (show (0:Int).natAbs<10 ^ 1 by decide) hK (by rw [Y7];omega)
 rw [x5u] at this
 exact v2i this
def sgn (neg:Bool) (n:Nat):Int:=if neg then -(n:Int) else n
theorem y7b (neg:Bool) (n:Nat):Fn E K8 [.c (.bool neg),.c (.str (B (dec n)))] (.agg (Zc (sgn neg n))):=by
 cases neg with
 | false =>
  have:Zc (sgn false n)=[.bool false,.str (B (dec n))]:=by unfold Zc sgn;simp
  rw [this];exact q8k
 | true =>
  by_cases h:n=0
  · subst h
    have:Zc (sgn true 0)=[.bool false,.str (B (dec 0))]:=by unfold Zc sgn;simp
    rw [this];exact q8j (by rw [B48,z7f])
  · have:Zc (sgn true n)=[.bool true,.str (B (dec n))]:=by
     unfold Zc sgn
     simp only [if_true,Int.natAbs_neg,Int.natAbs_natCast]
     rw [decide_eq_true (by omega)]
    rw [this]
    exact q8i (fun e=>h (by rw [B48] at e;exact y5f.1 (y5o e)))
theorem k5e {z:Int} {K:Nat} (hz:z.natAbs<10 ^ K) (hK:K≤Lim+Lim):Fn E P2 [.agg (Zc z)] (.c (.str (B (decZ z)))):=by
 have h1:=j0q hz
 rw [Y7] at hK
 by_cases h:z<0
 · have:Zc z=[.bool true,.str (B (dec z.natAbs))]:=by unfold Zc;rw [decide_eq_true h]
   rw [this,z5u h]
   exact k0b (by rw [B45,x5n];rfl) (by rw [B45,F4,F4];simp;omega)
 · have:Zc z=[.bool false,.str (B (dec z.natAbs))]:=by unfold Zc;rw [decide_eq_false h]
   rw [this,Z3 (by omega)]
   exact k0c
theorem q1y (z:Int):Fn E z1n [.agg (Zc z)] (.agg (Zc (-z))):=by
 have:=y7b (E:=E) (!decide (z<0)) z.natAbs
 have e:sgn (!decide (z<0)) z.natAbs=-z:=by unfold sgn;split <;> rename_i h <;> simp at h <;> omega
 rw [e] at this
 exact x3g this
theorem j7z:Fn E y5r [] (.agg [.bool false,.str (B [48])]):=q8l
theorem u0k (z:Int):((decide (z<0) == false) && ((B (dec z.natAbs) == B [48]) && true))=decide (z=0):=by
 rw [w9h]
 by_cases h:z=0
 · subst h;rw [decide_eq_true rfl];simp [z7f]
 · rw [decide_eq_false h]
   have:(dec z.natAbs == [48])=false:=beq_eq_false_iff_ne.2 fun e=>h (by have:=y5f.1 e;omega)
   rw [this];simp
theorem w3w (z:Int):Fn E Z4 [.agg (Zc z)] (.c (.i64 (cmpI z 0))):=by
 have hz:=u0k z
 by_cases h:z=0
 · rw [decide_eq_true h] at hz
   rw [q5y h]
   exact x9y j7z hz
 · rw [decide_eq_false h] at hz
   by_cases h1:z<0
   · have e:cmpI z 0=-1:=by unfold cmpI;rw [if_pos h1]
     have:Zc z=[.bool true,.str (B (dec z.natAbs))]:=by unfold Zc;rw [decide_eq_true h1]
     rw [e,this]
     exact x9z j7z rfl
   · have e:cmpI z 0=1:=by unfold cmpI;rw [if_neg h1,if_pos (by omega)]
     have:Zc z=[.bool false,.str (B (dec z.natAbs))]:=by unfold Zc;rw [decide_eq_false h1]
     rw [e,this]
     rw [decide_eq_false h1] at hz
     exact k0a j7z hz
theorem u5d (hlib:Lib E) {a b:Int} {K L:Nat} (ha:a.natAbs<10 ^ K) (hb:b.natAbs<10 ^ L) (hK:K≤Lim) (hL:L≤Lim) (hs:decide (a<0)=decide (b<0)):Fn E y9c [.agg (Zc a),.agg (Zc b)] (.agg (Zc (a+b))):=by
 have h:=k3i hlib ha hb hK hL
 have hw:=y7b (E:=E) (decide (a<0)) (a.natAbs+b.natAbs)
 have e:sgn (decide (a<0)) (a.natAbs+b.natAbs)=a+b:=by
  unfold sgn
  rw [decide_eq_decide] at hs
  by_cases c:a<0
  · have:=hs.1 c;rw [decide_eq_true c,if_pos rfl];omega
  · have:¬ b<0:=fun x=>c (hs.2 x)
    rw [decide_eq_false c,if_neg (by simp)];omega
 rw [e] at hw
 exact v2j h hw
theorem q7m (hlib:Lib E) {a b:Int} {K L:Nat} (ha:a.natAbs<10 ^ K) (hb:b.natAbs<10 ^ L) (hK:K≤Lim) (hL:L≤Lim) (hs:decide (a<0)≠decide (b<0)):Fn E z2j [.agg (Zc a),.agg (Zc b)] (.agg (Zc (a+b))):=by
 have hc:=j1e hlib ha hb hK hL
 have hs':¬ (a<0↔b<0):=fun h=>hs (decide_eq_decide.2 h)
 by_cases c:a.natAbs<b.natAbs
 · have h:=x2v hlib hb ha hL hK (by omega)
   have hw:=y7b (E:=E) (decide (b<0)) (b.natAbs-a.natAbs)
   have e:sgn (decide (b<0)) (b.natAbs-a.natAbs)=a+b:=by
    unfold sgn
    by_cases d:b<0
    · have:¬ a<0:=fun x=>hs' ⟨fun _=>d,fun _=>x⟩
      rw [decide_eq_true d,if_pos rfl];omega
    · have:a<0:=Classical.byContradiction fun x=>hs' ⟨fun y=>absurd y x,fun y=>absurd y d⟩
      rw [decide_eq_false d,if_neg (by simp)];omega
   rw [e] at hw
   exact k3c hc (y9f.2 (by omega)) h hw
 · have h:=x2v hlib ha hb hK hL (by omega)
   have hw:=y7b (E:=E) (decide (a<0)) (a.natAbs-b.natAbs)
   have e:sgn (decide (a<0)) (a.natAbs-b.natAbs)=a+b:=by
    unfold sgn
    by_cases d:a<0
    · have:¬ b<0:=fun x=>hs' ⟨fun _=>x,fun _=>d⟩
      rw [decide_eq_true d,if_pos rfl];omega
    · have:b<0:=Classical.byContradiction fun x=>hs' ⟨fun y=>absurd y d,fun y=>absurd y x⟩
      rw [decide_eq_false d,if_neg (by simp)];omega
   rw [e] at hw
   exact k3d hc (fun x=>c (by have:=y9f.1 x;omega)) h hw
theorem w9v (b:Bool):Fn E z1x [.c (.bool b)] (.c (.i64 (if b then 1 else 0))):=by
 cases b
 · exact v2h
 · exact v2g
theorem w1y (hlib:Lib E) {a b:Int} {K L:Nat} (ha:a.natAbs<10 ^ K) (hb:b.natAbs<10 ^ L) (hK:K≤Lim) (hL:L≤Lim):Fn E X1 [.agg (Zc a),.agg (Zc b)] (.agg (Zc (a+b))):=by
 have b1:=w9v (E:=E) (decide (a<0))
 have b2:=w9v (E:=E) (decide (b<0))
 by_cases hs:decide (a<0)=decide (b<0)
 · have h:=u5d hlib ha hb hK hL hs
   cases c:decide (a<0) with
   | true =>
    rw [c] at b1 hs;rw [← hs] at b2
    simp only [Zc] at h ⊢;rw [c,← hs] at h ⊢
    exact x9x b1 b2 h
   | false =>
    rw [c] at b1 hs;rw [← hs] at b2
    simp only [Zc] at h ⊢;rw [c,← hs] at h ⊢
    exact x9u b1 b2 h
 · have h:=q7m hlib ha hb hK hL hs
   cases c:decide (a<0) with
   | true =>
    have d:decide (b<0)=false:=by rw [c] at hs;cases x:decide (b<0) with | true=>exact absurd x.symm hs | false=>rfl
    rw [c] at b1;rw [d] at b2
    simp only [Zc] at h ⊢;rw [c,d] at h ⊢
    exact x9w b1 b2 h
   | false =>
    have d:decide (b<0)=true:=by rw [c] at hs;cases x:decide (b<0) with | false=>exact absurd x.symm hs | true=>rfl
    rw [c] at b1;rw [d] at b2
    simp only [Zc] at h ⊢;rw [c,d] at h ⊢
    exact x9v b1 b2 h
theorem w9a (hlib:Lib E) {a b:Int} {K L:Nat} (ha:a.natAbs<10 ^ K) (hb:b.natAbs<10 ^ L) (hKL:K+L≤Lim):Fn E z8h [.agg (Zc a),.agg (Zc b)] (.agg (Zc (a*b))):=by
 have h:=x2u hlib ha hb hKL
 have hw:=y7b (E:=E) (!(decide (a<0) == decide (b<0))) (a.natAbs*b.natAbs)
 have e:sgn (!(decide (a<0) == decide (b<0))) (a.natAbs*b.natAbs)=a*b:=by
  unfold sgn
  have ea:(a.natAbs:Int)=if a<0 then -a else a:=by split <;> omega
  have eb:(b.natAbs:Int)=if b<0 then -b else b:=by split <;> omega
  rw [Int.natCast_mul,ea,eb]
  by_cases c:a<0 <;> by_cases d:b<0 <;> simp [c,d] <;> grind
 rw [e] at hw
 exact x7u rfl h hw
theorem q6m {a b:Int} {K:Nat} (ha:a.natAbs<10 ^ K) (hb:b.natAbs<10 ^ K):(a+b).natAbs<10 ^ (K+1):=by
 have:=Int.natAbs_add_le a b
 rw [Nat.pow_succ];omega
theorem q8d (hlib:Lib E) {a b:Int} {K L:Nat} (ha:a.natAbs<10 ^ K) (hb:b.natAbs<10 ^ L) (hK:K≤Lim) (hL:L≤Lim):Fn E y9b [.c (.str (B (decZ a))),.c (.str (B (decZ b)))] (.tup [.c (.str (B (decZ (a+b)))),.c (.i64 0)]):=by
 have hs:=q6m (z5y ha (show K≤max K L by omega)) (z5y hb (show L≤max K L by omega))
 have:1≤Lim:=by rw [Y7];omega
 exact v2d (k1u hlib ha hb hK hL) rfl (w1y hlib ha hb hK hL) (k5e hs (by omega))
theorem z4q {a b:Int} {K L:Nat} (ha:a.natAbs<10 ^ K) (hb:b.natAbs<10 ^ L):(a*b).natAbs<10 ^ (K+L):=by
 rw [Int.natAbs_mul];exact z6g ha hb
theorem y1m (hlib:Lib E) {a b:Int} {K L:Nat} (ha:a.natAbs<10 ^ K) (hb:b.natAbs<10 ^ L) (hKL:K+L≤Lim):Fn E z0s [.c (.str (B (decZ a))),.c (.str (B (decZ b)))] (.tup [.c (.str (B (decZ (a*b)))),.c (.i64 0)]) :=
 v2e (k1u hlib ha hb (by omega) (by omega)) rfl (w9a hlib ha hb hKL) (k5e (z4q ha hb) (by omega))
theorem q8e (hlib:Lib E) {a:Int} {K:Nat} (ha:a.natAbs<10 ^ K) (hK:K≤Lim):Fn E x4n [.c (.str (B (decZ a)))] (.tup [.c (.str (B (decZ (-a)))),.c (.i64 0)]) :=
 v2f (v8i hlib ha hK) rfl (q1y a) (k5e (K:=K) (by rw [Int.natAbs_neg];exact ha) (by omega))
theorem q8c (hlib:Lib E) {a:Int} {K:Nat} (ha:a.natAbs<10 ^ K) (hK:K≤Lim):Fn E x4m [.c (.str (B (decZ a)))] (.tup [.c (.str (B (dec a.natAbs))),.c (.i64 0)]) :=
 v2c (v8i hlib ha hK) rfl
theorem q2t (hlib:Lib E) {a:Int} {K:Nat} (ha:a.natAbs<10 ^ K) (hK:K≤Lim):Fn E x2g [.c (.str (B (decZ a)))] (.tup [.c (.i64 (cmpI a 0)),.c (.i64 0)]) :=
 q8f (v8i hlib ha hK) (w3w a)
theorem w0u (a b:Int):cmpI (a+-b) 0=cmpI a b:=by unfold cmpI;split <;> split <;> (try split) <;> (try split) <;> omega
theorem j0w (hlib:Lib E) {a b:Int} {K L:Nat} (ha:a.natAbs<10 ^ K) (hb:b.natAbs<10 ^ L) (hK:K≤Lim) (hL:L≤Lim):Fn E y5q [.c (.str (B (decZ a))),.c (.str (B (decZ b)))] (.tup [.c (.i64 (cmpI a b)),.c (.i64 0)]):=by
 rw [← w0u a b]
 exact j3p (k1u hlib ha hb hK hL) (q1y b) (w1y hlib ha (b:=-b) (by rw [Int.natAbs_neg];exact hb) hK hL) (w3w _)
theorem w4w (hlib:Lib E) {a:Int} {b K L:Nat} (ha:a.natAbs<10 ^ K) (hb:b<10 ^ L) (hK:K≤Lim) (hL:L≤Lim)(h0:b≠0):Fn E z0f [.agg (Zc a),.agg (Zc b)] (.tup [.agg (Zc (a / b)),.agg (Zc (a % b))]):=by
 have h:=x4a hlib ha hb hK hL h0
 have eb:Zc (b:Int)=[.bool false,.str (B (dec b))]:=by unfold Zc;rw [decide_eq_false (by omega),Int.natAbs_natCast]
 have hdm:=Nat.div_add_mod a.natAbs b
 have hlt:=Nat.mod_lt a.natAbs (show 0<b by omega)
 obtain ⟨q,eq⟩:∃ q,q=a.natAbs / b:=⟨_,rfl⟩
 obtain ⟨r,er⟩:∃ r,r=a.natAbs % b:=⟨_,rfl⟩
 rw [← eq,← er] at h hdm
 rw [← er] at hlt
 have hq:q<10 ^ K:=by rw [eq];exact Nat.lt_of_le_of_lt (Nat.div_le_self _ _) ha
 rw [eb]
 have uniq:∀ Q R:Int,a=b*Q+R→0≤R→R<b→a / b=Q∧a % b=R:=by
  intro Q R e h1 h2
  have:=(Int.ediv_emod_unique (show 0<(b:Int) by omega) (a:=a) (r:=R) (q:=Q)).2 ⟨by rw [e];omega,h1,h2⟩
  exact this
 have hdm':((b:Int))*q+r=a.natAbs:=by have:=congrArg (Nat.cast (R:=Int)) hdm;simpa using this
 by_cases c:a<0
 · have ea:Zc a=[.bool true,.str (B (dec a.natAbs))]:=by unfold Zc;rw [decide_eq_true c]
   rw [ea]
   by_cases hr:r=0
   · obtain ⟨u1,u2⟩:=uniq (-(q:Int)) 0 (by rw [Int.mul_neg];omega) (by omega) (by omega)
     rw [u1,u2]
     have w1:=y7b (E:=E) true q
     have w2:=y7b (E:=E) false r
     rw [show sgn true q=-(q:Int) from rfl] at w1
     rw [show sgn false r=(r:Int) from rfl,hr,show ((0:Nat):Int)=0 from rfl] at w2
     rw [hr] at h
     exact x5z rfl h (by rw [B48,z7f]) w1 w2
   · obtain ⟨u1,u2⟩:=uniq (-((q+1:Nat):Int)) ((b-r:Nat):Int) (by rw [Int.mul_neg,Int.natCast_add,Int.mul_add];omega) (by omega) (by omega)
     rw [u1,u2]
     have w1:=y7b (E:=E) true (q+1)
     have w2:=y7b (E:=E) false (b-r)
     have h1:=k3i hlib hq (show 1<10 ^ 1 by decide) hK (by rw [Y7];omega)
     have h2:=x2v hlib hb (show r<10 ^ L by omega) hL hL (by omega)
     rw [← u0d] at h1
     exact x5y rfl h (fun e=>hr (by rw [B48] at e;exact y5f.1 (y5o e))) h1 h2 w1 w2
 · have ea:Zc a=[.bool false,.str (B (dec a.natAbs))]:=by unfold Zc;rw [decide_eq_false c]
   rw [ea]
   obtain ⟨u1,u2⟩:=uniq q r (by omega) (by omega) (by omega)
   rw [u1,u2]
   exact x6a rfl h (y7b false q) (y7b false r)
theorem w0z {a:Int} {b:Nat}:(a / b).natAbs≤a.natAbs:=Int.natAbs_ediv_le_natAbs a b
theorem j3q (hlib:Lib E) {a:Int} {b K L:Nat} (ha:a.natAbs<10 ^ K) (hb:b<10 ^ L) (hK:K≤Lim) (hL:L≤Lim)(h0:b≠0):Fn E y7i [.c (.str (B (decZ a))),.c (.str (B (dec b)))] (.tup [.c (.str (B (decZ (a / b)))),.c (.str (B (decZ (a % b)))),.c (.i64 0)]):=by
 have hbo:=k1u hlib ha (show (b:Int).natAbs<10 ^ L from hb) hK hL
 rw [y6a] at hbo
 have hz:=u0k (b:Int)
 rw [decide_eq_false (show ¬ (b:Int)=0 by omega)] at hz
 have hr0:=Int.emod_nonneg a (show (b:Int)≠0 by omega)
 have hr1:=Int.emod_lt_of_pos a (show 0<(b:Int) by omega)
 exact j8n hbo rfl j7z hz (w4w hlib ha hb hK hL h0) (k5e (Nat.lt_of_le_of_lt w0z ha) (by omega)) (k5e (K:=L) (Nat.lt_of_le_of_lt (show (a % b).natAbs≤b by omega) hb) (by omega))
def Qc (q:Rat):List DV:=[.str (B (decZ q.num)),.str (B (dec q.den))]
theorem B47:(⟨#[47]⟩:BA)=B [47]:=rfl
theorem Sz.num {q:Rat} {K:Nat} (h:Sz q K):q.num.natAbs<10 ^ K:=h.1
theorem Sz.den {q:Rat} {K:Nat} (h:Sz q K):q.den<10 ^ K:=h.2
theorem w4v {q:Rat} {K:Nat} (h:Sz q K):(dec q.den).length≤K:=dec_length h.2 h.pos
theorem v1a {q:Rat} {K:Nat} (h:Sz q K) (hK:K≤Lim):Fn E F_rational_frac_text [.agg (Qc q)] (.c (.str (B (decQ q)))):=by
 have h1:=j3l h.1
 have h2:=w4v h
 rw [Y7] at hK
 by_cases hd:q.den=1
 · rw [z7e hd]
   exact k4d (by rw [hd,y9g];rfl)
 · rw [z4h hd]
   exact k4e (s2:=B (decZ q.num++[47])) (by rw [B47,x5n]) (by rw [x5n];simp) (fun e=>hd (by rw [B49] at e;exact y7u.1 (y5o e))) (by rw [B47,F4,F4];simp;omega) (by rw [F4,F4];simp;omega)
theorem j0s (hlib:Lib E) {z:Int} {d K L:Nat} (hz:z.natAbs<10 ^ K) (hd:d<10 ^ L) (hK:K≤Lim) (hL:L≤Lim)(h0:d≠0):Fn E z8k [.c (.str (B (decZ z))),.c (.str (B (dec d)))] (.c (.str (B (dec (Nat.gcd z.natAbs d))))) :=
 j1m (q8c hlib hz hK) (q8r hlib hz hd hK hL (.inr (by omega)))
theorem w4z {z:Int} {d:Nat} (h0:d≠0):Nat.gcd z.natAbs d≠0:=fun h=>h0 (Nat.eq_zero_of_gcd_eq_zero_right h)
theorem v5x {z:Int} {d:Nat} (h0:d≠0):(mkRat z d).num=z / (Nat.gcd z.natAbs d:Nat):=by rw [Rat.num_mkRat,if_neg h0,Nat.gcd_comm]
theorem v5w {z:Int} {d:Nat} (h0:d≠0):(mkRat z d).den=d / Nat.gcd z.natAbs d:=by rw [Rat.den_mkRat,if_neg h0,Nat.gcd_comm]
theorem Qc_mk {z:Int} {d:Nat} (h0:d≠0):Qc (mkRat z d)=[.str (B (decZ (z / (Nat.gcd z.natAbs d:Nat)))),.str (B (dec (d / Nat.gcd z.natAbs d)))]:=by unfold Qc;rw [v5x h0,v5w h0]
theorem v5v (hlib:Lib E) {z:Int} {d K L:Nat} (hz:z.natAbs<10 ^ K) (hd:d<10 ^ L) (hK:K≤Lim) (hL:L≤Lim)(h0:d≠0):Fn E Z2 [.c (.str (B (decZ z))),.c (.str (B (dec d)))] (.agg (Qc (mkRat z d))):=by
 have hg:=j0s hlib hz hd hK hL h0
 rw [Qc_mk h0]
 obtain ⟨g,eg⟩:∃ g,g=Nat.gcd z.natAbs d:=⟨_,rfl⟩
 have hg0:g≠0:=by rw [eg];exact w4z h0
 have hgl:g<10 ^ L:=by rw [eg];exact Nat.lt_of_le_of_lt (Nat.gcd_le_right _ (by omega)) hd
 rw [← eg] at hg ⊢
 by_cases h1:g=1
 · rw [h1] at hg ⊢
   rw [show ((1:Nat):Int)=1 from rfl,Int.ediv_one,Nat.div_one]
   exact j4l hg (by rw [y9g,B49])
 · exact j4k hg (fun e=>h1 (by rw [B49] at e;exact y7u.1 (y5o e))) (j3q hlib hz hgl hK hL hg0) (x4a hlib hd hgl hL hL hg0)
theorem x6y {z:Int} (h:(decZ z).length≤9):z.natAbs<1000000000:=by
 have h1:(dec z.natAbs).length≤(decZ z).length:=by unfold decZ;split <;> simp
 have h2:=z4e z.natAbs
 have h3:(10:Nat) ^ (dec z.natAbs).length≤10 ^ 9:=Nat.pow_le_pow_right (by decide) (by omega)
 rw [x0h] at h3
 omega
theorem k5z {n:Nat} (h:(dec n).length≤9):n<1000000000:=by
 have:=x6y (z:=(n:Int)) (by rw [y6a];exact h)
 omega
theorem y1o (hlib:Lib E) {q:Rat} (h1:(decZ q.num).length≤9)(h2:(dec q.den).length≤9):Fn E C5 [.agg (Qc q)] (.tup [.c (.i64 q.num),.c (.i64 q.den),.c (.bool true)]):=by
 have p1:=hlib.parseInt q.num h1
 have p2:=hlib.parseInt (q.den:Int) (by rw [y6a];exact h2)
 rw [y6a] at p2
 exact x8h (by rw [F4];omega) (by rw [F4];omega) p1 p2
theorem x2a {q:Rat} (h:¬ ((decZ q.num).length≤9∧(dec q.den).length≤9)):Fn E C5 [.agg (Qc q)] (.tup [.c (.i64 0),.c (.i64 0),.c (.bool false)]):=by
 by_cases h1:(decZ q.num).length≤9
 · exact x8g (by rw [F4];omega) (by rw [F4];have:¬ (dec q.den).length≤9:=fun x=>h ⟨h1,x⟩;omega)
 · exact x8f (by rw [F4];omega)
theorem w6y {x0 x1:Int} {s:BA}:∀ (t:Nat) (a b:Int),b.natAbs<t→∃ g:Int,Lp E 1 z1y 0 (y1t x0 x1 a b s s) (.exit 0) (y7y x0 x1 s s g)∧g.natAbs=Nat.gcd a.natAbs b.natAbs
 | 0,a,b,h=>by omega
 | t+1,a,b,h=>by
  by_cases h0:b=0
  · subst h0
    exact ⟨a,k7k rfl,by simp⟩
  · have hlt:(Int.tmod a b).natAbs<b.natAbs:=by
     rw [Int.natAbs_tmod]
     exact Nat.mod_lt _ (by omega)
    obtain ⟨g,h1,h2⟩:=w6y t b (Int.tmod a b) (by omega)
    refine ⟨g,j4m rfl h0 h0 h1,?_⟩
    rw [h2,Int.natAbs_tmod]
    exact (Nat.gcd_comm _ _).trans ((Nat.gcd_rec _ _).symm.trans (Nat.gcd_comm _ _))
theorem u0z (hlib:Lib E) {p:Int} {q:Nat} (hp:p.natAbs<9000000000000000000) (hq:q<9000000000000000000)(h0:q≠0):Fn E z1y [.c (.i64 p),.c (.i64 q)] (.agg (Qc (mkRat p q))):=by
 obtain ⟨g,h1,h2⟩:=w6y (E:=E) (x0:=p) (x1:=q) (s:=⟨#[]⟩) (q+1) p q (by omega)
 rw [Int.natAbs_natCast] at h2
 have hg0:=w4z (z:=p) h0
 have hgle:Nat.gcd p.natAbs q≤q:=Nat.gcd_le_right _ (by omega)
 rw [Qc_mk h0]
 obtain ⟨G,eG⟩:∃ G,G=Nat.gcd p.natAbs q:=⟨_,rfl⟩
 have d1:((G:Nat):Int) ∣ p:=by rw [eG];exact Int.ofNat_dvd_left.2 (Nat.gcd_dvd_left _ _)
 rw [← eG] at h2 hg0 hgle ⊢
 have hm:(if (if g<0 then -g else -g)>g then (if g<0 then -g else -g) else g)=(G:Int):=by split <;> split at*<;> omega
 have hq':((q / G:Nat):Int)=(q:Int) / G:=Int.natCast_ediv q G
 have f1:=hlib.formatInt (p / G) (by have:=Int.natAbs_ediv_le_natAbs p G;omega)
 have hqg:q / G≤q:=Nat.div_le_self _ _
 obtain ⟨Q,eQ⟩:∃ Q,Q=q / G:=⟨_,rfl⟩
 rw [← eQ] at hq' hqg ⊢
 have f2:=hlib.formatInt (Q:Int) (by omega)
 rw [y6a] at f2
 have hpd:Int.tdiv p G=p / G:=Int.tdiv_eq_ediv_of_dvd d1
 have hpa:=Int.natAbs_ediv_le_natAbs p G
 refine v2w (i3:=-g) (i4:=(G:Int)) (i5:=p / G) (i6:=(Q:Int)) (wi (by omega)) (by split <;> omega) (wi ⟨hpd,by omega,by omega⟩) (wi ⟨(tdv (by omega) hq'.symm),by omega,by omega⟩) h1 (by omega) f1 f2
theorem w1z (hlib:Lib E) {x y:Rat} {K L:Nat} (hx:Sz x K) (hy:Sz y L) (hKL:K+L+1≤Lim):Fn E z2z [.agg (Qc x),.agg (Qc y)] (.agg (Qc (x+y))):=by
 rw [Rat.add_def']
 have hd:x.den*y.den≠0:=Nat.mul_ne_zero x.den_nz y.den_nz
 have low:Fn E Z2 [.c (.str (B (decZ (x.num*y.den+y.num*x.den)))),.c (.str (B (dec (x.den*y.den))))] (.agg (Qc (mkRat (x.num*y.den+y.num*x.den) (x.den*y.den)))):=by
  refine v5v hlib (K:=K+L+1) (L:=K+L) ?_ (z6g hx.2 hy.2) hKL (by omega) hd
  have h1:=z4q (b:=(y.den:Int)) hx.1 (show (y.den:Int).natAbs<10 ^ L from hy.2)
  have h2:=z4q (b:=(x.den:Int)) hy.1 (show (x.den:Int).natAbs<10 ^ K from hx.2)
  exact q6m h1 (by rw [Nat.add_comm];exact h2)
 have m1:=y1m hlib hx.1 (b:=(y.den:Int)) (show (y.den:Int).natAbs<10 ^ L from hy.2) (by omega)
 have m2:=y1m hlib hy.1 (b:=(x.den:Int)) (show (x.den:Int).natAbs<10 ^ K from hx.2) (by omega)
 rw [y6a] at m1 m2
 have a1:=q8d hlib (z4q hx.1 (show (y.den:Int).natAbs<10 ^ L from hy.2)) (z4q hy.1 (show (x.den:Int).natAbs<10 ^ K from hx.2)) (by omega) (by omega)
 have n1:=x2u hlib hx.2 hy.2 (by omega)
 by_cases c1:(decZ x.num).length≤9∧(dec x.den).length≤9
 · by_cases c2:(decZ y.num).length≤9∧(dec y.den).length≤9
   · have b1:=x6y c1.1
     have b2:=k5z c1.2
     have b3:=x6y c2.1
     have b4:=k5z c2.2
     have p1:(x.num*(y.den:Int)).natAbs≤999999999*999999999:=by rw [Int.natAbs_mul];exact Nat.mul_le_mul (by omega) (by simp;omega)
     have p2:(y.num*(x.den:Int)).natAbs≤999999999*999999999:=by rw [Int.natAbs_mul];exact Nat.mul_le_mul (by omega) (by simp;omega)
     have p3:x.den*y.den≤999999999*999999999:=Nat.mul_le_mul (by omega) (by omega)
     have e3:(x.den:Int)*y.den=((x.den*y.den:Nat):Int):=(Int.natCast_mul _ _).symm
     have o:=u0z hlib (p:=x.num*y.den+y.num*x.den) (q:=x.den*y.den) (by omega) (by omega) hd
     exact q3d (i4:=x.num*y.den) (i5:=y.num*x.den) (i6:=x.num*y.den+y.num*x.den) (i7:=((x.den*y.den:Nat):Int)) (wi (by omega)) (wi (by omega)) (wi (by omega)) (wi ⟨e3,by omega,by omega⟩) (y1o hlib c1.1 c1.2) (y1o hlib c2.1 c2.2) o
   · exact q3e (y1o hlib c1.1 c1.2) (x2a c2) m1 m2 a1 n1 low
 · have:∃ v w b,Fn E C5 [.agg (Qc y)] (.tup [.c (.i64 v),.c (.i64 w),.c (.bool b)]):=by
    by_cases c2:(decZ y.num).length≤9∧(dec y.den).length≤9
    · exact ⟨_,_,_,y1o hlib c2.1 c2.2⟩
    · exact ⟨_,_,_,x2a c2⟩
   obtain ⟨v,w,b,hl⟩:=this
   exact q3f (x2a c1) hl m1 m2 a1 n1 low
theorem w9b (hlib:Lib E) {x y:Rat} {K L:Nat} (hx:Sz x K) (hy:Sz y L) (hKL:K+L≤Lim):Fn E z4g [.agg (Qc x),.agg (Qc y)] (.agg (Qc (x*y))):=by
 rw [Rat.mul_def']
 have hd:x.den*y.den≠0:=Nat.mul_ne_zero x.den_nz y.den_nz
 have low:=v5v hlib (z4q hx.1 hy.1) (z6g hx.2 hy.2) (by omega) (by omega) hd
 have m1:=y1m hlib hx.1 hy.1 (by omega)
 have n1:=x2u hlib hx.2 hy.2 (by omega)
 by_cases c1:(decZ x.num).length≤9∧(dec x.den).length≤9
 · by_cases c2:(decZ y.num).length≤9∧(dec y.den).length≤9
   · have b1:=x6y c1.1
     have b2:=k5z c1.2
     have b3:=x6y c2.1
     have b4:=k5z c2.2
     have p1:(x.num*y.num).natAbs≤999999999*999999999:=by rw [Int.natAbs_mul];exact Nat.mul_le_mul (by omega) (by omega)
     have p3:x.den*y.den≤999999999*999999999:=Nat.mul_le_mul (by omega) (by omega)
     have e3:(x.den:Int)*y.den=((x.den*y.den:Nat):Int):=(Int.natCast_mul _ _).symm
     have o:=u0z hlib (p:=x.num*y.num) (q:=x.den*y.den) (by omega) (by omega) hd
     exact j8z (i4:=x.num*y.num) (i5:=((x.den*y.den:Nat):Int)) (wi (by omega)) (wi ⟨e3,by omega,by omega⟩) (y1o hlib c1.1 c1.2) (y1o hlib c2.1 c2.2) o
   · exact j9a (y1o hlib c1.1 c1.2) (x2a c2) m1 n1 low
 · have:∃ v w b,Fn E C5 [.agg (Qc y)] (.tup [.c (.i64 v),.c (.i64 w),.c (.bool b)]):=by
    by_cases c2:(decZ y.num).length≤9∧(dec y.den).length≤9
    · exact ⟨_,_,_,y1o hlib c2.1 c2.2⟩
    · exact ⟨_,_,_,x2a c2⟩
   obtain ⟨v,w,b,hl⟩:=this
   exact j9b (x2a c1) hl m1 n1 low
theorem v8l (hlib:Lib E) {x:Rat} {K:Nat} (hx:Sz x K) (hK:K≤Lim):Fn E y3f [.agg (Qc x)] (.agg (Qc (-x))):=by
 have h:=q8e hlib hx.1 hK
 have e:Qc (-x)=[.str (B (decZ (-x.num))),.str (B (dec x.den))]:=by unfold Qc;rw [Rat.neg_num,Rat.neg_den]
 rw [e]
 exact k7l h
def w6p (z:Int) (l:List UInt8):Bool:=bif decide (z<0) then (match l with
 | c::m=>c == 45 && (natB m && dval m == z.natAbs)
 | []=>false) else natB l && dval l == z.natAbs
theorem q6d {l:List UInt8} {n:Nat}:(natB l && dval l == n)=true↔l=dec n:=by
 rw [Bool.and_eq_true,x6c,beq_iff_eq]
 exact ⟨fun h=>by rw [← h.2];exact h.1.eq_dec,fun h=>by rw [h];exact ⟨k5l n,z5v n⟩⟩
theorem j8f {z:Int} {l:List UInt8}:w6p z l=true↔l=decZ z:=by
 unfold w6p
 by_cases h:z<0
 · rw [decide_eq_true h,cond_true,z5u h]
   cases l with
   | nil=>simp
   | cons c m=>rw [Bool.and_eq_true,beq_iff_eq,q6d,List.cons.injEq]
 · rw [decide_eq_false h,cond_false,Z3 (by omega)];exact q6d
def w0w (q:Rat) (l:List UInt8):Bool:=bif q.den == 1 then w6p q.num l else (match l.drop (l.takeWhile (· != 47)).length with
 | c::m=>c == 47 && (w6p q.num (l.takeWhile (· != 47)) && (natB m && dval m == q.den))
 | []=>false)
theorem w6l {a b:List UInt8} (h:(47:UInt8) ∉ a):(a++47::b).takeWhile (· != 47)=a:=by
 induction a with
 | nil=>rfl
 | cons x a ih =>
  have hx:(x != 47)=true:=by rw [bne_iff_ne];exact fun e=>h (by simp [e])
  rw [List.cons_append,List.takeWhile_cons,if_pos hx,ih (fun e=>h (List.mem_cons_of_mem _ e))]
theorem u3p {a:List UInt8} (h:(47:UInt8) ∉ a):a.takeWhile (· != 47)=a:=by
 induction a with
 | nil=>rfl
 | cons x a ih =>
  have hx:(x != 47)=true:=by rw [bne_iff_ne];exact fun e=>h (by simp [e])
  rw [List.takeWhile_cons,if_pos hx,ih (fun e=>h (List.mem_cons_of_mem _ e))]
theorem j8e {q:Rat} {l:List UInt8}:w0w q l=true↔l=decQ q:=by
 unfold w0w
 by_cases h:q.den=1
 · rw [h,beq_self_eq_true,cond_true,z7e h];exact j8f
 · rw [beq_false_of_ne h,cond_false,z4h h]
   constructor
   · intro e
     split at e
     · rename_i c m hd
       rw [Bool.and_eq_true,beq_iff_eq,Bool.and_eq_true,j8f,q6d] at e
       obtain ⟨e1,e2,e3⟩:=e
       have ht:l.take (l.takeWhile (· != 47)).length=l.takeWhile (· != 47):=(List.prefix_iff_eq_take.1 (List.takeWhile_prefix _)).symm
       rw [← List.take_append_drop (l.takeWhile (· != 47)).length l,ht,hd,e1,e2,e3]
     · cases e
   · intro e
     rw [e,w6l (z1d _),List.drop_left]
     show (47 == 47 && _)=true
     rw [Bool.and_eq_true,Bool.and_eq_true]
     exact ⟨rfl,j8f.2 rfl,q6d.2 rfl⟩
def rdZ (l:List UInt8):Int:=bif l.head? == some 45 then -(dval l.tail:Int) else dval l
def rdQ (l:List UInt8):Rat:=match l.drop (l.takeWhile (· != 47)).length with
 | _::m=>mkRat (rdZ (l.takeWhile (· != 47))) (dval m)
 | []=>mkRat (rdZ l) 1
theorem w7g (z:Int):rdZ (decZ z)=z:=by
 unfold rdZ
 by_cases h:z<0
 · rw [z5u h]
   show -(dval (dec z.natAbs):Int)=z
   rw [z5v];omega
 · rw [Z3 (by omega)]
   have hh:((dec z.natAbs).head? == some 45)=false:=by
    rw [beq_eq_false_iff_ne]
    intro e
    cases hd:dec z.natAbs with
    | nil=>rw [hd] at e;cases e
    | cons c m=>rw [hd] at e;cases e;exact k2p _ (by decide) _ hd
   rw [hh,cond_false,z5v];omega
theorem u4t (q:Rat):rdQ (decQ q)=q:=by
 unfold rdQ
 by_cases h:q.den=1
 · rw [z7e h,u3p (z1d _),List.drop_length]
   show mkRat (rdZ (decZ q.num)) 1=q
   rw [w7g,← h];exact Rat.mkRat_self q
 · rw [z4h h,w6l (z1d _),List.drop_left]
   show mkRat (rdZ (decZ q.num)) (dval (dec q.den))=q
   rw [w7g,z5v];exact Rat.mkRat_self q
noncomputable def rd (l:List UInt8):Option Rat:=bif w0w (rdQ l) l then some (rdQ l) else none
theorem j4n (q:Rat):rd (decQ q)=some q:=by
 unfold rd
 rw [u4t,j8e.2 rfl];rfl
theorem q6g {l:List UInt8} {q:Rat} (h:rd l=some q):l=decQ q:=by
 unfold rd at h
 cases c:w0w (rdQ l) l with
 | true=>rw [c] at h;cases h;exact j8e.1 c
 | false=>rw [c] at h;cases h
theorem w7h {l:List UInt8} (h:rd l=none) (q:Rat):l≠decQ q:=fun e=>by rw [e,j4n] at h;cases h
theorem v2t {q:Rat} (h:q.den≠1):q.num≠0:=by
 intro h0
 have:=q.reduced
 rw [h0] at this
 simp [Nat.Coprime] at this
 exact h this
theorem q9b (hlib:Lib E) {q:Rat} {K:Nat} (hq:Sz q K) (hK:K≤Lim):Fn E N3 [.c (.str (B (decQ q)))] (.tup [.agg (Qc q),.c (.bool true)]):=by
 have h1:=j3l hq.1
 have h2:=w4v hq
 have hK':=hK
 rw [Y7] at hK'
 have hv:=y7x hlib (l:=decZ q.num) (by omega)
 rw [k5s] at hv
 by_cases hd:q.den=1
 · rw [z7e hd]
   have e:Qc q=[.str (B (decZ q.num)),.str (B [49])]:=by unfold Qc;rw [hd,y9g]
   rw [e]
   exact x9i (hlib.cutNo _ (z1d _) (by omega)) hv
 · rw [z4h hd]
   have hn:=v2t hd
   have hnv:=z4i (E:=E) (dec q.den) (by omega)
   rw [q8q] at hnv
   have hg:=j0s hlib hq.1 hq.2 hK hK q.den_nz
   have hg1:Nat.gcd q.num.natAbs q.den=1:=q.reduced
   rw [hg1] at hg
   exact q3g (hlib.cutYes _ _ (z1d _) (by omega)) hv (fun e=>hn (by rw [B48] at e;exact k2o ((y5o e).trans x5u.symm))) hnv (fun e=>q.den_nz (by rw [B48] at e;exact y5f.1 (y5o e))) (fun e=>hd (by rw [B49] at e;exact y7u.1 (y5o e))) hg (by rw [y9g,B49])
theorem k2w:∀ (l:List UInt8),(47:UInt8)∈l→∃ p r,l=p++47::r∧(47:UInt8) ∉ p
 | [],h=>by cases h
 | c::l,h=>by
  by_cases hc:c=47
  · exact ⟨[],l,by rw [hc];rfl,by simp⟩
  · have h':(47:UInt8)∈l:=by
     rcases List.mem_cons.1 h with h | h
     · exact absurd h.symm hc
     · exact h
    obtain ⟨p,r,e,hp⟩:=k2w l h'
    exact ⟨c::p,r,by rw [e];rfl,fun hx=>by
     rcases List.mem_cons.1 hx with hx | hx
     · exact hc hx.symm
     · exact hp hx⟩
theorem k2q (z:Int):(dec z.natAbs).length≤(decZ z).length:=by unfold decZ;split <;> simp
theorem u4u (hlib:Lib E) {l:List UInt8} (h:rd l=none) (hl:l.length≤Lim):∃ x y,Fn E N3 [.c (.str (B l))] (.tup [.agg [.str x,.str y],.c (.bool false)]):=by
 have hl':=hl
 rw [Y7] at hl'
 by_cases hs:(47:UInt8)∈l
 · obtain ⟨p,r,rfl,hp⟩:=k2w l hs
   simp only [List.length_append,List.length_cons] at hl hl'
   have hc:=hlib.cutYes p r hp (by omega)
   have hv:=y7x hlib (l:=p) (by omega)
   have hnv:=z4i (E:=E) r (by omega)
   cases hi:intB p with
   | false=>rw [hi] at hv;exact ⟨_,_,q3m hc hv⟩
   | true =>
    rw [hi] at hv
    obtain ⟨z,rfl⟩:=(k3b.1 hi).eq_decZ
    by_cases hz:z=0
    · exact ⟨_,_,q3l hc hv (by rw [hz,x5u];rfl)⟩
    · have hz':¬ B (decZ z)=(⟨#[48]⟩:BA):=fun e=>hz (by rw [B48] at e;exact k2o ((y5o e).trans x5u.symm))
      cases hn:natB r with
      | false=>rw [hn] at hnv;exact ⟨_,_,q3k hc hv hz' hnv⟩
      | true =>
       rw [hn] at hnv
       have hr:=x6c.1 hn
       obtain ⟨n,rfl⟩:∃ n,r=dec n:=⟨_,hr.eq_dec⟩
       by_cases h0:n=0
       · exact ⟨_,_,q3j hc hv hz' hnv (by rw [h0,z7f];rfl)⟩
       · have h0':¬ B (dec n)=(⟨#[48]⟩:BA):=fun e=>h0 (by rw [B48] at e;exact y5f.1 (y5o e))
         by_cases h1:n=1
         · exact ⟨_,_,q3i hc hv hz' hnv h0' (by rw [h1,y9g];rfl)⟩
         · have h1':¬ B (dec n)=(⟨#[49]⟩:BA):=fun e=>h1 (by rw [B49] at e;exact y7u.1 (y5o e))
           have hzl:z.natAbs<10 ^ (decZ z).length:=z5y (z4e _) (k2q z)
           have hg:=j0s hlib hzl (z4e n) (by omega) (by omega) h0
           by_cases hg1:Nat.gcd z.natAbs n=1
           · obtain ⟨q,_,_,e⟩:=w6n z n (by omega) hg1
             exact absurd e.symm (w7h h q)
           · exact ⟨_,_,q3h hc hv hz' hnv h0' h1' hg (fun e=>hg1 (by rw [B49] at e;exact y7u.1 (y5o e)))⟩
 · have hc:=hlib.cutNo l hs (by omega)
   have hv:=y7x hlib (l:=l) (by omega)
   cases hi:intB l with
   | false=>rw [hi] at hv;exact ⟨_,_,x9i hc hv⟩
   | true =>
    obtain ⟨z,e⟩:=(k3b.1 hi).eq_decZ
    exact absurd (e.trans (x1i z).symm) (w7h h z)
theorem y6g (hlib:Lib E) {l:List UInt8} (hl:l.length≤Lim):Fn E z6z [.c (.str (B l))] (.c (.bool (rd l).isSome)):=by
 cases h:rd l with
 | none =>
  obtain ⟨x,y,hr⟩:=u4u hlib h hl
  exact x6u hr
 | some q =>
  have:=q6g h
  subst this
  exact x6u (q9b hlib (Sz.of_len (Nat.le_refl _)) hl)
theorem j2w (hlib:Lib E) {a b:Rat} {K L:Nat} (ha:Sz a K) (hb:Sz b L) (hK:K≤Lim) (hL:L≤Lim):Fn E F_rational_both [.c (.str (B (decQ a))),.c (.str (B (decQ b)))] (.tup [.agg (Qc a),.agg (Qc b),.c (.i64 0)]) :=
 q3c (q9b hlib ha hK) (q9b hlib hb hL)
theorem x9g (hlib:Lib E) {a b:Rat} {K L:Nat} (ha:Sz a K) (hb:Sz b L) (h:K+L+1≤Lim):Fn E y5t [.c (.str (B (decQ a))),.c (.str (B (decQ b)))] (.tup [.c (.str (B (decQ (a+b)))),.c (.i64 0)]) :=
 q8y (hlib.apply 43 _ (by simp) _ _ _ _ _ _ _ _ _ (j2w hlib ha hb (by omega) (by omega)) (by omega) (w1z hlib ha hb h) (v1a (ha.add hb) h))
theorem x9h (hlib:Lib E) {a b:Rat} {K L:Nat} (ha:Sz a K) (hb:Sz b L) (h:K+L≤Lim):Fn E y5u [.c (.str (B (decQ a))),.c (.str (B (decQ b)))] (.tup [.c (.str (B (decQ (a*b)))),.c (.i64 0)]) :=
 q8z (hlib.apply 42 _ (by simp) _ _ _ _ _ _ _ _ _ (j2w hlib ha hb (by omega) (by omega)) (by omega) (w9b hlib ha hb h) (v1a (ha.mul hb) h))
theorem q3b (hlib:Lib E) {a b:Rat} {K L:Nat} (ha:Sz a K) (hb:Sz b L) (h:K+L+1≤Lim):Fn E x2h [.c (.str (B (decQ a))),.c (.str (B (decQ b)))] (.tup [.c (.str (B (decQ (a-b)))),.c (.i64 0)]):=by
 refine q9a (hlib.apply 45 z0h (by simp) _ _ _ _ _ _ _ _ _ (j2w hlib ha hb (by omega) (by omega)) (by omega) (?_:Fn E z0h [.agg (Qc a),.agg (Qc b)] (.agg (Qc (a-b)))) (v1a (ha.sub hb) h))
 rw [Rat.sub_eq_add_neg]
 exact x6v (v8l hlib hb (by omega)) (w1z hlib ha hb.neg h)
def cmpQ (a b:Rat):Int:=cmpI (a.num*b.den) (b.num*a.den)
theorem w6k {a b:Rat}:cmpQ a b<0↔a<b:=by unfold cmpQ;rw [y9f,Rat.lt_iff]
theorem w6j {a b:Int}:cmpI a b>0↔b<a:=by unfold cmpI;split <;> (try split) <;> omega
theorem u3m {a b:Rat}:cmpQ a b>0↔b<a:=by unfold cmpQ;rw [w6j,Rat.lt_iff]
theorem k5h {a b:Int}:cmpI a b=0↔a=b:=by unfold cmpI;split <;> (try split) <;> omega
theorem w8b (a:Rat):cmpQ a a=0:=q5y rfl
theorem q7g (a b:Int):-1≤cmpI a b∧cmpI a b≤1:=by unfold cmpI;split <;> (try split) <;> omega
theorem j3o (hlib:Lib E) {a:Rat} {K:Nat} (ha:Sz a K) (hK:K≤Lim):Fn E z0g [.agg (Qc a)] (.c (.i64 (cmpI a.num 0))):=k4c (q2t hlib ha.1 hK)
theorem q7h {a b:Rat} (h:cmpI a.num 0≠cmpI b.num 0):cmpQ a b=(if cmpI a.num 0<cmpI b.num 0 then -1 else 1):=by
 have pa:=Nat.pos_of_ne_zero a.den_nz
 have pb:=Nat.pos_of_ne_zero b.den_nz
 have sg:∀ (n:Int) (d:Nat),0<d→cmpI (n*d) 0=cmpI n 0:=by
  intro n d hd
  rcases Int.lt_trichotomy n 0 with c | c | c
  · have:n*d<0:=Int.mul_neg_of_neg_of_pos c (by omega)
    unfold cmpI;rw [if_pos this,if_pos c]
  · subst c;simp
  · have:0<n*d:=Int.mul_pos c (by omega)
    unfold cmpI;rw [if_neg (by omega),if_pos (by omega),if_neg (by omega),if_pos (by omega)]
 have s1:=sg a.num b.den pb
 have s2:=sg b.num a.den pa
 rw [← s1,← s2] at h ⊢
 unfold cmpQ
 generalize a.num*(b.den:Int)=u at *
 generalize b.num*(a.den:Int)=v at *
 unfold cmpI at *
 split <;> (try split) <;> split at*<;> (try split at *) <;> (try split at *) <;> (try split at *) <;> omega
theorem y3k (hlib:Lib E) {a b:Rat} {K L:Nat} (ha:Sz a K) (hb:Sz b L) (h:K+L≤Lim):Fn E z1q [.c (.str (B (decQ a))),.c (.str (B (decQ b)))] (.tup [.c (.i64 (cmpQ a b)),.c (.i64 0)]):=by
 have hbo:=j2w hlib ha hb (by omega) (by omega)
 by_cases he:a=b
 · subst he
   rw [w8b]
   exact j1j hbo rfl rfl
 · have hne:¬ B (decQ a)=B (decQ b):=fun e=>he (u0b (y5o e))
   have s1:=j3o hlib ha (by omega)
   have s2:=j3o hlib hb (by omega)
   have r1:=q7g a.num 0
   have r2:=q7g b.num 0
   by_cases hs:cmpI a.num 0=cmpI b.num 0
   · have m1:=y1m hlib ha.1 (b:=(b.den:Int)) (show (b.den:Int).natAbs<10 ^ L from hb.2) h
     have m2:=y1m hlib hb.1 (b:=(a.den:Int)) (show (a.den:Int).natAbs<10 ^ K from ha.2) (by omega)
     rw [y6a] at m1 m2
     have c:=j0w hlib (z4q ha.1 (show (b.den:Int).natAbs<10 ^ L from hb.2)) (z4q hb.1 (show (a.den:Int).natAbs<10 ^ K from ha.2)) h (by omega)
     exact j1l hbo rfl hne s1 s2 hs m1 m2 c
   · rw [q7h hs]
     refine j1k (i3:=cmpI a.num 0-cmpI b.num 0) (i4:=if 1<cmpI a.num 0-cmpI b.num 0 then 1 else cmpI a.num 0-cmpI b.num 0) (wi (by omega)) rfl ?_ hbo rfl hne s1 s2 hs
     split <;> split <;> (try split) <;> omega
theorem j4g (ws:List Int):∀ k,k≤ws.length→k<9223372036854775807→Lp E 1 J7 0 (y0d k (Wr ws)) (.exit 0) (y4g (Wr ws) (z2v ws k))
 | 0,_,_=>j1x (by omega)
 | k+1,hk,hb=>by
  unfold z2v
  by_cases h0:ws.getD k 0=0
  · rw [if_pos h0]
    exact j9m (i0:=(k:Int)) (i1:=ws.getD k 0) (n2:=k) (wi (by omega)) rfl (by omega) (by omega) (G1 (by omega)) h0 (by omega) (j4g ws k (by omega) (by omega))
  · rw [if_neg h0]
    exact j1w (i0:=(k:Int)) (i1:=ws.getD k 0) (wi (by omega)) (by omega) (by omega) (G1 (by omega)) h0
theorem y9h {ws:List Int} {k:Nat} (hk:k≤ws.length) (hb:k<9223372036854775807):Rn E J7 [.vec 0 k] [some (.vec A4 (Wr ws))] (.vec 0 (z2v ws k)) [some (.vec A4 (Wr ws))] :=
 v8w (j4g ws k hk hb)
theorem x3f {ws:List Int} (h:Wd ws) {n:Nat} (hv:wv ws=n):(Wr ws).take (z2v ws ws.length)=Wr (words n):=by
 rw [z2d,z2w h (Nat.le_refl _),List.take_length,hv,Int.toNat_natCast]
theorem k3u {n:Nat} (h:n<4294967296):Fn E z4d [.c (.u32 n)] (.c (.list (Wr (words n)))):=by
 have hw:Wd [((n % 1000000000:Nat):Int),((n / 1000000000:Nat):Int)]:=Wd.cons (by omega) (by omega) (Wd.cons (by omega) (by omega) Wd.nil)
 have ht:=y9h (E:=E) (ws:=[((n % 1000000000:Nat):Int),((n / 1000000000:Nat):Int)]) (k:=2) (Nat.le_refl _) (by decide)
 exact v2y (i1:=((n % 1000000000:Nat):Int)) (i2:=((n / 1000000000:Nat):Int)) (tmd (by omega) (by omega)) (w32 ⟨tdv (by omega) (by omega),by omega,by omega⟩) (x3f hw (by simp [wv];omega)) ht
theorem u4o {n:Nat} (h:n<18446744073709551616):Fn E x7l [.c (.u64 n)] (.c (.list (Wr (words n)))):=by
 have hw:Wd [((n % 1000000000:Nat):Int),((n / 1000000000 % 1000000000:Nat):Int),((n / 1000000000 / 1000000000:Nat):Int)]:=Wd.cons (by omega) (by omega) (Wd.cons (by omega) (by omega) (Wd.cons (by omega) (by omega) Wd.nil))
 have ht:=y9h (E:=E) (ws:=[((n % 1000000000:Nat):Int),((n / 1000000000 % 1000000000:Nat):Int),((n / 1000000000 / 1000000000:Nat):Int)]) (k:=3) (Nat.le_refl _) (by decide)
 exact v8x (i1:=((n % 1000000000:Nat):Int)) (i2:=((n % 1000000000:Nat):Int)) (i3:=((n / 1000000000:Nat):Int)) (i4:=((n / 1000000000 % 1000000000:Nat):Int)) (i5:=((n / 1000000000 % 1000000000:Nat):Int)) (i6:=((n / 1000000000 / 1000000000:Nat):Int)) (i7:=((n / 1000000000 / 1000000000:Nat):Int))
  (tmd (by omega) (by omega)) (w32 (by omega)) (wu ⟨tdv (by omega) (by omega),by omega,by omega⟩) (tmd (by omega) (by omega)) (w32 (by omega)) (wu ⟨tdv (by omega) (by omega),by omega,by omega⟩) (w32 (by omega)) (x3f hw (by simp [wv];omega)) ht
theorem j4h (xs:List Int) (hx:Wd xs) (hl:xs.length≤2):∀ k:Nat,k≤xs.length→Lp E 0 z3o 0 (y3x (Wr xs) (wv (xs.drop k)) ((k:Int)-1)) (.exit 0) (x0n (wv xs))
 | 0,_=>by rw [List.drop_zero];exact j1y (by omega)
 | k+1,hk=>by
  have h0:=hx.getD k
  have h1:=D4 (hx.drop (k+1))
  have h2:=y2g (hx.drop (k+1))
  rw [List.length_drop] at h2
  have h3:pw (xs.length-(k+1))≤pw 1:=q6e (by omega)
  rw [show pw 1=1000000000 by decide] at h3
  have e:=y1e xs k
  rw [show ((k+1:Nat):Int)-1=(k:Int) by omega]
  exact j9n (i3:=wv (xs.drop (k+1))*1000000000) (i4:=xs.getD k 0) (i5:=xs.getD k 0) (i6:=wv (xs.drop k)) (i7:=(k:Int)-1) (wu (by omega)) (wu (by omega)) (wu (by omega)) (wi (by omega)) (by omega) (by omega) (G1 (by omega)) (j4h xs hx hl k (by omega))
theorem w7c {n:Nat} (h:(words n).length≤2):Fn E z3o [.c (.list (Wr (words n)))] (.c (.u64 n)):=by
 have:=j4h (E:=E) (words n) (C0 n) h (words n).length (Nat.le_refl _)
 rw [List.drop_length,B6] at this
 exact v8y (i0:=((words n).length:Int)-1) (wi (by rw [B3];omega)) this
theorem q2b (xs ys:List Int) (hx:Wd xs) (hy:Wd ys) (hl:xs.length=ys.length) (hb:xs.length<9223372036854775807):∀ k:Nat,k≤xs.length→xs.drop k=ys.drop k →
    (xs=ys∧Lp E 0 N8 0 (z3t (Wr xs) (Wr ys) ((k:Int)-1)) (.exit 0) x2w) ∨
    (xs≠ys∧Lp E 0 N8 0 (z3t (Wr xs) (Wr ys) ((k:Int)-1)) .ret (y6h (cmpI (wv xs) (wv ys))))
 | 0,_,h=>.inl ⟨by simpa using h,j4q (by omega)⟩
 | k+1,hk,h=>by
  rw [show ((k+1:Nat):Int)-1=(k:Int) by omega]
  have g1:(Wr xs)[Int.toNat (k:Int)]?=some [.u32 (xs.getD k 0)]:=G1 (by omega)
  have g2:(Wr ys)[Int.toNat (k:Int)]?=some [.u32 (ys.getD k 0)]:=G1 (by omega)
  rcases Int.lt_trichotomy (xs.getD k 0) (ys.getD k 0) with c | c | c
  · have:=y9l hx hy (by omega) (by omega) c h
    refine .inr ⟨fun e=>by rw [e] at c;omega,?_⟩
    have e:cmpI (wv xs) (wv ys)=-1:=by unfold cmpI;rw [if_pos this]
    rw [e]
    exact j4o (by omega) (by omega) g1 g2 c
  · have hd:xs.drop k=ys.drop k:=by rw [x5v xs k (by omega),x5v ys k (by omega),c,h]
    rcases q2b xs ys hx hy hl hb k (by omega) hd with ⟨e,ih⟩ | ⟨e,ih⟩
    · exact .inl ⟨e,x9j (wi (by omega)) (by omega) (by omega) g1 g2 (by omega) (by omega) ih⟩
    · exact .inr ⟨e,x9j (wi (by omega)) (by omega) (by omega) g1 g2 (by omega) (by omega) ih⟩
  · have:=y9l hy hx (by omega) (by omega) c h.symm
    refine .inr ⟨fun e=>by rw [e] at c;omega,?_⟩
    have e:cmpI (wv xs) (wv ys)=1:=by unfold cmpI;rw [if_neg (by omega),if_pos (by omega)]
    rw [e]
    exact j4p (by omega) (by omega) g1 g2 (by omega) c
theorem v8m {m n:Nat} (hm:(words m).length<9223372036854775807):Fn E N8 [.c (.list (Wr (words m))),.c (.list (Wr (words n)))] (.c (.i64 (cmpI m n))):=by
 by_cases hl:(words m).length=(words n).length
 · rcases q2b (E:=E) (words m) (words n) (C0 m) (C0 n) hl hm (words m).length (Nat.le_refl _) (by rw [List.drop_length,hl,List.drop_length]) with ⟨e,h⟩ | ⟨e,h⟩
   · have:=v6u e
     subst this
     rw [q5y rfl]
     exact w2s (wi (by rw [B3];omega)) (by rw [B3]) h
   · rw [B6,B6] at h
     exact w2r (wi (by rw [B3];omega)) (by rw [B3,B3];omega) h
 · rcases Nat.lt_or_gt_of_ne hl with c | c
   · have:m<n:=by
      rcases Nat.lt_or_ge m n with h | h
      · exact h
      · have:=(z0n n).length_le (C0 n) (C0 m) (by rw [B6,B6];omega)
        omega
     have e:cmpI (m:Int) n=-1:=by unfold cmpI;rw [if_pos (by omega)]
     rw [e]
     exact w2p (by rw [B3,B3];omega) (by rw [B3,B3];omega)
   · have:n<m:=by
      rcases Nat.lt_or_ge n m with h | h
      · exact h
      · have:=(z0n m).length_le (C0 m) (C0 n) (by rw [B6,B6];omega)
        omega
     have e:cmpI (m:Int) n=1:=by unfold cmpI;rw [if_neg (by omega),if_pos (by omega)]
     rw [e]
     exact w2q (by rw [B3,B3];omega) (by rw [B3,B3];omega)
theorem j4f {xs ys:List Int} (hx:Wd xs) (hy:Wd ys) (hxl:xs.length<17592186044000) (hyl:ys.length<17592186044000):∀ (t i:Nat) (c:Int) (zs:List Int),xs.length+ys.length+2≤t+i→i≤xs.length+ys.length+1→0≤c∧c≤1→(xs.length+ys.length<i→c=0)→zs.length=i→Wd zs →
    ∃ zs',Lp E 0 X2 0 (z0b (Wr xs) (Wr ys) i c i (Wr zs)) (.exit 0) (x0m zs'.length (Wr zs'))∧Wd zs'∧zs'.length≤xs.length+ys.length+1∧wv zs'=wv zs+pw i*(c+wv (xs.drop i)+wv (ys.drop i))
 | 0,i,c,zs,ht,hi,_,_,_,_=>by omega
 | t+1,i,c,zs,ht,hi,hc,hc0,hz,hw=>by
  have ha:=hx.getD i
  have hb:=hy.getD i
  obtain ⟨a,ea⟩:∃ a,a=xs.getD i 0:=⟨_,rfl⟩
  obtain ⟨b,eb⟩:∃ b,b=ys.getD i 0:=⟨_,rfl⟩
  rw [← ea] at ha
  rw [← eb] at hb
  have gx:i<xs.length→(Wr xs)[Int.toNat (i:Int)]?=some [.u32 a]:=fun h=>by rw [ea];exact G1 h
  have gy:i<ys.length→(Wr ys)[Int.toNat (i:Int)]?=some [.u32 b]:=fun h=>by rw [eb];exact G1 h
  obtain ⟨S,eS⟩:∃ S,S=c+a+b:=⟨_,rfl⟩
  have hap:∀ w,(Wr zs).take i++[[DV.u32 w]]=Wr (zs++[w]):=fun w=>by rw [z2d,← hz,List.take_length,x3v]
  have stop:¬ i<xs.length→¬ i<ys.length→c=0→wv zs=wv zs+pw i*(c+wv (xs.drop i)+wv (ys.drop i)):=by
   intro h1 h2 h3
   rw [drop_nil (by omega),drop_nil (by omega),h3]
   simp [wv]
  by_cases hend:¬ i<xs.length∧¬ i<ys.length∧c=0
  · exact ⟨zs,by rw [hz];exact j1s (by rw [B3];omega) (by rw [B3];omega) (by omega),hw,by omega,stop hend.1 hend.2.1 hend.2.2⟩
  · have hii:i≤xs.length+ys.length:=by
     rcases Nat.lt_or_ge (xs.length+ys.length) i with h | h
     · exact absurd ⟨by omega,by omega,hc0 h⟩ hend
     · exact h
    have ndone:xs.length+ys.length<i+1→S / 1000000000=0:=by
     intro h
     have h0:i=xs.length+ys.length:=by omega
     have:b=0∨a=0:=by
      rcases Nat.lt_or_ge i xs.length with h1 | h1
      · left;rw [eb];exact z9r (by omega)
      · right;rw [ea];exact z9r h1
     by_cases hcc:c=0
     · rcases this with h2 | h2 <;> omega
     · -- the last carry has no words beside it
       have h1:a=0:=by
        rcases Nat.lt_or_ge i xs.length with h1 | h1
        · omega
        · rw [ea];exact z9r h1
       have h2:b=0:=by
        rcases Nat.lt_or_ge i ys.length with h1 | h1
        · omega
        · rw [eb];exact z9r h1
       omega
    obtain ⟨zs',k1,k2,k3,k4⟩:=j4f hx hy hxl hyl t (i+1) (S / 1000000000) (zs++[S % 1000000000]) (by omega) (by omega) (by omega) ndone (by simp [hz]) (hw.append (Wd.cons (by omega) (by omega) Wd.nil))
    refine ⟨zs',?_,k2,k3,?_⟩
    · have hlen:(i+1)*4≤140737488355328∧i+1≤140737488355328:=by omega
      by_cases c1:i<xs.length
      · by_cases c2:i<ys.length
        · exact j9g (i2:=a) (i3:=c+a) (i4:=b) (i5:=S) (i6:=S % 1000000000) (r4:=Wr (zs++[S % 1000000000])) (n2:=i+1) (i7:=S / 1000000000) (i8:=((i+1:Nat):Int)) (w32 (by omega)) (w32 (by omega)) (tmd (by omega) rfl) (hap _) rfl (w32 ⟨tdv (by omega) rfl,by omega,by omega⟩) (wi (by omega)) (by rw [B3];omega) (by omega) (gx c1) (by rw [B3];omega) (gy c2) hlen k1
        · have b0:b=0:=by rw [eb];exact z9r (by omega)
          exact j9h (i2:=a) (i3:=S) (i4:=S % 1000000000) (r5:=Wr (zs++[S % 1000000000])) (n3:=i+1) (i9:=S / 1000000000) (i10:=((i+1:Nat):Int)) (w32 (by omega)) (tmd (by omega) rfl) (hap _) rfl (w32 ⟨tdv (by omega) rfl,by omega,by omega⟩) (wi (by omega)) (by rw [B3];omega) (by omega) (gx c1) (by rw [B3];omega) hlen k1
      · have a0:a=0:=by rw [ea];exact z9r (by omega)
        by_cases c2:i<ys.length
        · exact j9i (i2:=b) (i3:=S) (i4:=S % 1000000000) (r5:=Wr (zs++[S % 1000000000])) (n3:=i+1) (i9:=S / 1000000000) (i10:=((i+1:Nat):Int)) (w32 (by omega)) (tmd (by omega) rfl) (hap _) rfl (w32 ⟨tdv (by omega) rfl,by omega,by omega⟩) (wi (by omega)) (by rw [B3];omega) (by rw [B3];omega) (by omega) (gy c2) hlen k1
        · have b0:b=0:=by rw [eb];exact z9r (by omega)
          have e0:S=c:=by omega
          rw [e0] at k1
          exact j9j (i2:=c % 1000000000) (r6:=Wr (zs++[c % 1000000000])) (n4:=i+1) (i5:=c / 1000000000) (i6:=((i+1:Nat):Int)) (tmd (by omega) rfl) (hap _) rfl (w32 ⟨tdv (by omega) rfl,by omega,by omega⟩) (wi (by omega)) (by rw [B3];omega) (by rw [B3];omega) (by omega) hlen k1
    · rw [k4,y2h,hz,y1e xs i,y1e ys i,z5z,← ea,← eb]
      have e1:S % 1000000000=c+a+b-1000000000*(S / 1000000000):=by omega
      rw [e1];grind
theorem u4n {m n:Nat} (h1:(words m).length<17592186044000)(h2:(words n).length<17592186044000):Fn E X2 [.c (.list (Wr (words m))),.c (.list (Wr (words n)))] (.c (.list (Wr (words (m+n))))):=by
 obtain ⟨zs,k1,k2,k3,k4⟩:=j4f (E:=E) (C0 m) (C0 n) h1 h2 ((words m).length+(words n).length+2) 0 0 [] (by omega) (by omega) (by omega) (fun _=>rfl) rfl Wd.nil
 rw [List.drop_zero,List.drop_zero,B6,B6,x8c] at k4
 exact v8v (x3f k2 (by simp [wv] at k4;omega)) k1 (y9h (Nat.le_refl _) (by omega))
theorem k9t {xs ys:List Int} (hx:Wd xs) (hy:Wd ys) (hxl:xs.length<17592186044000):∀ d i b zs,i+d=xs.length→(b=0∨b=1)→zs.length=i→Wd zs →
    ∃ b' zs',Lp E 0 J4 0 (O4 (Wr xs) (Wr ys) i b i (Wr zs)) (.exit 0) (y2t zs'.length (Wr zs'))∧Wd zs'∧zs'.length=xs.length∧(b'=0∨b'=1)∧wv zs'+pw i*(0-wv (xs.drop i)+wv ((ys.take xs.length).drop i)+b)=wv zs+pw xs.length*b'
 | 0,i,b,zs,hi,hb,hz,hw=>by
  refine ⟨b,zs,by rw [hz];exact k7n (by rw [B3];omega),hw,by omega,hb,?_⟩
  have:i=xs.length:=by omega
  subst this
  rw [drop_nil (Nat.le_refl _),drop_nil (by simp;omega)]
  simp [wv]
 | d+1,i,b,zs,hi,hb,hz,hw=>by
  have ha:=hx.getD i
  have hbb:=hy.getD i
  obtain ⟨a,ea⟩:∃ a,a=xs.getD i 0:=⟨_,rfl⟩
  obtain ⟨y,eb⟩:∃ y,y=ys.getD i 0:=⟨_,rfl⟩
  rw [← ea] at ha
  rw [← eb] at hbb
  have gx:(Wr xs)[Int.toNat (i:Int)]?=some [.u32 a]:=by rw [ea];exact G1 (by omega)
  have gy:i<ys.length→(Wr ys)[Int.toNat (i:Int)]?=some [.u32 y]:=fun h=>by rw [eb];exact G1 h
  have hap:∀ w,(Wr zs).take i++[[DV.u32 w]]=Wr (zs++[w]):=fun w=>by rw [z2d,← hz,List.take_length,x3v]
  have hlen:(i+1)*4≤140737488355328∧i+1≤140737488355328:=by omega
  have ey:(ys.take xs.length).getD i 0=y:=by rw [List.getD_eq_getElem?_getD,List.getElem?_take_of_lt (by omega),← List.getD_eq_getElem?_getD,eb]
  obtain ⟨dd,ed⟩:∃ dd,dd=a-b-y:=⟨_,rfl⟩
  have key:∀ b1 w,w=dd+1000000000*b1→0≤w∧w<1000000000→(b1=0∨b1=1) →
      (∀ {st:St},Lp E 0 J4 0 (O4 (Wr xs) (Wr ys) (i+1) b1 ((i+1:Nat):Int) (Wr (zs++[w]))) (.exit 0) st→Lp E 0 J4 0 (O4 (Wr xs) (Wr ys) i b i (Wr zs)) (.exit 0) st) →
      ∃ b' zs',Lp E 0 J4 0 (O4 (Wr xs) (Wr ys) i b i (Wr zs)) (.exit 0) (y2t zs'.length (Wr zs'))∧Wd zs'∧zs'.length=xs.length∧(b'=0∨b'=1)∧wv zs'+pw i*(0-wv (xs.drop i)+wv ((ys.take xs.length).drop i)+b)=wv zs+pw xs.length*b':=by
   intro b1 w hw1 hw0 hb1 st
   obtain ⟨b',zs',k1,k2,k3,k4,k5⟩:=k9t hx hy hxl d (i+1) b1 (zs++[w]) (by omega) hb1 (by simp [hz]) (hw.append (Wd.cons hw0.1 hw0.2 Wd.nil))
   refine ⟨b',zs',st k1,k2,k3,k4,?_⟩
   rw [y2h,hz,z5z] at k5
   rw [y1e xs i,y1e (ys.take xs.length) i,← ea,ey]
   rw [hw1,ed] at k5
   grind
  by_cases c2:i<ys.length
  · by_cases c3:dd<0
    · exact key 1 (dd+1000000000) (by omega) (by omega) (.inr rfl) fun k1=>j4s (i2:=a) (i3:=a) (i4:=a-b) (i5:=y) (i6:=y) (i7:=dd) (i8:=dd+1000000000) (i9:=dd+1000000000) (wi (by omega)) (wi (by omega)) (wi (by omega)) (wi (by omega)) (wi (by omega)) (w32 (by omega)) (hap _) rfl (wi (by omega)) (by rw [B3];omega) (by omega) gx (by rw [B3];omega) (gy c2) c3 hlen k1
    · exact key 0 dd (by omega) (by omega) (.inl rfl) fun k1=>j4t (i2:=a) (i3:=a) (i4:=a-b) (i5:=y) (i6:=y) (i7:=dd) (i8:=dd) (wi (by omega)) (wi (by omega)) (wi (by omega)) (wi (by omega)) (w32 (by omega)) (hap _) rfl (wi (by omega)) (by rw [B3];omega) (by omega) gx (by rw [B3];omega) (gy c2) c3 hlen k1
  · have y0:y=0:=by rw [eb];exact z9r (by omega)
    by_cases c3:dd<0
    · exact key 1 (dd+1000000000) (by omega) (by omega) (.inr rfl) fun k1=>j4u (i2:=a) (i3:=a) (i4:=dd) (i5:=dd+1000000000) (i6:=dd+1000000000) (wi (by omega)) (wi (by omega)) (wi (by omega)) (w32 (by omega)) (hap _) rfl (wi (by omega)) (by rw [B3];omega) (by omega) gx (by rw [B3];omega) c3 hlen k1
    · exact key 0 dd (by omega) (by omega) (.inl rfl) fun k1=>j4v (i2:=a) (i3:=a) (i4:=dd) (i5:=dd) (wi (by omega)) (wi (by omega)) (w32 (by omega)) (hap _) rfl (wi (by omega)) (by rw [B3];omega) (by omega) gx (by rw [B3];omega) c3 hlen k1
theorem w2d {m n:Nat} (h1:(words m).length<17592186044000) (hmn:n≤m):Fn E J4 [.c (.list (Wr (words m))),.c (.list (Wr (words n)))] (.c (.list (Wr (words (m-n))))):=by
 have hle:(words n).length≤(words m).length:=(z0n n).length_le (C0 n) (C0 m) (by rw [B6,B6];omega)
 obtain ⟨b,zs,k1,k2,k3,k4,k5⟩:=k9t (E:=E) (C0 m) (C0 n) h1 (words m).length 0 0 [] (by omega) (.inl rfl) rfl Wd.nil
 rw [List.drop_zero,List.drop_zero,List.take_of_length_le hle,B6,B6,x8c] at k5
 have h2:=y2g k2
 have h3:=z2p (words m).length
 have hv:=D4 k2
 rw [k3] at h2
 have hb:b=0:=by
  rcases k4 with h | h
  · exact h
  · subst h
    simp [wv] at k5
    omega
 subst hb
 exact v2x (x3f k2 (n:=m-n) (by simp [wv] at k5;omega)) k1 (y9h (Nat.le_refl _) (by omega))
theorem k9v (l:List UInt8) (hl:l.length<9223372036854775807):∀ d i:Nat,i+d=l.length →
    ((l.drop i).all x3x=true∧Lp E 0 G2 0 (Y0 (B l) i) (.exit 0) (z7i (B l))) ∨
    ((l.drop i).all x3x=false∧Lp E 0 G2 0 (Y0 (B l) i) .ret y2u)
 | 0,i,hi=>.inl ⟨by rw [List.drop_eq_nil_of_le (by omega)];rfl,k7s (by rw [F4];omega)⟩
 | d+1,i,hi=>by
  have hd:l.drop i=l.getD i 0::l.drop (i+1):=by
   rw [List.drop_eq_getElem_cons (by omega),List.getD_eq_getElem?_getD,List.getElem?_eq_getElem (by omega)];rfl
  have hlt:0≤(i:Int)∧(i:Int)<(B l).size:=by rw [F4];omega
  rw [hd,List.all_cons]
  by_cases c1:(l.getD i 0).toNat<48
  · rw [x3y (.inl c1)]
    exact .inr ⟨rfl,k7q (x1h l i) (by omega) hlt (by omega)⟩
  · by_cases c2:(l.getD i 0).toNat>57
    · rw [x3y (.inr c2)]
      exact .inr ⟨rfl,k7r (x1h l i) (by omega) hlt (by omega) (by omega)⟩
    · rw [k5t.2 (by omega),Bool.true_and]
      rcases k9v l hl d (i+1) (by omega) with ⟨h1,h2⟩ | ⟨h1,h2⟩
      · exact .inl ⟨h1,x4b (x1h l i) (wi (by omega)) (by omega) hlt (by omega) (by omega) h2⟩
      · exact .inr ⟨h1,x4b (x1h l i) (wi (by omega)) (by omega) hlt (by omega) (by omega) h2⟩
theorem x6t (l:List UInt8) (hl:l.length<9223372036854775807):Fn E G2 [.c (.str (B l))] (.c (.bool (natB l))):=by
 have hloop:=k9v (E:=E) l hl l.length 0 (by omega)
 rw [List.drop_zero] at hloop
 cases l with
 | nil =>
  rcases hloop with ⟨_,g2⟩ | ⟨g1,_⟩
  · exact v3g g2 (by rw [F4];decide) (by rw [F4];decide)
  · cases g1
 | cons c m =>
  rcases hloop with ⟨g1,g2⟩ | ⟨g1,g2⟩
  · by_cases h1:(c::m).length=1
    · have e:natB (c::m)=true:=by
       unfold natB
       rw [g1,decide_eq_true (show (c::m).length≤1 by omega)];rfl
      rw [e]
      exact v3d g2 (by rw [F4];omega)
    · have h2:(c::m).length>1:=by have:(c::m).length=m.length+1:=rfl;omega
      have h0:(((B (c::m)).data.toList.getD 0 0).toNat:Int)=(c.toNat:Int):=by rw [y4j];rfl
      have hlt:0≤(0:Int)∧(0:Int)<(B (c::m)).size:=by rw [F4];omega
      by_cases hc:c=48
      · have e:natB (c::m)=false:=by
         unfold natB
         rw [decide_eq_false (show ¬ (c::m).length≤1 by omega),hc];simp
        rw [e]
        exact v3f h0 g2 (by rw [F4];omega) (by rw [F4];omega) hlt (by rw [hc];rfl)
      · have hn:c.toNat≠48:=fun e=>hc (UInt8.toNat_inj.1 e)
        have e:natB (c::m)=true:=by
         unfold natB
         have:((c::m).head? == some 48)=false:=by simp [hc]
         rw [g1,this];simp
        rw [e]
        exact v3e h0 g2 (by rw [F4];omega) (by rw [F4];omega) hlt (by omega)
  · have e:natB (c::m)=false:=by unfold natB;rw [g1];simp
    rw [e]
    exact v3c g2
theorem k9s {l:List UInt8} (hd:Dg l) (hl:l.length<9223372036854775807) {w0:RW} {i:Nat} {e s:Nat} (he:e≤l.length) (hes:e≤s+9):∀ (d k:Nat),k+d=e→s≤k →
    Lp E 1 N9 1 (y1u (B l) i e (dval ((l.take k).drop s):Int) k w0) (.exit 2) (y7z (B l) i e w0 (dval ((l.take e).drop s):Int))
 | 0,k,hk,hs=>by
  have:k=e:=by omega
  subst this
  exact k7m (by omega)
 | d+1,k,hk,hs=>by
  have hg:l.getD k 0=l[k]:=by rw [List.getD_eq_getElem?_getD,List.getElem?_eq_getElem (by omega)];rfl
  have hc:=hd l[k] (List.getElem_mem _)
  have htk:(l.take (k+1)).drop s=(l.take k).drop s++[l[k]]:=by
   rw [List.take_succ_eq_append_getElem (by omega),List.drop_append_of_le_length (by simp;omega)]
  have hb:dval ((l.take k).drop s)<100000000:=by
   have h1:=j3m (Dg.drop (Dg.take hd k) s)
   have h2:(10:Nat) ^ ((l.take k).drop s).length≤10 ^ 8:=Nat.pow_le_pow_right (by decide) (by simp;omega)
   have h3:(10:Nat) ^ 8=100000000:=by decide
   omega
  have hv:dval ((l.take (k+1)).drop s)=10*dval ((l.take k).drop s)+(l[k].toNat-48):=by rw [htk,j8h]
  exact j4r (i4:=10*(dval ((l.take k).drop s):Int)) (i5:=(l[k].toNat:Int)) (i6:=(l[k].toNat:Int)-48) (i7:=(l[k].toNat:Int)-48) (i8:=(dval ((l.take (k+1)).drop s):Int)) (i9:=((k+1:Nat):Int))
   (w32 (by omega)) (by rw [x1h,hg]) (w8 (by omega)) (w32 (by omega)) (w32 (by omega)) (wi (by omega)) (by omega) (by rw [F4];omega) (k9s hd hl he hes d (k+1) (by omega) (by omega))
theorem j4c {l:List UInt8} (hd:Dg l) (hl:l.length<10000000000000):∀ (t i:Nat) (ws:List Int) (n:Int),n≤t→n≤l.length→-9<n→9*(i:Int)≤l.length+8→ws.length=i→(0<n→n+9*i=l.length)→Wd ws→wv ws+pw i*(dval (l.take n.toNat):Int)=dval l →
    ∃ ws',Lp E 0 N9 0 (y3v (B l) i n (Wr ws)) (.exit 0) (x0k ws'.length (Wr ws'))∧Wd ws'∧wv ws'=dval l∧ws'.length≤l.length+8
 | t,i,ws,n,ht,hnl,hn9,hi,hw,hni,hwd,hv=>by
  by_cases h0:n≤0
  · rw [show n.toNat=0 by omega,List.take_zero,show dval []=0 from rfl] at hv
    exact ⟨ws,by rw [hw];exact j1o (by omega),hwd,by simpa using hv,by omega⟩
  · cases t with
    | zero=>omega
    | succ t =>
     obtain ⟨e,he⟩:∃ e:Nat,n=e:=⟨n.toNat,by omega⟩
     subst he
     rw [Int.toNat_natCast] at hv
     obtain ⟨s,hs⟩:∃ s,s=e-9:=⟨_,rfl⟩
     obtain ⟨p,hp⟩:∃ p,p=(l.take e).drop s:=⟨_,rfl⟩
     have hlen:(l.take e).length=e:=by simp;omega
     have hpd:Dg p:=by rw [hp];exact Dg.drop (Dg.take hd _) _
     have hpl:p.length=e-s:=by rw [hp,List.length_drop,hlen]
     have hval:dval p<1000000000:=by
      have:=j3m hpd
      have h9:(10:Nat) ^ p.length≤10 ^ 9:=Nat.pow_le_pow_right (by decide) (by omega)
      rw [x0h] at h9
      omega
     have hsplit:l.take e=l.take s++p:=by
      rw [hp]
      have:=(List.take_append_drop s (l.take e)).symm
      rwa [List.take_take,Nat.min_eq_left (by omega)] at this
     have hvs:wv (ws++[(dval p:Int)])+pw (i+1)*(dval (l.take ((e:Int)-9).toNat):Int)=dval l:=by
      rw [show ((e:Int)-9).toNat=s by omega,y2h,hw,z5z]
      rw [hsplit,y9q] at hv
      by_cases h9:p.length=9
      · rw [h9,x0h] at hv
        have e2:((dval (l.take s)*1000000000+dval p:Nat):Int)=1000000000*(dval (l.take s):Int)+dval p:=by omega
        rw [e2] at hv
        grind
      · have hs0:s=0:=by omega
        rw [hs0,List.take_zero,show dval []=0 from rfl] at hv ⊢
        rw [show ((0*10 ^ p.length+dval p:Nat):Int)=(dval p:Int) by simp] at hv
        simp
        omega
     obtain ⟨ws',k1,k2,k3,k4⟩:=j4c hd hl t (i+1) (ws++[(dval p:Int)]) ((e:Int)-9) (by omega) (by omega) (by omega) (by omega) (by simp [hw]) (by omega) (hwd.append (Wd.cons (by omega) (by omega) Wd.nil)) hvs
     refine ⟨ws',?_,k2,k3,k4⟩
     have hin:=k9s (E:=E) hd (by omega) (w0:=Wr ws) (i:=i) (e:=e) (s:=s) (by omega) (by omega) (e-s) s (by omega) (Nat.le_refl _)
     rw [List.drop_eq_nil_of_le (by simp;omega),show dval []=0 from rfl,← hp] at hin
     exact j9c (i1:=(e:Int)-9) (i2:=(s:Int)) (i3:=(dval p:Int)) (r2:=Wr (ws++[(dval p:Int)])) (n2:=i+1) (wi (by omega)) (by split <;> omega) (by rw [z2d,← hw,List.take_length,x3v]) rfl (by omega) hin (by omega) k1
theorem u4m {l:List UInt8} (hd:Dg l) (hl:l.length<10000000000000):Fn E N9 [.c (.str (B l))] (.c (.list (Wr (words (dval l))))):=by
 obtain ⟨ws,k1,k2,k3,k4⟩:=j4c (E:=E) hd hl l.length 0 [] l.length (by omega) (by omega) (by omega) (by omega) rfl (fun _=>by omega) Wd.nil (by rw [Int.toNat_natCast,List.take_length,x8c];simp [wv])
 rw [← F4] at k1
 exact v8r (x3f k2 k3) k1 (y9h (Nat.le_refl _) (by omega))
theorem k3t {n K:Nat} (h:n<10 ^ K) (hK:K≤Lim):Fn E N9 [.c (.str (B (dec n)))] (.c (.list (Wr (words n)))):=by
 have h1:=j0q h
 rw [Y7] at hK
 have:=u4m (E:=E) (y7t n) (by omega)
 rwa [z5v] at this
theorem k3x {xs ys:List Int} (hy:Wd ys) {N i:Nat} {x:Int} (hi:i<xs.length) (hxi:x=xs.getD i 0) (hx:0≤x∧x<1000000000) (hN:N<4611686018427387904) (hiN:i+ys.length≤N) {out0:List Int} :
    ∀ d k c out,k+d=ys.length→0≤c∧c<1000000000→Wd out→out.length=N→(∀ j,i+k≤j→out.getD j 0=out0.getD j 0) →
    wv out+pw (i+k)*c=wv out0+pw i*(x*wv (ys.take k)) →
    ∃ c' out',Lp E 1 H6 1 (y1w (Wr xs) (Wr ys) N i c k (Wr out)) (.exit 2) (y8b (Wr xs) (Wr ys) N i c' (Wr out')) ∧
     (0≤c'∧c'<1000000000)∧Wd out'∧out'.length=N∧(∀ j,i+ys.length≤j→out'.getD j 0=out0.getD j 0)∧wv out'+pw (i+ys.length)*c'=wv out0+pw i*(x*wv ys)
 | 0,k,c,out,hk,hc,hw,hl,hj,hv=>by
  have:k=ys.length:=by omega
  subst this
  rw [List.take_length] at hv
  exact ⟨c,out,k7p (by rw [B3];omega),hc,hw,hl,hj,hv⟩
 | d+1,k,c,out,hk,hc,hw,hl,hj,hv=>by
  have hyk:=hy.getD k
  obtain ⟨y,ey⟩:∃ y,y=ys.getD k 0:=⟨_,rfl⟩
  rw [← ey] at hyk
  have ho:=hw.getD (i+k)
  obtain ⟨w,ew⟩:∃ w,w=out.getD (i+k) 0:=⟨_,rfl⟩
  rw [← ew] at ho
  have hxy:=k5u hx hyk
  obtain ⟨p,ep⟩:∃ p,p=x*y:=⟨_,rfl⟩
  rw [← ep] at hxy
  obtain ⟨S,eS⟩:∃ S,S=c+(p+w):=⟨_,rfl⟩
  have hS:0≤S∧S≤999999999999999999:=by omega
  have hik:i+k<out.length:=by omega
  obtain ⟨c',out',k1,k2,k3,k4,k5,k6⟩:=k3x hy hi hxi hx hN hiN (out0:=out0) d (k+1) (S / 1000000000) (out.set (i+k) (S % 1000000000)) (by omega) (by omega) (hw.set _ (by omega) (by omega)) (by simpa using hl)
   (fun j h=>by rw [O2 (by omega)];exact hj j (by omega)) (by
    rw [y4i out (i+k) hik,← ew,z2h ys k (by omega),← ey,← Nat.add_assoc,z5z,y4n]
    rw [y4n] at hv
    exact alg1 hv ep eS (Int.emod_add_mul_ediv S 1000000000))
  refine ⟨c',out',?_,k2,k3,k4,k5,k6⟩
  exact j4x (i4:=((i+k:Nat):Int)) (i5:=w) (i6:=w) (i7:=x) (i8:=x) (i9:=y) (i10:=y) (i11:=p) (i12:=w+p) (i13:=S) (i14:=S % 1000000000) (i15:=S % 1000000000) (r4:=Wr (out.set (i+k) (S % 1000000000))) (i16:=S / 1000000000) (i17:=((k+1:Nat):Int))
   (wi (by omega)) (wu (by omega)) (wu (by omega)) (wu (by omega)) (wu (by omega)) (wu (by omega)) (wu (by omega)) (tmd hS.1 rfl) (w32 (by omega)) (by rw [Int.toNat_natCast,z7d]) (wu ⟨tdv hS.1 rfl,by omega,by omega⟩) (wi (by omega))
   (by rw [B3];omega) (by omega) (by rw [ew];exact G1 hik) (by omega) (by rw [hxi];exact G1 (by omega)) (by omega) (by rw [ey];exact G1 (by omega)) k1
theorem k3y {xs ys:List Int} (hx:Wd xs) (hy:Wd ys) {N:Nat} (hN:N<4611686018427387904) (hl:N=xs.length+ys.length) :
    ∀ d i out,i+d=xs.length→Wd out→out.length=N→(∀ j,i+ys.length≤j→out.getD j 0=0)→wv out=wv (xs.take i)*wv ys →
    ∃ out',Lp E 1 H6 0 (y1v (Wr xs) (Wr ys) N i (Wr out)) (.exit 0) (y8a N (Wr out'))∧Wd out'∧out'.length=N∧wv out'=wv xs*wv ys
 | 0,i,out,hi,hw,ho,_,hv=>by
  have:i=xs.length:=by omega
  subst this
  rw [List.take_length] at hv
  exact ⟨out,k7o (by rw [B3];omega),hw,ho,hv⟩
 | d+1,i,out,hi,hw,ho,hj,hv=>by
  have hxi:=hx.getD i
  obtain ⟨x,ex⟩:∃ x,x=xs.getD i 0:=⟨_,rfl⟩
  rw [← ex] at hxi
  obtain ⟨c',out1,k1,k2,k3,k4,k5,k6⟩:=k3x (E:=E) hy (show i<xs.length by omega) ex hxi hN (by omega) (out0:=out) ys.length 0 0 out (by omega) (by omega) hw ho (fun _ _=>rfl) (by simp [wv])
  have hik:i+ys.length<out1.length:=by omega
  have h0:out1.getD (i+ys.length) 0=0:=by rw [k5 _ (Nat.le_refl _)];exact hj _ (Nat.le_refl _)
  obtain ⟨out',g1,g2,g3,g4⟩:=k3y hx hy hN hl d (i+1) (out1.set (i+ys.length) c') (by omega) (k3.set _ k2.1 k2.2) (by simpa using k4)
   (fun j h=>by rw [O2 (by omega),k5 j (by omega)];exact hj j (by omega)) (by
    rw [y4i out1 _ hik,h0,z2h xs i (by omega),← ex,Int.sub_zero,k6,hv]
    grind)
  refine ⟨out',?_,g2,g3,g4⟩
  exact j4w (i1:=c') (r4:=Wr out1) (i2:=((i+ys.length:Nat):Int)) (i3:=c') (i4:=0) (r5:=Wr (out1.set (i+ys.length) c')) (i5:=((i+1:Nat):Int))
   (wi (by rw [B3];omega)) (w32 (by omega)) (by rw [Int.toNat_natCast,z7d]) (wi (by omega)) (by rw [B3];omega) k1 (by omega) (by rw [← h0];exact G1 hik) g1
theorem k3v {m n:Nat} (hl:(words m).length+(words n).length<35184372088000):Fn E H6 [.c (.list (Wr (words m))),.c (.list (Wr (words n)))] (.c (.list (Wr (words (m*n))))):=by
 by_cases hm:m=0
 · subst hm
   rw [Nat.zero_mul,Y1]
   exact v2z rfl
 · by_cases hn:n=0
   · subst hn
     rw [Nat.mul_zero,Y1]
     have:words m≠[]:=fun h=>hm (z7q.1 h)
     have:=y2s this
     exact v3a (by rw [B3];omega) rfl
   · obtain ⟨out,k1,k2,k3,k4⟩:=k3y (E:=E) (C0 m) (C0 n) (N:=(words m).length+(words n).length) (by omega) rfl (words m).length 0 (List.replicate ((words m).length+(words n).length) 0) (by omega) (Wd.replicate _) (by simp)
      (fun j _=>by rw [List.getD_eq_getElem?_getD,List.getElem?_replicate];split <;> rfl) (by rw [j0a];simp [wv])
     have p1:=y2s (fun h=>hm (z7q.1 h):words m≠[])
     have p2:=y2s (fun h=>hn (z7q.1 h):words n≠[])
     have ht:=y9h (E:=E) (ws:=out) (k:=(words m).length+(words n).length) (by omega) (by omega)
     have ha:=x3f k2 (n:=m*n) (by rw [k4,B6,B6,Int.natCast_mul])
     rw [k3] at ha
     exact v3b (i0:=(((words m).length+(words n).length:Nat):Int)) (n0:=(words m).length+(words n).length) (r2:=Wr (List.replicate ((words m).length+(words n).length) 0)) (r3:=Wr out) (wi (by rw [B3,B3];omega)) (Int.toNat_natCast _) (z8o _ _) ha (by rw [B3];omega) (by rw [B3];omega) (by omega) k1 ht
theorem k9u {xs:List Int} (hx:Wd xs) {N:Nat} (hN:xs.length=N) (hb:N<4611686018427387904) {w:Int} (hw:0<w∧w<1000000000):∀ k rest out,k≤N→0≤rest∧rest<w→Wd out→out.length=N →
    wv (out.drop k)*w+rest=wv (xs.drop k) →
    ∃ rest' out',Lp E 1 z1z 0 (y1x (Wr xs) w N rest ((k:Int)-1) (Wr out)) (.exit 0) (y8c N rest' (Wr out'))∧(0≤rest'∧rest'<w)∧Wd out'∧out'.length=N∧wv out'*w+rest'=wv xs
 | 0,rest,out,_,hr,ho,hl,hv=>by
  rw [List.drop_zero,List.drop_zero] at hv
  exact ⟨rest,out,k7t (by omega),hr,ho,hl,hv⟩
 | k+1,rest,out,hk,hr,ho,hl,hv=>by
  rw [show ((k+1:Nat):Int)-1=(k:Int) by omega]
  have hxk:=hx.getD k
  obtain ⟨x,ex⟩:∃ x,x=xs.getD k 0:=⟨_,rfl⟩
  rw [← ex] at hxk
  obtain ⟨S,eS⟩:∃ S,S=rest*1000000000+x:=⟨_,rfl⟩
  have hS:0≤S∧S<w*1000000000:=by omega
  have hq0:0≤S / w:=Int.ediv_nonneg hS.1 (by omega)
  have hq:S / w<1000000000:=Int.ediv_lt_of_lt_mul (by omega) (by rw [Int.mul_comm];exact hS.2)
  have hm0:=Int.emod_nonneg S (show w≠0 by omega)
  have hm1:=Int.emod_lt_of_pos S (show 0<w by omega)
  have hdm:=Int.emod_add_mul_ediv S w
  have hkl:k<out.length:=by omega
  have hd:(out.set k (S / w)).drop (k+1)=out.drop (k+1):=List.drop_set_of_lt (Nat.lt_succ_self k)
  obtain ⟨rest',out',k1,k2,k3,k4,k5⟩:=k9u hx hN hb hw k (S % w) (out.set k (S / w)) (by omega) ⟨hm0,hm1⟩ (ho.set _ hq0 hq) (by simpa using hl) (by
   rw [y1e _ k,y1e xs k,← ex,y3u hkl,hd,← hv]
   exact alg2 eS hdm)
  refine ⟨rest',out',?_,k2,k3,k4,k5⟩
  exact j5a (i4:=rest*1000000000) (i5:=x) (i6:=x) (i7:=S) (i8:=w) (i9:=S / w) (i10:=S / w) (i11:=out.getD k 0) (r3:=Wr (out.set k (S / w))) (i12:=S % w) (i13:=(k:Int)-1)
   (wu (by omega)) (wu (by omega)) (wu (by omega)) (wu (by omega)) (wu ⟨tdv hS.1 rfl,hq0,by omega⟩) (w32 (by omega)) (by rw [Int.toNat_natCast,z7d]) (tmd hS.1 rfl) (wi (by omega))
   (by omega) (by omega) (by rw [ex];exact G1 (by omega)) (by omega) (by omega) (G1 hkl) k1
theorem w2f {n w:Nat} (hw:0<w∧w<1000000000) (hl:(words n).length<35184372088000):Fn E z1z [.c (.list (Wr (words n))),.c (.u32 w)] (.tup [.c (.list (Wr (words (n / w)))),.c (.u32 ((n % w:Nat):Int))]):=by
 obtain ⟨rest,out,k1,k2,k3,k4,k5⟩:=k9u (E:=E) (C0 n) (N:=(words n).length) rfl (by omega) (w:=w) (by omega) (words n).length 0 (List.replicate (words n).length 0) (Nat.le_refl _) (by omega) (Wd.replicate _) (by simp)
  (by rw [drop_nil (by simp),drop_nil (Nat.le_refl _)];simp [wv])
 rw [B6] at k5
 have h0:=D4 k3
 obtain ⟨q,hq⟩:∃ q:Nat,wv out=q:=⟨(wv out).toNat,by omega⟩
 obtain ⟨r,hr⟩:∃ r:Nat,rest=r:=⟨rest.toNat,by omega⟩
 rw [hq,hr] at k5
 subst hr
 have hn:n=q*w+r:=by
  have:((q*w+r:Nat):Int)=n:=by rw [Int.natCast_add,Int.natCast_mul];exact k5
  omega
 obtain ⟨e1,e2⟩:=x4v hn (by omega)
 rw [e1,e2]
 have ht:=y9h (E:=E) (ws:=out) (k:=(words n).length) (by omega) (by omega)
 have ha:=x3f k3 hq
 rw [k4] at ha
 exact v3h (n0:=(words n).length) (r1:=Wr (List.replicate (words n).length 0)) (i1:=((words n).length:Int)-1) (i2:=(r:Int)) (r2:=Wr out) (by rw [B3];rfl) (z8o _ _) (wi (by rw [B3];omega)) (w32 (by omega)) ha (by rw [B3];omega) k1 ht
theorem u1q {lu k j ln:Nat} {u v:List Int} (D:Dv u v lu k j) (hln:j+k<ln) (hls:ln<35184372088832) {g:Int} (hg:0≤g∧g<1000000000) :
    ∀ d i c b u',i+d=k→0≤c∧c<1000000000→b=0∨b=1→Wd u'→u'.length=lu→(∀ n,n<j∨j+i≤n→u'.getD n 0=u.getD n 0)→wv u'=wv u-pw j*(g*wv (v.take i))+pw j*pw i*(c+b) →
    ∃ c' b' u'',Lp E 1 F6 0 (P7 ln (Wr v) j g k b c i (Wr u')) (.exit 0) (z2x ln (Wr v) j g k b' c' (Wr u''))∧(0≤c'∧c'<1000000000)∧(b'=0∨b'=1)∧Wd u''∧u''.length=lu∧(∀ n,n<j∨j+k≤n→u''.getD n 0=u.getD n 0)∧wv u''=wv u-pw j*(g*wv v)+pw j*pw k*(c'+b')
 | 0,i,c,b,u',hi,hc,hb,hw,hl,hn,hv=>by
  have:i=k:=by omega
  subst this
  have:=D.elv
  rw [List.take_of_length_le (by omega)] at hv
  exact ⟨c,b,u',k4i (by omega),hc,hb,hw,hl,hn,hv⟩
 | d+1,i,c,b,u',hi,hc,hb,hw,hl,hn,hv=>by
  have hjk:=D.jk
  have hsm:=D.small
  have hlv:=D.elv
  have a0:=D.hv.getD i
  have b0:=hw.getD (j+i)
  have gk:(Wr v)[Int.toNat (i:Int)]?=some [.u32 (v.getD i 0)]:=G1 (by omega)
  have gu:(Wr u')[Int.toNat ((j+i:Nat):Int)]?=some [.u32 (u'.getD (j+i) 0)]:=G1 (by omega)
  have et:=z2h v i (by omega)
  have es:=y4i u' (j+i) (by omega)
  obtain ⟨x,ex⟩:∃ x,x=v.getD i 0:=⟨_,rfl⟩
  obtain ⟨w,ew⟩:∃ w,w=u'.getD (j+i) 0:=⟨_,rfl⟩
  rw [← ex] at a0 gk et
  rw [← ew] at b0 gu es
  have hgx:0≤g*x∧g*x≤999999998000000001:=k5u hg a0
  obtain ⟨S,eS⟩:∃ S,S=g*x+c:=⟨_,rfl⟩
  have hS:0≤S∧S≤999999999000000000:=by omega
  obtain ⟨dd,ed⟩:∃ dd,dd=w-S % 1000000000-b:=⟨_,rfl⟩
  have key:∀ b' d',d'=dd+1000000000*b'→0≤d'∧d'<1000000000→(b'=0∨b'=1) →
      (∀ {st:St},Lp E 1 F6 0 (P7 ln (Wr v) j g k b' (S / 1000000000) ((i+1:Nat):Int) (Wr (u'.set (j+i) d'))) (.exit 0) st→Lp E 1 F6 0 (P7 ln (Wr v) j g k b c i (Wr u')) (.exit 0) st) →
      ∃ c' b' u'',Lp E 1 F6 0 (P7 ln (Wr v) j g k b c i (Wr u')) (.exit 0) (z2x ln (Wr v) j g k b' c' (Wr u''))∧(0≤c'∧c'<1000000000)∧(b'=0∨b'=1)∧Wd u''∧u''.length=lu∧(∀ n,n<j∨j+k≤n→u''.getD n 0=u.getD n 0)∧wv u''=wv u-pw j*(g*wv v)+pw j*pw k*(c'+b'):=by
   intro b' d' hd' hd0 hb' hstep
   obtain ⟨c2,b2,u2,k1,k2⟩:=u1q D hln hls hg d (i+1) (S / 1000000000) b' (u'.set (j+i) d') (by omega) (by omega) hb' (hw.set _ hd0.1 hd0.2) (by simpa using hl)
    (fun n h=>by rw [O2 (by omega)];exact hn n (by omega)) (by
     rw [es d',et,z5z,y4n]
     have:=w3z hv eS (Int.emod_add_mul_ediv S 1000000000) ed hd'
     rw [this];grind)
   exact ⟨c2,b2,u2,hstep k1,k2⟩
  by_cases c1:dd<0
  · refine key 1 (dd+1000000000) (by omega) (by omega) (.inr rfl) fun k1=>?_
    exact j1t (i8:=x) (i9:=x) (i10:=g*x) (i11:=S) (i12:=S / 1000000000) (i13:=((j+i:Nat):Int)) (i14:=w) (i15:=w) (i16:=S % 1000000000) (i17:=S % 1000000000) (i18:=w-S % 1000000000) (i19:=dd) (i20:=dd+1000000000) (i21:=dd+1000000000) (r3:=Wr (u'.set (j+i) (dd+1000000000))) (i22:=((i+1:Nat):Int))
     (wu (by omega)) (wu (by omega)) (wu (by omega)) (wu ⟨tdv hS.1 rfl,by omega,by omega⟩) (wi (by omega)) (wi (by omega)) (tmd hS.1 rfl) (wi (by omega)) (wi (by omega)) (wi (by omega)) (wi (by omega)) (w32 (by omega)) (by rw [Int.toNat_natCast,z7d]) (wi (by omega))
     (by omega) (by omega) gk (by omega) gu c1 k1
  · refine key 0 dd (by omega) (by omega) (.inl rfl) fun k1=>?_
    exact j1u (i8:=x) (i9:=x) (i10:=g*x) (i11:=S) (i12:=S / 1000000000) (i13:=((j+i:Nat):Int)) (i14:=w) (i15:=w) (i16:=S % 1000000000) (i17:=S % 1000000000) (i18:=w-S % 1000000000) (i19:=dd) (i20:=dd) (r4:=Wr (u'.set (j+i) dd)) (i23:=((i+1:Nat):Int))
     (wu (by omega)) (wu (by omega)) (wu (by omega)) (wu ⟨tdv hS.1 rfl,by omega,by omega⟩) (wi (by omega)) (wi (by omega)) (tmd hS.1 rfl) (wi (by omega)) (wi (by omega)) (wi (by omega)) (w32 (by omega)) (by rw [Int.toNat_natCast,z7d]) (wi (by omega))
     (by omega) (by omega) gk (by omega) gu c1 k1
theorem u1p {lu k j ln:Nat} {u v:List Int} (D:Dv u v lu k j) (hln:j+k<ln) (hls:ln<35184372088832) {g:Int} {u1:List Int} :
    ∀ d i up u',i+d=k→0≤up∧up≤1→Wd u'→u'.length=lu→(∀ n,n<j∨j+i≤n→u'.getD n 0=u1.getD n 0)→wv u'=wv u1+pw j*wv (v.take i)-pw j*pw i*up →
    ∃ up' u'',Lp E 1 F6 1 (z5q ln (Wr v) j g k up i (Wr u')) (.exit 2) (y0w ln j g k up' (Wr u''))∧(0≤up'∧up'≤1)∧Wd u''∧u''.length=lu∧(∀ n,n<j∨j+k≤n→u''.getD n 0=u1.getD n 0)∧wv u''=wv u1+pw j*wv v-pw j*pw k*up'
 | 0,i,up,u',hi,hc,hw,hl,hn,hv=>by
  have:i=k:=by omega
  subst this
  have:=D.elv
  rw [List.take_of_length_le (by omega)] at hv
  exact ⟨up,u',k4j (by omega),hc,hw,hl,hn,hv⟩
 | d+1,i,up,u',hi,hc,hw,hl,hn,hv=>by
  have hjk:=D.jk
  have hsm:=D.small
  have hlv:=D.elv
  have a0:=D.hv.getD i
  have b0:=hw.getD (j+i)
  have gk:(Wr v)[Int.toNat (i:Int)]?=some [.u32 (v.getD i 0)]:=G1 (by omega)
  have gu:(Wr u')[Int.toNat ((j+i:Nat):Int)]?=some [.u32 (u'.getD (j+i) 0)]:=G1 (by omega)
  have et:=z2h v i (by omega)
  have es:=y4i u' (j+i) (by omega)
  obtain ⟨x,ex⟩:∃ x,x=v.getD i 0:=⟨_,rfl⟩
  obtain ⟨w,ew⟩:∃ w,w=u'.getD (j+i) 0:=⟨_,rfl⟩
  rw [← ex] at a0 gk et
  rw [← ew] at b0 gu es
  obtain ⟨S,eS⟩:∃ S,S=up+(w+x):=⟨_,rfl⟩
  have hS:0≤S∧S≤1999999999:=by omega
  obtain ⟨up2,u2,k1,k2⟩:=u1p (g:=g) D hln hls (u1:=u1) d (i+1) (S / 1000000000) (u'.set (j+i) (S % 1000000000)) (by omega) (by omega) (hw.set _ (by omega) (by omega)) (by simpa using hl)
   (fun n h=>by rw [O2 (by omega)];exact hn n (by omega)) (by
    rw [es,et,z5z,y4n]
    have:=w0n hv eS (Int.emod_add_mul_ediv S 1000000000)
    rw [this];grind)
  refine ⟨up2,u2,?_,k2⟩
  exact j1v (i6:=((j+i:Nat):Int)) (i7:=w) (i8:=x) (i9:=w+x) (i10:=S) (i11:=S % 1000000000) (r3:=Wr (u'.set (j+i) (S % 1000000000))) (i12:=S / 1000000000) (i13:=((i+1:Nat):Int))
   (wi (by omega)) (w32 (by omega)) (w32 (by omega)) (tmd hS.1 rfl) (by rw [Int.toNat_natCast,z7d]) (w32 ⟨tdv hS.1 rfl,by omega,by omega⟩) (wi (by omega))
   (by omega) (by omega) gu (by omega) gk k1
theorem v0q {xs ys:List Int} {n:Nat} (hl:xs.length=ys.length) (h:∀ i,n≤i→xs.getD i 0=ys.getD i 0):xs.drop n=ys.drop n:=by
 apply List.ext_getElem?
 intro i
 rw [List.getElem?_drop,List.getElem?_drop]
 rcases Nat.lt_or_ge (n+i) xs.length with h1 | h1
 · rw [getD_some h1,getD_some (by omega),h _ (by omega)]
 · rw [List.getElem?_eq_none h1,List.getElem?_eq_none (by omega)]
theorem w8p {lu k j ln:Nat} {u v:List Int} (D:Dv u v lu k j) (hln:j+k<ln) (hls:ln<35184372088832) {g:Int} (hg:0≤g∧g<1000000000) (hup:wv (u.drop j)<(g+1)*wv v) (hlo:(g-1)*wv v≤wv (u.drop j)) :
    ∃ u' q,Rn E F6 [.vec 0 ln,.c (.list (Wr v)),.c (.i64 j),.c (.u64 g)] [some (.vec A4 (Wr u))] (.c (.u32 q)) [some (.vec A4 (Wr u'))] ∧
     (0≤q∧q<1000000000)∧Wd u'∧u'.length=lu∧wv u'=wv u-pw j*(q*wv v)∧0≤wv (u'.drop j)∧wv (u'.drop j)<wv v:=by
 have h2:=D.two
 have hjk:=D.jk
 have hsm:=D.small
 have hlu:=D.elu
 have hlv:=D.elv
 have hV:=D.vpos
 have hVk:=D.vk
 have b0:=D.hu.getD (j+k)
 have hz:=D.zero
 obtain ⟨u0,e3⟩:∃ x,x=u.getD (j+k) 0:=⟨_,rfl⟩
 rw [← e3] at b0
 obtain ⟨c,b,us,s1,s2,s3,s4,s5,s6,s7⟩:=u1q (E:=E) D hln hls hg k 0 0 0 u (by omega) (by omega) (.inl rfl) D.hu D.elu (fun _ _=>rfl) (by simp [wv])
 have hsu:us.getD (j+k) 0=u0:=by rw [s6 _ (.inr (Nat.le_refl _)),← e3]
 have gs0:(Wr us)[Int.toNat ((j+k:Nat):Int)]?=some [.u32 u0]:=by rw [← hsu];exact G1 (by omega)
 obtain ⟨last,hlast⟩:∃ x,x=u0-c-b:=⟨_,rfl⟩
 have hset:=y4i us (j+k) (by omega)
 rw [hsu] at hset
 have sv:wv us=wv u-pw j*(g*wv v-pw k*(c+b)):=by rw [s7];grind
 have sd:=y9p (xs:=us) (ys:=u) (by omega) (j:=j) (by omega) (fun n hn=>s6 n (.inl hn)) sv
 have sk:=H1 (us.drop j) k (by simp;omega)
 have sz:wv (us.drop (j+k+1))=0:=by
  rw [v0q (ys:=u) (by omega) (fun i hi=>s6 i (.inr (by omega)))];exact hz
 rw [List.drop_drop,X4 us (j+k) (by omega),sz,hsu] at sk
 have sk0:=D4 ((s4.drop j).take k)
 have sk1:=(s4.drop j).val_take_lt k (by simp;omega)
 have hpk:=z2p k
 have hpj:=z2p j
 have hXV:(g+1)*wv v=g*wv v+wv v:=by grind
 have hwl:((Wr v).length:Int)=k:=by rw [B3,hlv]
 have s1':Lp E 1 F6 0 (P7 ln (Wr v) j g ((Wr v).length:Int) 0 0 0 (Wr u)) (.exit 0) (z2x ln (Wr v) j g ((Wr v).length:Int) b c (Wr us)):=by rw [hwl];exact s1
 by_cases c1:last<0
 · have hneg:wv (u.drop j)<g*wv v:=by
    have h5:pw k*last≤pw k*(-1):=Int.mul_le_mul_of_nonneg_left (by omega) (by omega)
    have h6:pw k*last=pw k*u0-pw k*(c+b):=by rw [hlast];grind
    simp at sk
    omega
   have hg1:1≤g:=by
    rcases Int.lt_or_le g 1 with h | h
    · have:g=0:=by omega
      subst this
      have:=D4 (D.hu.drop j)
      omega
    · exact h
   obtain ⟨m,hm⟩:∃ m,m=us.set (j+k) (last+1000000000):=⟨_,rfl⟩
   have hlb:-1000000000≤last:=by rcases s3 with h | h <;> omega
   have mw:Wd m:=by rw [hm];exact s4.set _ (by omega) (by omega)
   have ml:m.length=lu:=by rw [hm];simpa using s5
   have mv:wv m=wv us+pw (j+k)*(last+1000000000-u0):=by rw [hm,hset]
   have mj:m.getD (j+k) 0=last+1000000000:=by rw [hm];exact y3u (by omega) _
   obtain ⟨up,ua,t1,t2,t3,t4,t5,t6⟩:=u1p (E:=E) (g:=g) D hln hls (u1:=m) k 0 0 m (by omega) (by omega) mw ml (fun _ _=>rfl) (by simp [wv])
   have hau:ua.getD (j+k) 0=last+1000000000:=by rw [t5 _ (.inr (Nat.le_refl _)),mj]
   have ga0:(Wr ua)[Int.toNat ((j+k:Nat):Int)]?=some [.u32 (last+1000000000)]:=by rw [← hau];exact G1 (by omega)
   have hset2:=y4i ua (j+k) (by omega)
   rw [hau] at hset2
   have tv:wv ua=wv u-pw j*((g-1)*wv v-pw k*(last+1000000000-u0)-pw k*(c+b)+pw k*up):=by rw [t6,mv,s7,y4n];grind
   have td:=y9p (xs:=ua) (ys:=u) (by omega) (j:=j) (by omega) (fun n hn=>by rw [t5 n (.inl hn),hm,O2 (by omega)];exact s6 n (.inl hn)) tv
   have tk:=H1 (ua.drop j) k (by simp;omega)
   have tz:wv (ua.drop (j+k+1))=0:=by
    rw [v0q (ys:=us) (by omega) (fun i hi=>by rw [t5 i (.inr (by omega)),hm,O2 (by omega)])];exact sz
   rw [List.drop_drop,X4 ua (j+k) (by omega),tz,hau] at tk
   have tk0:=D4 ((t3.drop j).take k)
   have tk1:=(t3.drop j).val_take_lt k (by simp;omega)
   have hg1V:(g-1)*wv v=g*wv v-wv v:=by grind
   have hzero:last+up=0:=by
    have h5:pw k*(last+up)=pw k*last+pw k*up:=by grind
    have h6:pw k*(last+1000000000-u0)=pw k*last+pw k*1000000000-pw k*u0:=by grind
    have h7:pw k*last=pw k*u0-pw k*(c+b):=by rw [hlast];grind
    have h8:pw k*(last+1000000000)=pw k*last+pw k*1000000000:=by grind
    have h9:-pw k<pw k*(last+up)∧pw k*(last+up)<pw k:=by
     simp at tk
     omega
    rcases Int.lt_trichotomy (last+up) 0 with h | h | h
    · have:pw k*(last+up)≤pw k*(-1):=Int.mul_le_mul_of_nonneg_left (by omega) (by omega)
      omega
    · exact h
    · have:pw k*1≤pw k*(last+up):=Int.mul_le_mul_of_nonneg_left (by omega) (by omega)
      omega
   have hfin:wv (ua.set (j+k) 0)=wv u-pw j*((g-1)*wv v):=by
    rw [hset2,tv,y4n]
    have e1:u0=c+b+last:=by omega
    have e2:up=-last:=by omega
    rw [e1,e2];grind
   have hd:=y9p (xs:=ua.set (j+k) 0) (ys:=u) (by simp;omega) (j:=j) (by simp;omega) (fun n hn=>by rw [O2 (by omega),t5 n (.inl hn),hm,O2 (by omega)];exact s6 n (.inl hn)) hfin
   refine ⟨ua.set (j+k) 0,g-1,?_,by omega,t3.set _ (by omega) (by omega),by simpa using t4,hfin,by rw [hd];omega,by rw [hd];omega⟩
   have t1':Lp E 1 F6 1 (z5q ln (Wr v) j g ((Wr v).length:Int) 0 0 (Wr m)) (.exit 2) (y0w ln j g ((Wr v).length:Int) up (Wr ua)):=by rw [hwl];exact t1
   exact q9h (i2:=b) (i3:=c) (r2:=Wr us) (i4:=((j+k:Nat):Int)) (i5:=u0) (i6:=u0) (i7:=c) (i8:=u0-c) (i9:=last) (i10:=last+1000000000) (i12:=last+1000000000) (r4:=Wr m) (i13:=up) (r5:=Wr ua) (i14:=last+1000000000) (i15:=1000000000) (i16:=0) (r6:=Wr (ua.set (j+k) 0)) (i17:=g-1) (i18:=g-1)
    (wi (by rw [hwl];omega)) (wi (by omega)) (wi (by omega)) (wi (by omega)) (wi (by omega)) (wi (by omega)) (w32 (by omega)) (by rw [Int.toNat_natCast,z7d,hm]) (w32 (by omega)) (tmd (by omega) rfl) (by rw [Int.toNat_natCast,z7d]) (wu (by omega)) (w32 (by omega))
    s1' (by omega) gs0 (by omega) t1' ga0
 · have hfin:wv (us.set (j+k) last)=wv u-pw j*(g*wv v):=by
    rw [hset,sv,y4n,hlast];grind
   have hd:=y9p (xs:=us.set (j+k) last) (ys:=u) (by simp;omega) (j:=j) (by simp;omega) (fun n hn=>by rw [O2 (by omega)];exact s6 n (.inl hn)) hfin
   have hl9:last<1000000000:=by rcases s3 with h | h <;> omega
   refine ⟨us.set (j+k) last,g,?_,hg,s4.set _ (by omega) hl9,by simpa using s5,hfin,D4 ((s4.set (j+k) (show 0≤last by omega) hl9).drop j),by rw [hd];omega⟩
   exact q9g (i2:=b) (i3:=c) (r2:=Wr us) (i4:=((j+k:Nat):Int)) (i5:=u0) (i6:=u0) (i7:=c) (i8:=u0-c) (i9:=last) (i10:=last) (r3:=Wr (us.set (j+k) last)) (i11:=g)
    (wi (by rw [hwl];omega)) (wi (by omega)) (wi (by omega)) (wi (by omega)) (wi (by omega)) (w32 (by omega)) (by rw [Int.toNat_natCast,z7d]) (w32 (by omega)) s1' (by omega) gs0 (by omega)
theorem w2e {sc w2 w4:RW} {lq lu k j ln:Nat} {u v:List Int} (D:Dv u v lu k j) (hln:j+k<ln) (hls:ln<35184372088832) :
    ∀ (t:Nat) (g rest:Int),0≤g→g<t→g≤1000000001→0≤rest∧rest<2000000000→g*v.getD (k-1) 0+rest=u.getD (j+k) 0*1000000000+u.getD (j+k-1) 0→wv (u.drop j)<(g+1)*wv v→(g=1000000001→rest+v.getD (k-1) 0<1000000000)→(rest≥1000000000→g<1000000000) →
    ∃ g',Lp E 5 H4 1 (z2e k sc (Wr v) ln lq j g rest w2 (Wr u) w4) (.exit 2) (z9u k sc (Wr v) ln lq j w2 (Wr u) w4 g')∧(0≤g'∧g'<1000000000)∧wv (u.drop j)<(g'+1)*wv v∧(g'-1)*wv v≤wv (u.drop j)
 | 0,g,rest,h0,ht,_,_,_,_,_,_=>by omega
 | t+1,g,rest,h0,ht,hg,hr,he,hX,hbig,hrg=>by
  have h2:=D.two
  have hjk:=D.jk
  have hsm:=D.small
  have hlu:=D.elu
  have hlv:=D.elv
  have a1:=D.hv.getD (k-1)
  have a2:=D.hv.getD (k-2)
  have b2:=D.hu.getD (j+k-2)
  have b1:=D.hu.getD (j+k-1)
  have b0:=D.hu.getD (j+k)
  have hnorm:=D.norm
  have eV:=x6z D.elv D.two
  have eX:=x4g (u:=u) (j:=j) (k:=k) D.two (by omega) D.zero
  have vl0:=D4 (D.hv.take (k-2))
  have vl1:=D.hv.val_take_lt (k-2) (by omega)
  have xl0:=D4 ((D.hu.drop j).take (k-2))
  have xl1:=(D.hu.drop j).val_take_lt (k-2) (by simp;omega)
  have hP:=z2p (k-2)
  have gk1:(Wr v)[Int.toNat ((k:Int)-1)]?=some [.u32 (v.getD (k-1) 0)]:=by
   rw [show Int.toNat ((k:Int)-1)=k-1 by omega];exact G1 (by omega)
  have gk2:(Wr v)[Int.toNat ((k:Int)-2)]?=some [.u32 (v.getD (k-2) 0)]:=by
   rw [show Int.toNat ((k:Int)-2)=k-2 by omega];exact G1 (by omega)
  have gu:(Wr u)[Int.toNat ((j:Int)+k-2)]?=some [.u32 (u.getD (j+k-2) 0)]:=by
   rw [show Int.toNat ((j:Int)+k-2)=j+k-2 by omega];exact G1 (by omega)
  obtain ⟨v1,e1⟩:∃ x,x=v.getD (k-1) 0:=⟨_,rfl⟩
  obtain ⟨v2,e2⟩:∃ x,x=v.getD (k-2) 0:=⟨_,rfl⟩
  obtain ⟨u2,e3⟩:∃ x,x=u.getD (j+k-2) 0:=⟨_,rfl⟩
  obtain ⟨top,e4⟩:∃ x,x=u.getD (j+k) 0*1000000000+u.getD (j+k-1) 0:=⟨_,rfl⟩
  rw [← e1] at a1 hnorm eV gk1 he hbig
  rw [← e2] at a2 eV gk2
  rw [← e3] at b2 eX gu
  rw [← e4] at eX he
  have hg2:0≤g*v2∧g*v2≤1000000001*999999999:=⟨Int.mul_nonneg h0 a2.1,Int.mul_le_mul hg (by omega) a2.1 (by decide)⟩
  by_cases c0:rest≥1000000000
  · have hgB:=hrg c0
    refine ⟨g,j1r (by omega),⟨h0,hgB⟩,hX,?_⟩
    refine x7t hP ⟨vl0,vl1⟩ xl0 eV eX he ⟨h0,hgB⟩ ?_ hnorm a2.1
    have h5:g*v2≤999999999*999999999:=Int.mul_le_mul (by omega) (by omega) a2.1 (by decide)
    omega
  · have down:1≤g→wv (u.drop j)<g*wv v→(g≤1000000000∨rest+v1<1000000000) →
        ∃ g',Lp E 5 H4 1 (z2e k sc (Wr v) ln lq j (g-1) (rest+v1) w2 (Wr u) w4) (.exit 2) (z9u k sc (Wr v) ln lq j w2 (Wr u) w4 g')∧(0≤g'∧g'<1000000000)∧wv (u.drop j)<(g'+1)*wv v∧(g'-1)*wv v≤wv (u.drop j):=by
     intro hg1 hlt hb
     have hmul:(g-1)*v1+(rest+v1)=top:=by
      have:(g-1)*v1=g*v1-v1:=by grind
      omega
     refine w2e D hln hls t (g-1) (rest+v1) (by omega) (by omega) (by omega) (by omega) ?_ (by rw [show g-1+1=g by omega];exact hlt) (fun h=>by omega) (fun h=>by omega)
     rw [← e1,← e4];exact hmul
    by_cases c1:g≥1000000000
    · have hlt:wv (u.drop j)<g*wv v:=by
       have h6:=X4 u j (by omega)
       have h7:=D.hu.getD j
       have h8:=D.low
       have h9:1000000000*wv v≤g*wv v:=Int.mul_le_mul_of_nonneg_right c1 (by have:=D.vpos;omega)
       omega
      have hb:g≤1000000000∨rest+v1<1000000000:=by
       rcases Int.lt_or_le 1000000000 g with h | h
       · exact .inr (hbig (by omega))
       · exact .inl h
      obtain ⟨g',d3,d4⟩:=down (by omega) hlt hb
      exact ⟨g',j9e (i6:=(k:Int)-1) (i7:=v1) (i8:=v1) (wu (by omega)) (wi (by omega)) (wu (by omega)) (wu (by omega)) (by omega) c1 (by omega) gk1 d3,d4⟩
    · by_cases c3:g*v2>rest*1000000000+u2
      · have hlt:=v5p hP vl0 xl1 eV eX he h0 c3
        have hg1:1≤g:=by
         rcases Int.lt_or_le g 1 with h | h
         · have:g=0:=by omega
           subst this
           rw [Int.zero_mul] at c3
           omega
         · exact h
        obtain ⟨g',d3,d4⟩:=down hg1 hlt (.inl (by omega))
        exact ⟨g',j9f (i5:=(k:Int)-2) (i6:=v2) (i7:=v2) (i8:=g*v2) (i9:=rest*1000000000) (i10:=(j:Int)+k) (i11:=(j:Int)+k-2) (i12:=u2) (i13:=u2) (i14:=rest*1000000000+u2) (i16:=(k:Int)-1) (i17:=v1) (i18:=v1)
         (wi (by omega)) (wu (by omega)) (wu (by omega)) (wu (by omega)) (wi (by omega)) (wi (by omega)) (wu (by omega)) (wu (by omega)) (wu (by omega)) (wi (by omega)) (wu (by omega)) (wu (by omega)) (by omega) c1 (by omega) gk2 (by omega) gu c3 (by omega) gk1 d3,d4⟩
      · refine ⟨g,j1q (i5:=(k:Int)-2) (i6:=v2) (i7:=v2) (i8:=g*v2) (i9:=rest*1000000000) (i10:=(j:Int)+k) (i11:=(j:Int)+k-2) (i12:=u2) (i13:=u2) (i14:=rest*1000000000+u2)
            (wi (by omega)) (wu (by omega)) (wu (by omega)) (wu (by omega)) (wi (by omega)) (wi (by omega)) (wu (by omega)) (wu (by omega)) (by omega) c1 (by omega) gk2 (by omega) gu c3,⟨h0,by omega⟩,hX,?_⟩
        exact x7t hP ⟨vl0,vl1⟩ xl0 eV eX he ⟨h0,by omega⟩ (by omega) hnorm a2.1
theorem w1e {lu k j:Nat} {u v:List Int} (D:Dv u v lu k j) {top:Int} (et:top=u.getD (j+k) 0*1000000000+u.getD (j+k-1) 0) :
    0≤top∧0≤top / v.getD (k-1) 0∧top / v.getD (k-1) 0≤1000000001∧(0≤top % v.getD (k-1) 0∧top % v.getD (k-1) 0<v.getD (k-1) 0)∧top / v.getD (k-1) 0*v.getD (k-1) 0+top % v.getD (k-1) 0=top∧wv (u.drop j)<(top / v.getD (k-1) 0+1)*wv v∧(top / v.getD (k-1) 0=1000000001→top % v.getD (k-1) 0+v.getD (k-1) 0<1000000000):=by
 have h2:=D.two
 have hjk:=D.jk
 have hlu:=D.elu
 have hlv:=D.elv
 have hnorm:=D.norm
 have hV:=D.vpos
 have a1:=D.hv.getD (k-1)
 have b1:=D.hu.getD (j+k-1)
 have b0:=D.hu.getD (j+k)
 have hlow:=D.low
 have hz:=D.zero
 obtain ⟨v1,e1⟩:∃ x,x=v.getD (k-1) 0:=⟨_,rfl⟩
 obtain ⟨u0,e3⟩:∃ x,x=u.getD (j+k) 0:=⟨_,rfl⟩
 obtain ⟨u1',e4⟩:∃ x,x=u.getD (j+k-1) 0:=⟨_,rfl⟩
 have hX3:=x4g (u:=u) (j:=j) (k:=k) h2 (by omega) hz
 have hV2:=x6z hlv h2
 rw [← e3,← e4] at et hX3
 rw [← et] at hX3
 rw [← e1] at a1 hnorm hV2 ⊢
 rw [← e3] at b0
 rw [← e4] at b1
 have htop:0≤top:=by omega
 have hdm:=Int.emod_add_mul_ediv top v1
 have hr0:=Int.emod_nonneg top (show v1≠0 by omega)
 have hr1:=Int.emod_lt_of_pos top (show 0<v1 by omega)
 have hg0:0≤top / v1:=Int.ediv_nonneg htop (by omega)
 have hmul:top / v1*v1+top % v1=top:=by rw [Int.mul_comm];omega
 have a2:=D.hv.getD (k-2)
 have vl1:=D.hv.val_take_lt (k-2) (by omega)
 have xl0:=D4 ((D.hu.drop j).take (k-2))
 have hP:=z2p (k-2)
 have b2:=D.hu.getD (j+k-2)
 have hu0:u0≤v1:=by
  rcases Int.lt_or_le v1 u0 with h | h
  · exfalso
    have e5:=H1 (u.drop (j+1)) (k-1) (by simp;omega)
    rw [List.drop_drop,show j+1+(k-1)=j+k by omega,X4 u (j+k) (by omega),hz,← e3] at e5
    have h6:=D4 ((D.hu.drop (j+1)).take (k-1))
    have e7:=H1 v (k-1) (by omega)
    rw [X4 v (k-1) (by omega),← e1,show k-1+1=k by omega,List.drop_eq_nil_of_le (by omega),show wv []=0 from rfl] at e7
    have h8:=D.hv.val_take_lt (k-1) (by omega)
    have h9:pw (k-1)*(v1+1)≤pw (k-1)*u0:=Int.mul_le_mul_of_nonneg_left (by omega) (by have:=z2p (k-1);omega)
    rw [Int.mul_add,Int.mul_one] at h9
    simp at e5 e7
    omega
  · exact h
 refine ⟨htop,hg0,?_,⟨hr0,hr1⟩,hmul,?_,fun h=>by rw [h] at hmul;omega⟩
 · have:top / v1<1000000002:=Int.ediv_lt_of_lt_mul (by omega) (by omega)
   omega
 · have h5:top+1≤(top / v1+1)*v1:=by
    have:(top / v1+1)*v1=top / v1*v1+v1:=by grind
    omega
   have h6:=Int.mul_le_mul_of_nonneg_right h5 (show 0≤1000000000*pw (k-2) by omega)
   have h7:(top / v1+1)*(v1*(1000000000*pw (k-2)))≤(top / v1+1)*wv v:=by
    refine Int.mul_le_mul_of_nonneg_left ?_ (by omega)
    have h8:(v1*1000000000+v.getD (k-2) 0)*pw (k-2)=v1*(1000000000*pw (k-2))+v.getD (k-2) 0*pw (k-2):=by grind
    have h9:0≤v.getD (k-2) 0*pw (k-2):=Int.mul_nonneg a2.1 (by omega)
    have h10:=D4 (D.hv.take (k-2))
    omega
   have h8:(top / v1+1)*v1*(1000000000*pw (k-2))=(top / v1+1)*(v1*(1000000000*pw (k-2))):=by grind
   have h9:(top+1)*(1000000000*pw (k-2))=top*1000000000*pw (k-2)+1000000000*pw (k-2):=by grind
   have h10:(top*1000000000+u.getD (j+k-2) 0)*pw (k-2)=top*1000000000*pw (k-2)+u.getD (j+k-2) 0*pw (k-2):=by grind
   have h11:u.getD (j+k-2) 0*pw (k-2)≤999999999*pw (k-2):=Int.mul_le_mul_of_nonneg_right (by omega) (by omega)
   have h12:=(D.hu.drop j).val_take_lt (k-2) (by simp;omega)
   omega
theorem j4e {sc w2:RW} {lq lu k ln:Nat} {v:List Int} (hv:Wd v) (hlv:v.length=k)(h2:2≤k) (hn:1000000000≤2*v.getD (k-1) 0) (hsm:lu<35184372088832) (hlnu:ln≤lu) :
    ∀ j u q,Wd u→u.length=lu→Wd q→q.length=lq→j≤lq→(0<j→j-1+k<ln)→wv (u.drop j)<wv v →
    ∃ u' q',Lp E 5 H4 0 (y3w k sc (Wr v) ln lq ((j:Int)-1) w2 (Wr u) (Wr q)) (.exit 0) (x0l k sc ln lq w2 (Wr u') (Wr q'))∧Wd u'∧u'.length=lu∧Wd q'∧q'.length=lq∧wv u'<wv v∧wv u'+wv v*wv q'=wv u+wv v*(pw j*wv (q.drop j))
 | 0,u,q,hu,hlu,hq,hlq,_,_,hlow=>⟨u,q,j1p (by omega),hu,hlu,hq,hlq,by simpa using hlow,by simp [x8c]⟩
 | j+1,u,q,hu,hlu,hq,hlq,hj,hjk,hlow=>by
  have hjk':=hjk (by omega)
  have D:Dv u v lu k j:=⟨hu,hv,hlu,hlv,h2,hn,by omega,hsm,hlow⟩
  rw [show ((j+1:Nat):Int)-1=(j:Int) by omega]
  have a1:=hv.getD (k-1)
  have b1:=hu.getD (j+k-1)
  have b0:=hu.getD (j+k)
  obtain ⟨top,et⟩:∃ x,x=u.getD (j+k) 0*1000000000+u.getD (j+k-1) 0:=⟨_,rfl⟩
  obtain ⟨f1,f2,f3,f4,f5,f6,f7⟩:=w1e D et
  obtain ⟨g,k1,k2,k3,k4⟩:=w2e (E:=E) (sc:=sc) (w2:=w2) (w4:=Wr q) (lq:=lq) (ln:=ln) D (by omega) (by omega) 1000000002 _ _ f2 (by omega) f3 (by omega) (by rw [← et];exact f5) f6 f7 (by omega)
  obtain ⟨u1,qd,r1,r2,r3,r4,r5,r6,r7⟩:=w8p (E:=E) (ln:=ln) D (by omega) (by omega) k2 k3 k4
  obtain ⟨u',q',s1,s2,s3,s4,s5,s6,s7⟩:=j4e hv hlv h2 hn hsm hlnu j u1 (q.set j qd) r3 r4 (hq.set _ r2.1 r2.2) (by simpa using hlq) (by omega) (fun h=>by omega) r7
  refine ⟨u',q',?_,s2,s3,s4,s5,s6,?_⟩
  · have hred:=r1.at rfl rfl rfl rfl (objs:=[some .dead,some .dead,some (.vec A4 w2),some (.vec A4 (Wr u)),some (.vec A4 (Wr q))]) (l:=3) rfl
    exact j9d (i2:=((j+k:Nat):Int)) (i3:=u.getD (j+k) 0) (i4:=u.getD (j+k) 0) (i5:=u.getD (j+k) 0*1000000000) (i6:=((j+k-1:Nat):Int)) (i7:=u.getD (j+k-1) 0) (i8:=u.getD (j+k-1) 0) (i9:=top) (i10:=((k-1:Nat):Int)) (i11:=v.getD (k-1) 0) (i12:=v.getD (k-1) 0) (i13:=top / v.getD (k-1) 0) (i14:=top % v.getD (k-1) 0) (i15:=g) (r7:=Wr u1) (i16:=qd) (i17:=q.getD j 0) (r8:=Wr (q.set j qd)) (i18:=(j:Int)-1)
     (wi (by omega)) (wu (by omega)) (wu (by omega)) (wi (by omega)) (wu (by omega)) (wu (by omega)) (wi (by omega)) (wu (by omega)) (wu ⟨tdv f1 rfl,f2,by omega⟩) (tmd f1 rfl) (by rw [Int.toNat_natCast,z7d]) (wi (by omega))
     (by omega) (by omega) (G1 (by omega)) (by omega) (G1 (by omega)) (by omega) (G1 (by omega)) (by omega) k1 hred (by omega) (G1 (by omega)) s1
  · have hd:(q.set j qd).drop (j+1)=q.drop (j+1):=List.drop_set_of_lt (Nat.lt_succ_self j)
    rw [s7,r5,y1e (q.set j qd) j,y3u (by omega),hd,z5z]
    grind
theorem q2o (xs:List Int):∀ k,z2v (xs++List.replicate k 0) (xs.length+k)=z2v xs xs.length
 | 0=>by simp
 | k+1=>by
  have ih:=q2o xs k
  have h0:(xs++List.replicate (k+1) 0).getD (xs.length+k) 0=0:=by
   rw [List.getD_eq_getElem?_getD,List.getElem?_append_right (by omega),List.getElem?_replicate];split <;> rfl
  have hpre:∀ m,m≤xs.length+k→z2v (xs++List.replicate (k+1) 0) m=z2v (xs++List.replicate k 0) m:=by
   intro m hm
   induction m with
   | zero=>rfl
   | succ m ih =>
    have e:(xs++List.replicate (k+1) 0).getD m 0=(xs++List.replicate k 0).getD m 0:=by
     rw [List.getD_eq_getElem?_getD,List.getD_eq_getElem?_getD,List.replicate_succ',← List.append_assoc,List.getElem?_append_left (by simp;omega)]
    unfold z2v
    rw [e,ih (by omega)]
  show z2v (xs++List.replicate (k+1) 0) (xs.length+k+1)=_
  have step:z2v (xs++List.replicate (k+1) 0) (xs.length+k+1)=z2v (xs++List.replicate (k+1) 0) (xs.length+k):=by
   conv=>lhs;unfold z2v
   rw [if_pos h0]
  rw [step,hpre _ (Nat.le_refl _),ih]
theorem w4b {n:Nat}:z2v (words n) (words n).length=(words n).length:=by
 have h:=z2w (C0 n) (Nat.le_refl (words n).length)
 rw [List.take_length,B6,Int.toNat_natCast] at h
 have h2:=congrArg List.length h
 rw [List.length_take] at h2
 have:=j7v (words n) (words n).length
 omega
theorem v8n {m n:Nat} (hm0:m≠0) (hl:(words n).length<1099511627776):Fn E H4 [.c (.list (Wr (words n))),.c (.list (Wr (words m)))] (.tup [.c (.list (Wr (words (n / m)))),.c (.list (Wr (words (n % m))))]):=by
 have hc:=v8m (E:=E) (m:=n) (n:=m) (by omega)
 by_cases h1:n<m
 · rw [Nat.div_eq_of_lt h1,Nat.mod_eq_of_lt h1,Y1]
   exact v8s hc (y9f.2 (by omega))
 · have hc':¬ cmpI n m<0:=fun h=>h1 (by have:=y9f.1 h;omega)
   have hmne:words m≠[]:=fun h=>hm0 (z7q.1 h)
   have hmp:=y2s hmne
   by_cases h3:(words m).length=1
   · have hm1:m<1000000000:=by
      have:=y2g (C0 m)
      rw [B6,h3,show pw 1=1000000000 by decide] at this
      omega
     have e:words m=[(m:Int)]:=by
      rcases k6d (n:=m) (by omega) with ⟨_,h⟩ | ⟨e,_,_⟩ | ⟨_,h⟩
      · exact absurd h hm0
      · exact e
      · omega
     have hs:=w2f (E:=E) (n:=n) (w:=m) ⟨by omega,hm1⟩ (by omega)
     have hr:=Nat.mod_lt n (show 0<m by omega)
     exact v8t (i1:=(m:Int)) hc hc' (by rw [B3,h3];rfl) (by rw [e];rfl) hs (k3u (by omega))
   · have hlm:(words m).length≤(words n).length:=(z0n m).length_le (C0 m) (C0 n) (by rw [B6,B6];omega)
     obtain ⟨k,hk⟩:∃ k,k=(words m).length:=⟨_,rfl⟩
     rw [← hk] at hlm h3 hmp
     have hk2:2≤k:=by omega
     have ht:=(C0 m).getD (k-1)
     obtain ⟨t,et⟩:∃ t,t=(words m).getD (k-1) 0:=⟨_,rfl⟩
     rw [← et] at ht
     obtain ⟨f,hf⟩:∃ f:Nat,(f:Int)=1000000000 / (t+1):=⟨(1000000000 / (t+1)).toNat,by have:0≤1000000000 / (t+1):=Int.ediv_nonneg (by decide) (by omega);omega⟩
     obtain ⟨f1,f2,lv,nv⟩:=q1w (n:=m) rfl hk.symm (by omega) (f:=f) (by rw [← et];exact hf)
     have hfl:(words f).length≤1:=z5r (by rw [show pw 1=1000000000 by decide];omega)
     have hfe:words f=[(f:Int)]:=by
      rcases k6d (n:=f) (by omega) with ⟨_,h⟩ | ⟨e,_,_⟩ | ⟨_,h⟩
      · omega
      · exact e
      · omega
     have hnf:n≤n*f:=by have:=Nat.mul_le_mul_left n f1;omega
     have hun:=(z0n n).length_le (C0 n) (C0 (n*f)) (by rw [B6,B6];omega)
     have hnp:(n:Int)<pw (words n).length:=by have:=y2g (C0 n);rwa [B6] at this
     have hun2:(words (n*f)).length≤(words n).length+1:=by
      refine z5r ?_
      rw [z5z,Int.natCast_mul,Int.mul_comm]
      have h5:(f:Int)*n≤1000000000*n:=Int.mul_le_mul_of_nonneg_right (by omega) (by omega)
      have h6:1000000000*(n:Int)<1000000000*pw (words n).length:=Int.mul_lt_mul_of_pos_left hnp (by decide)
      omega
     obtain ⟨L,hL⟩:∃ L,L=(words (n*f)).length:=⟨_,rfl⟩
     rw [← hL] at hun hun2
     have hu0:Wd (words (n*f)++[0,0]):=(C0 _).append (Wd.cons (by omega) (by omega) (Wd.cons (by omega) (by omega) Wd.nil))
     have hu0l:(words (n*f)++[0,0]).length=L+2:=by simp [hL]
     have hval0:wv (words (n*f)++[0,0])=((n*f:Nat):Int):=by rw [j2t,B6];simp [wv]
     have hvv:wv (words (m*f))=((m*f:Nat):Int):=B6 _
     have hlow:wv ((words (n*f)++[0,0]).drop ((words n).length+1-k))<wv (words (m*f)):=by
      have e5:=H1 (words (n*f)++[0,0]) ((words n).length+1-k) (by rw [hu0l];omega)
      have h6:=D4 (hu0.take ((words n).length+1-k))
      rw [hval0] at e5
      rw [hvv]
      have h7:pw (k-1)≤m:=by have:=(z0n m).val_ge (C0 m) hmne;rwa [B6,← hk] at this
      have h8:pw (words n).length=pw ((words n).length+1-k)*pw (k-1):=by rw [← y4n];congr 1;omega
      have h9:((n*f:Nat):Int)<pw ((words n).length+1-k)*((m*f:Nat):Int):=by
       rw [Int.natCast_mul,Int.natCast_mul]
       have h10:(n:Int)*f<pw (words n).length*f:=Int.mul_lt_mul_of_pos_right hnp (by omega)
       have h11:pw ((words n).length+1-k)*(pw (k-1)*f)≤pw ((words n).length+1-k)*((m:Int)*f) :=
        Int.mul_le_mul_of_nonneg_left (Int.mul_le_mul_of_nonneg_right h7 (by omega)) (by have:=z2p ((words n).length+1-k);omega)
       rw [h8,Int.mul_assoc] at h10
       omega
      have hp:=z2p ((words n).length+1-k)
      rcases Int.lt_or_le (wv ((words (n*f)++[0,0]).drop ((words n).length+1-k))) ((m*f:Nat):Int) with h | h
      · exact h
      · have:=Int.mul_le_mul_of_nonneg_left h (show 0≤pw ((words n).length+1-k) by omega)
        omega
     obtain ⟨u',q',r1,r2,r3,r4,r5,r6,r7⟩:=j4e (E:=E) (sc:=Wr (words f)) (w2:=[[.u32 0],[.u32 0]]) (lq:=(words n).length+1-k) (lu:=L+2) (ln:=(words n).length+1) (C0 (m*f)) lv hk2 nv (by omega) (by omega) ((words n).length+1-k) (words (n*f)++[0,0]) (List.replicate ((words n).length+1-k) 0) hu0 hu0l (Wd.replicate _) (by simp) (Nat.le_refl _) (fun _=>by omega) hlow
     rw [drop_nil (by simp),hval0,hvv,show wv []=0 from rfl] at r7
     rw [hvv] at r6
     have hq0:=D4 r4
     have hr0:=D4 r2
     obtain ⟨Q,hQ⟩:∃ Q:Nat,wv q'=Q:=⟨(wv q').toNat,by omega⟩
     obtain ⟨R,hR⟩:∃ R:Nat,wv u'=R:=⟨(wv u').toNat,by omega⟩
     rw [hQ,hR] at r7
     rw [hR] at r6
     have e1:n*f=Q*(m*f)+R:=by
      have:((n*f:Nat):Int)=((Q*(m*f)+R:Nat):Int):=by
       rw [Int.natCast_add,Int.natCast_mul Q]
       have:((Q:Int))*((m*f:Nat):Int)=((m*f:Nat):Int)*Q:=Int.mul_comm _ _
       simp at r7
       simp at this ⊢
       omega
      omega
     have hfR:f ∣ R:=by
      have h5:f ∣ Q*(m*f):=⟨Q*m,by rw [← Nat.mul_assoc,Nat.mul_comm]⟩
      exact (Nat.dvd_add_right h5).1 (by rw [← e1];exact ⟨n,Nat.mul_comm _ _⟩)
     obtain ⟨R',hR'⟩:=hfR
     have e2:n=Q*m+R':=by
      have:f*n=f*(Q*m+R'):=by
       rw [Nat.mul_add,← hR',Nat.mul_comm f n,e1,← Nat.mul_assoc,Nat.mul_comm f]
      exact Nat.eq_of_mul_eq_mul_left (by omega) this
     have e3:R'<m:=by
      have:f*R'<f*m:=by rw [← hR',Nat.mul_comm f m];omega
      exact Nat.lt_of_mul_lt_mul_left this
     obtain ⟨d1,d2⟩:=x4v e2 e3
     have hRf:R / f=R':=by rw [hR',Nat.mul_div_cancel_left _ (by omega)]
     have hvk:=y2g (C0 (m*f))
     rw [lv,hvv] at hvk
     have hul:wv (u'.take k)=R:=by
      have h5:=H1 u' k (by omega)
      have h6:=D4 (r2.take k)
      have h7:=D4 (r2.drop k)
      rcases Int.lt_or_le 0 (wv (u'.drop k)) with h | h
      · have h8:pw k*1≤pw k*wv (u'.drop k):=Int.mul_le_mul_of_nonneg_left (by omega) (by have:=z2p k;omega)
        omega
      · have:wv (u'.drop k)=0:=by omega
        rw [this,Int.mul_zero] at h5
        omega
     have t0:=(y9h (E:=E) (ws:=words (n*f)++[0,0]) (k:=L+2) (by omega) (by omega)).at (args:=[]) rfl rfl rfl rfl (objs:=[some .dead,some .dead,some (.vec A4 [[.u32 0],[.u32 0]]),some (.vec A4 (Wr (words (n*f)++[0,0])))]) (l:=3) rfl
     have ht0:z2v (words (n*f)++[0,0]) (L+2)=L:=by
      have:=q2o (words (n*f)) 2
      rw [← hL,show List.replicate 2 (0:Int)=[0,0] from rfl] at this
      rw [this,hL,w4b]
     rw [ht0] at t0
     have t1:=(y9h (E:=E) (ws:=u') (k:=k) (by omega) (by omega)).at (args:=[]) rfl rfl rfl rfl (objs:=[some .dead,some .dead,some (.vec A4 [[.u32 0],[.u32 0]]),some (.vec A4 (Wr u')),some (.vec A4 (Wr q'))]) (l:=3) rfl
     have t2:=(y9h (E:=E) (ws:=q') (k:=(words n).length+1-k) (by omega) (by omega)).at (args:=[]) rfl rfl rfl rfl (objs:=[some .dead,some .dead,some (.vec A4 [[.u32 0],[.u32 0]]),some (.fro (Wr u')),some (.vec A4 (Wr q'))]) (l:=4) rfl
     have w1:=z2w r2 (k:=k) (by omega)
     rw [hul,Int.toNat_natCast] at w1
     have w2:=z2w r4 (k:=(words n).length+1-k) (by omega)
     rw [← r5,List.take_length,hQ,r5,Int.toNat_natCast] at w2
     have hRl:(words R).length<35184372088000:=by
      have:=congrArg List.length w1
      rw [List.length_take] at this
      have:=j7v u' k
      omega
     have hby:=w2f (E:=E) (n:=R) (w:=f) ⟨by omega,by omega⟩ hRl
     rw [hRf,show words R=u'.take (z2v u' k) from w1.symm,← z2d] at hby
     rw [d1,d2]
     have hTm:=k3v (E:=E) (m:=m) (n:=f) (by omega)
     have hTn:=k3v (E:=E) (m:=n) (n:=f) (by omega)
     have hWl:((Wr (words m)).length:Int)=k:=by rw [B3,← hk]
     have hlq:(((words n).length+1-k:Nat):Int)=(words n).length+1-k:=by omega
     exact v8u (i1:=(k:Int)-1) (i3:=t) (i2:=t) (i4:=t+1) (i5:=(f:Int)) (i6:=(f:Int)) (r4:=Wr (words f)) (r5:=Wr (words (m*f))) (r6:=Wr (words (n*f))) (r7:=Wr (words (n*f))) (n0:=L) (r8:=Wr (words (n*f)++[0,0])) (n1:=L+2) (i7:=((words n).length:Int)+1) (n2:=L) (i8:=((words n).length:Int)+1) (n3:=(words n).length+1) (i9:=(((words n).length+1-k:Nat):Int)) (n4:=(words n).length+1-k) (r9:=Wr (List.replicate ((words n).length+1-k) 0)) (i10:=(((words n).length+1-k:Nat):Int)-1) (r10:=Wr u') (r11:=Wr q') (n5:=k) (n6:=z2v u' k) (i11:=(f:Int)) (n7:=z2v q' ((words n).length+1-k))
      (wi (by rw [hWl];omega)) (wi (by omega)) (wi (by omega)) (wi ⟨tdv (by omega) hf.symm,by omega,by omega⟩) (w32 (by omega)) rfl (by rw [B3,← hL,Nat.zero_add]) (by
       rw [z2d,hL,List.take_length]
       show Wr (words (n*f))++Wr [0,0]=_
       exact w7r _ _) rfl (wi (by rw [B3];omega)) (by split <;> omega) (by omega) (wi (by rw [hWl];omega)) (Int.toNat_natCast _) (z8o _ _) (wi (by omega)) (by rw [hWl,Int.toNat_natCast]) rfl (by rw [z2d,w2])
      hc hc' (by rw [hWl];omega) (by omega) (by rw [show Int.toNat ((k:Int)-1)=k-1 by omega,et];exact G1 (by omega)) (by omega) (k3u (by omega)) hTm hTn (w9o _) (by rw [B3];omega) (by omega) t0 (by omega) (by omega) (by rw [hWl];exact r1) (by rw [hWl];omega) t1 (by rw [hfe];rfl) hby t2
theorem j4d:∀ (t y x:Nat),y<t→Lp E 0 H2 1 (z9t x y) (.exit 2) (y6k (Nat.gcd x y:Nat))
 | 0,y,x,h=>by omega
 | t+1,y,x,h=>by
  by_cases h0:y=0
  · subst h0
    rw [Nat.gcd_zero_right]
    exact k4h rfl
  · have hm:=Nat.mod_lt x (show 0<y by omega)
    have e:Nat.gcd x y=Nat.gcd y (x % y):=(Nat.gcd_comm x y).trans ((Nat.gcd_rec y x).trans (Nat.gcd_comm _ _))
    rw [e]
    exact j1n (i3:=((x % y:Nat):Int)) (tmd (by omega) rfl) (by omega) (by omega) (j4d t (x % y) y (by omega))
theorem k3w {L:Nat} (hL:L<1099511627776):∀ (t n m:Nat),n<t→(words m).length≤L→(words n).length≤L →
    (Lp E 0 H2 0 (Y4 (Wr (words m)) (Wr (words n))) .ret (y6i (Wr (words (Nat.gcd m n))))) ∨
    (Lp E 0 H2 0 (Y4 (Wr (words m)) (Wr (words n))) (.exit 0) (y6j (Wr (words (Nat.gcd m n)))))
 | 0,n,m,h,_,_=>by omega
 | t+1,n,m,h,hm,hn=>by
  by_cases h0:n=0
  · subst h0
    rw [Nat.gcd_zero_right,Y1]
    exact .inr (k4g (by simp [Wr]))
  · have hpos:((Wr (words n)).length:Int)>0:=by
     have:words n≠[]:=fun h=>h0 (z7q.1 h)
     have:=y2s this
     rw [B3];omega
    have hr:=Nat.mod_lt m (show 0<n by omega)
    have e:Nat.gcd m n=Nat.gcd n (m % n):=(Nat.gcd_comm m n).trans ((Nat.gcd_rec n m).trans (Nat.gcd_comm _ _))
    have hrl:(words (m % n)).length≤L:=Nat.le_trans ((z0n _).length_le (C0 _) (C0 n) (by rw [B6,B6];omega)) hn
    have hd:=v8n (E:=E) (m:=n) (n:=m) h0 (by omega)
    by_cases s1:(words m).length≤2
    · by_cases s2:(words n).length≤2
      · have hg:Nat.gcd m n≤n:=Nat.gcd_le_right m (by omega)
        have hn2:=v6v.1 s2
        exact .inl (k4f hpos (by rw [B3];omega) (by rw [B3];omega) (w7c s1) (w7c s2) (j4d (n+1) n m (by omega)) (u4o (by omega)))
      · rw [e]
        rcases k3w hL t (m % n) n (by omega) hn hrl with ih | ih
        · exact .inl (x2x hpos (by rw [B3];omega) (by rw [B3];omega) hd ih)
        · exact .inr (x2x hpos (by rw [B3];omega) (by rw [B3];omega) hd ih)
    · rw [e]
      rcases k3w hL t (m % n) n (by omega) hn hrl with ih | ih
      · exact .inl (x2y hpos (by rw [B3];omega) hd ih)
      · exact .inr (x2y hpos (by rw [B3];omega) hd ih)
theorem v6b {m n L:Nat} (hL:L<1099511627776) (hm:(words m).length≤L) (hn:(words n).length≤L):Fn E H2 [.c (.list (Wr (words m))),.c (.list (Wr (words n)))] (.c (.list (Wr (words (Nat.gcd m n))))):=by
 rcases k3w (E:=E) hL (n+1) n m (by omega) hm hn with h | h
 · exact q9c h
 · exact q9d h
def Br (l:List UInt8):RW:=l.map fun c=>[.u8 (c.toNat:Int)]
theorem v6x (l:List UInt8) (n:Nat):(Br l).take n=Br (l.take n):=by simp [Br,List.map_take]
theorem u3e (l:List UInt8) (c:UInt8):Br l++[[.u8 (c.toNat:Int)]]=Br (l++[c]):=by simp [Br]
theorem w9k (l:List UInt8) (n:Nat) (c:UInt8):(Br l).set n [.u8 (c.toNat:Int)]=Br (l.set n c):=by simp [Br,List.map_set]
theorem w4f {l:List UInt8} {i:Nat} {c:UInt8} (h:l[i]?=some c):(Br l)[i]?=some [.u8 (c.toNat:Int)]:=by simp [Br,h]
theorem u3d (l:List UInt8):∀ x∈Br l,k1r x:=by intro x hx;simp [Br] at hx;obtain ⟨_,_,rfl⟩:=hx;trivial
theorem u3f (l:List UInt8):ByteArray.mk (((Br l).map x7q).toArray)=B l:=by
 have:(Br l).map x7q=l:=by
  unfold Br
  rw [List.map_map]
  conv=>rhs;rw [← List.map_id l]
  refine List.map_congr_left fun c _=>?_
  show UInt8.ofNat (Int.toNat (c.toNat:Int))=c
  rw [Int.toNat_natCast]
  exact UInt8.ofNat_toNat
 rw [this];rfl
def rdig (m:Nat):List UInt8:=if m=0 then [] else (dec m).reverse
theorem w8u {m:Nat} (h:m≠0):rdig m=UInt8.ofNat (48+m % 10)::rdig (m / 10):=by
 unfold rdig
 rw [if_neg h]
 by_cases h1:m<10
 · rw [y5g h1,if_pos (by omega),Nat.mod_eq_of_lt h1];rfl
 · rw [k5j (by omega),if_neg (by omega),List.reverse_append];rfl
theorem v6c {x0:RW} {i:Nat} {last:Bool} (hlast:if last then (i:Int)+1=x0.length else (i:Int)+1<x0.length) (hx:x0.length<4611686018427387904) {H T:Nat} (hH:if last then H=0 else 0<H) (hT:T<35184372088832) :
    ∀ (d k w:Nat) (out:List UInt8),k+d=9→w<10 ^ d→out.length+(rdig (w+10 ^ d*H)).length=T →
    ∃ out',Lp E 1 J5 1 (z6a x0 out.length i w k (Br out)) (.exit 2) (y6l x0 i out'.length (Br out'))∧out'++rdig H=out++rdig (w+10 ^ d*H)
 | 0,k,w,out,hk,hw,_=>by
  have:w=0:=by simpa using hw
  subst this
  exact ⟨out,j4z (by omega),by simp⟩
 | d+1,k,w,out,hk,hw,hT'=>by
  obtain ⟨m,em⟩:∃ m,m=w+10 ^ (d+1)*H:=⟨_,rfl⟩
  rw [← em] at hT' ⊢
  have e10:10 ^ (d+1)*H=10*(10 ^ d*H):=by rw [Nat.pow_succ];grind
  by_cases hstop:m=0
  · -- nothing is left
    have hw0:w=0:=by omega
    have hlt:last=true:=by
     cases last with
     | true=>rfl
     | false =>
      simp only [Bool.false_eq_true,if_false] at hH
      have:0<10 ^ (d+1)*H:=Nat.mul_pos (Nat.pow_pos (by decide)) hH
      omega
    subst hlt
    simp only [if_true] at hlast hH
    refine ⟨out,j4y (i3:=(i:Int)+1) (wi (by omega)) (by omega) (by omega) (by omega),?_⟩
    rw [hH,hstop]
  · have hrs:=w8u hstop
    have hm10:m % 10=w % 10:=by omega
    have hmd:m / 10=w / 10+10 ^ d*H:=by omega
    rw [hm10,hmd] at hrs
    have hlen:out.length+1≤T:=by rw [hrs] at hT';simp at hT';omega
    obtain ⟨out',k1,k2⟩:=v6c hlast hx hH hT d (k+1) (w / 10) (out++[UInt8.ofNat (48+w % 10)]) (by omega) (by rw [Nat.pow_succ] at hw;omega) (by rw [hrs] at hT';simp at hT' ⊢;omega)
    refine ⟨out',?_,by rw [k2,hrs];simp⟩
    have hdt:(UInt8.ofNat (48+w % 10)).toNat=48+w % 10:=y9o _ (by omega)
    have hbr:((Br out).take out.length)++[[DV.u8 ((48:Int)+((w % 10:Nat):Int))]]=Br (out++[UInt8.ofNat (48+w % 10)]):=by
     rw [v6x,List.take_length,← u3e,hdt]
     have:((48+w % 10:Nat):Int)=48+((w % 10:Nat):Int):=by omega
     rw [this]
    have hwb:w<1000000000:=by
     have:(10:Nat) ^ (d+1)≤10 ^ 9:=Nat.pow_le_pow_right (by decide) (by omega)
     rw [x0h] at this
     omega
    rw [show (out++[UInt8.ofNat (48+w % 10)]).length=out.length+1 by simp] at k1
    have hcap:(out.length+1)*1≤140737488355328∧out.length+1≤140737488355328:=by omega
    cases last with
    | true =>
     simp only [if_true] at hlast hH
     have hwp:w≠0:=by rw [hH] at em;simp at em;omega
     exact q3o (i3:=(i:Int)+1) (i4:=((w % 10:Nat):Int)) (i5:=48+((w % 10:Nat):Int)) (i6:=48+((w % 10:Nat):Int)) (i7:=((w / 10:Nat):Int)) (i8:=((k+1:Nat):Int)) (wi (by omega)) (tmd (by omega) (by omega)) (w32 (by omega)) (w8 (by omega)) hbr rfl (w32 ⟨tdv (by omega) (by omega),by omega,by omega⟩) (wi (by omega)) (by omega) (by omega) (by omega) hcap k1
    | false =>
     simp only [Bool.false_eq_true,if_false] at hlast
     exact q3n (i3:=(i:Int)+1) (i4:=((w % 10:Nat):Int)) (i5:=48+((w % 10:Nat):Int)) (i6:=48+((w % 10:Nat):Int)) (i7:=((w / 10:Nat):Int)) (i8:=((k+1:Nat):Int)) (wi (by omega)) (tmd (by omega) (by omega)) (w32 (by omega)) (w8 (by omega)) hbr rfl (w32 ⟨tdv (by omega) (by omega),by omega,by omega⟩) (wi (by omega)) (by omega) (by omega) hcap k1
theorem v1i {n i:Nat} (hi:i<(words n).length):∃ H:Nat,wv ((words n).drop (i+1))=H∧(i+1<(words n).length→0<H)∧(i+1=(words n).length→H=0):=by
 have h0:=D4 ((C0 n).drop (i+1))
 refine ⟨(wv ((words n).drop (i+1))).toNat,by omega,fun h=>?_,fun h=>?_⟩
 · have ht:Gb.Tr ((words n).drop (i+1)):=by
    have:=z0n n
    unfold Gb.Tr at this ⊢
    rw [List.getLast?_drop,if_neg (by omega)]
    exact this
   have hp:=ht.val_pos ((C0 n).drop (i+1)) (by intro e;have:=congrArg List.length e;simp at this;omega)
   omega
 · rw [List.drop_eq_nil_of_le (by omega)];rfl
theorem q8w {n T:Nat} (hT:T<35184372088832) (hl:(words n).length<4611686018427387904):∀ (d i m:Nat) (out:List UInt8),i+d=(words n).length→wv ((words n).drop i)=m→out.length+(rdig m).length=T →
    ∃ out',Lp E 0 J5 0 (y9v (Wr (words n)) out.length i (Br out)) (.exit 0) (x5a out'.length (Br out'))∧out'=out++rdig m
 | 0,i,m,out,hi,hm,hT'=>by
  rw [List.drop_eq_nil_of_le (by omega)] at hm
  have:m=0:=by simp [wv] at hm;omega
  subst this
  exact ⟨out,j9k (by rw [B3];omega),by simp [rdig]⟩
 | d+1,i,m,out,hi,hm,hT'=>by
  obtain ⟨H,hH,hpos,hz⟩:=v1i (n:=n) (i:=i) (by omega)
  have hw:=(C0 n).getD i
  obtain ⟨w,ew⟩:∃ w:Nat,(words n).getD i 0=w:=⟨((words n).getD i 0).toNat,by omega⟩
  rw [ew] at hw
  rw [y1e,ew,hH] at hm
  have em:m=w+10 ^ 9*H:=by rw [x0h];omega
  have hcl:(if decide (i+1=(words n).length) then (i:Int)+1=(Wr (words n)).length else (i:Int)+1<(Wr (words n)).length):=by
   rw [B3];split <;> rename_i h <;> simp at h <;> omega
  have hch:(if decide (i+1=(words n).length) then H=0 else 0<H):=by
   split <;> rename_i h <;> simp at h
   · exact hz h
   · exact hpos (by omega)
  obtain ⟨out1,k1,k2⟩:=v6c (E:=E) (x0:=Wr (words n)) (i:=i) hcl (by rw [B3];omega) hch hT 9 0 w out (by omega) (by rw [x0h];omega) (by rw [← em];exact hT')
  rw [← em] at k2
  have hl1:out1.length+(rdig H).length=T:=by
   have:=congrArg List.length k2
   simp at this
   omega
  obtain ⟨out2,g1,g2⟩:=q8w hT hl d (i+1) H out1 (by omega) hH hl1
  refine ⟨out2,?_,by rw [g2,k2]⟩
  exact q9e (i1:=(w:Int)) (i2:=((i+1:Nat):Int)) (wi (by omega)) (by rw [B3];omega) (by omega) (by rw [← ew];exact G1 (by omega)) k1 g1
theorem w3q {o:List UInt8} {L:Nat} (hL:o.length=L) (hb:L<35184372088832):∀ (t i:Nat) (cur:List UInt8),L≤t+2*i→2*i≤L+1→cur.length=L →
    (∀ j,j<L→cur[j]?=if j<i∨L-1-i<j then o[L-1-j]? else o[j]?) →
    ∃ cur',Lp E 1 J5 2 (y9w L i ((L:Int)-1-i) (Br cur)) (.exit 4) (x5b L (Br cur'))∧cur'=o.reverse
 | t,i,cur,ht,hi,hc,hinv=>by
  by_cases hend:(i:Int)<(L:Int)-1-i
  · cases t with
    | zero=>omega
    | succ t =>
     have hk:L-1-i<L:=by omega
     have e1:(L:Int)-1-i=((L-1-i:Nat):Int):=by omega
     obtain ⟨a,ha⟩:∃ a,cur[i]?=some a:=⟨cur[i],List.getElem?_eq_getElem (by omega)⟩
     obtain ⟨b,hb'⟩:∃ b,cur[L-1-i]?=some b:=⟨cur[L-1-i],List.getElem?_eq_getElem (by omega)⟩
     have hoa:o[i]?=some a:=by
      have:=hinv i (by omega)
      rw [ha,if_neg (by omega)] at this
      exact this.symm
     have hob:o[L-1-i]?=some b:=by
      have:=hinv (L-1-i) hk
      rw [hb',if_neg (by omega)] at this
      exact this.symm
     obtain ⟨cur',k1,k2⟩:=w3q hL hb t (i+1) ((cur.set i b).set (L-1-i) a) (by omega) (by omega) (by simpa using hc) (fun j hj=>by
      rw [List.getElem?_set,List.getElem?_set]
      by_cases c1:L-1-i=j
      · subst c1
        rw [if_pos rfl,if_pos (by simp;omega),if_pos (by omega),show L-1-(L-1-i)=i by omega]
        exact hoa.symm
      · rw [if_neg c1]
        by_cases c2:i=j
        · subst c2
          rw [if_pos rfl,if_pos (by omega),if_pos (by omega)]
          exact hob.symm
        · rw [if_neg c2,hinv j hj]
          by_cases c3:j<i∨L-1-i<j
          · rw [if_pos c3,if_pos (by omega)]
          · rw [if_neg c3,if_neg (by omega)])
     refine ⟨cur',?_,k2⟩
     have g1:(Br cur)[Int.toNat (i:Int)]?=some [.u8 (a.toNat:Int)]:=by rw [Int.toNat_natCast];exact w4f ha
     have g2:(Br cur)[Int.toNat ((L:Int)-1-i)]?=some [.u8 (b.toNat:Int)]:=by rw [e1,Int.toNat_natCast];exact w4f hb'
     obtain ⟨c,hcc⟩:∃ c,(cur.set i b)[L-1-i]?=some c:=⟨(cur.set i b)[L-1-i]'(by simp;omega),List.getElem?_eq_getElem _⟩
     exact q9f (i2:=(b.toNat:Int)) (i3:=(a.toNat:Int)) (r2:=Br (cur.set i b)) (i4:=(c.toNat:Int)) (r3:=Br ((cur.set i b).set (L-1-i) a)) (i5:=((i+1:Nat):Int)) (i6:=(L:Int)-1-((i+1:Nat):Int))
      (by rw [Int.toNat_natCast,w9k]) (by rw [e1,Int.toNat_natCast,w9k]) (wi (by omega)) (wi (by omega)) (by omega) (by omega) g2 (by omega) g1 (by rw [e1,Int.toNat_natCast];exact w4f hcc) k1
  · refine ⟨cur,j9l (by omega),?_⟩
    apply List.ext_getElem?
    intro j
    rcases Nat.lt_or_ge j L with hj | hj
    · rw [hinv j hj,List.getElem?_reverse (by omega),hL]
      by_cases c:j<i∨L-1-i<j
      · rw [if_pos c]
      · rw [if_neg c]
        have:L-1-j=j:=by omega
        rw [this]
    · rw [List.getElem?_eq_none (by omega),List.getElem?_eq_none (by simp;omega)]
theorem r1_To {n K:Nat} (h:n<10 ^ K) (hK:K≤Lim+Lim):Fn E J5 [.c (.list (Wr (words n)))] (.c (.str (B (dec n)))):=by
 have h1:=j0q h
 have h2:=z9y h
 rw [Y7] at hK
 by_cases h0:n=0
 · subst h0
   rw [Y1,z7f]
   exact w5l rfl
 · have hne:words n≠[]:=fun h=>h0 (z7q.1 h)
   have hp:=y2s hne
   have hr:rdig n=(dec n).reverse:=by unfold rdig;rw [if_neg h0]
   obtain ⟨out,k1,k2⟩:=q8w (E:=E) (n:=n) (T:=(dec n).length) (by omega) (by omega) (words n).length 0 n [] (by omega) (by rw [List.drop_zero,B6]) (by rw [hr];simp)
   rw [List.nil_append,hr] at k2
   have hol:out.length=(dec n).length:=by rw [k2];simp
   obtain ⟨cur,g1,g2⟩:=w3q (E:=E) (o:=out) (L:=out.length) rfl (by omega) out.length 0 out (by omega) (by omega) rfl (fun j hj=>by rw [if_neg (by omega)])
   rw [show (out.length:Int)-1-((0:Nat):Int)=(out.length:Int)-1 by omega] at g1
   have hcur:cur=dec n:=by rw [g2,k2,List.reverse_reverse]
   refine w5m (n0:=out.length) (r1:=Br out) (i0:=(out.length:Int)-1) (r2:=Br cur) (wi (by omega)) ?_ (by rw [B3];omega) k1 g1 ?_
   · rw [v6x,List.take_of_length_le (by rw [hcur];omega),hcur,u3f]
   · rw [v6x];exact u3d _
def Zr (z:Int):List DV:=[.bool (decide (z<0)),.list (Wr (words z.natAbs))]
theorem Zr_nat (n:Nat):Zr (n:Int)=[.bool false,.list (Wr (words n))]:=by unfold Zr;rw [decide_eq_false (by omega),Int.natAbs_natCast]
theorem v7a {n:Nat}:((Wr (words n)).length:Int)>0↔n≠0:=by
 rw [B3]
 constructor
 · rintro h rfl;rw [Y1] at h;simp at h
 · intro h
   have:=y2s (fun e=>h (z7q.1 e):words n≠[])
   omega
theorem x1r (neg:Bool) (n:Nat):Fn E P3 [.c (.bool neg),.c (.list (Wr (words n)))] (.agg (Zr (sgn neg n))):=by
 cases neg with
 | false =>
  have:Zr (sgn false n)=[.bool false,.list (Wr (words n))]:=by unfold sgn;simp [Zr_nat]
  rw [this];exact v9b
 | true =>
  by_cases h:n=0
  · subst h
    have:Zr (sgn true 0)=[.bool false,.list (Wr (words 0))]:=by unfold Zr sgn;simp
    rw [this];exact v9a (fun x=>v7a.1 x rfl)
  · have:Zr (sgn true n)=[.bool true,.list (Wr (words n))]:=by
     unfold Zr sgn
     simp only [if_true,Int.natAbs_neg,Int.natAbs_natCast]
     rw [decide_eq_true (by omega)]
    rw [this];exact v8z (v7a.2 h)
theorem u5b (z:Int):sgn (!decide (z<0)) z.natAbs=-z:=by unfold sgn;split <;> rename_i h <;> simp at h <;> omega
theorem u5a (a b:Int):sgn (!(decide (a<0) == decide (b<0))) (a.natAbs*b.natAbs)=a*b:=by
 unfold sgn
 have ea:(a.natAbs:Int)=if a<0 then -a else a:=by split <;> omega
 have eb:(b.natAbs:Int)=if b<0 then -b else b:=by split <;> omega
 rw [Int.natCast_mul,ea,eb]
 by_cases c:a<0 <;> by_cases d:b<0 <;> simp [c,d] <;> grind
theorem w3v (a:Int) (b:Nat):sgn (decide (a<0)) (a.natAbs*b)=a*b:=by
 unfold sgn
 have ea:(a.natAbs:Int)=if a<0 then -a else a:=by split <;> omega
 rw [Int.natCast_mul,ea]
 by_cases c:a<0 <;> simp [c] <;> grind
theorem q2c (z:Int):Fn E y2j [.agg (Zr z)] (.agg (Zr (-z))):=by
 have:=x1r (E:=E) (!decide (z<0)) z.natAbs
 rw [u5b] at this
 exact j9o this
theorem wl {n K:Nat} (h:n<10 ^ K):(words n).length≤K:=z9y h
theorem u1t {a b:Int} {K L:Nat} (ha:a.natAbs<10 ^ K) (hb:b.natAbs<10 ^ L) (h:K+L≤4*Lim):Fn E x4q [.agg (Zr a),.agg (Zr b)] (.agg (Zr (a*b))):=by
 rw [Y7] at h
 have h1:=wl ha
 have h2:=wl hb
 have hm:=x1r (E:=E) (!(decide (a<0) == decide (b<0))) (a.natAbs*b.natAbs)
 rw [u5a] at hm
 exact v3l rfl (k3v (by omega)) hm
theorem u4p {a b:Int} {K L:Nat} (ha:a.natAbs<10 ^ K) (hb:b.natAbs<10 ^ L) (hK:K≤4*Lim) (hL:L≤4*Lim):Fn E y5v [.agg (Zr a),.agg (Zr b)] (.agg (Zr (a+b))):=by
 rw [Y7] at hK hL
 have h1:=wl ha
 have h2:=wl hb
 by_cases hs:decide (a<0)=decide (b<0)
 · have hw:=x1r (E:=E) (decide (a<0)) (a.natAbs+b.natAbs)
   have e:sgn (decide (a<0)) (a.natAbs+b.natAbs)=a+b:=by
    unfold sgn
    rw [decide_eq_decide] at hs
    by_cases c:a<0
    · have:=hs.1 c;rw [decide_eq_true c,if_pos rfl];omega
    · have:¬ b<0:=fun x=>c (hs.2 x)
      rw [decide_eq_false c,if_neg (by simp)];omega
   rw [e] at hw
   exact v9c hs (u4n (by omega) (by omega)) hw
 · have hc:=v8m (E:=E) (m:=a.natAbs) (n:=b.natAbs) (by omega)
   have hs':¬ (a<0↔b<0):=fun h=>hs (decide_eq_decide.2 h)
   by_cases c:a.natAbs<b.natAbs
   · have hw:=x1r (E:=E) (decide (b<0)) (b.natAbs-a.natAbs)
     have e:sgn (decide (b<0)) (b.natAbs-a.natAbs)=a+b:=by
      unfold sgn
      by_cases d:b<0
      · have:¬ a<0:=fun x=>hs' ⟨fun _=>d,fun _=>x⟩
        rw [decide_eq_true d,if_pos rfl];omega
      · have:a<0:=Classical.byContradiction fun x=>hs' ⟨fun y=>absurd y x,fun y=>absurd y d⟩
        rw [decide_eq_false d,if_neg (by simp)];omega
     rw [e] at hw
     exact v9e hs hc (by have:=(y9f (a:=(a.natAbs:Int)) (b:=b.natAbs)).2 (by omega);omega) (w2d (by omega) (by omega)) hw
   · have hw:=x1r (E:=E) (decide (a<0)) (a.natAbs-b.natAbs)
     have e:sgn (decide (a<0)) (a.natAbs-b.natAbs)=a+b:=by
      unfold sgn
      by_cases d:a<0
      · have:¬ b<0:=fun x=>hs' ⟨fun _=>x,fun _=>d⟩
        rw [decide_eq_true d,if_pos rfl];omega
      · have:b<0:=Classical.byContradiction fun x=>hs' ⟨fun y=>absurd y d,fun y=>absurd y x⟩
        rw [decide_eq_false d,if_neg (by simp)];omega
     rw [e] at hw
     refine v9d hs hc ?_ (w2d (by omega) (by omega)) hw
     have:¬ cmpI (a.natAbs:Int) b.natAbs<0:=fun x=>by have:=y9f.1 x;omega
     omega
theorem u1r {a b:Int} {K L:Nat} (ha:a.natAbs<10 ^ K) (hb:b.natAbs<10 ^ L) (hK:K≤4*Lim) (hL:L≤4*Lim):Fn E x4p [.agg (Zr a),.agg (Zr b)] (.agg (Zr (a-b))):=by
 rw [Int.sub_eq_add_neg]
 exact v3i (q2c b) (u4p ha (b:=-b) (by rw [Int.natAbs_neg];exact hb) hK hL)
theorem j8y (z:Int):Fn E z4p [.agg (Zr z)] (.c (.i64 (cmpI z 0))):=by
 rcases Int.lt_trichotomy z 0 with c | c | c
 · have:Zr z=[.bool true,.list (Wr (words z.natAbs))]:=by unfold Zr;rw [decide_eq_true c]
   have e:cmpI z 0=-1:=by unfold cmpI;rw [if_pos c]
   rw [this,e];exact q9i
 · subst c
   have e:cmpI 0 0=0:=rfl
   rw [e];exact q9k (fun h=>v7a.1 h rfl)
 · have:Zr z=[.bool false,.list (Wr (words z.natAbs))]:=by unfold Zr;rw [decide_eq_false (by omega)]
   have e:cmpI z 0=1:=by unfold cmpI;rw [if_neg (by omega),if_pos (by omega)]
   rw [this,e];exact q9j (v7a.2 (by omega))
theorem r2_Cmp {a b:Int} {K L:Nat} (ha:a.natAbs<10 ^ K) (hb:b.natAbs<10 ^ L) (hK:K≤4*Lim) (hL:L≤4*Lim):Fn E k1n [.agg (Zr a),.agg (Zr b)] (.c (.i64 (cmpI a b))):=by
 have h:=j8y (E:=E) (a-b)
 rw [Int.sub_eq_add_neg,w0u] at h
 rw [← Int.sub_eq_add_neg] at h
 exact w2t (u1r ha hb hK hL) h
theorem u1s {z:Int} (h:z.natAbs<4294967296):Fn E y9e [.c (.i64 z)] (.agg (Zr z)):=by
 have hs:=k3u (E:=E) h
 by_cases c:z<0
 · have hm:=x1r (E:=E) true z.natAbs
   rw [show sgn true z.natAbs=z by unfold sgn;simp;omega] at hm
   exact v3j (i1:=z.natAbs) (i2:=z.natAbs) (wi (by omega)) (w32 (by omega)) c hs hm
 · have hm:=x1r (E:=E) false z.natAbs
   rw [show sgn false z.natAbs=z by unfold sgn;simp;omega] at hm
   exact v3k (i1:=z.natAbs) (w32 (by omega)) c hs hm
theorem w1h (c:UInt8) (m:List UInt8):(((B (c::m)).data.toList.getD 0 0).toNat:Int)=(c.toNat:Int):=by rw [y4j];rfl
theorem w2g (l:List UInt8) (hl:l.length<9223372036854775807):Fn E z2a [.c (.str (B l))] (.c (.bool (intB l))):=by
 unfold intB
 match l,hl with
 | [],hl=>exact k9w (by rw [F4];decide) (x6t [] hl)
 | [c],hl =>
  have h0:=k9w (s0:=B [c]) (by rw [F4];simp) (x6t (E:=E) [c] hl)
  rw [w2a]
  by_cases hc:c=45
  · subst hc;exact h0
  · rw [beq_eq_false_iff_ne.2 hc];exact h0
 | c::d::m,hl =>
  rw [w2a]
  simp only [List.length_cons] at hl
  by_cases hc:c=45
  · subst hc
    simp only [beq_self_eq_true,if_true,List.drop_succ_cons,List.drop_zero]
    by_cases h48:d::m=[48]
    · rw [h48]
      exact v3n (w1h _ _) (by rw [F4];decide) (by rw [F4];decide) (by decide) rfl
    · rw [beq_eq_false_iff_ne.2 h48,Bool.not_false,Bool.and_true]
      refine v3m (s1:=B (d::m)) (w1h _ _) ?_ (by rw [F4];simp;omega) (by rw [F4];simp;omega) (by decide) (fun e=>h48 ?_) (by rw [F4];simp;omega) (x6t (d::m) (by simp;omega))
      · rw [F4,Int.toNat_natCast,x1y,List.take_length];rfl
      · have:=y5o (l:=45::d::m) (m:=[45,48]) e
        exact (List.cons.inj this).2
  · rw [beq_eq_false_iff_ne.2 hc]
    exact v3o (w1h _ _) (by rw [F4];simp;omega) (by rw [F4];simp;omega) (fun e=>hc (UInt8.toNat_inj.1 (by simpa using Int.ofNat.inj e))) (x6t (c::d::m) (by simp;omega))
theorem w7d {z:Int} {K:Nat} (hz:z.natAbs<10 ^ K) (hK:K≤Lim):Fn E y5w [.c (.str (B (decZ z)))] (.agg (Zr z)):=by
 have hf:=k3t (E:=E) hz hK
 by_cases c:z<0
 · have:Zr z=[.bool true,.list (Wr (words z.natAbs))]:=by unfold Zr;rw [decide_eq_true c]
   rw [this,z5u c]
   refine v9f (s1:=B (dec z.natAbs)) (w1h _ _) ?_ (by rw [F4];simp) (by decide) (by rw [F4];simp;omega) hf
   rw [F4,Int.toNat_natCast,x1y,List.take_length];rfl
 · have:Zr z=[.bool false,.list (Wr (words z.natAbs))]:=by unfold Zr;rw [decide_eq_false c]
   rw [this,Z3 (by omega)]
   cases hd:dec z.natAbs with
   | nil=>exact absurd hd (k2r _)
   | cons d m =>
    rw [hd] at hf
    refine v9g (w1h _ _) (by rw [F4];simp) (fun e=>?_) hf
    have:=y7t z.natAbs d (by rw [hd];simp)
    omega
theorem r2_To {z:Int} {K:Nat} (hz:z.natAbs<10 ^ K) (hK:K≤Lim+Lim):Fn E x2i [.agg (Zr z)] (.c (.str (B (decZ z)))):=by
 have ht:=r1_To (E:=E) hz hK
 have h1:=j0q hz
 rw [Y7] at hK
 by_cases c:z<0
 · have:Zr z=[.bool true,.list (Wr (words z.natAbs))]:=by unfold Zr;rw [decide_eq_true c]
   rw [this,z5u c]
   exact w5n (by rw [B45,x5n];rfl) ht (by rw [B45,F4,F4];simp;omega)
 · have:Zr z=[.bool false,.list (Wr (words z.natAbs))]:=by unfold Zr;rw [decide_eq_false c]
   rw [this,Z3 (by omega)]
   exact w5o ht
def Qr (q:Rat):List DV:=[.bool (decide (q.num<0)),.list (Wr (words q.num.natAbs)),.list (Wr (words q.den))]
theorem w9p (n:Nat):(n:Int).natAbs=n:=Int.natAbs_natCast n
theorem v6w:words 1=[1]:=by rw [x2e (by decide)];rw [show 1 / 1000000000=0 from rfl,Y1];rfl
theorem u4z (z:Int) {g:Nat} (hg:g≠0) (hd:(g:Int) ∣ z):sgn (decide (z<0)) (z.natAbs / g)=z / (g:Int):=by
 obtain ⟨k,rfl⟩:=hd
 rw [Int.mul_ediv_cancel_left _ (by omega),Int.natAbs_mul,w9p,Nat.mul_div_cancel_left _ (by omega)]
 unfold sgn
 have hs:(g:Int)*k<0↔k<0:=by
  constructor
  · intro h
    refine Classical.byContradiction fun c=>?_
    have:=Int.mul_nonneg (show 0≤(g:Int) by omega) (show 0≤k by omega)
    omega
  · intro h;exact Int.mul_neg_of_pos_of_neg (by omega) h
 by_cases c:k<0
 · rw [decide_eq_true (hs.2 c),if_pos rfl];omega
 · rw [decide_eq_false (fun x=>c (hs.1 x)),if_neg (by simp)];omega
theorem w8q {z:Int} {d K L:Nat} (hz:z.natAbs<10 ^ K) (hd:d<10 ^ L) (hK:K≤4*Lim) (hL:L≤4*Lim)(h0:d≠0):Fn E y1k [.agg (Zr z),.c (.list (Wr (words d)))] (.agg (Qr (mkRat z d))):=by
 have w1:=wl hz
 have w2:=wl hd
 rw [Y7] at hK hL
 have hc:=v6b (E:=E) (m:=z.natAbs) (n:=d) (L:=max K L) (by omega) (by omega) (by omega)
 have e:Qr (mkRat z d)=[.bool (decide (z / (Nat.gcd z.natAbs d:Nat)<0)),.list (Wr (words (z / (Nat.gcd z.natAbs d:Nat)).natAbs)),.list (Wr (words (d / Nat.gcd z.natAbs d)))]:=by
  unfold Qr;rw [v5x h0,v5w h0]
 have hg:Nat.gcd z.natAbs d≠0:=w4z h0
 have hdv:((Nat.gcd z.natAbs d:Nat):Int) ∣ z:=by
  have:=Int.gcd_dvd_left z d
  exact this
 rw [e]
 generalize Nat.gcd z.natAbs d=g at *
 have hm:=x1r (E:=E) (decide (z<0)) (z.natAbs / g)
 rw [u4z z hg hdv] at hm
 have o1:=v8n (E:=E) (m:=g) (n:=z.natAbs) hg (by omega)
 have o2:=v8n (E:=E) (m:=g) (n:=d) hg (by omega)
 by_cases h1:g=1
 · subst h1
   rw [show ((1:Nat):Int)=1 from rfl,Int.ediv_one,Nat.div_one]
   exact q9l (i0:=1) hc (by rw [v6w];rfl) (by rw [v6w];rfl) rfl
 · by_cases hl:((Wr (words g)).length:Int)=1
   · rw [B3] at hl
     obtain ⟨w,hw⟩:∃ w,words g=[w]:=by
      cases hx:words g with
      | nil=>rw [hx] at hl;simp at hl
      | cons w m =>
       rw [hx] at hl
       cases m with
       | nil=>exact ⟨w,rfl⟩
       | cons=>simp at hl;omega
     refine q9m (i0:=w) hc (by rw [B3];exact hl) (by rw [hw];rfl) (fun e=>h1 ?_) o1 o2 hm
     have:=B6 g
     rw [hw,e] at this
     have hv:wv [(1:Int)]=1:=by decide
     omega
   · exact q9n hc hl o1 o2 hm
theorem u1u {z:Int} (h:z.natAbs<4294967296):Fn E z8b [.c (.i64 z)] (.agg (Qr (z:Rat))):=by
 have e:Qr (z:Rat)=[.bool (decide (z<0)),.list (Wr (words z.natAbs)),.list (Wr (words 1))]:=by unfold Qr;rw [Rat.num_intCast,Rat.den_intCast]
 rw [e]
 exact w2x (u1s h) (k3u (n:=1) (by decide))
theorem r3_Neg (q:Rat):Fn E k1p [.agg (Qr q)] (.agg (Qr (-q))):=by
 have e:Qr (-q)=[.bool (decide (-q.num<0)),.list (Wr (words (-q.num).natAbs)),.list (Wr (words q.den))]:=by unfold Qr;rw [Rat.neg_num,Rat.neg_den]
 rw [e]
 exact w2z (q2c q.num)
theorem r3_Mul {x y:Rat} {K L:Nat} (hx:Sz x K) (hy:Sz y L) (h:K+L≤4*Lim):Fn E k1o [.agg (Qr x),.agg (Qr y)] (.agg (Qr (x*y))):=by
 rw [Rat.mul_def']
 have w1:=wl hx.2
 have w2:=wl hy.2
 have hl:Lim=1000000000:=rfl
 exact w2y (u1t hx.1 hy.1 h) (k3v (by omega)) (w8q (z4q hx.1 hy.1) (z6g hx.2 hy.2) (by omega) (by omega) (Nat.mul_ne_zero x.den_nz y.den_nz))
theorem w2h {x y:Rat} {K L:Nat} (hx:Sz x K) (hy:Sz y L) (h:K+L≤4*Lim):Fn E H6 [.c (.list (Wr (words x.num.natAbs))),.c (.list (Wr (words y.den)))] (.c (.list (Wr (words (x.num.natAbs*y.den)))))∧Fn E P3 [.c (.bool (decide (x.num<0))),.c (.list (Wr (words (x.num.natAbs*y.den))))] (.agg (Zr (x.num*y.den))):=by
 have w1:=wl hx.1
 have w2:=wl hy.2
 have hl:Lim=1000000000:=rfl
 have hm:=x1r (E:=E) (decide (x.num<0)) (x.num.natAbs*y.den)
 rw [w3v] at hm
 exact ⟨k3v (by omega),hm⟩
theorem v8o (x:Rat):Fn E X3 [.agg (Qr x)] (.c (.i64 (cmpI x.num 0))):=v9p (j8y x.num)
theorem r3_Cmp {x y:Rat} {K L:Nat} (hx:Sz x K) (hy:Sz y L) (h:K+L≤4*Lim):Fn E y9m [.agg (Qr x),.agg (Qr y)] (.c (.i64 (cmpQ x y))):=by
 have s1:=v8o (E:=E) x
 have s2:=v8o (E:=E) y
 by_cases hs:cmpI x.num 0=cmpI y.num 0
 · obtain ⟨t1,m1⟩:=w2h (E:=E) hx hy (by omega)
   obtain ⟨t2,m2⟩:=w2h (E:=E) hy hx (by omega)
   have a1:=z4q (b:=(y.den:Int)) hx.1 (show (y.den:Int).natAbs<10 ^ L from hy.2)
   have a2:=z4q (b:=(x.den:Int)) hy.1 (show (x.den:Int).natAbs<10 ^ K from hx.2)
   exact w2w s1 s2 hs t1 m1 t2 m2 (r2_Cmp a1 a2 (by omega) (by omega))
 · rw [q7h hs]
   by_cases c:cmpI x.num 0<cmpI y.num 0
   · rw [if_pos c];exact w2u s1 s2 hs c
   · rw [if_neg c];exact w2v s1 s2 hs c
theorem u4q {x y:Rat} {K L:Nat} (hx:Sz x K) (hy:Sz y L) (h:K+L≤4*Lim):Fn E x1e [.agg (Qr x),.agg (Qr y)] (.c (.bool (decide (x<y)))):=by
 have hc:=r3_Cmp (E:=E) hx hy h
 by_cases c:x<y
 · rw [decide_eq_true c];exact v9n hc (w6k.2 c)
 · rw [decide_eq_false c];exact v9o hc (fun e=>c (w6k.1 e))
theorem u1v {q:Rat} {K:Nat} (h:Sz q K) (hK:K≤Lim+Lim):Fn E y7j [.agg (Qr q)] (.c (.str (B (decQ q)))):=by
 have h1:=j3l h.1
 have h2:=w4v h
 have t1:=r2_To (E:=E) h.1 hK
 have t2:=r1_To (E:=E) h.2 hK
 rw [Y7] at hK
 by_cases hd:q.den=1
 · rw [z7e hd]
   exact w5q t1 t2 (by rw [hd,y9g];rfl)
 · rw [z4h hd]
   exact w5p (s2:=B (47::dec q.den)) (by rw [B47,x5n];rfl) (by rw [x5n]) t1 t2 (fun e=>hd (by rw [B49] at e;exact y7u.1 (y5o e))) (by rw [B47,F4,F4];simp;omega) (by rw [F4,F4];simp;omega)
theorem j8m {l:List UInt8} {i:Nat} {c:UInt8} (h:l[i]?=some c):(((B l).data.toList.getD (Int.toNat (i:Int)) 0).toNat:Int)=(c.toNat:Int):=by
 rw [y4j,Int.toNat_natCast,List.getD_eq_getElem?_getD,h];rfl
theorem w3y {l:List UInt8} (h:(47:UInt8) ∉ l) (hl:l.length<9223372036854775807):∀ d i,i+d=l.length→Lp E 0 V9 0 (z2q (B l) (i:Nat)) (.exit 0) (y8e (B l))
 | 0,i,hi=>k7v (by rw [F4];omega)
 | d+1,i,hi=>by
  obtain ⟨c,hc⟩:∃ c,l[i]?=some c:=⟨l[i]'(by omega),List.getElem?_eq_getElem _⟩
  refine x4c (i2:=((i+1:Nat):Int)) (j8m hc) (wi (by omega)) (by rw [F4];omega) (by rw [F4];omega) (fun e=>h ?_) (w3y h hl d (i+1) (by omega))
  have:c=47:=UInt8.toNat_inj.1 (by simpa using Int.ofNat.inj e)
  subst this
  exact List.mem_of_getElem? hc
theorem v6n {p r:List UInt8} (h:(47:UInt8) ∉ p) (hl:(p++47::r).length<9223372036854775807):∀ d i,i+d=p.length→Lp E 0 V9 0 (z2q (B (p++47::r)) (i:Nat)) .ret (y8d (B p) (B r))
 | 0,i,hi=>by
  simp only [List.length_append,List.length_cons] at hl
  have hc:(p++47::r)[i]?=some 47:=by rw [List.getElem?_append_right (by omega),show i-p.length=0 by omega];rfl
  refine k7u (i3:=((i+1:Nat):Int)) (j8m hc) ?_ (wi (by omega)) ?_ (by rw [F4];simp;omega) (by rw [F4];simp;omega) (by decide) (by rw [F4];simp;omega) (by rw [F4];simp;omega)
  · rw [x1y,Int.toNat_natCast,List.drop_zero,show i=p.length by omega,List.take_left]
  · rw [x1y,F4,Int.toNat_natCast,Int.toNat_natCast,List.take_length,show i+1=p.length+1 by omega,List.drop_append,List.drop_eq_nil_of_le (by omega)]
    rw [show p.length+1-p.length=1 by omega];rfl
 | d+1,i,hi=>by
  have hl':=hl
  simp only [List.length_append,List.length_cons] at hl'
  obtain ⟨c,hc⟩:∃ c,p[i]?=some c:=⟨p[i]'(by omega),List.getElem?_eq_getElem _⟩
  have hc':(p++47::r)[i]?=some c:=by rw [List.getElem?_append_left (by omega)];exact hc
  refine x4c (i2:=((i+1:Nat):Int)) (j8m hc') (wi (by omega)) (by rw [F4];simp;omega) (by rw [F4];simp;omega) (fun e=>h ?_) (v6n h hl d (i+1) (by omega))
  have:c=47:=UInt8.toNat_inj.1 (by simpa using Int.ofNat.inj e)
  subst this
  exact List.mem_of_getElem? hc
theorem k5i (n:Nat):(cmpI n 1>0↔1<n)∧(cmpI n 1=0↔n=1):=by
 constructor
 · rw [w6j];omega
 · rw [k5h];omega
theorem w7e {l:List UInt8} (hl:l.length≤Lim):Fn E z0x [.c (.str (B l))] (.tup [.agg (Qr ((rd l).getD 0)),.c (.bool (rd l).isSome)]):=by
 have hl':=hl
 rw [Y7] at hl'
 have hz:=u1u (E:=E) (z:=0) (by decide)
 rw [show ((0:Int):Rat)=0 from rfl] at hz
 have h1:=k3u (E:=E) (n:=1) (by decide)
 by_cases hs:(47:UInt8)∈l
 · obtain ⟨p,r,rfl,hp⟩:=k2w l hs
   have hll:=hl
   simp only [List.length_append,List.length_cons] at hl hl'
   have hc:=v3q (v6n (E:=E) (p:=p) (r:=r) hp (by simp;omega) p.length 0 (by omega))
   have hv:=w2g (E:=E) p (by omega)
   have hnv:=x6t (E:=E) r (by omega)
   have none_of:(∀ q,p++47::r≠decQ q)→rd (p++47::r)=none:=fun hq=>by
    cases e:rd (p++47::r) with
    | none=>rfl
    | some q=>exact absurd (q6g e) (hq q)
   have shape:∀ q,p++47::r=decQ q→p=decZ q.num∧r=dec q.den∧q.den≠1:=by
    intro q e
    by_cases hd:q.den=1
    · rw [z7e hd] at e
      exact absurd (show (47:UInt8)∈decZ q.num by rw [← e];simp) (z1d _)
    · rw [z4h hd] at e
      have:=w6m e hp (z1d _)
      exact ⟨this.1,this.2,hd⟩
   cases hi:intB p with
   | false =>
    rw [none_of (fun q e=>by rw [(shape q e).1,k5s] at hi;cases hi)]
    rw [hi] at hv
    exact j5b hc hv hz
   | true =>
    rw [hi] at hv
    cases hn:natB r with
    | false =>
     rw [none_of (fun q e=>by rw [(shape q e).2.1,q8q] at hn;cases hn)]
     rw [hn] at hnv
     exact v9m hc hv hnv hz
    | true =>
     rw [hn] at hnv
     obtain ⟨z,rfl⟩:=(k3b.1 hi).eq_decZ
     obtain ⟨n,rfl⟩:∃ n,r=dec n:=⟨_,(x6c.1 hn).eq_dec⟩
     have hzl:z.natAbs<10 ^ (decZ z).length:=z5y (z4e _) (k2q z)
     have hnl:=z4e n
     have r1:=w7d (E:=E) hzl (by omega)
     have r2:=k3t (E:=E) hnl (by omega)
     have w1:=wl hzl
     have w2:=wl hnl
     have c1:=v8m (E:=E) (m:=n) (n:=1) (by omega)
     have sg:=j8y (E:=E) z
     have uq:∀ q,decZ z++47::dec n=decQ q→z=q.num∧n=q.den∧q.den≠1:=fun q e=>⟨k2o (shape q e).1,k5k (shape q e).2.1,(shape q e).2.2⟩
     by_cases hn1:1<n
     · by_cases hz0:z=0
       · rw [none_of (fun q e=>by
          obtain ⟨e1,e2,e3⟩:=uq q e
          have hr:=q.reduced
          rw [← e1,hz0] at hr
          simp at hr
          exact e3 hr)]
         exact v9j hc hv hnv r1 r2 h1 c1 ((k5i n).1.2 hn1) sg (by rw [k5h];exact hz0) hz
       · have g:=v6b (E:=E) (m:=z.natAbs) (n:=n) (L:=max (decZ z).length (dec n).length) (by omega) (by omega) (by omega)
         have hgl:Nat.gcd z.natAbs n<10 ^ (dec n).length:=Nat.lt_of_le_of_lt (Nat.gcd_le_right _ (by omega)) hnl
         have c2:=v8m (E:=E) (m:=Nat.gcd z.natAbs n) (n:=1) (by have:=wl hgl;omega)
         by_cases hg1:Nat.gcd z.natAbs n=1
         · obtain ⟨q,e1,e2,e3⟩:=w6n z n hn1 hg1
           rw [← e3,j4n,e3]
           have eq:Qr q=[.bool (decide (z<0)),.list (Wr (words z.natAbs)),.list (Wr (words n))]:=by unfold Qr;rw [e1,e2]
           show Fn E z0x _ (.tup [.agg (Qr q),.c (.bool true)])
           rw [eq]
           exact v9h hc hv hnv r1 r2 h1 c1 ((k5i n).1.2 hn1) sg (by rw [k5h];exact hz0) g c2 ((k5i _).2.2 hg1)
         · rw [none_of (fun q e=>by
            obtain ⟨e1,e2,e3⟩:=uq q e
            have hr:=q.reduced
            rw [← e1,← e2] at hr
            exact hg1 hr)]
           exact v9i hc hv hnv r1 r2 h1 c1 ((k5i n).1.2 hn1) sg (by rw [k5h];exact hz0) g c2 (fun e=>hg1 ((k5i _).2.1 e)) hz
     · rw [none_of (fun q e=>by
        obtain ⟨e1,e2,e3⟩:=uq q e
        have:=q.den_nz
        omega)]
       exact v9k hc hv hnv r1 r2 h1 c1 (fun e=>hn1 ((k5i n).1.1 e)) hz
 · have hc:=v3r (w3y (E:=E) hs (by omega) l.length 0 (by omega))
   have hv:=w2g (E:=E) l (by omega)
   have hnv:=x6t (E:=E) [49] (by decide)
   rw [show natB [49]=true from by decide] at hnv
   cases hi:intB l with
   | false =>
    have:rd l=none:=by
     cases e:rd l with
     | none=>rfl
     | some q =>
      have e2:=q6g e
      by_cases hd:q.den=1
      · rw [z7e hd] at e2;rw [e2,k5s] at hi;cases hi
      · rw [z4h hd] at e2;exact absurd (by rw [e2];simp) hs
    rw [this]
    rw [hi] at hv
    exact j5b hc hv hz
   | true =>
    obtain ⟨z,rfl⟩:=(k3b.1 hi).eq_decZ
    rw [hi] at hv
    have hzl:z.natAbs<10 ^ (decZ z).length:=z5y (z4e _) (k2q z)
    have r2:=k3t (E:=E) (n:=1) (K:=1) (by decide) (by rw [Y7];omega)
    rw [y9g] at r2
    have e:rd (decZ z)=some (z:Rat):=by rw [← x1i,j4n]
    rw [e]
    have eq:Qr ((some (z:Rat)).getD 0)=[.bool (decide (z<0)),.list (Wr (words z.natAbs)),.list (Wr (words 1))]:=by
     show Qr (z:Rat)=_
     unfold Qr;rw [Rat.num_intCast,Rat.den_intCast]
    rw [eq]
    exact v9l hc hv hnv (w7d hzl (by omega)) r2
theorem q6f {l:List UInt8} (hl:l.length≤Lim):Fn E V3 [.c (.str (B l))] (.agg (Qr ((rd l).getD 0))):=w3f (w7e hl)
theorem u1w {l:List UInt8} (hl:l.length≤Lim):Fn E F8 [.c (.str (B l))] (.c (.bool (rd l).isSome)):=v3p (w7e hl)
end Gev
namespace Gev
open Go
variable {E:Env}
theorem z0o {α:Type} {l:List α} {i:Nat} (h:i<l.length):∃ c,l[i]?=some c:=⟨l[i],List.getElem?_eq_getElem h⟩
theorem C1 {α:Type} {l:List α} {i:Nat} {a:α} (h:l[i]?=some a):i<l.length:=(List.getElem?_eq_some_iff.1 h).1
theorem k3h {α:Type} {l:List α} {i:Nat} {c:α} (h:l[i]?=some c):l.drop i=c::l.drop (i+1):=by
 obtain ⟨h1,h2⟩:=List.getElem?_eq_some_iff.1 h
 rw [← h2];exact List.drop_eq_getElem_cons h1
theorem J1 {α:Type} {n F k:Nat} {l:List α} (bad:Nat→α→Bool) (st:Nat→St) {oe:Out} {fin:St} (Left:Nat→α→Out→St→Prop)
    (hend:Lp E n F k (st l.length) oe fin) (hstep:∀ i a,l[i]?=some a→bad i a=false→∀ o s,Lp E n F k (st (i+1)) o s→Lp E n F k (st i) o s)
    (hout:∀ i a,l[i]?=some a→bad i a=true→∃ o s,Left i a o s∧Lp E n F k (st i) o s):∀ d i:Nat,i+d=l.length →
    ((∀ j a,i≤j→l[j]?=some a→bad j a=false)∧Lp E n F k (st i) oe fin) ∨
    (∃ j a o s,i≤j∧l[j]?=some a∧bad j a=true∧(∀ j' a',i≤j'→j'<j→l[j']?=some a'→bad j' a'=false)∧Left j a o s∧Lp E n F k (st i) o s)
 | 0,i,hi=>by
  have:i=l.length:=by omega
  subst this
  exact .inl ⟨fun j a hj h=>by have:=(List.getElem?_eq_some_iff.1 h).1;omega,hend⟩
 | d+1,i,hi=>by
  obtain ⟨a,ha⟩:=z0o (l:=l) (i:=i) (by omega)
  cases hb:bad i a with
  | true =>
   obtain ⟨o,s,h1,h2⟩:=hout i a ha hb
   exact .inr ⟨i,a,o,s,Nat.le_refl _,ha,hb,fun j' a' h1 h2=>by omega,h1,h2⟩
  | false =>
   rcases J1 bad st Left hend hstep hout d (i+1) (by omega) with ⟨h1,h2⟩ | ⟨j,b,o,s,h1,h2,h3,h4,h5,h6⟩
   · refine .inl ⟨fun j b hj h=>?_,hstep i a ha hb _ _ h2⟩
     by_cases e:j=i
     · subst e;rw [ha] at h;cases h;exact hb
     · exact h1 j b (by omega) h
   · refine .inr ⟨j,b,o,s,by omega,h2,h3,fun j' a' g1 g2 g3=>?_,h5,hstep i a ha hb _ _ h6⟩
     by_cases e:j'=i
     · subst e;rw [ha] at g3;cases g3;exact hb
     · exact h4 j' a' (by omega) g2 g3
theorem G5 {α β:Type} {n F k:Nat} {l:List α} (nxt:β→α→β) (Inv:Nat→β→Prop) (st:Nat→β→St) {oe:Out} {fin:β→St}
    (hend:∀ b,Inv l.length b→Lp E n F k (st l.length b) oe (fin b)) (hstep:∀ i a b,l[i]?=some a→Inv i b→Inv (i+1) (nxt b a)∧∀ o s,Lp E n F k (st (i+1) (nxt b a)) o s→Lp E n F k (st i b) o s):∀ (d i:Nat) (b:β),i+d=l.length→Inv i b →
    Inv l.length ((l.drop i).foldl nxt b)∧Lp E n F k (st i b) oe (fin ((l.drop i).foldl nxt b))
 | 0,i,b,hi,hb=>by
  have:i=l.length:=by omega
  subst this
  rw [List.drop_length]
  exact ⟨hb,hend b hb⟩
 | d+1,i,b,hi,hb=>by
  obtain ⟨a,ha⟩:=z0o (l:=l) (i:=i) (by omega)
  obtain ⟨h1,h2⟩:=hstep i a b ha hb
  obtain ⟨h3,h4⟩:=G5 nxt Inv st hend hstep d (i+1) (nxt b a) (by omega) h1
  rw [k3h ha]
  exact ⟨h3,h2 _ _ h4⟩
end Gev
namespace Gev
open Go Gb
variable {E:Env}
abbrev Sq (q:Rat):AV:=.c (.str (B (decQ q)))
def R1 (l:List (List UInt8)):RW:=l.map fun p=>[.str (B p)]
theorem z0p (l:List (List UInt8)):(R1 l).length=l.length:=by simp [R1]
theorem y0f {l:List (List UInt8)} {i:Nat} {x} (h:l[i]?=some x):(R1 l)[i]?=some [.str (B x)]:=by simp [R1,h]
noncomputable def ok1 (l:List UInt8):Bool:=(rd l).isSome
theorem u4d (q:Rat):ok1 (decQ q)=true:=by unfold ok1;rw [j4n];rfl
structure Pc where
 (id un cl:Int)
 (nm ma vo wo:List UInt8)
structure Hd where
 (id:Int)
 (nm ro mo x y z:List UInt8)
structure Ru where
 (nm:List UInt8)
 (kd:Int)
 (fs:List (List UInt8))
 (lo hi:List UInt8)
 (a b:Int)
structure Sw where
 (ho pa un:Int)
def Pc.d (p:Pc):List DV:=[.i64 p.id,.i64 p.un,.i64 p.cl,.str (B p.nm),.str (B p.ma),.str (B p.vo),.str (B p.wo)]
def Hd.d (p:Hd):List DV:=[.i64 p.id,.str (B p.nm),.str (B p.ro),.str (B p.mo),.str (B p.x),.str (B p.y),.str (B p.z)]
def Ru.d (p:Ru):List DV:=[.str (B p.nm),.i64 p.kd,.list (R1 p.fs),.str (B p.lo),.str (B p.hi),.i64 p.a,.i64 p.b]
def Sw.d (p:Sw):List DV:=[.i64 p.ho,.i64 p.pa,.i64 p.un]
def Ps (l:List Pc):RW:=l.map Pc.d
def Hs (l:List Hd):RW:=l.map Hd.d
def Rs (l:List Ru):RW:=l.map Ru.d
def Ss (l:List Sw):RW:=l.map Sw.d
theorem z0z (l):(Ps l).length=l.length:=by simp [Ps]
theorem Z7 (l):(Hs l).length=l.length:=by simp [Hs]
theorem z5m (l):(Rs l).length=l.length:=by simp [Rs]
theorem k1t (l):(Ss l).length=l.length:=by simp [Ss]
theorem X5 {l:List Pc} {i:Nat} {x} (h:l[i]?=some x):(Ps l)[i]?=some x.d:=by simp [Ps,h]
theorem z1m {l:List Hd} {i:Nat} {x} (h:l[i]?=some x):(Hs l)[i]?=some x.d:=by simp [Hs,h]
theorem z7c {l:List Ru} {i:Nat} {x} (h:l[i]?=some x):(Rs l)[i]?=some x.d:=by simp [Rs,h]
theorem z8n {l:List Sw} {i:Nat} {x} (h:l[i]?=some x):(Ss l)[i]?=some x.d:=by simp [Ss,h]
theorem A5 {α:Type} {l:List α} {i:Nat} {x:Option α} (h:l[i]?=x):l[(Int.toNat (i:Nat))]?=x:=by rw [Int.toNat_natCast];exact h
def ix {α:Type} (p:α→Bool) (l:List α):Int:=match l.findIdx? p with
 | some i=>(i:Int)
 | none=>-1
theorem z8r {α:Type} {p:α→Bool} {l:List α} (h:∀ j a,0≤j→l[j]?=some a→p a=false):ix p l=-1:=by
 unfold ix
 rw [List.findIdx?_eq_none_iff.2 fun a ha=>by obtain ⟨j,hj⟩:=List.mem_iff_getElem?.1 ha;exact h j a (Nat.zero_le _) hj]
theorem z8s {α:Type} {p:α→Bool} {l:List α} {j:Nat} {a:α} (h:l[j]?=some a) (hp:p a=true) (hn:∀ j' a',0≤j'→j'<j→l[j']?=some a'→p a'=false):ix p l=j:=by
 unfold ix
 rw [List.findIdx?_eq_some_iff_getElem.2 ⟨(List.getElem?_eq_some_iff.1 h).1,by rw [(List.getElem?_eq_some_iff.1 h).2];exact hp,fun j' hj'=>by rw [hn j' _ (Nat.zero_le _) hj' (List.getElem?_eq_getElem (Nat.lt_trans hj' (List.getElem?_eq_some_iff.1 h).1))];simp⟩]
theorem z5n {α:Type} {p:α→Bool} {l:List α}:ix p l<0↔l.any p=false:=by
 unfold ix
 cases h:l.findIdx? p with
 | none =>
  have:=List.findIdx?_eq_none_iff.1 h
  refine ⟨fun _=>?_,fun _=>by decide⟩
  rw [List.any_eq_false];intro x hx;rw [this x hx];simp
 | some i =>
  refine ⟨fun h=>absurd h (by simp),fun h2=>?_⟩
  obtain ⟨h3,h4,h5⟩:=List.findIdx?_eq_some_iff_getElem.1 h
  rw [List.any_eq_false] at h2
  exact absurd h4 (h2 _ (List.getElem_mem h3))
theorem v7x {α:Type} {p:α→Bool} {l:List α} (h:¬ ix p l<0):∃ a,l[(ix p l).toNat]?=some a∧p a=true:=by
 unfold ix at h ⊢
 cases h2:l.findIdx? p with
 | none=>rw [h2] at h;exact absurd (by decide) h
 | some i =>
  obtain ⟨h3,h4,h5⟩:=List.findIdx?_eq_some_iff_getElem.1 h2
  exact ⟨l[i],by simp,h4⟩
theorem y2p (hlib:Lib E) {a b:Rat} {K L:Nat} (ha:Sz a K) (hb:Sz b L) (h:K+L+1≤Lim):Fn E z7z [Sq a,Sq b] (Sq (a+b)):=w0s (x9g hlib ha hb h)
theorem y2q (hlib:Lib E) {a b:Rat} {K L:Nat} (ha:Sz a K) (hb:Sz b L) (h:K+L≤Lim):Fn E z8a [Sq a,Sq b] (Sq (a*b)):=w0t (x9h hlib ha hb h)
theorem y7p (hlib:Lib E) {a b:Rat} {K L:Nat} (ha:Sz a K) (hb:Sz b L) (h:K+L≤Lim):Fn E z9o [Sq a,Sq b] (.c (.i64 (cmpQ a b))):=q2q (y3k hlib ha hb h)
theorem x5q:(AV.c (.str (⟨#[48]⟩:BA)))=Sq 0:=by unfold Sq;rw [x5t];rfl
theorem v1x (hlib:Lib E) {a:Rat} {K:Nat} (ha:Sz a K) (h:K+1≤Lim):Fn E z0u [Sq a] (.c (.i64 (cmpQ a 0))):=by
 have:=y7p hlib ha Sz.zero h
 rw [← x5q] at this
 exact v7f this
theorem x9a {a b:Int}:Fn E N7 [.c (.i64 a),.c (.i64 b)] (.c (.bool (decide (1≤a∧a≤b)))):=by
 by_cases h1:a≥1
 · by_cases h2:a≤b
   · rw [decide_eq_true ⟨h1,h2⟩];exact q6z h1 h2
   · rw [decide_eq_false fun h=>h2 h.2];exact q7a h1 h2
 · rw [decide_eq_false fun h=>h1 h.1];exact q7b h1
def nmB (s:List UInt8):Bool:=decide (1≤s.length∧s.length≤64)
theorem U4 (s:List UInt8):((B s).size:Int)=s.length:=by rw [F4]
theorem q6u {s:List UInt8}:Fn E Z5 [.c (.str (B s))] (.c (.bool (nmB s))):=by
 unfold nmB
 have hs:=U4 s
 by_cases h1:1≤s.length
 · by_cases h2:s.length≤64
   · rw [decide_eq_true ⟨h1,h2⟩];exact v1t (by omega) (by omega)
   · rw [decide_eq_false fun h=>h2 h.2];exact v1u (by omega) (by omega)
 · rw [decide_eq_false fun h=>h1 h.1];exact v1v (by omega)
end Gev
