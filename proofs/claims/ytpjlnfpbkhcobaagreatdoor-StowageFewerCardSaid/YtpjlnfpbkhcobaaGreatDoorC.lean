/- A part of the proof: see the last text of this claim. -/
import Derived.Test.YtpjlnfpbkhcobaaGreatDoorB
set_option linter.unusedSectionVars false
set_option linter.unusedVariables false
set_option linter.unusedSimpArgs false
namespace Gev
open Go Go.Proofs
variable {E:Env}
variable {o:Out} {t:St} {r0 r1 r2 r3 r4 r5 r6 r7 r8 r9 r10 r11 r13 r15 r17 r18 r19 r20:RW} {i0 i1 i2 i3 i4 i5 i6 i7 i8 i9 i10 i11 i12 i13 i14 i15 i16 i17 i18 i19 i20 i21 i22 i23 i24 i25 i26 i27 i28 i29 i30 i31:Int} {n0 n1 n2 n3 n4 n5 n6 n7 n8 n9 n10:Nat} {s0 s1 s2 s3:BA} {b0 b1 b2:Bool}
theorem j5s (h1:Fn E D5 [.s s0] (.b true))(h2:Fn E D5 [.s s1] (.b true))(h3:Fn E X8 [.s s0] (.l r0))(h4:Fn E X8 [.s s1] (.l r1)):Fn E z0m [.s s0,.s s1] (.tup [.l r0,.l r1,.i 0]):=fnM (oF h1 (oF h2 (oF h3 (oF h4 oZ))))
theorem j8k (h1:Fn E z0m [.s s0,.s s1] (.tup [.l r0,.l r1,.i i0]))(h2:i0=0)(h3:Fn E Z1 [.mv D0 [.l r0],.l r1] (.tup [.s s2,.i i1])):Fn E z3k [.s s0,.s s1] (.tup [.s s2,.i i1]):=fnM (oF h1 (oC (bnF h2) (oF h3 oZ)))
def N7 (s0:BA) (i0 i1:Int):St:=stOf 32 [(0,.s s0),(17,.i i0),(18,.i i1)] []
def z2m:St:=stOf 32 [(2,.b false)] []
def z5p:St:=stOf 32 [] []
section
variable (e1:((s0.data.toList.getD (Int.toNat i1) 0).toNat:Int)=i2)
include e1
theorem y5r (e2:IntKind.i64.wrap (i1+1)=i3)(h1:i1<i0)(h2:0≤i1∧i1<s0.size)(h3:¬ i2<48)(h4:¬ i2>57)(ih:Lp E 0 D5 0 (N7 s0 i0 i3) o t):Lp E 0 D5 0 (N7 s0 i0 i1) o t:=by subst e1 e2;exact lpM (oT h1 (oP h2 (oU h3 (oP h2 (oU h4 oZ))))) ih
section
variable (h1:i1<i0)(h2:0≤i1∧i1<s0.size)
include h1 h2
theorem x3r (h3:i2<48):Lp E 0 D5 0 (N7 s0 i0 i1) .ret (z2m):=by subst e1;exact lpX (oT h1 (oP h2 (oT h3 oZ)))
theorem x3s (h3:¬ i2<48)(h4:i2>57):Lp E 0 D5 0 (N7 s0 i0 i1) .ret (z2m):=by subst e1;exact lpX (oT h1 (oP h2 (oU h3 (oP h2 (oT h4 oZ)))))
end
end
theorem x3t (h1:¬ i1<i0):Lp E 0 D5 0 (N7 s0 i0 i1) (.exit 0) (z5p):=lpX (oU h1 oZ)
theorem j0d (h1:s0=(⟨#[]⟩:BA)):Fn E D5 [.s s0] (.b false):=fnM (oB (seT h1) oZ)
section
variable (e1:((s0.data.toList.getD 0 0).toNat:Int)=i0)(h1:¬ s0=(⟨#[]⟩:BA))(h2:(s0.size:Int)>1)(h3:0≤(0:Int)∧(0:Int)<s0.size)
include e1 h1 h2 h3
theorem j0e (h4:i0=48):Fn E D5 [.s s0] (.b false):=by subst e1;exact fnM (oC (seF h1) (oT h2 (oP h3 (oB (beT h4) oZ))))
theorem j0f (h4:¬ i0=48)(h5:Lp E 0 D5 0 (N7 s0 (s0.size:Int) 0) .ret (z2m)):Fn E D5 [.s s0] (.b false):=by subst e1;exact fnM (oC (seF h1) (oT h2 (oP h3 (oC (beF h4) (oL h5 oZ)))))
theorem j0g (h4:¬ i0=48)(h5:Lp E 0 D5 0 (N7 s0 (s0.size:Int) 0) (.exit 0) (z5p)):Fn E D5 [.s s0] (.b true):=by subst e1;exact fnM (oC (seF h1) (oT h2 (oP h3 (oC (beF h4) (oL h5 oZ)))))
end
section
variable (h1:¬ s0=(⟨#[]⟩:BA))(h2:¬ (s0.size:Int)>1)
include h1 h2
theorem j0h (h3:Lp E 0 D5 0 (N7 s0 (s0.size:Int) 0) .ret (z2m)):Fn E D5 [.s s0] (.b false):=fnM (oC (seF h1) (oU h2 (oL h3 oZ)))
theorem j0i (h3:Lp E 0 D5 0 (N7 s0 (s0.size:Int) 0) (.exit 0) (z5p)):Fn E D5 [.s s0] (.b true):=fnM (oC (seF h1) (oU h2 (oL h3 oZ)))
end
def z6p (s0:BA) (n0:Nat) (r0:RW):St:=stOf 31 [(0,.s s0),(3,.vec 0 n0)] [sV B3 r0]
def y1y (n1:Nat) (r1:RW):St:=stOf 31 [(3,.vec 0 n1)] [sV B3 r1]
theorem k1l (e1:IntKind.i64.wrap ((s0.size:Int)-9)=i0)(e2:(if 0>i0 then 0 else i0)=i1)(e3:s0.extract (Int.toNat i1) (Int.toNat (s0.size:Int))=s1)(e4:IntKind.u32.wrap i2=i3)(e5:(r0.take n0)++[[.w i3]]=r2)(e6:n0+1=n2)(e7:s0.extract 0 (Int.toNat i1)=s2)(h1:(s0.size:Int)>0)(h2:0≤i1∧i1≤(s0.size:Int)∧(s0.size:Int)≤s0.size)(h3:Fn E z9q [.s s1,.i 10,.i 32] (.tup [.c (.u64 i2),.undef]))(h4:(n0+1)*4≤140737488355328∧n0+1≤140737488355328)(h5:0≤(0:Int)∧(0:Int)≤i1∧i1≤s0.size)(ih:Lp E 0 X8 0 (z6p s2 n2 r2) o t):Lp E 0 X8 0 (z6p s0 n0 r0) o t:=by subst e1 e2 e3 e4 e5 e6 e7;exact lpM (oT h1 (oP h2 (oF h3 (oP (show ∀ y∈([[.w (IntKind.u32.wrap i2)]]:RW),y.length=1 from by simp) (oP h4 (oP h5 oZ)))))) ih
theorem x6j (h1:¬ (s0.size:Int)>0):Lp E 0 X8 0 (z6p s0 n0 r0) (.exit 0) (y1y n0 r0):=lpX (oU h1 oZ)
theorem j5t (e1:(r0.take n1)=r1)(h1:Lp E 0 X8 0 (z6p s0 0 []) (.exit 0) (y1y n0 r0))(h2:Rn E C1 [.vec 0 n0] [sV B3 r0] (.vec 0 n1) [sV B3 r0]):Fn E X8 [.s s0] (.l r1):=by subst e1;exact fnM (oM [(3,B3)] h1 (oR h2 oZ))
theorem y0p (h1:Fn E D0 [.l r0,.l r1] (.l r2))(h2:Fn E O8 [.l r2] (.s s0)):Fn E Z1 [.mv D0 [.l r0],.l r1] (.tup [.s s0,.i 0]):=fnM (oF h1 (oF h2 oZ))
theorem k6z (h1:Fn E z0m [.s s0,.s s1] (.tup [.l r0,.l r1,.i i0]))(h2:i0=0)(h3:¬ (r1.length:Int)=0)(h4:Fn E A6 [.l r0,.l r1] (.tup [.l r2,.l r3]))(h5:Fn E O8 [.l r2] (.s s2))(h6:Fn E O8 [.l r3] (.s s3)):Fn E z2a [.s s0,.s s1] (.tup [.s s2,.s s3,.i 0]):=fnM (oF h1 (oC (bnF h2) (oC (beF h3) (oF h4 (oF h5 (oF h6 oZ))))))
def Y6 (n0:Nat) (r0:RW):St:=stOf 21 [(0,.vec 0 n0)] [sV B3 r0]
def z2y (r0:RW) (n1:Nat):St:=stOf 21 [(0,.vec 0 n1)] [sV B3 r0]
section
variable (e1:IntKind.i64.wrap (((n0:Nat):Int)-1)=i0)
include e1
theorem x1x (e2:(Int.toNat i0)=n2)(h1:((n0:Nat):Int)>0)(h2:0≤i0∧i0<((n0:Nat):Int))(h3:r0[(Int.toNat i0)]?=some [.w i1])(h4:i1=0)(h5:0≤i0∧i0≤((n0:Nat):Int))(ih:Lp E 1 C1 0 (Y6 n2 r0) o t):Lp E 1 C1 0 (Y6 n0 r0) o t:=by subst e1 e2;exact lpM (oT h1 (oP h2 (oD h3 (oB (beT h4) (oP h5 oZ))))) ih
theorem y9e (h1:((n0:Nat):Int)>0)(h2:0≤i0∧i0<((n0:Nat):Int))(h3:r0[(Int.toNat i0)]?=some [.w i1])(h4:¬ i1=0):Lp E 1 C1 0 (Y6 n0 r0) (.exit 0) (z2y r0 n0):=by subst e1;exact lpX (oT h1 (oP h2 (oD h3 (oC (beF h4) oZ))))
end
theorem y9f (h1:¬ ((n0:Nat):Int)>0):Lp E 1 C1 0 (Y6 n0 r0) (.exit 0) (z2y r0 n0):=lpX (oU h1 oZ)
theorem k1k (h1:Lp E 1 C1 0 (Y6 n0 r0) (.exit 0) (z2y r0 n1)):Rn E C1 [.vec 0 n0] [sV B3 r0] (.vec 0 n1) [sV B3 r0]:=rnM (oL h1 oZ)
def z0p (r0:RW) (n0:Nat) (i0 i1 i2:Int) (r1:RW) (i3 i4:Int) (r2:RW) (i5 i6:Int) (r3:RW):St:=stOf 68 [(1,.l r0),(5,.vec 0 n0),(6,.i i0),(7,.w i1),(8,.c (.u64 i2)),(17,.l r1),(18,.i i3),(19,.i i4),(24,.l r2),(25,.i i5),(26,.i i6)] [sV B3 r3]
def z5r (r0:RW) (n0:Nat) (i0:Int) (r1:RW) (i3 i4 i7:Int) (r4:RW):St:=stOf 68 [(1,.l r0),(5,.vec 0 n0),(6,.i i0),(8,.c (.u64 i7)),(17,.l r1),(18,.i i3),(19,.i i4)] [sV B3 r4]
theorem x0o (e1:IntKind.u64.wrap i1=i9)(e2:IntKind.u64.wrap i8=i10)(e3:IntKind.u64.wrap (i9*i10)=i11)(e4:IntKind.i64.wrap (i0+i6)=i12)(e5:IntKind.u64.wrap i13=i14)(e6:IntKind.u64.wrap (i11+i14)=i15)(e7:IntKind.u64.wrap (i2+i15)=i16)(e8:Int.tmod i16 1000000000=i17)(e9:IntKind.u32.wrap i17=i18)(e10:List.set r3 (Int.toNat i12) [.w i18]=r5)(e11:IntKind.u64.wrap (Int.tdiv i16 1000000000)=i19)(e12:IntKind.i64.wrap (i6+1)=i20)(h1:i6<i5)(h2:0≤i6)(h3:r2[(Int.toNat i6)]?=some [.w i8])(h4:0≤i12∧i12<((n0:Nat):Int))(h5:r3[(Int.toNat i12)]?=some [.w i13])(ih:Lp E 1 D0 1 (z0p r0 n0 i0 i1 i19 r1 i3 i4 r2 i5 i20 r5) o t):Lp E 1 D0 1 (z0p r0 n0 i0 i1 i2 r1 i3 i4 r2 i5 i6 r3) o t:=by subst e1 e2 e3 e4 e5 e6 e7 e8 e9 e10 e11 e12;exact lpM (oT h1 (oP h2 (oD h3 (oP h4 (oD h5 (oP (show (1000000000:Int)≠0 from by decide) (oP h4 (oD h5 (oP (show (1000000000:Int)≠0 from by decide) oZ))))))))) ih
theorem y7z (h1:¬ i6<i5):Lp E 1 D0 1 (z0p r0 n0 i0 i1 i2 r1 i3 i4 r2 i5 i6 r3) (.exit 2) (z5r r0 n0 i0 r1 i3 i4 i2 r3):=lpX (oU h1 oZ)
def z0o (r0:RW) (n0:Nat) (r1:RW) (i0 i1:Int) (r2:RW):St:=stOf 68 [(1,.l r0),(5,.vec 0 n0),(17,.l r1),(18,.i i0),(19,.i i1)] [sV B3 r2]
def z5q (n0:Nat) (r3:RW):St:=stOf 68 [(5,.vec 0 n0)] [sV B3 r3]
theorem x0n (e1:IntKind.i64.wrap (i1+(r0.length:Int))=i4)(e2:IntKind.u32.wrap i3=i5)(e3:List.set r4 (Int.toNat i4) [.w i5]=r5)(e4:IntKind.i64.wrap (i1+1)=i7)(h1:i1<i0)(h2:0≤i1)(h3:r1[(Int.toNat i1)]?=some [.w i2])(h4:Lp E 1 D0 1 (z0p r0 n0 i1 i2 0 r1 i0 i1 r0 (r0.length:Int) 0 r2) (.exit 2) (z5r r0 n0 i1 r1 i0 i1 i3 r4))(h5:0≤i4∧i4<((n0:Nat):Int))(h6:r4[(Int.toNat i4)]?=some [.w i6])(ih:Lp E 1 D0 0 (z0o r0 n0 r1 i0 i7 r5) o t):Lp E 1 D0 0 (z0o r0 n0 r1 i0 i1 r2) o t:=by subst e1 e2 e3 e4;exact lpM (oT h1 (oP h2 (oD h3 (oL h4 (oP h5 (oD h6 oZ)))))) ih
theorem y7y (h1:¬ i1<i0):Lp E 1 D0 0 (z0o r0 n0 r1 i0 i1 r2) (.exit 0) (z5q n0 r2):=lpX (oU h1 oZ)
theorem x9f (e1:IntKind.i64.wrap ((r0.length:Int)+(r1.length:Int))=i0)(e2:Int.toNat i0=n0)(e3:List.replicate n0 [.w 0]=r2)(h1:0≤i0∧i0≤i0∧(Int.toNat i0)*4≤140737488355328∧(Int.toNat i0)≤140737488355328)(h2:Lp E 1 D0 0 (z0o r1 n0 r0 (r0.length:Int) 0 r2) (.exit 0) (z5q n0 r3))(h3:Rn E C1 [.vec 0 n0] [sV B3 r3] (.vec 0 n1) [sV B3 r3]):Rn E D0 [.l r0,.l r1] [] (.vec 0 n1) [sV B3 r3]:=by subst e1 e2 e3;exact rnM (oP h1 (oL h2 (oR h3 oZ)))
theorem j8j (h1:Fn E z0m [.s s0,.s s1] (.tup [.l r0,.l r1,.i i0]))(h2:i0=0)(h3:Fn E Z1 [.mv D1 [.l r0],.l r1] (.tup [.s s2,.i i1])):Fn E y8t [.s s0,.s s1] (.tup [.s s2,.i i1]):=fnM (oF h1 (oC (bnF h2) (oF h3 oZ)))
def G2 (r0:RW) (n0 n1:Nat) (i0:Int) (n2:Nat) (i1 i2 i3:Int) (r1 r2 r3 r4:RW):St:=stOf 299 [(10,.l r0),(11,.vec 2 n0),(12,.vec 3 n1),(13,.i i0),(14,.vec 4 n2),(15,.i i1),(17,.c (.u64 i2)),(18,.c (.u64 i3))] [some .dead,sV B3 r1,sV B3 r2,sV B3 r3,sV B3 r4]
def M2 (r0:RW) (n0 n1:Nat) (i0:Int) (n2:Nat) (i1:Int) (r1 r2 r3 r4:RW) (i4:Int):St:=stOf 299 [(10,.l r0),(11,.vec 2 n0),(12,.vec 3 n1),(13,.i i0),(14,.vec 4 n2),(15,.i i1),(17,.c (.u64 i4))] [some .dead,sV B3 r1,sV B3 r2,sV B3 r3,sV B3 r4]
theorem y7t (e1:IntKind.u64.wrap (i2-1)=i5)(e2:IntKind.i64.wrap (i0-1)=i6)(e3:IntKind.u64.wrap i7=i8)(e4:IntKind.u64.wrap (i3+i8)=i9)(h1:i2≥1000000000)(h2:0≤i6∧i6<((n1:Nat):Int))(h3:r3[(Int.toNat i6)]?=some [.w i7])(h4:¬ i9≥1000000000)(ih:Lp E 5 A6 1 (G2 r0 n0 n1 i0 n2 i1 i5 i9 r1 r2 r3 r4) o t):Lp E 5 A6 1 (G2 r0 n0 n1 i0 n2 i1 i2 i3 r1 r2 r3 r4) o t:=by subst e1 e2 e3 e4;exact lpM (oT h1 (oP h2 (oD h3 (oU h4 oZ)))) ih
theorem y7u (e1:IntKind.i64.wrap (i0-2)=i5)(e2:IntKind.u64.wrap i6=i7)(e3:IntKind.u64.wrap (i2*i7)=i8)(e4:IntKind.u64.wrap (i3*1000000000)=i9)(e5:IntKind.i64.wrap (i1+i0)=i10)(e6:IntKind.i64.wrap (i10-2)=i11)(e7:IntKind.u64.wrap i12=i13)(e8:IntKind.u64.wrap (i9+i13)=i14)(e9:IntKind.u64.wrap (i2-1)=i15)(e10:IntKind.i64.wrap (i0-1)=i16)(e11:IntKind.u64.wrap i17=i18)(e12:IntKind.u64.wrap (i3+i18)=i19)(h1:¬ i2≥1000000000)(h2:0≤i5∧i5<((n1:Nat):Int))(h3:r3[(Int.toNat i5)]?=some [.w i6])(h4:0≤i11∧i11<((n0:Nat):Int))(h5:r2[(Int.toNat i11)]?=some [.w i12])(h6:i8>i14)(h7:0≤i16∧i16<((n1:Nat):Int))(h8:r3[(Int.toNat i16)]?=some [.w i17])(h9:¬ i19≥1000000000)(ih:Lp E 5 A6 1 (G2 r0 n0 n1 i0 n2 i1 i15 i19 r1 r2 r3 r4) o t):Lp E 5 A6 1 (G2 r0 n0 n1 i0 n2 i1 i2 i3 r1 r2 r3 r4) o t:=by subst e1 e2 e3 e4 e5 e6 e7 e8 e9 e10 e11 e12;exact lpM (oU h1 (oP h2 (oD h3 (oP h4 (oD h5 (oT h6 (oP h7 (oD h8 (oU h9 oZ))))))))) ih
theorem y5y (e1:IntKind.u64.wrap (i2-1)=i5)(e2:IntKind.i64.wrap (i0-1)=i6)(e3:IntKind.u64.wrap i7=i8)(e4:IntKind.u64.wrap (i3+i8)=i9)(h1:i2≥1000000000)(h2:0≤i6∧i6<((n1:Nat):Int))(h3:r3[(Int.toNat i6)]?=some [.w i7])(h4:i9≥1000000000):Lp E 5 A6 1 (G2 r0 n0 n1 i0 n2 i1 i2 i3 r1 r2 r3 r4) (.exit 3) (M2 r0 n0 n1 i0 n2 i1 r1 r2 r3 r4 i5):=by subst e1 e2 e3 e4;exact lpX (oT h1 (oP h2 (oD h3 (oT h4 oZ))))
section
variable (e1:IntKind.i64.wrap (i0-2)=i5)(e2:IntKind.u64.wrap i6=i7)(e3:IntKind.u64.wrap (i2*i7)=i8)(e4:IntKind.u64.wrap (i3*1000000000)=i9)(e5:IntKind.i64.wrap (i1+i0)=i10)(e6:IntKind.i64.wrap (i10-2)=i11)(e7:IntKind.u64.wrap i12=i13)(e8:IntKind.u64.wrap (i9+i13)=i14)
include e1 e2 e3 e4 e5 e6 e7 e8
theorem y5z (e9:IntKind.u64.wrap (i2-1)=i15)(e10:IntKind.i64.wrap (i0-1)=i16)(e11:IntKind.u64.wrap i17=i18)(e12:IntKind.u64.wrap (i3+i18)=i19)(h1:¬ i2≥1000000000)(h2:0≤i5∧i5<((n1:Nat):Int))(h3:r3[(Int.toNat i5)]?=some [.w i6])(h4:0≤i11∧i11<((n0:Nat):Int))(h5:r2[(Int.toNat i11)]?=some [.w i12])(h6:i8>i14)(h7:0≤i16∧i16<((n1:Nat):Int))(h8:r3[(Int.toNat i16)]?=some [.w i17])(h9:i19≥1000000000):Lp E 5 A6 1 (G2 r0 n0 n1 i0 n2 i1 i2 i3 r1 r2 r3 r4) (.exit 3) (M2 r0 n0 n1 i0 n2 i1 r1 r2 r3 r4 i15):=by subst e1 e2 e3 e4 e5 e6 e7 e8 e9 e10 e11 e12;exact lpX (oU h1 (oP h2 (oD h3 (oP h4 (oD h5 (oT h6 (oP h7 (oD h8 (oT h9 oZ)))))))))
theorem y6a (h1:¬ i2≥1000000000)(h2:0≤i5∧i5<((n1:Nat):Int))(h3:r3[(Int.toNat i5)]?=some [.w i6])(h4:0≤i11∧i11<((n0:Nat):Int))(h5:r2[(Int.toNat i11)]?=some [.w i12])(h6:¬ i8>i14):Lp E 5 A6 1 (G2 r0 n0 n1 i0 n2 i1 i2 i3 r1 r2 r3 r4) (.exit 3) (M2 r0 n0 n1 i0 n2 i1 r1 r2 r3 r4 i2):=by subst e1 e2 e3 e4 e5 e6 e7 e8;exact lpX (oU h1 (oP h2 (oD h3 (oP h4 (oD h5 (oU h6 oZ))))))
end
def G3 (r0:RW) (n0 n1:Nat) (i0:Int) (n2:Nat) (i1 i2 i3 i4 i5 i6:Int) (r1 r2 r3 r4:RW):St:=stOf 299 [(10,.l r0),(11,.vec 2 n0),(12,.vec 3 n1),(13,.i i0),(14,.vec 4 n2),(15,.i i1),(17,.c (.u64 i2)),(19,.i i3),(20,.i i4),(180,.i i5),(181,.i i6)] [some .dead,sV B3 r1,sV B3 r2,sV B3 r3,sV B3 r4]
def U9 (r0:RW) (n0 n1:Nat) (i0:Int) (n2:Nat) (i1 i2:Int) (r1 r3 r4:RW) (i7 i8:Int) (r5:RW):St:=stOf 299 [(10,.l r0),(11,.vec 2 n0),(12,.vec 3 n1),(13,.i i0),(14,.vec 4 n2),(15,.i i1),(17,.c (.u64 i2)),(19,.i i7),(20,.i i8)] [some .dead,sV B3 r1,sV B3 r5,sV B3 r3,sV B3 r4]
section
variable (e1:IntKind.i64.wrap i2=i9)(e2:IntKind.i64.wrap i10=i11)(e3:IntKind.i64.wrap (i9*i11)=i12)(e4:IntKind.i64.wrap (i12+i3)=i13)(e5:IntKind.i64.wrap (Int.tdiv i13 1000000000)=i14)(e6:IntKind.i64.wrap (i6+i1)=i15)(e7:IntKind.i64.wrap i16=i17)(e8:Int.tmod i13 1000000000=i18)(e9:IntKind.i64.wrap (i17-i18)=i19)(e10:IntKind.i64.wrap (i19-i4)=i20)
include e1 e2 e3 e4 e5 e6 e7 e8 e9 e10
theorem y7v (e11:IntKind.i64.wrap (i20+1000000000)=i21)(e12:IntKind.u32.wrap i21=i22)(e13:List.set r2 (Int.toNat i15) [.w i22]=r6)(e14:IntKind.i64.wrap (i6+1)=i23)(h1:i6<i5)(h2:0≤i6∧i6<((n1:Nat):Int))(h3:r3[(Int.toNat i6)]?=some [.w i10])(h4:0≤i15∧i15<((n0:Nat):Int))(h5:r2[(Int.toNat i15)]?=some [.w i16])(h6:i20<0)(ih:Lp E 5 A6 2 (G3 r0 n0 n1 i0 n2 i1 i2 i14 1 i5 i23 r1 r6 r3 r4) o t):Lp E 5 A6 2 (G3 r0 n0 n1 i0 n2 i1 i2 i3 i4 i5 i6 r1 r2 r3 r4) o t:=by subst e1 e2 e3 e4 e5 e6 e7 e8 e9 e10 e11 e12 e13 e14;exact lpM (oT h1 (oP h2 (oD h3 (oP (show (1000000000:Int)≠0 from by decide) (oP h4 (oD h5 (oP (show (1000000000:Int)≠0 from by decide) (oT h6 (oP h4 (oD h5 oZ)))))))))) ih
theorem y7w (e11:IntKind.u32.wrap i20=i21)(e12:List.set r2 (Int.toNat i15) [.w i21]=r7)(e13:IntKind.i64.wrap (i6+1)=i24)(h1:i6<i5)(h2:0≤i6∧i6<((n1:Nat):Int))(h3:r3[(Int.toNat i6)]?=some [.w i10])(h4:0≤i15∧i15<((n0:Nat):Int))(h5:r2[(Int.toNat i15)]?=some [.w i16])(h6:¬ i20<0)(ih:Lp E 5 A6 2 (G3 r0 n0 n1 i0 n2 i1 i2 i14 0 i5 i24 r1 r7 r3 r4) o t):Lp E 5 A6 2 (G3 r0 n0 n1 i0 n2 i1 i2 i3 i4 i5 i6 r1 r2 r3 r4) o t:=by subst e1 e2 e3 e4 e5 e6 e7 e8 e9 e10 e11 e12 e13;exact lpM (oT h1 (oP h2 (oD h3 (oP (show (1000000000:Int)≠0 from by decide) (oP h4 (oD h5 (oP (show (1000000000:Int)≠0 from by decide) (oU h6 (oP h4 (oD h5 oZ)))))))))) ih
end
theorem y6b (h1:¬ i6<i5):Lp E 5 A6 2 (G3 r0 n0 n1 i0 n2 i1 i2 i3 i4 i5 i6 r1 r2 r3 r4) (.exit 5) (U9 r0 n0 n1 i0 n2 i1 i2 r1 r3 r4 i3 i4 r2):=lpX (oU h1 oZ)
def Y2 (r0:RW) (n0 n1:Nat) (i0:Int) (n2:Nat) (i1 i2 i3 i4 i5 i6:Int) (r1 r2 r3 r4:RW):St:=stOf 299 [(10,.l r0),(11,.vec 2 n0),(12,.vec 3 n1),(13,.i i0),(14,.vec 4 n2),(15,.i i1),(17,.c (.u64 i2)),(24,.i i3),(25,.c (.u64 i4)),(235,.i i5),(236,.i i6)] [some .dead,sV B3 r1,sV B3 r2,sV B3 r3,sV B3 r4]
def z3p (r0:RW) (n0 n1:Nat) (i0:Int) (n2:Nat) (i1 i2 i3:Int) (r1 r3 r4:RW) (i7:Int) (r5:RW):St:=stOf 299 [(10,.l r0),(11,.vec 2 n0),(12,.vec 3 n1),(13,.i i0),(14,.vec 4 n2),(15,.i i1),(17,.c (.u64 i2)),(24,.i i3),(25,.c (.u64 i7))] [some .dead,sV B3 r1,sV B3 r5,sV B3 r3,sV B3 r4]
theorem y7x (e1:IntKind.i64.wrap (i6+i1)=i8)(e2:IntKind.u64.wrap i9=i10)(e3:IntKind.u64.wrap i11=i12)(e4:IntKind.u64.wrap (i10+i12)=i13)(e5:IntKind.u64.wrap (i4+i13)=i14)(e6:Int.tmod i14 1000000000=i15)(e7:IntKind.u32.wrap i15=i16)(e8:List.set r2 (Int.toNat i8) [.w i16]=r6)(e9:IntKind.u64.wrap (Int.tdiv i14 1000000000)=i17)(e10:IntKind.i64.wrap (i6+1)=i18)(h1:i6<i5)(h2:0≤i8∧i8<((n0:Nat):Int))(h3:r2[(Int.toNat i8)]?=some [.w i9])(h4:0≤i6∧i6<((n1:Nat):Int))(h5:r3[(Int.toNat i6)]?=some [.w i11])(ih:Lp E 5 A6 3 (Y2 r0 n0 n1 i0 n2 i1 i2 i3 i17 i5 i18 r1 r6 r3 r4) o t):Lp E 5 A6 3 (Y2 r0 n0 n1 i0 n2 i1 i2 i3 i4 i5 i6 r1 r2 r3 r4) o t:=by subst e1 e2 e3 e4 e5 e6 e7 e8 e9 e10;exact lpM (oT h1 (oP h2 (oD h3 (oP h4 (oD h5 (oP (show (1000000000:Int)≠0 from by decide) (oP h2 (oD h3 (oP (show (1000000000:Int)≠0 from by decide) oZ))))))))) ih
theorem y6c (h1:¬ i6<i5):Lp E 5 A6 3 (Y2 r0 n0 n1 i0 n2 i1 i2 i3 i4 i5 i6 r1 r2 r3 r4) (.exit 7) (z3p r0 n0 n1 i0 n2 i1 i2 i3 r1 r3 r4 i4 r2):=lpX (oU h1 oZ)
def H8 (r0:RW) (n0 n1:Nat) (i0:Int) (n2:Nat) (i1:Int) (r1 r2 r3 r4:RW):St:=stOf 299 [(10,.l r0),(11,.vec 2 n0),(12,.vec 3 n1),(13,.i i0),(14,.vec 4 n2),(15,.i i1)] [some .dead,sV B3 r1,sV B3 r2,sV B3 r3,sV B3 r4]
def z3o (r0:RW) (n0:Nat) (i0:Int) (n2:Nat) (r1 r3 r5 r6:RW):St:=stOf 299 [(10,.l r0),(11,.vec 2 n0),(13,.i i0),(14,.vec 4 n2)] [some .dead,sV B3 r1,sV B3 r5,sV B3 r3,sV B3 r6]
section
variable (e1:IntKind.i64.wrap (i1+i0)=i2)(e2:IntKind.u64.wrap i3=i4)(e3:IntKind.u64.wrap (i4*1000000000)=i5)(e4:IntKind.i64.wrap (i2-1)=i6)(e5:IntKind.u64.wrap i7=i8)(e6:IntKind.u64.wrap (i5+i8)=i9)(e7:IntKind.i64.wrap (i0-1)=i10)(e8:IntKind.u64.wrap i11=i12)(e9:IntKind.u64.wrap (Int.tdiv i9 i12)=i13)(e10:Int.tmod i9 i12=i14)(e11:IntKind.i64.wrap i18=i19)(e12:IntKind.i64.wrap (i19-i16)=i20)(e13:IntKind.i64.wrap (i20-i17)=i21)
include e1 e2 e3 e4 e5 e6 e7 e8 e9 e10 e11 e12 e13
theorem y7r (e14:IntKind.u64.wrap (i15-1)=i22)(e15:IntKind.i64.wrap i23=i24)(e16:IntKind.i64.wrap (i21+i24)=i25)(e17:(if 0>i25 then 0 else i25)=i26)(e18:IntKind.u32.wrap i26=i27)(e19:List.set r8 (Int.toNat i2) [.w i27]=r9)(e20:IntKind.u32.wrap i22=i29)(e21:List.set r4 (Int.toNat i1) [.w i29]=r10)(e22:IntKind.i64.wrap (i1-1)=i31)(h1:i1≥0)(h2:0≤i2∧i2<((n0:Nat):Int))(h3:r2[(Int.toNat i2)]?=some [.w i3])(h4:0≤i6∧i6<((n0:Nat):Int))(h5:r2[(Int.toNat i6)]?=some [.w i7])(h6:0≤i10∧i10<((n1:Nat):Int))(h7:r3[(Int.toNat i10)]?=some [.w i11])(h8:i12≠0)(h9:Lp E 5 A6 1 (G2 r0 n0 n1 i0 n2 i1 i13 i14 r1 r2 r3 r4) (.exit 3) (M2 r0 n0 n1 i0 n2 i1 r1 r2 r3 r4 i15))(h10:Lp E 5 A6 2 (G3 r0 n0 n1 i0 n2 i1 i15 0 0 i0 0 r1 r2 r3 r4) (.exit 5) (U9 r0 n0 n1 i0 n2 i1 i15 r1 r3 r4 i16 i17 r7))(h11:r7[(Int.toNat i2)]?=some [.w i18])(h12:i21<0)(h13:Lp E 5 A6 3 (Y2 r0 n0 n1 i0 n2 i1 i22 i21 0 i0 0 r1 r7 r3 r4) (.exit 7) (z3p r0 n0 n1 i0 n2 i1 i22 i21 r1 r3 r4 i23 r8))(h14:r8[(Int.toNat i2)]?=some [.w i28])(h15:0≤i1∧i1<((n2:Nat):Int))(h16:r4[(Int.toNat i1)]?=some [.w i30])(ih:Lp E 5 A6 0 (H8 r0 n0 n1 i0 n2 i31 r1 r9 r3 r10) o t):Lp E 5 A6 0 (H8 r0 n0 n1 i0 n2 i1 r1 r2 r3 r4) o t:=by subst e1 e2 e3 e4 e5 e6 e7 e8 e9 e10 e11 e12 e13 e14 e15 e16 e17 e18 e19 e20 e21 e22;exact lpM (oT h1 (oP h2 (oD h3 (oP h4 (oD h5 (oP h6 (oD h7 (oP h8 (oP h6 (oD h7 (oP h8 (oL h9 (oL h10 (oP h2 (oD h11 (oT h12 (oL h13 (oP h2 (oD h14 (oP h15 (oD h16 oZ))))))))))))))))))))) ih
theorem y7s (e14:(if 0>i21 then 0 else i21)=i22)(e15:IntKind.u32.wrap i22=i23)(e16:List.set r7 (Int.toNat i2) [.w i23]=r8)(e17:IntKind.u32.wrap i15=i24)(e18:List.set r4 (Int.toNat i1) [.w i24]=r11)(e19:IntKind.i64.wrap (i1-1)=i27)(h1:i1≥0)(h2:0≤i2∧i2<((n0:Nat):Int))(h3:r2[(Int.toNat i2)]?=some [.w i3])(h4:0≤i6∧i6<((n0:Nat):Int))(h5:r2[(Int.toNat i6)]?=some [.w i7])(h6:0≤i10∧i10<((n1:Nat):Int))(h7:r3[(Int.toNat i10)]?=some [.w i11])(h8:i12≠0)(h9:Lp E 5 A6 1 (G2 r0 n0 n1 i0 n2 i1 i13 i14 r1 r2 r3 r4) (.exit 3) (M2 r0 n0 n1 i0 n2 i1 r1 r2 r3 r4 i15))(h10:Lp E 5 A6 2 (G3 r0 n0 n1 i0 n2 i1 i15 0 0 i0 0 r1 r2 r3 r4) (.exit 5) (U9 r0 n0 n1 i0 n2 i1 i15 r1 r3 r4 i16 i17 r7))(h11:r7[(Int.toNat i2)]?=some [.w i18])(h12:¬ i21<0)(h13:0≤i1∧i1<((n2:Nat):Int))(h14:r4[(Int.toNat i1)]?=some [.w i25])(ih:Lp E 5 A6 0 (H8 r0 n0 n1 i0 n2 i27 r1 r8 r3 r11) o t):Lp E 5 A6 0 (H8 r0 n0 n1 i0 n2 i1 r1 r2 r3 r4) o t:=by subst e1 e2 e3 e4 e5 e6 e7 e8 e9 e10 e11 e12 e13 e14 e15 e16 e17 e18 e19;exact lpM (oT h1 (oP h2 (oD h3 (oP h4 (oD h5 (oP h6 (oD h7 (oP h8 (oP h6 (oD h7 (oP h8 (oL h9 (oL h10 (oP h2 (oD h11 (oU h12 (oP h2 (oD h11 (oP h13 (oD h14 oZ)))))))))))))))))))) ih
end
theorem y5x (h1:¬ i1≥0):Lp E 5 A6 0 (H8 r0 n0 n1 i0 n2 i1 r1 r2 r3 r4) (.exit 1) (z3o r0 n0 i0 n2 r1 r3 r2 r4):=lpX (oU h1 oZ)
theorem x6f (h1:Fn E C6 [.l r0,.l r1] (.i i0))(h2:i0<0):Fn E A6 [.l r0,.l r1] (.tup [.l [],.l r0]):=fnM (oF h1 (oT h2 oZ))
theorem x6g (e1:IntKind.u64.wrap (Int.tdiv i1 i2)=i3)(e2:Int.tmod i1 i2=i4)(h1:Fn E C6 [.l r0,.l r1] (.i i0))(h2:¬ i0<0)(h3:Fn E C8 [.l r0] (.tup [.c (.u64 i1),.b true]))(h4:Fn E C8 [.l r1] (.tup [.c (.u64 i2),.b true]))(h5:i2≠0)(h6:Fn E z5f [.c (.u64 i3)] (.l r2))(h7:Fn E z5f [.c (.u64 i4)] (.l r3)):Fn E A6 [.l r0,.l r1] (.tup [.l r2,.l r3]):=by subst e1 e2;exact fnM (oF h1 (oU h2 (oF h3 (oF h4 (oP h5 (oF h6 (oP h5 (oF h7 oZ))))))))
theorem x6h (e1:IntKind.u64.wrap i3=i5)(h1:Fn E C6 [.l r0,.l r1] (.i i0))(h2:¬ i0<0)(h3:Fn E C8 [.l r0] (.tup [.c (.u64 i1),.b false]))(h4:Fn E C8 [.l r1] (.tup [.c (.u64 i2),.b b2]))(h5:(r1.length:Int)=1)(h6:r1[0]?=some [.w i3])(h7:Fn E P9 [.l r0,.c (.u64 i5)] (.tup [.l r4,.l r3])):Fn E A6 [.l r0,.l r1] (.tup [.l r4,.l r3]):=by subst e1;exact fnM (oF h1 (oU h2 (oF h3 (oF h4 (oB (beT h5) (oP (show (0:Int)≤0 from by decide) (oD h6 (oF h7 oZ))))))))
theorem y4j (e1:IntKind.i64.wrap ((r1.length:Int)-1)=i3)(e2:IntKind.u64.wrap i5=i4)(e3:IntKind.u64.wrap (i4+1)=i6)(e4:IntKind.u64.wrap (Int.tdiv 1000000000 i6)=i7)(e5:(r6.take n0)++[[.w 0]]=r7)(e6:n0+1=n1)(e7:IntKind.i64.wrap (((n1:Nat):Int)-((n2:Nat):Int))=i11)(e8:Int.toNat i11=n3)(e9:List.replicate n3 [.w 0]=r17)(e10:IntKind.i64.wrap (((n3:Nat):Int)-1)=i12)(e11:(Int.toNat ((n2:Nat):Int))=n8)(e12:(r10.take n9)=r19)(e13:(r18.take n10)=r15)(h1:Fn E C6 [.l r0,.l r1] (.i i0))(h2:¬ i0<0)(h3:Fn E C8 [.l r0] (.tup [.c (.u64 i1),.b false]))(h4:Fn E C8 [.l r1] (.tup [.c (.u64 i2),.b b2]))(h5:¬ (r1.length:Int)=1)(h6:0≤i3)(h7:r1[(Int.toNat i3)]?=some [.w i5])(h8:i6≠0)(h9:Fn E z5f [.c (.u64 i7)] (.l r5))(h10:Rn E D0 [.l r0,.l r5] [] (.vec 0 n0) [sV B3 r6])(h11:(n0+1)*4≤140737488355328∧n0+1≤140737488355328)(h12:Rn E D0 [.l r1,.l r5] [] (.vec 0 n2) [sV B3 r8])(h13:¬ ((n1:Nat):Int)=(r0.length:Int))(h14:0≤i11∧i11≤i11∧(Int.toNat i11)*4≤140737488355328∧(Int.toNat i11)≤140737488355328)(h15:Lp E 5 A6 0 (H8 r5 n1 n2 ((n2:Nat):Int) n3 i12 [[.w 0]] r7 r8 r17) (.exit 1) (z3o r5 n1 ((n2:Nat):Int) n3 [[.w 0]] r8 r10 r18))(h16:Fn E C8 [.l r5] (.tup [.c (.u64 i13),.b b1]))(h17:0≤((n2:Nat):Int)∧((n2:Nat):Int)≤((n1:Nat):Int))(h18:Rn E C1 [.vec 2 n8] [some .dead,sV B3 [[.w 0]],sV B3 r10,sV B3 r8,sV B3 r18] (.vec 2 n9) [some .dead,sV B3 [[.w 0]],sV B3 r10,sV B3 r8,sV B3 r18])(h19:Fn E P9 [.l r19,.c (.u64 i13)] (.tup [.l r20,.l r13]))(h20:Rn E C1 [.vec 4 n3] [some .dead,sV B3 [[.w 0]],sF r10,sV B3 r8,sV B3 r18] (.vec 4 n10) [some .dead,sV B3 [[.w 0]],sF r10,sV B3 r8,sV B3 r18]):Fn E A6 [.l r0,.l r1] (.tup [.l r15,.l r20]):=by subst e1 e2 e3 e4 e5 e6 e7 e8 e9 e10 e11 e12 e13;exact fnM (oF h1 (oU h2 (oF h3 (oF h4 (oC (beF h5) (oP h6 (oD h7 (oP h8 (oF h9 (oN h10 (oP (show ∀ y∈([[.w 0]]:RW),y.length=1 from by simp) (oP h11 (oN h12 (oC (beF h13) (oP h14 (oL h15 (oF h16 (oP h17 (oR h18 (oF h19 (oR h20 oZ)))))))))))))))))))))
theorem j8i (h1:Fn E z0m [.s s0,.s s1] (.tup [.l r0,.l r1,.i i0]))(h2:i0=0)(h3:Fn E Z1 [.mv z2i [.l r0],.l r1] (.tup [.s s2,.i i1])):Fn E y4c [.s s0,.s s1] (.tup [.s s2,.i i1]):=fnM (oF h1 (oC (bnF h2) (oF h3 oZ)))
theorem k3p (h1:Fn E z0m [.s s0,.s s1] (.tup [.l r0,.l r1,.i i0]))(h2:i0=0)(h3:Fn E C6 [.l r0,.l r1] (.i i1)):Fn E y1o [.s s0,.s s1] (.tup [.i i1,.i 0]):=fnM (oF h1 (oC (bnF h2) (oF h3 oZ)))
theorem j8l (h1:Fn E z0m [.s s0,.s s1] (.tup [.l r0,.l r1,.i i0]))(h2:i0=0)(h3:Fn E C6 [.l r0,.l r1] (.i i1))(h4:¬ i1<0)(h5:Fn E Z1 [.mv z1e [.l r0],.l r1] (.tup [.s s2,.i i2])):Fn E z9y [.s s0,.s s1] (.tup [.s s2,.i i2]):=fnM (oF h1 (oC (bnF h2) (oF h3 (oU h4 (oF h5 oZ)))))
theorem y1x (h1:Fn E D1 [.l r0,.l r1] (.l r2))(h2:Fn E O8 [.l r2] (.s s0)):Fn E Z1 [.mv D1 [.l r0],.l r1] (.tup [.s s0,.i 0]):=fnM (oF h1 (oF h2 oZ))
def M1 (r0 r1:RW) (i0:Int):St:=stOf 41 [(0,.l r0),(1,.l r1),(5,.i i0)] []
def z3m (i1:Int):St:=stOf 41 [(4,.i i1)] []
def z3n:St:=stOf 41 [] []
theorem z9m (e1:IntKind.i64.wrap (i0-1)=i4)(h1:i0≥0)(h2:0≤i0)(h3:r0[(Int.toNat i0)]?=some [.w i2])(h4:r1[(Int.toNat i0)]?=some [.w i3])(h5:i2=i3)(ih:Lp E 0 C6 0 (M1 r0 r1 i4) o t):Lp E 0 C6 0 (M1 r0 r1 i0) o t:=by subst e1;exact lpM (oT h1 (oP h2 (oD h3 (oP h2 (oD h4 (oC (bnF h5) oZ)))))) ih
theorem y5v (h1:i0≥0)(h2:0≤i0)(h3:r0[(Int.toNat i0)]?=some [.w i2])(h4:r1[(Int.toNat i0)]?=some [.w i3])(h5:¬ i2=i3)(h6:Fn E z0j [.w i2,.w i3] (.i i4)):Lp E 0 C6 0 (M1 r0 r1 i0) .ret (z3m i4):=lpX (oT h1 (oP h2 (oD h3 (oP h2 (oD h4 (oB (bnT h5) (oP h2 (oD h3 (oP h2 (oD h4 (oF h6 oZ)))))))))))
theorem y5w (h1:¬ i0≥0):Lp E 0 C6 0 (M1 r0 r1 i0) (.exit 0) (z3n):=lpX (oU h1 oZ)
theorem x3u (h1:¬ (r0.length:Int)=(r1.length:Int))(h2:Fn E X7 [.i (r0.length:Int),.i (r1.length:Int)] (.i i0)):Fn E C6 [.l r0,.l r1] (.i i0):=fnM (oB (bnT h1) (oF h2 oZ))
section
variable (e1:IntKind.i64.wrap ((r0.length:Int)-1)=i0)(h1:(r0.length:Int)=(r1.length:Int))
include e1 h1
theorem x3v (h2:Lp E 0 C6 0 (M1 r0 r1 i0) .ret (z3m i1)):Fn E C6 [.l r0,.l r1] (.i i1):=by subst e1;exact fnM (oC (bnF h1) (oL h2 oZ))
theorem x3w (h2:Lp E 0 C6 0 (M1 r0 r1 i0) (.exit 0) (z3n)):Fn E C6 [.l r0,.l r1] (.i 0):=by subst e1;exact fnM (oC (bnF h1) (oL h2 oZ))
end
theorem x9b (h1:(r0.length:Int)=0):Fn E C8 [.l r0] (.tup [.c (.u64 0),.b true]):=fnM (oB (beT h1) oZ)
theorem x9c (e1:IntKind.u64.wrap i0=i1)(h1:¬ (r0.length:Int)=0)(h2:(r0.length:Int)=1)(h3:r0[0]?=some [.w i0]):Fn E C8 [.l r0] (.tup [.c (.u64 i1),.b true]):=by subst e1;exact fnM (oC (beF h1) (oB (beT h2) (oP (show (0:Int)≤0 from by decide) (oD h3 oZ))))
theorem x9d (e1:IntKind.u64.wrap i0=i1)(e2:IntKind.u64.wrap i2=i3)(e3:IntKind.u64.wrap (1000000000*i3)=i4)(e4:IntKind.u64.wrap (i1+i4)=i5)(h1:¬ (r0.length:Int)=0)(h2:¬ (r0.length:Int)=1)(h3:(r0.length:Int)=2)(h4:r0[0]?=some [.w i0])(h5:r0[1]?=some [.w i2]):Fn E C8 [.l r0] (.tup [.c (.u64 i5),.b true]):=by subst e1 e2 e3 e4;exact fnM (oC (beF h1) (oC (beF h2) (oB (beT h3) (oP (show (0:Int)≤0 from by decide) (oD h4 (oP (show (0:Int)≤1 from by decide) (oD h5 oZ)))))))
theorem x9e (h1:¬ (r0.length:Int)=0)(h2:¬ (r0.length:Int)=1)(h3:¬ (r0.length:Int)=2):Fn E C8 [.l r0] (.tup [.c (.u64 0),.b false]):=fnM (oC (beF h1) (oC (beF h2) (oC (beF h3) oZ)))
theorem q1t (e1:Int.tmod i0 1000000000=i1)(e2:IntKind.u32.wrap i1=i2)(e3:IntKind.u64.wrap (Int.tdiv i0 1000000000)=i3)(e4:IntKind.u32.wrap i3=i4)(e5:(([[.w i2],[.w i4]]:RW).take n0)=r0)(h1:Rn E C1 [.vec 0 2] [sV B3 [[.w i2],[.w i4]]] (.vec 0 n0) [sV B3 [[.w i2],[.w i4]]]):Fn E z5f [.c (.u64 i0)] (.l r0):=by subst e1 e2 e3 e4 e5;exact fnM (oP (show (1000000000:Int)≠0 from by decide) (oP (show (1000000000:Int)≠0 from by decide) (oR h1 oZ)))
def z3i (r0:RW) (i0:Int) (n0:Nat) (i1 i2:Int) (r1:RW):St:=stOf 41 [(0,.l r0),(1,.c (.u64 i0)),(6,.vec 0 n0),(7,.c (.u64 i1)),(8,.i i2)] [sV B3 r1]
def z9s (n0:Nat) (i3:Int) (r2:RW):St:=stOf 41 [(6,.vec 0 n0),(7,.c (.u64 i3))] [sV B3 r2]
theorem x6e (e1:IntKind.u64.wrap (i1*1000000000)=i4)(e2:IntKind.u64.wrap i5=i6)(e3:IntKind.u64.wrap (i4+i6)=i7)(e4:IntKind.u64.wrap (Int.tdiv i7 i0)=i8)(e5:IntKind.u32.wrap i8=i9)(e6:List.set r1 (Int.toNat i2) [.w i9]=r3)(e7:Int.tmod i7 i0=i11)(e8:IntKind.i64.wrap (i2-1)=i12)(h1:i2≥0)(h2:0≤i2)(h3:r0[(Int.toNat i2)]?=some [.w i5])(h4:i0≠0)(h5:0≤i2∧i2<((n0:Nat):Int))(h6:r1[(Int.toNat i2)]?=some [.w i10])(ih:Lp E 1 P9 0 (z3i r0 i0 n0 i11 i12 r3) o t):Lp E 1 P9 0 (z3i r0 i0 n0 i1 i2 r1) o t:=by subst e1 e2 e3 e4 e5 e6 e7 e8;exact lpM (oT h1 (oP h2 (oD h3 (oP h4 (oP h5 (oD h6 (oP h4 oZ))))))) ih
theorem x1w (h1:¬ i2≥0):Lp E 1 P9 0 (z3i r0 i0 n0 i1 i2 r1) (.exit 0) (z9s n0 i1 r1):=lpX (oU h1 oZ)
theorem k7a (e1:Int.toNat (r0.length:Int)=n0)(e2:List.replicate n0 [.w 0]=r1)(e3:IntKind.i64.wrap ((r0.length:Int)-1)=i1)(e4:(r2.take n1)=r4)(h1:0≤(r0.length:Int)∧(r0.length:Int)≤(r0.length:Int)∧(Int.toNat (r0.length:Int))*4≤140737488355328∧(Int.toNat (r0.length:Int))≤140737488355328)(h2:Lp E 1 P9 0 (z3i r0 i0 n0 0 i1 r1) (.exit 0) (z9s n0 i2 r2))(h3:Rn E C1 [.vec 0 n0] [sV B3 r2] (.vec 0 n1) [sV B3 r2])(h4:Fn E z5f [.c (.u64 i2)] (.l r3)):Fn E P9 [.l r0,.c (.u64 i0)] (.tup [.l r4,.l r3]):=by subst e1 e2 e3 e4;exact fnM (oP h1 (oL h2 (oR h3 (oF h4 oZ))))
theorem y1k (h1:Fn E z2i [.l r0,.l r1] (.l r2))(h2:Fn E O8 [.l r2] (.s s0)):Fn E Z1 [.mv z2i [.l r0],.l r1] (.tup [.s s0,.i 0]):=fnM (oF h1 (oF h2 oZ))
theorem y0o (h1:Fn E z1e [.l r0,.l r1] (.l r2))(h2:Fn E O8 [.l r2] (.s s0)):Fn E Z1 [.mv z1e [.l r0],.l r1] (.tup [.s s0,.i 0]):=fnM (oF h1 (oF h2 oZ))
def z2n (i0 i1:Int):St:=stOf 45 [(5,.c (.u64 i0)),(7,.c (.u64 i1))] []
def z8m (i2:Int):St:=stOf 45 [(5,.c (.u64 i2))] []
theorem x3x (e1:Int.tmod i0 i1=i3)(h1:i1>0)(h2:i1≠0)(ih:Lp E 0 D1 1 (z2n i1 i3) o t):Lp E 0 D1 1 (z2n i0 i1) o t:=by subst e1;exact lpM (oT h1 (oP h2 oZ)) ih
theorem x0m (h1:¬ i1>0):Lp E 0 D1 1 (z2n i0 i1) (.exit 2) (z8m i0):=lpX (oU h1 oZ)
def M3 (r0 r1:RW):St:=stOf 45 [(0,.l r0),(1,.l r1)] []
def z8k (r2:RW):St:=stOf 45 [(4,.l r2)] []
def z8l (r3:RW):St:=stOf 45 [(0,.l r3)] []
section
variable (h1:(r1.length:Int)>0)
include h1
theorem y2t (h2:Fn E C8 [.l r0] (.tup [.c (.u64 i0),.b true]))(h3:Fn E C8 [.l r1] (.tup [.c (.u64 i1),.b false]))(h4:Fn E A6 [.l r0,.l r1] (.tup [.l r4,.l r5]))(ih:Lp E 0 D1 0 (M3 r1 r5) o t):Lp E 0 D1 0 (M3 r0 r1) o t:=lpM (oT h1 (oF h2 (oF h3 (oF h4 oZ)))) ih
theorem y2u (h2:Fn E C8 [.l r0] (.tup [.c (.u64 i0),.b false]))(h3:Fn E C8 [.l r1] (.tup [.c (.u64 i1),.b b0]))(h4:Fn E A6 [.l r0,.l r1] (.tup [.l r4,.l r5]))(ih:Lp E 0 D1 0 (M3 r1 r5) o t):Lp E 0 D1 0 (M3 r0 r1) o t:=lpM (oT h1 (oF h2 (oF h3 (oF h4 oZ)))) ih
theorem x0k (h2:Fn E C8 [.l r0] (.tup [.c (.u64 i0),.b true]))(h3:Fn E C8 [.l r1] (.tup [.c (.u64 i1),.b true]))(h4:Lp E 0 D1 1 (z2n i0 i1) (.exit 2) (z8m i2))(h5:Fn E z5f [.c (.u64 i2)] (.l r5)):Lp E 0 D1 0 (M3 r0 r1) .ret (z8k r5):=lpX (oT h1 (oF h2 (oF h3 (oL h4 (oF h5 oZ)))))
end
theorem x0l (h1:¬ (r1.length:Int)>0):Lp E 0 D1 0 (M3 r0 r1) (.exit 0) (z8l r0):=lpX (oU h1 oZ)
theorem k3q (h1:Lp E 0 D1 0 (M3 r0 r1) .ret (z8k r2)):Fn E D1 [.l r0,.l r1] (.l r2):=fnM (oL h1 oZ)
theorem k3r (h1:Lp E 0 D1 0 (M3 r0 r1) (.exit 0) (z8l r2)):Fn E D1 [.l r0,.l r1] (.l r2):=fnM (oL h1 oZ)
theorem k1j (h1:Fn E B4 [.l r0,.l r1,.i 1] (.l r2)):Fn E z2i [.l r0,.l r1] (.l r2):=fnM (oF h1 oZ)
theorem x9a (h1:Fn E B4 [.l r0,.l r1,.i (-1)] (.l r2))(h2:Rn E C1 [.l r2] [] (.l r3) []):Fn E z1e [.l r0,.l r1] (.l r3):=fnM (oF h1 (oR h2 oZ))
def B9 (r0 r1:RW) (i0:Int) (n0:Nat) (i1 i2 i3:Int) (r2:RW):St:=stOf 71 [(0,.l r0),(1,.l r1),(2,.i i0),(7,.vec 1 n0),(8,.i i1),(19,.i i2),(20,.i i3)] [some .dead,sV B3 r2]
def z1n (n1:Nat) (i4:Int) (r3:RW):St:=stOf 71 [(7,.vec 1 n1),(8,.i i4)] [some .dead,sV B3 r3]
section
variable (e1:IntKind.i64.wrap i5=i6)
include e1
section
variable (e2:IntKind.i64.wrap (i1+i6)=i7)
include e2
section
variable (e3:IntKind.i64.wrap i8=i9)(e4:IntKind.i64.wrap (i0*i9)=i10)(e5:IntKind.i64.wrap (i7+i10)=i11)(e6:Int.tmod i11 1000000000=i12)(e7:IntKind.i64.wrap (Int.tdiv i11 1000000000)=i13)
include e3 e4 e5 e6 e7
theorem x0c (e8:IntKind.i64.wrap (i12+1000000000)=i14)(e9:IntKind.i64.wrap (i13-1)=i15)(e10:IntKind.u32.wrap i14=i16)(e11:(r2.take n0)++[[.w i16]]=r4)(e12:n0+1=n2)(e13:IntKind.i64.wrap (i3+1)=i17)(h1:i3<i2)(h2:i3<(r0.length:Int))(h3:0≤i3)(h4:r0[(Int.toNat i3)]?=some [.w i5])(h5:i3<(r1.length:Int))(h6:r1[(Int.toNat i3)]?=some [.w i8])(h7:i12<0)(h8:(n0+1)*4≤140737488355328∧n0+1≤140737488355328)(ih:Lp E 1 B4 0 (B9 r0 r1 i0 n2 i15 i2 i17 r4) o t):Lp E 1 B4 0 (B9 r0 r1 i0 n0 i1 i2 i3 r2) o t:=by subst e1 e2 e3 e4 e5 e6 e7 e8 e9 e10 e11 e12 e13;exact lpM (oT h1 (oT h2 (oP h3 (oD h4 (oT h5 (oP h3 (oD h6 (oP (show (1000000000:Int)≠0 from by decide) (oP (show (1000000000:Int)≠0 from by decide) (oT h7 (oP (show ∀ y∈([[.w (IntKind.u32.wrap (IntKind.i64.wrap ((Int.tmod (IntKind.i64.wrap ((IntKind.i64.wrap (i1+(IntKind.i64.wrap i5)))+(IntKind.i64.wrap (i0*(IntKind.i64.wrap i8))))) 1000000000)+1000000000)))]]:RW),y.length=1 from by simp) (oP h8 oZ)))))))))))) ih
theorem x0d (e8:IntKind.u32.wrap i12=i14)(e9:(r2.take n0)++[[.w i14]]=r5)(e10:n0+1=n3)(e11:IntKind.i64.wrap (i3+1)=i18)(h1:i3<i2)(h2:i3<(r0.length:Int))(h3:0≤i3)(h4:r0[(Int.toNat i3)]?=some [.w i5])(h5:i3<(r1.length:Int))(h6:r1[(Int.toNat i3)]?=some [.w i8])(h7:¬ i12<0)(h8:(n0+1)*4≤140737488355328∧n0+1≤140737488355328)(ih:Lp E 1 B4 0 (B9 r0 r1 i0 n3 i13 i2 i18 r5) o t):Lp E 1 B4 0 (B9 r0 r1 i0 n0 i1 i2 i3 r2) o t:=by subst e1 e2 e3 e4 e5 e6 e7 e8 e9 e10 e11;exact lpM (oT h1 (oT h2 (oP h3 (oD h4 (oT h5 (oP h3 (oD h6 (oP (show (1000000000:Int)≠0 from by decide) (oP (show (1000000000:Int)≠0 from by decide) (oU h7 (oP (show ∀ y∈([[.w (IntKind.u32.wrap (Int.tmod (IntKind.i64.wrap ((IntKind.i64.wrap (i1+(IntKind.i64.wrap i5)))+(IntKind.i64.wrap (i0*(IntKind.i64.wrap i8))))) 1000000000))]]:RW),y.length=1 from by simp) (oP h8 oZ)))))))))))) ih
end
section
variable (e3:Int.tmod i7 1000000000=i8)(e4:IntKind.i64.wrap (Int.tdiv i7 1000000000)=i9)
include e3 e4
theorem x0e (e5:IntKind.i64.wrap (i8+1000000000)=i10)(e6:IntKind.i64.wrap (i9-1)=i11)(e7:IntKind.u32.wrap i10=i12)(e8:(r2.take n0)++[[.w i12]]=r6)(e9:n0+1=n4)(e10:IntKind.i64.wrap (i3+1)=i15)(h1:i3<i2)(h2:i3<(r0.length:Int))(h3:0≤i3)(h4:r0[(Int.toNat i3)]?=some [.w i5])(h5:¬ i3<(r1.length:Int))(h6:i8<0)(h7:(n0+1)*4≤140737488355328∧n0+1≤140737488355328)(ih:Lp E 1 B4 0 (B9 r0 r1 i0 n4 i11 i2 i15 r6) o t):Lp E 1 B4 0 (B9 r0 r1 i0 n0 i1 i2 i3 r2) o t:=by subst e1 e2 e3 e4 e5 e6 e7 e8 e9 e10;exact lpM (oT h1 (oT h2 (oP h3 (oD h4 (oU h5 (oP (show (1000000000:Int)≠0 from by decide) (oP (show (1000000000:Int)≠0 from by decide) (oT h6 (oP (show ∀ y∈([[.w (IntKind.u32.wrap (IntKind.i64.wrap ((Int.tmod (IntKind.i64.wrap (i1+(IntKind.i64.wrap i5))) 1000000000)+1000000000)))]]:RW),y.length=1 from by simp) (oP h7 oZ)))))))))) ih
theorem x0f (e5:IntKind.u32.wrap i8=i10)(e6:(r2.take n0)++[[.w i10]]=r7)(e7:n0+1=n5)(e8:IntKind.i64.wrap (i3+1)=i13)(h1:i3<i2)(h2:i3<(r0.length:Int))(h3:0≤i3)(h4:r0[(Int.toNat i3)]?=some [.w i5])(h5:¬ i3<(r1.length:Int))(h6:¬ i8<0)(h7:(n0+1)*4≤140737488355328∧n0+1≤140737488355328)(ih:Lp E 1 B4 0 (B9 r0 r1 i0 n5 i9 i2 i13 r7) o t):Lp E 1 B4 0 (B9 r0 r1 i0 n0 i1 i2 i3 r2) o t:=by subst e1 e2 e3 e4 e5 e6 e7 e8;exact lpM (oT h1 (oT h2 (oP h3 (oD h4 (oU h5 (oP (show (1000000000:Int)≠0 from by decide) (oP (show (1000000000:Int)≠0 from by decide) (oU h6 (oP (show ∀ y∈([[.w (IntKind.u32.wrap (Int.tmod (IntKind.i64.wrap (i1+(IntKind.i64.wrap i5))) 1000000000))]]:RW),y.length=1 from by simp) (oP h7 oZ)))))))))) ih
end
end
section
variable (e2:IntKind.i64.wrap (i0*i6)=i7)(e3:IntKind.i64.wrap (i1+i7)=i8)(e4:Int.tmod i8 1000000000=i9)(e5:IntKind.i64.wrap (Int.tdiv i8 1000000000)=i10)
include e2 e3 e4 e5
theorem x0g (e6:IntKind.i64.wrap (i9+1000000000)=i11)(e7:IntKind.i64.wrap (i10-1)=i12)(e8:IntKind.u32.wrap i11=i13)(e9:(r2.take n0)++[[.w i13]]=r8)(e10:n0+1=n6)(e11:IntKind.i64.wrap (i3+1)=i16)(h1:i3<i2)(h2:¬ i3<(r0.length:Int))(h3:i3<(r1.length:Int))(h4:0≤i3)(h5:r1[(Int.toNat i3)]?=some [.w i5])(h6:i9<0)(h7:(n0+1)*4≤140737488355328∧n0+1≤140737488355328)(ih:Lp E 1 B4 0 (B9 r0 r1 i0 n6 i12 i2 i16 r8) o t):Lp E 1 B4 0 (B9 r0 r1 i0 n0 i1 i2 i3 r2) o t:=by subst e1 e2 e3 e4 e5 e6 e7 e8 e9 e10 e11;exact lpM (oT h1 (oU h2 (oT h3 (oP h4 (oD h5 (oP (show (1000000000:Int)≠0 from by decide) (oP (show (1000000000:Int)≠0 from by decide) (oT h6 (oP (show ∀ y∈([[.w (IntKind.u32.wrap (IntKind.i64.wrap ((Int.tmod (IntKind.i64.wrap (i1+(IntKind.i64.wrap (i0*(IntKind.i64.wrap i5))))) 1000000000)+1000000000)))]]:RW),y.length=1 from by simp) (oP h7 oZ)))))))))) ih
theorem x0h (e6:IntKind.u32.wrap i9=i11)(e7:(r2.take n0)++[[.w i11]]=r9)(e8:n0+1=n7)(e9:IntKind.i64.wrap (i3+1)=i14)(h1:i3<i2)(h2:¬ i3<(r0.length:Int))(h3:i3<(r1.length:Int))(h4:0≤i3)(h5:r1[(Int.toNat i3)]?=some [.w i5])(h6:¬ i9<0)(h7:(n0+1)*4≤140737488355328∧n0+1≤140737488355328)(ih:Lp E 1 B4 0 (B9 r0 r1 i0 n7 i10 i2 i14 r9) o t):Lp E 1 B4 0 (B9 r0 r1 i0 n0 i1 i2 i3 r2) o t:=by subst e1 e2 e3 e4 e5 e6 e7 e8 e9;exact lpM (oT h1 (oU h2 (oT h3 (oP h4 (oD h5 (oP (show (1000000000:Int)≠0 from by decide) (oP (show (1000000000:Int)≠0 from by decide) (oU h6 (oP (show ∀ y∈([[.w (IntKind.u32.wrap (Int.tmod (IntKind.i64.wrap (i1+(IntKind.i64.wrap (i0*(IntKind.i64.wrap i5))))) 1000000000))]]:RW),y.length=1 from by simp) (oP h7 oZ)))))))))) ih
end
end
section
variable (e1:Int.tmod i1 1000000000=i5)(e2:IntKind.i64.wrap (Int.tdiv i1 1000000000)=i6)
include e1 e2
theorem x0i (e3:IntKind.i64.wrap (i5+1000000000)=i7)(e4:IntKind.i64.wrap (i6-1)=i8)(e5:IntKind.u32.wrap i7=i9)(e6:(r2.take n0)++[[.w i9]]=r10)(e7:n0+1=n8)(e8:IntKind.i64.wrap (i3+1)=i12)(h1:i3<i2)(h2:¬ i3<(r0.length:Int))(h3:¬ i3<(r1.length:Int))(h4:i5<0)(h5:(n0+1)*4≤140737488355328∧n0+1≤140737488355328)(ih:Lp E 1 B4 0 (B9 r0 r1 i0 n8 i8 i2 i12 r10) o t):Lp E 1 B4 0 (B9 r0 r1 i0 n0 i1 i2 i3 r2) o t:=by subst e1 e2 e3 e4 e5 e6 e7 e8;exact lpM (oT h1 (oU h2 (oU h3 (oP (show (1000000000:Int)≠0 from by decide) (oP (show (1000000000:Int)≠0 from by decide) (oT h4 (oP (show ∀ y∈([[.w (IntKind.u32.wrap (IntKind.i64.wrap ((Int.tmod i1 1000000000)+1000000000)))]]:RW),y.length=1 from by simp) (oP h5 oZ)))))))) ih
theorem x0j (e3:IntKind.u32.wrap i5=i7)(e4:(r2.take n0)++[[.w i7]]=r11)(e5:n0+1=n9)(e6:IntKind.i64.wrap (i3+1)=i10)(h1:i3<i2)(h2:¬ i3<(r0.length:Int))(h3:¬ i3<(r1.length:Int))(h4:¬ i5<0)(h5:(n0+1)*4≤140737488355328∧n0+1≤140737488355328)(ih:Lp E 1 B4 0 (B9 r0 r1 i0 n9 i6 i2 i10 r11) o t):Lp E 1 B4 0 (B9 r0 r1 i0 n0 i1 i2 i3 r2) o t:=by subst e1 e2 e3 e4 e5 e6;exact lpM (oT h1 (oU h2 (oU h3 (oP (show (1000000000:Int)≠0 from by decide) (oP (show (1000000000:Int)≠0 from by decide) (oU h4 (oP (show ∀ y∈([[.w (IntKind.u32.wrap (Int.tmod i1 1000000000))]]:RW),y.length=1 from by simp) (oP h5 oZ)))))))) ih
end
theorem y7q (h1:¬ i3<i2):Lp E 1 B4 0 (B9 r0 r1 i0 n0 i1 i2 i3 r2) (.exit 0) (z1n n0 i1 r2):=lpX (oU h1 oZ)
section
variable (e1:IntKind.i64.wrap ((r0.length:Int)+1)=i1)(e2:(if (r1.length:Int)>(r0.length:Int) then (r1.length:Int) else (r0.length:Int))=i2)
include e1 e2
theorem x8y (e3:IntKind.u32.wrap i3=i4)(e4:(r2.take n0)++[[.w i4]]=r3)(e5:n0+1=n1)(e6:(r3.take n1)=r4)(h1:0≤(0:Int)∧(0:Int)≤i1∧(Int.toNat i1)*4≤140737488355328∧(Int.toNat i1)≤140737488355328)(h2:Lp E 1 B4 0 (B9 r0 r1 i0 0 0 i2 0 []) (.exit 0) (z1n n0 i3 r2))(h3:i3>0)(h4:(n0+1)*4≤140737488355328∧n0+1≤140737488355328):Fn E B4 [.l r0,.l r1,.i i0] (.l r4):=by subst e1 e2 e3 e4 e5 e6;exact fnM (oP h1 (oM [(7,B3)] h2 (oT h3 (oP (show ∀ y∈([[.w (IntKind.u32.wrap i3)]]:RW),y.length=1 from by simp) (oP h4 oZ)))))
theorem x8z (e3:(r2.take n0)=r5)(h1:0≤(0:Int)∧(0:Int)≤i1∧(Int.toNat i1)*4≤140737488355328∧(Int.toNat i1)≤140737488355328)(h2:Lp E 1 B4 0 (B9 r0 r1 i0 0 0 i2 0 []) (.exit 0) (z1n n0 i3 r2))(h3:¬ i3>0):Fn E B4 [.l r0,.l r1,.i i0] (.l r5):=by subst e1 e2 e3;exact fnM (oP h1 (oM [(7,B3)] h2 (oU h3 oZ)))
end
def X0 (r0:RW):St:=stOf 21 [(0,.l r0)] []
def z1o (r1:RW):St:=stOf 21 [(0,.l r1)] []
section
variable (e1:IntKind.i64.wrap ((r0.length:Int)-1)=i0)
include e1
theorem x0p (e2:List.drop 0 (r0.take (Int.toNat i0))=r2)(h1:(r0.length:Int)>0)(h2:0≤i0)(h3:r0[(Int.toNat i0)]?=some [.w i1])(h4:i1=0)(h5:0≤(0:Int)∧(0:Int)≤i0∧i0≤r0.length∧∀ x∈r0,x.length=1)(ih:Lp E 0 C1 0 (X0 r2) o t):Lp E 0 C1 0 (X0 r0) o t:=by subst e1 e2;exact lpM (oT h1 (oP h2 (oD h3 (oB (beT h4) (oP h5 oZ))))) ih
theorem y8a (h1:(r0.length:Int)>0)(h2:0≤i0)(h3:r0[(Int.toNat i0)]?=some [.w i1])(h4:¬ i1=0):Lp E 0 C1 0 (X0 r0) (.exit 0) (z1o r0):=by subst e1;exact lpX (oT h1 (oP h2 (oD h3 (oC (beF h4) oZ))))
end
theorem y8b (h1:¬ (r0.length:Int)>0):Lp E 0 C1 0 (X0 r0) (.exit 0) (z1o r0):=lpX (oU h1 oZ)
theorem x6i (h1:Lp E 0 C1 0 (X0 r0) (.exit 0) (z1o r1)):Rn E C1 [.l r0] [] (.l r1) []:=rnM (oL h1 oZ)
end Gev
namespace Gev
open Go Go.Proofs
variable {E:Env}
variable {i0 i1 i2:Int} {s0 s1 s2 s3 s4 s5 s6 s7 s8:BA} {b0 b1 b2 b3 b4 b5 b6:Bool}
theorem j7y (h1:Fn E z9w [.s s0] (.tup [.agg [.b b0,.s s1],.i i0]))(h2:i0=0)(h3:Fn E Z3 [.agg [.b b0,.s s1]] (.agg [.b b1,.s s2]))(h4:Fn E N0 [.agg [.b b1,.s s2]] (.s s3)):Fn E y8s [.s s0] (.tup [.s s3,.i 0]):=fnM (oF h1 (oC (bnF h2) (oF h3 (oF h4 oZ))))
theorem j7x (h1:Fn E z2h [.s s0,.s s1] (.tup [.agg [.b b0,.s s2],.agg [.b b1,.s s3],.i i0]))(h2:i0=0)(h3:Fn E z5e [.agg [.b b0,.s s2],.agg [.b b1,.s s3]] (.agg [.b b2,.s s4]))(h4:Fn E N0 [.agg [.b b2,.s s4]] (.s s5)):Fn E X5 [.s s0,.s s1] (.tup [.s s5,.i 0]):=fnM (oF h1 (oC (bnF h2) (oF h3 (oF h4 oZ))))
theorem j7w (h1:Fn E z2h [.s s0,.s s1] (.tup [.agg [.b b0,.s s2],.agg [.b b1,.s s3],.i i0]))(h2:i0=0)(h3:Fn E P6 [.agg [.b b0,.s s2],.agg [.b b1,.s s3]] (.agg [.b b2,.s s4]))(h4:Fn E N0 [.agg [.b b2,.s s4]] (.s s5)):Fn E y4a [.s s0,.s s1] (.tup [.s s5,.i 0]):=fnM (oF h1 (oC (bnF h2) (oF h3 (oF h4 oZ))))
theorem j8b (h1:Fn E z2h [.s s0,.s ⟨#[48]⟩] (.tup [.agg [.b b0,.s s1],.agg [.b b1,.s s2],.i i0])):Fn E z9w [.s s0] (.tup [.agg [.b b0,.s s1],.i i0]):=fnM (oF h1 oZ)
theorem y7n (h1:Fn E I9 [.b (!b0),.s s0] (.agg [.b b1,.s s1])):Fn E Z3 [.agg [.b b0,.s s0]] (.agg [.b b1,.s s1]):=fnM (oF h1 oZ)
theorem x3o (e1:(⟨#[45]⟩:BA)++s0=s1)(h1:(⟨#[45]⟩:BA).size+s0.size≤9223372036854775807):Fn E N0 [.agg [.b true,.s s0]] (.s s1):=by subst e1;exact fnM (oP h1 oZ)
theorem x3p:Fn E N0 [.agg [.b false,.s s0]] (.s s0):=fnM oZ
theorem j5f (h1:Fn E z0l [.s s0] (.tup [.agg [.b b0,.s s2],.b true]))(h2:Fn E z0l [.s s1] (.tup [.agg [.b b1,.s s3],.b true])):Fn E z2h [.s s0,.s s1] (.tup [.agg [.b b0,.s s2],.agg [.b b1,.s s3],.i 0]):=fnM (oF h1 (oF h2 oZ))
theorem x1q (e1:(!(b0 == b1))=b2)(h1:Fn E z3k [.s s0,.s s1] (.tup [.s s2,.i i0]))(h2:Fn E I9 [.b b2,.s s2] (.agg [.b b3,.s s3])):Fn E z5e [.agg [.b b0,.s s0],.agg [.b b1,.s s1]] (.agg [.b b3,.s s3]):=by subst e1;exact fnM (oF h1 (oK (oF h2 oZ)))
section
variable (h1:Fn E z0e [.b b0] (.i 0))
include h1
theorem x3h (h2:Fn E z0e [.b b1] (.i 0))(h3:Fn E y4b [.agg [.b b0,.s s0],.agg [.b b1,.s s1]] (.agg [.b b2,.s s2])):Fn E P6 [.agg [.b b0,.s s0],.agg [.b b1,.s s1]] (.agg [.b b2,.s s2]):=fnM (oF h1 (oF h2 (oP (show (0:Int)≤0∧(0:Int)<2 from by decide) (oP (show (0:Int)≤0∧(0:Int)<2 from by decide) (oF h3 oZ)))))
theorem x3i (h2:Fn E z0e [.b b1] (.i 1))(h3:Fn E z0k [.agg [.b b0,.s s0],.agg [.b b1,.s s1]] (.agg [.b b2,.s s2])):Fn E P6 [.agg [.b b0,.s s0],.agg [.b b1,.s s1]] (.agg [.b b2,.s s2]):=fnM (oF h1 (oF h2 (oP (show (0:Int)≤0∧(0:Int)<2 from by decide) (oP (show (0:Int)≤1∧(1:Int)<2 from by decide) (oF h3 oZ)))))
end
section
variable (h1:Fn E z0e [.b b0] (.i 1))
include h1
theorem x3j (h2:Fn E z0e [.b b1] (.i 0))(h3:Fn E z0k [.agg [.b b0,.s s0],.agg [.b b1,.s s1]] (.agg [.b b2,.s s2])):Fn E P6 [.agg [.b b0,.s s0],.agg [.b b1,.s s1]] (.agg [.b b2,.s s2]):=fnM (oF h1 (oF h2 (oP (show (0:Int)≤1∧(1:Int)<2 from by decide) (oP (show (0:Int)≤0∧(0:Int)<2 from by decide) (oF h3 oZ)))))
theorem x3k (h2:Fn E z0e [.b b1] (.i 1))(h3:Fn E y4b [.agg [.b b0,.s s0],.agg [.b b1,.s s1]] (.agg [.b b2,.s s2])):Fn E P6 [.agg [.b b0,.s s0],.agg [.b b1,.s s1]] (.agg [.b b2,.s s2]):=fnM (oF h1 (oF h2 (oP (show (0:Int)≤1∧(1:Int)<2 from by decide) (oP (show (0:Int)≤1∧(1:Int)<2 from by decide) (oF h3 oZ)))))
end
theorem k6s (h1:Fn E z2h [.s s0,.s s1] (.tup [.agg [.b b0,.s s2],.agg [.b b1,.s s3],.i i0]))(h2:i0=0)(h3:Fn E y1n [] (.agg [.b b2,.s s4]))(h4:((b1 == b2) && ((s3 == s4) && true))=false)(h5:Fn E V5 [.agg [.b b0,.s s2],.agg [.b b1,.s s3]] (.tup [.agg [.b b3,.s s5],.agg [.b b4,.s s6]]))(h6:Fn E N0 [.agg [.b b3,.s s5]] (.s s7))(h7:Fn E N0 [.agg [.b b4,.s s6]] (.s s8)):Fn E y2w [.s s0,.s s1] (.tup [.s s7,.s s8,.i 0]):=fnM (oF h1 (oC (bnF h2) (oF h3 (oC (id h4) (oF h5 (oF h6 (oF h7 oZ)))))))
theorem j0c (h1:Fn E z0l [.s s0] (.tup [.agg [.b b0,.s s1],.b b1])):Fn E z6l [.s s0] (.b b1):=fnM (oF h1 oZ)
theorem j5h (h1:¬ s0=(⟨#[48]⟩:BA)):Fn E I9 [.b true,.s s0] (.agg [.b true,.s s0]):=fnM (oB (snT h1) oZ)
theorem j5i (h1:s0=(⟨#[48]⟩:BA)):Fn E I9 [.b true,.s s0] (.agg [.b false,.s s0]):=fnM (oC (snF h1) oZ)
theorem j5j:Fn E I9 [.b false,.s s0] (.agg [.b false,.s s0]):=fnM oZ
section
variable (h1:Fn E z9r [.s s0,.s ⟨#[45]⟩] (.tup [.s s1,.b b0]))
include h1
section
variable (h2:Fn E D5 [.s s1] (.b true))
include h2
theorem x5u (h3:(!((b0 == true) && ((s1 == (⟨#[48]⟩:BA)) && true)))=true):Fn E z0l [.s s0] (.tup [.agg [.b b0,.s s1],.b true]):=fnM (oF h1 (oF h2 (oB (id h3) oZ)))
theorem j5g (h3:(!((b0 == true) && ((s1 == (⟨#[48]⟩:BA)) && true)))=false):Fn E z0l [.s s0] (.tup [.agg [.b b0,.s s1],.b false]):=fnM (oF h1 (oF h2 (oC (id h3) oZ)))
end
theorem x5v (h2:Fn E D5 [.s s1] (.b false)):Fn E z0l [.s s0] (.tup [.agg [.b b0,.s s1],.b false]):=fnM (oF h1 (oF h2 oZ))
end
theorem j5k:Fn E y1n [] (.agg [.b false,.s ⟨#[48]⟩]):=fnM oZ
theorem j7z:Fn E z0e [.b true] (.i 1):=fnM oZ
theorem j8a:Fn E z0e [.b false] (.i 0):=fnM oZ
theorem j8c (h1:Fn E y4c [.s s0,.s s1] (.tup [.s s2,.i i0]))(h2:Fn E I9 [.b b0,.s s2] (.agg [.b b2,.s s3])):Fn E y4b [.agg [.b b0,.s s0],.agg [.b b1,.s s1]] (.agg [.b b2,.s s3]):=fnM (oF h1 (oF h2 oZ))
section
variable (h1:Fn E y1o [.s s0,.s s1] (.tup [.i i0,.i i1]))
include h1
theorem x5s (h2:i0<0)(h3:Fn E z9y [.s s1,.s s0] (.tup [.s s2,.i i2]))(h4:Fn E I9 [.b b1,.s s2] (.agg [.b b2,.s s3])):Fn E z0k [.agg [.b b0,.s s0],.agg [.b b1,.s s1]] (.agg [.b b2,.s s3]):=fnM (oF h1 (oT h2 (oF h3 (oF h4 oZ))))
theorem x5t (h2:¬ i0<0)(h3:Fn E z9y [.s s0,.s s1] (.tup [.s s2,.i i2]))(h4:Fn E I9 [.b b0,.s s2] (.agg [.b b2,.s s3])):Fn E z0k [.agg [.b b0,.s s0],.agg [.b b1,.s s1]] (.agg [.b b2,.s s3]):=fnM (oF h1 (oU h2 (oF h3 (oF h4 oZ))))
end
theorem j7v (h1:Fn E z9w [.s s0] (.tup [.agg [.b b0,.s s1],.i i0]))(h2:i0=0):Fn E y8r [.s s0] (.tup [.s s1,.i 0]):=fnM (oF h1 (oC (bnF h2) oZ))
theorem y9y (e1:(!(true == b0))=b1)(h1:Fn E z2a [.s s0,.s s1] (.tup [.s s2,.s s3,.i i0]))(h2:¬ s3=(⟨#[48]⟩:BA))(h3:Fn E y4c [.s s2,.s ⟨#[49]⟩] (.tup [.s s4,.i i1]))(h4:Fn E z9y [.s s1,.s s3] (.tup [.s s5,.i i2]))(h5:Fn E I9 [.b b1,.s s4] (.agg [.b b2,.s s6]))(h6:Fn E I9 [.b false,.s s5] (.agg [.b b3,.s s7])):Fn E V5 [.agg [.b true,.s s0],.agg [.b b0,.s s1]] (.tup [.agg [.b b2,.s s6],.agg [.b b3,.s s7]]):=by subst e1;exact fnM (oF h1 (oB (snT h2) (oF h3 (oF h4 (oK (oF h5 (oF h6 oZ)))))))
theorem y9z (e1:(!(true == b0))=b4)(h1:Fn E z2a [.s s0,.s s1] (.tup [.s s2,.s s3,.i i0]))(h2:s3=(⟨#[48]⟩:BA))(h3:Fn E I9 [.b b4,.s s2] (.agg [.b b5,.s s5]))(h4:Fn E I9 [.b false,.s s3] (.agg [.b b6,.s s8])):Fn E V5 [.agg [.b true,.s s0],.agg [.b b0,.s s1]] (.tup [.agg [.b b5,.s s5],.agg [.b b6,.s s8]]):=by subst e1;exact fnM (oF h1 (oC (snF h2) (oK (oF h3 (oF h4 oZ)))))
theorem x0a (e1:(!(false == b0))=b4)(h1:Fn E z2a [.s s0,.s s1] (.tup [.s s2,.s s3,.i i0]))(h2:Fn E I9 [.b b4,.s s2] (.agg [.b b5,.s s5]))(h3:Fn E I9 [.b false,.s s3] (.agg [.b b6,.s s8])):Fn E V5 [.agg [.b false,.s s0],.agg [.b b0,.s s1]] (.tup [.agg [.b b5,.s s5],.agg [.b b6,.s s8]]):=by subst e1;exact fnM (oF h1 (oK (oF h2 (oF h3 oZ))))
theorem k3i (h1:Fn E z2h [.s s0,.s s1] (.tup [.agg [.b b0,.s s2],.agg [.b b1,.s s3],.i i0]))(h2:Fn E Z3 [.agg [.b b1,.s s3]] (.agg [.b b2,.s s4]))(h3:Fn E P6 [.agg [.b b0,.s s2],.agg [.b b2,.s s4]] (.agg [.b b3,.s s5]))(h4:Fn E U5 [.agg [.b b3,.s s5]] (.i i1)):Fn E y1m [.s s0,.s s1] (.tup [.i i1,.i i0]):=fnM (oF h1 (oF h2 (oF h3 (oF h4 oZ))))
theorem j5e (h1:Fn E z9w [.s s0] (.tup [.agg [.b b0,.s s1],.i i0]))(h2:Fn E U5 [.agg [.b b0,.s s1]] (.i i1)):Fn E y6s [.s s0] (.tup [.i i1,.i i0]):=fnM (oF h1 (oF h2 oZ))
section
variable (h1:Fn E y1n [] (.agg [.b b1,.s s1]))
include h1
theorem x3l (h2:((b0 == b1) && ((s0 == s1) && true))=true):Fn E U5 [.agg [.b b0,.s s0]] (.i 0):=fnM (oF h1 (oB (id h2) oZ))
theorem x3m (h2:((true == b1) && ((s0 == s1) && true))=false):Fn E U5 [.agg [.b true,.s s0]] (.i (-1)):=fnM (oF h1 (oC (id h2) oZ))
theorem x3n (h2:((false == b1) && ((s0 == s1) && true))=false):Fn E U5 [.agg [.b false,.s s0]] (.i 1):=fnM (oF h1 (oC (id h2) oZ))
end
end Gev
namespace Gev
open Go Go.Proofs
variable {E:Env}
variable {o:Out} {t:St} {i0 i1 i2 i3 i4 i5 i6 i7 i8 i9:Int} {s0 s1 s2 s3 s4 s5 s6 s7 s8 s9 s10:BA} {b0:Bool}
theorem j0l (e1:IntKind.i64.wrap (i0*i3)=i4)(e2:IntKind.i64.wrap (i2*i1)=i5)(e3:IntKind.i64.wrap (i4+i5)=i6)(e4:IntKind.i64.wrap (i1*i3)=i7)(h1:Fn E C2 [.agg [.s s0,.s s1]] (.tup [.i i0,.i i1,.b true]))(h2:Fn E C2 [.agg [.s s2,.s s3]] (.tup [.i i2,.i i3,.b true]))(h3:Fn E z0f [.i i6,.i i7] (.agg [.s s4,.s s5])):Fn E z0y [.agg [.s s0,.s s1],.agg [.s s2,.s s3]] (.agg [.s s4,.s s5]):=by subst e1 e2 e3 e4;exact fnM (oF h1 (oF h2 (oF h3 oZ)))
theorem j0m (h1:Fn E C2 [.agg [.s s0,.s s1]] (.tup [.i i0,.i i1,.b true]))(h2:Fn E C2 [.agg [.s s2,.s s3]] (.tup [.i i2,.i i3,.b false]))(h3:Fn E X5 [.s s0,.s s3] (.tup [.s s6,.i i5]))(h4:Fn E X5 [.s s2,.s s1] (.tup [.s s7,.i i7]))(h5:Fn E y4a [.s s6,.s s7] (.tup [.s s4,.i i8]))(h6:Fn E z3k [.s s1,.s s3] (.tup [.s s8,.i i9]))(h7:Fn E U4 [.s s4,.s s8] (.agg [.s s9,.s s10])):Fn E z0y [.agg [.s s0,.s s1],.agg [.s s2,.s s3]] (.agg [.s s9,.s s10]):=fnM (oF h1 (oF h2 (oF h3 (oF h4 (oF h5 (oF h6 (oF h7 oZ)))))))
theorem j0n (h1:Fn E C2 [.agg [.s s0,.s s1]] (.tup [.i i0,.i i1,.b false]))(h2:Fn E C2 [.agg [.s s2,.s s3]] (.tup [.i i2,.i i3,.b b0]))(h3:Fn E X5 [.s s0,.s s3] (.tup [.s s6,.i i5]))(h4:Fn E X5 [.s s2,.s s1] (.tup [.s s7,.i i7]))(h5:Fn E y4a [.s s6,.s s7] (.tup [.s s4,.i i8]))(h6:Fn E z3k [.s s1,.s s3] (.tup [.s s8,.i i9]))(h7:Fn E U4 [.s s4,.s s8] (.agg [.s s9,.s s10])):Fn E z0y [.agg [.s s0,.s s1],.agg [.s s2,.s s3]] (.agg [.s s9,.s s10]):=fnM (oF h1 (oF h2 (oF h3 (oF h4 (oF h5 (oF h6 (oF h7 oZ)))))))
theorem k7e (e1:IntKind.i64.wrap (i0*i2)=i4)(e2:IntKind.i64.wrap (i1*i3)=i5)(h1:Fn E C2 [.agg [.s s0,.s s1]] (.tup [.i i0,.i i1,.b true]))(h2:Fn E C2 [.agg [.s s2,.s s3]] (.tup [.i i2,.i i3,.b true]))(h3:Fn E z0f [.i i4,.i i5] (.agg [.s s4,.s s5])):Fn E z2b [.agg [.s s0,.s s1],.agg [.s s2,.s s3]] (.agg [.s s4,.s s5]):=by subst e1 e2;exact fnM (oF h1 (oF h2 (oF h3 oZ)))
theorem k7f (h1:Fn E C2 [.agg [.s s0,.s s1]] (.tup [.i i0,.i i1,.b true]))(h2:Fn E C2 [.agg [.s s2,.s s3]] (.tup [.i i2,.i i3,.b false]))(h3:Fn E X5 [.s s0,.s s2] (.tup [.s s6,.i i5]))(h4:Fn E z3k [.s s1,.s s3] (.tup [.s s4,.i i6]))(h5:Fn E U4 [.s s6,.s s4] (.agg [.s s7,.s s8])):Fn E z2b [.agg [.s s0,.s s1],.agg [.s s2,.s s3]] (.agg [.s s7,.s s8]):=fnM (oF h1 (oF h2 (oF h3 (oF h4 (oF h5 oZ)))))
theorem k7g (h1:Fn E C2 [.agg [.s s0,.s s1]] (.tup [.i i0,.i i1,.b false]))(h2:Fn E C2 [.agg [.s s2,.s s3]] (.tup [.i i2,.i i3,.b b0]))(h3:Fn E X5 [.s s0,.s s2] (.tup [.s s6,.i i5]))(h4:Fn E z3k [.s s1,.s s3] (.tup [.s s4,.i i6]))(h5:Fn E U4 [.s s6,.s s4] (.agg [.s s7,.s s8])):Fn E z2b [.agg [.s s0,.s s1],.agg [.s s2,.s s3]] (.agg [.s s7,.s s8]):=fnM (oF h1 (oF h2 (oF h3 (oF h4 (oF h5 oZ)))))
theorem x0s (h1:Fn E z9p [.agg [.s s2,.s s3]] (.agg [.s s4,.s s5]))(h2:Fn E z0y [.agg [.s s0,.s s1],.agg [.s s4,.s s5]] (.agg [.s s6,.s s7])):Fn E V7 [.agg [.s s0,.s s1],.agg [.s s2,.s s3]] (.agg [.s s6,.s s7]):=fnM (oF h1 (oF h2 oZ))
theorem x6o (h1:s1=(⟨#[49]⟩:BA)):Fn E F_rational_frac_text [.agg [.s s0,.s s1]] (.s s0):=fnM (oB (seT h1) oZ)
theorem x6p (e1:s0++(⟨#[47]⟩:BA)=s2)(e2:s2++s1=s3)(h1:¬ s1=(⟨#[49]⟩:BA))(h2:s0.size+(⟨#[47]⟩:BA).size≤9223372036854775807)(h3:s2.size+s1.size≤9223372036854775807):Fn E F_rational_frac_text [.agg [.s s0,.s s1]] (.s s3):=by subst e1 e2;exact fnM (oC (seF h1) (oP h2 (oP h3 oZ)))
theorem j0k (h1:Fn E K3 [.s s0] (.tup [.agg [.s s2,.s s3],.b true]))(h2:Fn E K3 [.s s1] (.tup [.agg [.s s4,.s s5],.b true])):Fn E F_rational_both [.s s0,.s s1] (.tup [.agg [.s s2,.s s3],.agg [.s s4,.s s5],.i 0]):=fnM (oF h1 (oF h2 oZ))
theorem x1z (h1:(s0.size:Int)>9):Fn E C2 [.agg [.s s0,.s s1]] (.tup [.i 0,.i 0,.b false]):=fnM (oT h1 oZ)
theorem x2a (h1:¬ (s0.size:Int)>9)(h2:(s1.size:Int)>9):Fn E C2 [.agg [.s s0,.s s1]] (.tup [.i 0,.i 0,.b false]):=fnM (oU h1 (oT h2 oZ))
theorem x2b (h1:¬ (s0.size:Int)>9)(h2:¬ (s1.size:Int)>9)(h3:Fn E z5i [.s s0,.i 10,.i 64] (.tup [.i i0,.undef]))(h4:Fn E z5i [.s s1,.i 10,.i 64] (.tup [.i i1,.undef])):Fn E C2 [.agg [.s s0,.s s1]] (.tup [.i i0,.i i1,.b true]):=fnM (oU h1 (oU h2 (oF h3 (oF h4 oZ))))
def z8q (i0 i1 i2 i3:Int) (s0 s1:BA):St:=stOf 28 [(0,.i i0),(1,.i i1),(4,.ptr 0 0),(5,.i i2),(6,.i i3)] [sC [.s s0,.s s1]]
def y3k (i0 i1:Int) (s0 s1:BA) (i4:Int):St:=stOf 28 [(0,.i i0),(1,.i i1),(4,.ptr 0 0),(5,.i i4)] [sC [.s s0,.s s1]]
theorem k3w (e1:Int.tmod i2 i3=i5)(h1:¬ i3=0)(h2:i3≠0)(ih:Lp E 1 z0f 0 (z8q i0 i1 i3 i5 s0 s1) o t):Lp E 1 z0f 0 (z8q i0 i1 i2 i3 s0 s1) o t:=by subst e1;exact lpM (oB (bnT h1) (oP h2 oZ)) ih
theorem x9g (h1:i3=0):Lp E 1 z0f 0 (z8q i0 i1 i2 i3 s0 s1) (.exit 0) (y3k i0 i1 s0 s1 i2):=lpX (oC (bnF h1) oZ)
theorem j8p (e1:IntKind.i64.wrap (0-i2)=i3)(e2:(if i3>i2 then i3 else i2)=i4)(e3:IntKind.i64.wrap (Int.tdiv i0 i4)=i5)(e4:IntKind.i64.wrap (Int.tdiv i1 i4)=i6)(h1:Lp E 1 z0f 0 (z8q i0 i1 i0 i1 ⟨#[]⟩ ⟨#[]⟩) (.exit 0) (y3k i0 i1 ⟨#[]⟩ ⟨#[]⟩ i2))(h2:i4≠0)(h3:Fn E z4a [.i i5,.i 10] (.s s0))(h4:Fn E z4a [.i i6,.i 10] (.s s1)):Fn E z0f [.i i0,.i i1] (.agg [.s s0,.s s1]):=by subst e1 e2 e3 e4;exact fnM (oL h1 (oP h2 (oF h3 (oP h2 (oF h4 oZ)))))
section
variable (h1:Fn E z5g [.s s0,.s s1] (.s s2))
include h1
theorem k3u (h2:¬ s2=(⟨#[49]⟩:BA))(h3:Fn E y2w [.s s0,.s s2] (.tup [.s s3,.s s4,.i i0]))(h4:Fn E z2a [.s s1,.s s2] (.tup [.s s5,.s s6,.i i1])):Fn E U4 [.s s0,.s s1] (.agg [.s s3,.s s5]):=fnM (oF h1 (oB (snT h2) (oF h3 (oF h4 oZ))))
theorem k3v (h2:s2=(⟨#[49]⟩:BA)):Fn E U4 [.s s0,.s s1] (.agg [.s s0,.s s1]):=fnM (oF h1 (oC (snF h2) oZ))
end
theorem x9h (h1:Fn E y8s [.s s0] (.tup [.s s2,.i i0])):Fn E z9p [.agg [.s s0,.s s1]] (.agg [.s s2,.s s1]):=fnM (oF h1 oZ)
section
variable (h1:Fn E z6s [.s s0,.s ⟨#[47]⟩] (.tup [.s s1,.s s2,.b true]))
include h1
section
variable (h2:Fn E z6l [.s s1] (.b true))
include h2
section
variable (h3:¬ s1=(⟨#[48]⟩:BA))
include h3
section
variable (h4:Fn E D5 [.s s2] (.b true))
include h4
section
variable (h5:¬ s2=(⟨#[48]⟩:BA))
include h5
section
variable (h6:¬ s2=(⟨#[49]⟩:BA))(h7:Fn E z5g [.s s1,.s s2] (.s s3))
include h6 h7
theorem j0o (h8:s3=(⟨#[49]⟩:BA)):Fn E K3 [.s s0] (.tup [.agg [.s s1,.s s2],.b true]):=fnM (oF h1 (oF h2 (oB (snT h3) (oF h4 (oB (snT h5) (oB (snT h6) (oF h7 (oB (seT h8) oZ))))))))
theorem j0p (h8:¬ s3=(⟨#[49]⟩:BA)):Fn E K3 [.s s0] (.tup [.agg [.s s1,.s s2],.b false]):=fnM (oF h1 (oF h2 (oB (snT h3) (oF h4 (oB (snT h5) (oB (snT h6) (oF h7 (oC (seF h8) oZ))))))))
end
theorem j0q (h6:s2=(⟨#[49]⟩:BA)):Fn E K3 [.s s0] (.tup [.agg [.s s1,.s s2],.b false]):=fnM (oF h1 (oF h2 (oB (snT h3) (oF h4 (oB (snT h5) (oC (snF h6) oZ))))))
end
theorem j0r (h5:s2=(⟨#[48]⟩:BA)):Fn E K3 [.s s0] (.tup [.agg [.s s1,.s s2],.b false]):=fnM (oF h1 (oF h2 (oB (snT h3) (oF h4 (oC (snF h5) oZ)))))
end
theorem j0s (h4:Fn E D5 [.s s2] (.b false)):Fn E K3 [.s s0] (.tup [.agg [.s s1,.s s2],.b false]):=fnM (oF h1 (oF h2 (oB (snT h3) (oF h4 oZ))))
end
theorem j0t (h3:s1=(⟨#[48]⟩:BA)):Fn E K3 [.s s0] (.tup [.agg [.s s1,.s s2],.b false]):=fnM (oF h1 (oF h2 (oC (snF h3) oZ)))
end
theorem j0u (h2:Fn E z6l [.s s1] (.b false)):Fn E K3 [.s s0] (.tup [.agg [.s s1,.s s2],.b false]):=fnM (oF h1 (oF h2 oZ))
end
theorem x3c (h1:Fn E z6s [.s s0,.s ⟨#[47]⟩] (.tup [.s s1,.s s2,.b false]))(h2:Fn E z6l [.s s1] (.b b0)):Fn E K3 [.s s0] (.tup [.agg [.s s1,.s ⟨#[49]⟩],.b b0]):=fnM (oF h1 (oF h2 oZ))
theorem k1r (h1:Fn E y8r [.s s0] (.tup [.s s2,.i i0]))(h2:Fn E y8t [.s s2,.s s1] (.tup [.s s3,.i i1])):Fn E z5g [.s s0,.s s1] (.s s3):=fnM (oF h1 (oF h2 oZ))
theorem j5z (h1:Fn E z4e [.c (.u8 45),.s s0,.s s1] (.tup [.s s2,.i i0])):Fn E y6t [.s s0,.s s1] (.tup [.s s2,.i i0]):=fnM (oF h1 oZ)
theorem x0r (h1:Fn E K3 [.s s0] (.tup [.agg [.s s1,.s s2],.b b0])):Fn E z4d [.s s0] (.b b0):=fnM (oF h1 oZ)
theorem k1o (h1:Fn E F_rational_both [.s s0,.s s1] (.tup [.agg [.s s2,.s s3],.agg [.s s4,.s s5],.i i0]))(h2:i0=0)(h3:s0=s1):Fn E Z7 [.s s0,.s s1] (.tup [.i 0,.i i0]):=fnM (oF h1 (oC (bnF h2) (oB (seT h3) oZ)))
theorem k1p (e1:IntKind.i64.wrap (i1-i2)=i3)(e2:(if 1<i3 then 1 else i3)=i4)(e3:(if i4>(-1) then i4 else (-1))=i5)(h1:Fn E F_rational_both [.s s0,.s s1] (.tup [.agg [.s s2,.s s3],.agg [.s s4,.s s5],.i i0]))(h2:i0=0)(h3:¬ s0=s1)(h4:Fn E V6 [.agg [.s s2,.s s3]] (.i i1))(h5:Fn E V6 [.agg [.s s4,.s s5]] (.i i2))(h6:¬ i1=i2):Fn E Z7 [.s s0,.s s1] (.tup [.i i5,.i 0]):=by subst e1 e2 e3;exact fnM (oF h1 (oC (bnF h2) (oC (seF h3) (oF h4 (oF h5 (oB (bnT h6) oZ))))))
theorem k1q (h1:Fn E F_rational_both [.s s0,.s s1] (.tup [.agg [.s s2,.s s3],.agg [.s s4,.s s5],.i i0]))(h2:i0=0)(h3:¬ s0=s1)(h4:Fn E V6 [.agg [.s s2,.s s3]] (.i i1))(h5:Fn E V6 [.agg [.s s4,.s s5]] (.i i2))(h6:i1=i2)(h7:Fn E X5 [.s s2,.s s5] (.tup [.s s6,.i i4]))(h8:Fn E X5 [.s s4,.s s3] (.tup [.s s7,.i i6]))(h9:Fn E y1m [.s s6,.s s7] (.tup [.i i7,.i i8])):Fn E Z7 [.s s0,.s s1] (.tup [.i i7,.i i8]):=fnM (oF h1 (oC (bnF h2) (oC (seF h3) (oF h4 (oF h5 (oC (bnF h6) (oF h7 (oF h8 (oF h9 oZ)))))))))
theorem x6n (h1:Fn E y6s [.s s0] (.tup [.i i0,.i i1])):Fn E V6 [.agg [.s s0,.s s1]] (.i i0):=fnM (oF h1 oZ)
theorem j5y (h1:Fn E z4e [.c (.u8 42),.s s0,.s s1] (.tup [.s s2,.i i0])):Fn E y1q [.s s0,.s s1] (.tup [.s s2,.i i0]):=fnM (oF h1 oZ)
theorem j5x (h1:Fn E z4e [.c (.u8 43),.s s0,.s s1] (.tup [.s s2,.i i0])):Fn E y1p [.s s0,.s s1] (.tup [.s s2,.i i0]):=fnM (oF h1 oZ)
end Gev
namespace Gev
open Go Go.Proofs
variable {E:Env}
variable {o:Out} {t:St} {r0 r1 r2 r3 r4 r5:RW} {i0 i1 i2 i3 i4:Int} {n0 n1:Nat} {s0 s1 s2 s3 s4 s5:BA}
def z0i (i0:Int) (r0 r1:RW):St:=stOf 100 [(1,.ptr 0 0),(3,.i i0)] [sC [.l r0,.l r1]]
def z4j (r0 r1:RW):St:=stOf 100 [(2,.b false)] [sC [.l r0,.l r1]]
def x6q (r0 r1:RW):St:=stOf 100 [(1,.ptr 0 0)] [sC [.l r0,.l r1]]
section
variable (h1:i0<(r0.length:Int))(h2:0≤i0)(h3:r0[(Int.toNat i0)]?=some [.i i1,.i i2,.i i3,.s s0,.s s1,.s s2,.s s3])
include h1 h2 h3
theorem j0v (h4:¬ (s1.size:Int)>40)(h5:¬ (s2.size:Int)>40)(h6:¬ (s3.size:Int)>40)(h7:¬ (s0.size:Int)>70)(e1:IntKind.i64.wrap (i0+1)=i4)(ih:Lp E 1 F4 0 (z0i i4 r0 r1) o t):Lp E 1 F4 0 (z0i i0 r0 r1) o t:=by subst e1;exact lpM (oT h1 (oP h2 (oD h3 (oU h4 (oU h5 (oU h6 (oU h7 oZ))))))) ih
theorem k3x (h4:(s1.size:Int)>40):Lp E 1 F4 0 (z0i i0 r0 r1) .ret (z4j r0 r1):=lpX (oT h1 (oP h2 (oD h3 (oT h4 oZ))))
section
variable (h4:¬ (s1.size:Int)>40)
include h4
theorem k3y (h5:(s2.size:Int)>40):Lp E 1 F4 0 (z0i i0 r0 r1) .ret (z4j r0 r1):=lpX (oT h1 (oP h2 (oD h3 (oU h4 (oT h5 oZ)))))
theorem k3z (h5:¬ (s2.size:Int)>40)(h6:(s3.size:Int)>40):Lp E 1 F4 0 (z0i i0 r0 r1) .ret (z4j r0 r1):=lpX (oT h1 (oP h2 (oD h3 (oU h4 (oU h5 (oT h6 oZ))))))
theorem k4a (h5:¬ (s2.size:Int)>40)(h6:¬ (s3.size:Int)>40)(h7:(s0.size:Int)>70):Lp E 1 F4 0 (z0i i0 r0 r1) .ret (z4j r0 r1):=lpX (oT h1 (oP h2 (oD h3 (oU h4 (oU h5 (oU h6 (oT h7 oZ)))))))
end
end
theorem k4b (h1:¬ i0<(r0.length:Int)):Lp E 1 F4 0 (z0i i0 r0 r1) (.exit 0) (x6q r0 r1):=lpX (oU h1 oZ)
def V2 (i0:Int) (r0 r1:RW):St:=stOf 100 [(1,.ptr 0 0),(5,.i i0)] [sC [.l r0,.l r1]]
def z0q (r0 r1:RW):St:=stOf 100 [(2,.b false)] [sC [.l r0,.l r1]]
def x6r (r0 r1:RW):St:=stOf 100 [(1,.ptr 0 0)] [sC [.l r0,.l r1]]
section
variable (h1:i0<(r1.length:Int))(h2:0≤i0)(h3:r1[(Int.toNat i0)]?=some [.i i1,.s s0,.s s1,.s s2,.s s3,.s s4,.s s5])
include h1 h2 h3
theorem j0w (h4:¬ (s1.size:Int)>40)(h5:¬ (s2.size:Int)>40)(h6:¬ (s3.size:Int)>40)(h7:¬ (s4.size:Int)>40)(h8:¬ (s5.size:Int)>40)(h9:¬ (s0.size:Int)>70)(e1:IntKind.i64.wrap (i0+1)=i2)(ih:Lp E 1 F4 1 (V2 i2 r0 r1) o t):Lp E 1 F4 1 (V2 i0 r0 r1) o t:=by subst e1;exact lpM (oT h1 (oP h2 (oD h3 (oU h4 (oU h5 (oU h6 (oU h7 (oU h8 (oU h9 oZ))))))))) ih
theorem k4c (h4:(s1.size:Int)>40):Lp E 1 F4 1 (V2 i0 r0 r1) .ret (z0q r0 r1):=lpX (oT h1 (oP h2 (oD h3 (oT h4 oZ))))
section
variable (h4:¬ (s1.size:Int)>40)
include h4
theorem k4d (h5:(s2.size:Int)>40):Lp E 1 F4 1 (V2 i0 r0 r1) .ret (z0q r0 r1):=lpX (oT h1 (oP h2 (oD h3 (oU h4 (oT h5 oZ)))))
section
variable (h5:¬ (s2.size:Int)>40)
include h5
theorem k4e (h6:(s3.size:Int)>40):Lp E 1 F4 1 (V2 i0 r0 r1) .ret (z0q r0 r1):=lpX (oT h1 (oP h2 (oD h3 (oU h4 (oU h5 (oT h6 oZ))))))
section
variable (h6:¬ (s3.size:Int)>40)
include h6
theorem k4f (h7:(s4.size:Int)>40):Lp E 1 F4 1 (V2 i0 r0 r1) .ret (z0q r0 r1):=lpX (oT h1 (oP h2 (oD h3 (oU h4 (oU h5 (oU h6 (oT h7 oZ)))))))
theorem k4g (h7:¬ (s4.size:Int)>40)(h8:(s5.size:Int)>40):Lp E 1 F4 1 (V2 i0 r0 r1) .ret (z0q r0 r1):=lpX (oT h1 (oP h2 (oD h3 (oU h4 (oU h5 (oU h6 (oU h7 (oT h8 oZ))))))))
theorem k4h (h7:¬ (s4.size:Int)>40)(h8:¬ (s5.size:Int)>40)(h9:(s0.size:Int)>70):Lp E 1 F4 1 (V2 i0 r0 r1) .ret (z0q r0 r1):=lpX (oT h1 (oP h2 (oD h3 (oU h4 (oU h5 (oU h6 (oU h7 (oU h8 (oT h9 oZ)))))))))
end
end
end
end
theorem k4i (h1:¬ i0<(r1.length:Int)):Lp E 1 F4 1 (V2 i0 r0 r1) (.exit 2) (x6r r0 r1):=lpX (oU h1 oZ)
theorem q4c (h1:Lp E 1 F4 0 (z0i 0 r0 r1) .ret (z4j r0 r1)):Fn E F4 [.agg [.l r0,.l r1]] (.b false):=fnM (oL h1 oZ)
section
variable (h1:Lp E 1 F4 0 (z0i 0 r0 r1) (.exit 0) (x6q r0 r1))
include h1
theorem q4d (h2:Lp E 1 F4 1 (V2 0 r0 r1) .ret (z0q r0 r1)):Fn E F4 [.agg [.l r0,.l r1]] (.b false):=fnM (oL h1 (oL h2 oZ))
section
variable (h2:Lp E 1 F4 1 (V2 0 r0 r1) (.exit 2) (x6r r0 r1))
include h2
theorem q4e (h3:(r0.length:Int)≤7)(h4:(r1.length:Int)≤7):Fn E F4 [.agg [.l r0,.l r1]] (.b true):=fnM (oL h1 (oL h2 (oT h3 (oT h4 oZ))))
theorem q4f (h3:(r0.length:Int)≤7)(h4:¬ (r1.length:Int)≤7):Fn E F4 [.agg [.l r0,.l r1]] (.b false):=fnM (oL h1 (oL h2 (oT h3 (oU h4 oZ))))
theorem q4g (h3:¬ (r0.length:Int)≤7):Fn E F4 [.agg [.l r0,.l r1]] (.b false):=fnM (oL h1 (oL h2 (oU h3 oZ)))
end
end
theorem q2d (h1:∀ y∈r0,y.length=7)(h2:(0+r0.length)*88≤140737488355328∧0+r0.length≤140737488355328)(h3:∀ y∈r1,y.length=7)(h4:(0+r1.length)*104≤140737488355328∧0+r1.length≤140737488355328)(e1:(([]:RW).take 0)++r0=r2)(e2:0+r0.length=n0)(e3:(([]:RW).take 0)++r1=r3)(e4:0+r1.length=n1)(e5:(r2.take n0)=r4)(e6:(r3.take n1)=r5):Fn E x1g [.agg [.l r0,.l r1]] (.agg [.l r4,.l r5]):=by subst e1 e2 e3 e4 e5 e6;exact fnM (oP h1 (oP h2 (oP h3 (oP h4 oZ))))
end Gev
namespace Gev
open Go Go.Proofs
variable {E:Env}
variable {o:Out} {t:St} {r0 r1 r2 r3 r4:RW} {i0 i1 i2 i3 i4 i5 i6 i7 i8 i9 i10 i11:Int} {n0 n1:Nat} {s0 s1 s2 s3 s4 s5 s6 s7 s8:BA}
def U3 (r0 r1:RW) (i0 i1:Int):St:=stOf 26 [(0,.l r0),(1,.l r1),(12,.i i0),(13,.i i1)] []
def z7d:St:=stOf 26 [(4,.b false)] []
def y2v:St:=stOf 26 [] []
section
variable (h1:i1<i0)(h2:0≤i1)(h3:r0[(Int.toNat i1)]?=some [.i i2])(h4:r1[(Int.toNat i1)]?=some [.i i3])
include h1 h2 h3 h4
theorem x2c (h5:i2=i3)(e1:IntKind.i64.wrap (i1+1)=i4)(ih:Lp E 0 G9 0 (U3 r0 r1 i0 i4) o t):Lp E 0 G9 0 (U3 r0 r1 i0 i1) o t:=by subst e1;exact lpM (oT h1 (oP h2 (oD h3 (oP h2 (oD h4 (oC (bnF h5) oZ)))))) ih
theorem y9h (h5:¬ i2=i3):Lp E 0 G9 0 (U3 r0 r1 i0 i1) .ret (z7d):=lpX (oT h1 (oP h2 (oD h3 (oP h2 (oD h4 (oB (bnT h5) oZ))))))
end
theorem y9i (h1:¬ i1<i0):Lp E 0 G9 0 (U3 r0 r1 i0 i1) (.exit 0) (y2v):=lpX (oU h1 oZ)
theorem k1u (h1:¬ (r0.length:Int)=(r1.length:Int)):Fn E G9 [.l r0,.l r1] (.b false):=fnM (oB (bnT h1) oZ)
section
variable (h1:(r0.length:Int)=(r1.length:Int))
include h1
theorem k1v (h2:Lp E 0 G9 0 (U3 r0 r1 (r0.length:Int) 0) .ret (z7d)):Fn E G9 [.l r0,.l r1] (.b false):=fnM (oC (bnF h1) (oL h2 oZ))
theorem k1w (h2:Lp E 0 G9 0 (U3 r0 r1 (r0.length:Int) 0) (.exit 0) (y2v)):Fn E G9 [.l r0,.l r1] (.b true):=fnM (oC (bnF h1) (oL h2 oZ))
end
def M4 (n0:Nat) (i0 i1:Int) (r0:RW) (i2:Int):St:=stOf 42 [(0,.vec 0 n0),(1,.fn B7 [.ptr 1 0]),(5,.i i0),(6,.i i1)] [sV N1 r0,sC [.i i2]]
def z2p (n0:Nat) (i2 i3:Int) (r1:RW):St:=stOf 42 [(0,.vec 0 n0),(5,.i i3)] [sV N1 r1,sC [.i i2]]
section
variable (h1:i1<((n0:Nat):Int))(h2:0≤i1∧i1<((n0:Nat):Int))(h3:r0[(Int.toNat i1)]?=some [.i i4])
include h1 h2 h3
theorem y6g (h4:Rn E B7 [.i i4,.ptr 1 0] [sV N1 r0,sC [.i i2]] (.b true) [sV N1 r0,sC [.i i2]])(e1:IntKind.i64.wrap (i1+1)=i5)(ih:Lp E 2 D9 0 (M4 n0 i0 i5 r0 i2) o t):Lp E 2 D9 0 (M4 n0 i0 i1 r0 i2) o t:=by subst e1;exact lpM (oT h1 (oP h2 (oD h3 (oR h4 oZ)))) ih
theorem y6h (h4:Rn E B7 [.i i4,.ptr 1 0] [sV N1 r0,sC [.i i2]] (.b false) [sV N1 r0,sC [.i i2]])(h5:0≤i0∧i0<((n0:Nat):Int))(h6:r0[(Int.toNat i0)]?=some [.i i5])(e1:List.set r0 (Int.toNat i0) [.i i4]=r2)(e2:IntKind.i64.wrap (i0+1)=i6)(e3:IntKind.i64.wrap (i1+1)=i7)(ih:Lp E 2 D9 0 (M4 n0 i6 i7 r2 i2) o t):Lp E 2 D9 0 (M4 n0 i0 i1 r0 i2) o t:=by subst e1 e2 e3;exact lpM (oT h1 (oP h2 (oD h3 (oR h4 (oP h5 (oD h6 oZ)))))) ih
end
theorem y4m (h1:¬ i1<((n0:Nat):Int)):Lp E 2 D9 0 (M4 n0 i0 i1 r0 i2) (.exit 0) (z2p n0 i2 i0 r0):=lpX (oU h1 oZ)
section
variable (h1:Rn E H2 [.vec 0 n0,.fn B7 [.ptr 1 0]] [sV N1 r0,sC [.i i0]] (.i i1) [sV N1 r0,sC [.i i0]])
include h1
theorem z3w (h2:i1=(-1)):Rn E D9 [.vec 0 n0,.fn B7 [.ptr 1 0]] [sV N1 r0,sC [.i i0]] (.vec 0 n0) [sV N1 r0,sC [.i i0]]:=rnM (oR h1 (oB (beT h2) oZ))
theorem z3x (h2:¬ i1=(-1))(h3:Lp E 2 D9 0 (M4 n0 i1 i2 r0 i0) (.exit 0) (z2p n0 i0 i3 r1))(h4:0≤i3∧i3≤((n0:Nat):Int)∧((n0:Nat):Int)≤((n0:Nat):Int))(h5:0≤i3∧i3≤((n0:Nat):Int))(e1:IntKind.i64.wrap (i1+1)=i2)(e2:(r1.take (Int.toNat i3))++List.replicate (n0-(Int.toNat i3)) [.i 0]++List.drop n0 r1=r2)(e3:(Int.toNat i3)=n1):Rn E D9 [.vec 0 n0,.fn B7 [.ptr 1 0]] [sV N1 r0,sC [.i i0]] (.vec 0 n1) [sV N1 r2,sC [.i i0]]:=by subst e1 e2 e3;exact rnM (oR h1 (oC (beF h2) (oL h3 (oG (oP h4 (oP h5 oZ))))))
end
def J7 (n0:Nat) (i0 i1:Int) (r0:RW) (s0:BA):St:=stOf 42 [(0,.vec 0 n0),(1,.fn F2 [.ptr 1 0]),(5,.i i0),(6,.i i1)] [sV C9 r0,sC [.s s0]]
def z1s (n0:Nat) (s0:BA) (i2:Int) (r1:RW):St:=stOf 42 [(0,.vec 0 n0),(5,.i i2)] [sV C9 r1,sC [.s s0]]
section
variable (h1:i1<((n0:Nat):Int))(h2:0≤i1∧i1<((n0:Nat):Int))(h3:r0[(Int.toNat i1)]?=some [.s s1,.i i3,.l r2,.s s2,.s s3,.i i4,.i i5])
include h1 h2 h3
theorem y5c (h4:Rn E F2 [.agg [.s s1,.i i3,.l r2,.s s2,.s s3,.i i4,.i i5],.ptr 1 0] [sV C9 r0,sC [.s s0],sC [.s s1,.i i3,.l r2,.s s2,.s s3,.i i4,.i i5]] (.b true) [sV C9 r0,sC [.s s0],sC [.s s1,.i i3,.l r2,.s s2,.s s3,.i i4,.i i5]])(e1:IntKind.i64.wrap (i1+1)=i6)(ih:Lp E 2 D7 0 (J7 n0 i0 i6 r0 s0) o t):Lp E 2 D7 0 (J7 n0 i0 i1 r0 s0) o t:=by subst e1;exact lpM (oT h1 (oP h2 (oD h3 (oR h4 oZ)))) ih
theorem y5d (h4:Rn E F2 [.agg [.s s1,.i i3,.l r2,.s s2,.s s3,.i i4,.i i5],.ptr 1 0] [sV C9 r0,sC [.s s0],sC [.s s1,.i i3,.l r2,.s s2,.s s3,.i i4,.i i5]] (.b false) [sV C9 r0,sC [.s s0],sC [.s s1,.i i3,.l r2,.s s2,.s s3,.i i4,.i i5]])(h5:0≤i0∧i0<((n0:Nat):Int))(h6:r0[(Int.toNat i0)]?=some [.s s4,.i i7,.l r3,.s s5,.s s6,.i i8,.i i9])(e1:List.set r0 (Int.toNat i0) [.s s1,.i i3,.l r2,.s s2,.s s3,.i i4,.i i5]=r4)(e2:IntKind.i64.wrap (i0+1)=i10)(e3:IntKind.i64.wrap (i1+1)=i11)(ih:Lp E 2 D7 0 (J7 n0 i10 i11 r4 s0) o t):Lp E 2 D7 0 (J7 n0 i0 i1 r0 s0) o t:=by subst e1 e2 e3;exact lpM (oT h1 (oP h2 (oD h3 (oR h4 (oP h5 (oD h6 oZ)))))) ih
end
theorem y3l (h1:¬ i1<((n0:Nat):Int)):Lp E 2 D7 0 (J7 n0 i0 i1 r0 s0) (.exit 0) (z1s n0 s0 i0 r0):=lpX (oU h1 oZ)
section
variable (h1:Rn E B5 [.vec 0 n0,.fn F2 [.ptr 1 0]] [sV C9 r0,sC [.s s0]] (.i i0) [sV C9 r0,sC [.s s0]])
include h1
theorem z7b (h2:i0=(-1)):Rn E D7 [.vec 0 n0,.fn F2 [.ptr 1 0]] [sV C9 r0,sC [.s s0]] (.vec 0 n0) [sV C9 r0,sC [.s s0]]:=rnM (oR h1 (oB (beT h2) oZ))
theorem z7c (h2:¬ i0=(-1))(h3:Lp E 2 D7 0 (J7 n0 i0 i1 r0 s0) (.exit 0) (z1s n0 s0 i2 r1))(h4:0≤i2∧i2≤((n0:Nat):Int)∧((n0:Nat):Int)≤((n0:Nat):Int))(h5:0≤i2∧i2≤((n0:Nat):Int))(e1:IntKind.i64.wrap (i0+1)=i1)(e2:(r1.take (Int.toNat i2))++List.replicate (n0-(Int.toNat i2)) [.s ⟨#[]⟩,.i 0,.l [],.s ⟨#[]⟩,.s ⟨#[]⟩,.i 0,.i 0]++List.drop n0 r1=r2)(e3:(Int.toNat i2)=n1):Rn E D7 [.vec 0 n0,.fn F2 [.ptr 1 0]] [sV C9 r0,sC [.s s0]] (.vec 0 n1) [sV C9 r2,sC [.s s0]]:=by subst e1 e2 e3;exact rnM (oR h1 (oC (beF h2) (oL h3 (oG (oP h4 (oP h5 oZ))))))
end
def N9 (n0:Nat) (i0 i1:Int) (r0:RW) (i2:Int):St:=stOf 19 [(0,.vec 0 n0),(1,.fn B7 [.ptr 1 0]),(7,.i i0),(8,.i i1)] [sV N1 r0,sC [.i i2]]
def z3f (r0:RW) (i2 i3:Int):St:=stOf 19 [(4,.i i3)] [sV N1 r0,sC [.i i2]]
def z9o (r0:RW) (i2:Int):St:=stOf 19 [] [sV N1 r0,sC [.i i2]]
section
variable (h1:i1<i0)(h2:0≤i1∧i1<((n0:Nat):Int))(h3:r0[(Int.toNat i1)]?=some [.i i4])
include h1 h2 h3
theorem y7k (h4:Rn E B7 [.i i4,.ptr 1 0] [sV N1 r0,sC [.i i2]] (.b false) [sV N1 r0,sC [.i i2]])(e1:IntKind.i64.wrap (i1+1)=i5)(ih:Lp E 2 H2 0 (N9 n0 i0 i5 r0 i2) o t):Lp E 2 H2 0 (N9 n0 i0 i1 r0 i2) o t:=by subst e1;exact lpM (oT h1 (oP h2 (oD h3 (oR h4 oZ)))) ih
theorem y5m (h4:Rn E B7 [.i i4,.ptr 1 0] [sV N1 r0,sC [.i i2]] (.b true) [sV N1 r0,sC [.i i2]]):Lp E 2 H2 0 (N9 n0 i0 i1 r0 i2) .ret (z3f r0 i2 i1):=lpX (oT h1 (oP h2 (oD h3 (oR h4 oZ))))
end
theorem y5n (h1:¬ i1<i0):Lp E 2 H2 0 (N9 n0 i0 i1 r0 i2) (.exit 0) (z9o r0 i2):=lpX (oU h1 oZ)
theorem z4k (h1:Lp E 2 H2 0 (N9 n0 ((n0:Nat):Int) 0 r0 i0) .ret (z3f r0 i0 i1)):Rn E H2 [.vec 0 n0,.fn B7 [.ptr 1 0]] [sV N1 r0,sC [.i i0]] (.i i1) [sV N1 r0,sC [.i i0]]:=rnM (oL h1 oZ)
theorem z4l (h1:Lp E 2 H2 0 (N9 n0 ((n0:Nat):Int) 0 r0 i0) (.exit 0) (z9o r0 i0)):Rn E H2 [.vec 0 n0,.fn B7 [.ptr 1 0]] [sV N1 r0,sC [.i i0]] (.i (-1)) [sV N1 r0,sC [.i i0]]:=rnM (oL h1 oZ)
section
variable (h1:Fn E B8 [.l r0,.fn G1 []] (.i i0))
include h1
theorem z5t (h2:i0≥0):Fn E G6 [.l r0,.fn G1 []] (.b true):=fnM (oF h1 (oT h2 oZ))
theorem z5u (h2:¬ i0≥0):Fn E G6 [.l r0,.fn G1 []] (.b false):=fnM (oF h1 (oU h2 oZ))
end
section
variable (h1:Rn E B5 [.l r0,.fn F5 [.ptr 0 0]] [sC [.s s0,.i i0,.l r1,.s s1,.s s2,.i i1,.i i2]] (.i i3) [sC [.s s0,.i i0,.l r1,.s s1,.s s2,.i i1,.i i2]])
include h1
theorem z4r (h2:i3≥0):Rn E P8 [.l r0,.fn F5 [.ptr 0 0]] [sC [.s s0,.i i0,.l r1,.s s1,.s s2,.i i1,.i i2]] (.b true) [sC [.s s0,.i i0,.l r1,.s s1,.s s2,.i i1,.i i2]]:=rnM (oR h1 (oT h2 oZ))
theorem z4s (h2:¬ i3≥0):Rn E P8 [.l r0,.fn F5 [.ptr 0 0]] [sC [.s s0,.i i0,.l r1,.s s1,.s s2,.i i1,.i i2]] (.b false) [sC [.s s0,.i i0,.l r1,.s s1,.s s2,.i i1,.i i2]]:=rnM (oR h1 (oU h2 oZ))
end
def M5 (r0:RW) (i0 i1:Int) (r1 r2 r3:RW):St:=stOf 19 [(0,.l r0),(1,.fn H3 [.ptr 0 0,.ptr 1 0]),(7,.i i0),(8,.i i1)] [sC [.l r1,.l r2],sC [.l r3]]
def z2q (r1 r2 r3:RW) (i2:Int):St:=stOf 19 [(4,.i i2)] [sC [.l r1,.l r2],sC [.l r3]]
def z8s (r1 r2 r3:RW):St:=stOf 19 [] [sC [.l r1,.l r2],sC [.l r3]]
section
variable (h1:i1<i0)(h2:0≤i1)(h3:r0[(Int.toNat i1)]?=some [.i i3,.s s0,.s s1,.s s2,.s s3,.s s4,.s s5])
include h1 h2 h3
theorem y6i (h4:Rn E H3 [.agg [.i i3,.s s0,.s s1,.s s2,.s s3,.s s4,.s s5],.ptr 0 0,.ptr 1 0] [sC [.l r1,.l r2],sC [.l r3]] (.b false) [sC [.l r1,.l r2],sC [.l r3]])(e1:IntKind.i64.wrap (i1+1)=i4)(ih:Lp E 2 A9 0 (M5 r0 i0 i4 r1 r2 r3) o t):Lp E 2 A9 0 (M5 r0 i0 i1 r1 r2 r3) o t:=by subst e1;exact lpM (oT h1 (oP h2 (oD h3 (oR h4 oZ)))) ih
theorem y4n (h4:Rn E H3 [.agg [.i i3,.s s0,.s s1,.s s2,.s s3,.s s4,.s s5],.ptr 0 0,.ptr 1 0] [sC [.l r1,.l r2],sC [.l r3]] (.b true) [sC [.l r1,.l r2],sC [.l r3]]):Lp E 2 A9 0 (M5 r0 i0 i1 r1 r2 r3) .ret (z2q r1 r2 r3 i1):=lpX (oT h1 (oP h2 (oD h3 (oR h4 oZ))))
end
theorem y4o (h1:¬ i1<i0):Lp E 2 A9 0 (M5 r0 i0 i1 r1 r2 r3) (.exit 0) (z8s r1 r2 r3):=lpX (oU h1 oZ)
theorem z4v (h1:Lp E 2 A9 0 (M5 r0 (r0.length:Int) 0 r1 r2 r3) .ret (z2q r1 r2 r3 i0)):Rn E A9 [.l r0,.fn H3 [.ptr 0 0,.ptr 1 0]] [sC [.l r1,.l r2],sC [.l r3]] (.i i0) [sC [.l r1,.l r2],sC [.l r3]]:=rnM (oL h1 oZ)
theorem z4w (h1:Lp E 2 A9 0 (M5 r0 (r0.length:Int) 0 r1 r2 r3) (.exit 0) (z8s r1 r2 r3)):Rn E A9 [.l r0,.fn H3 [.ptr 0 0,.ptr 1 0]] [sC [.l r1,.l r2],sC [.l r3]] (.i (-1)) [sC [.l r1,.l r2],sC [.l r3]]:=rnM (oL h1 oZ)
def M7 (n0:Nat) (i0 i1:Int) (r0:RW) (s0:BA):St:=stOf 19 [(0,.vec 0 n0),(1,.fn F2 [.ptr 1 0]),(7,.i i0),(8,.i i1)] [sV C9 r0,sC [.s s0]]
def z2s (r0:RW) (s0:BA) (i2:Int):St:=stOf 19 [(4,.i i2)] [sV C9 r0,sC [.s s0]]
def z8u (r0:RW) (s0:BA):St:=stOf 19 [] [sV C9 r0,sC [.s s0]]
section
variable (h1:i1<i0)(h2:0≤i1∧i1<((n0:Nat):Int))(h3:r0[(Int.toNat i1)]?=some [.s s1,.i i3,.l r1,.s s2,.s s3,.i i4,.i i5])
include h1 h2 h3
theorem y6k (h4:Rn E F2 [.agg [.s s1,.i i3,.l r1,.s s2,.s s3,.i i4,.i i5],.ptr 1 0] [sV C9 r0,sC [.s s0]] (.b false) [sV C9 r0,sC [.s s0]])(e1:IntKind.i64.wrap (i1+1)=i6)(ih:Lp E 2 B5 0 (M7 n0 i0 i6 r0 s0) o t):Lp E 2 B5 0 (M7 n0 i0 i1 r0 s0) o t:=by subst e1;exact lpM (oT h1 (oP h2 (oD h3 (oR h4 oZ)))) ih
theorem y4s (h4:Rn E F2 [.agg [.s s1,.i i3,.l r1,.s s2,.s s3,.i i4,.i i5],.ptr 1 0] [sV C9 r0,sC [.s s0]] (.b true) [sV C9 r0,sC [.s s0]]):Lp E 2 B5 0 (M7 n0 i0 i1 r0 s0) .ret (z2s r0 s0 i1):=lpX (oT h1 (oP h2 (oD h3 (oR h4 oZ))))
end
theorem y4t (h1:¬ i1<i0):Lp E 2 B5 0 (M7 n0 i0 i1 r0 s0) (.exit 0) (z8u r0 s0):=lpX (oU h1 oZ)
theorem z8a (h1:Lp E 2 B5 0 (M7 n0 ((n0:Nat):Int) 0 r0 s0) .ret (z2s r0 s0 i0)):Rn E B5 [.vec 0 n0,.fn F2 [.ptr 1 0]] [sV C9 r0,sC [.s s0]] (.i i0) [sV C9 r0,sC [.s s0]]:=rnM (oL h1 oZ)
theorem z8b (h1:Lp E 2 B5 0 (M7 n0 ((n0:Nat):Int) 0 r0 s0) (.exit 0) (z8u r0 s0)):Rn E B5 [.vec 0 n0,.fn F2 [.ptr 1 0]] [sV C9 r0,sC [.s s0]] (.i (-1)) [sV C9 r0,sC [.s s0]]:=rnM (oL h1 oZ)
section
variable (h1:Fn E B8 [.l r0,.fn I5 []] (.i i0))
include h1
theorem z6z (h2:i0≥0):Fn E G6 [.l r0,.fn I5 []] (.b true):=fnM (oF h1 (oT h2 oZ))
theorem z7a (h2:¬ i0≥0):Fn E G6 [.l r0,.fn I5 []] (.b false):=fnM (oF h1 (oU h2 oZ))
end
def N8 (r0:RW) (i0 i1:Int):St:=stOf 19 [(0,.l r0),(1,.fn G1 []),(7,.i i0),(8,.i i1)] []
def z3e (i2:Int):St:=stOf 19 [(4,.i i2)] []
def z9n:St:=stOf 19 [] []
section
variable (h1:i1<i0)(h2:0≤i1)(h3:r0[(Int.toNat i1)]?=some [.s s0])
include h1 h2 h3
theorem y7j (h4:Fn E G1 [.s s0] (.b false))(e1:IntKind.i64.wrap (i1+1)=i3)(ih:Lp E 0 B8 0 (N8 r0 i0 i3) o t):Lp E 0 B8 0 (N8 r0 i0 i1) o t:=by subst e1;exact lpM (oT h1 (oP h2 (oD h3 (oF h4 oZ)))) ih
theorem y5i (h4:Fn E G1 [.s s0] (.b true)):Lp E 0 B8 0 (N8 r0 i0 i1) .ret (z3e i1):=lpX (oT h1 (oP h2 (oD h3 (oF h4 oZ))))
end
theorem y5j (h1:¬ i1<i0):Lp E 0 B8 0 (N8 r0 i0 i1) (.exit 0) (z9n):=lpX (oU h1 oZ)
theorem z7y (h1:Lp E 0 B8 0 (N8 r0 (r0.length:Int) 0) .ret (z3e i0)):Fn E B8 [.l r0,.fn G1 []] (.i i0):=fnM (oL h1 oZ)
theorem z7z (h1:Lp E 0 B8 0 (N8 r0 (r0.length:Int) 0) (.exit 0) (z9n)):Fn E B8 [.l r0,.fn G1 []] (.i (-1)):=fnM (oL h1 oZ)
def K1 (r0:RW) (i0 i1:Int) (s0:BA) (i2:Int) (r1:RW) (s1 s2:BA) (i3 i4:Int):St:=stOf 19 [(0,.l r0),(1,.fn F5 [.ptr 0 0]),(7,.i i0),(8,.i i1)] [sC [.s s0,.i i2,.l r1,.s s1,.s s2,.i i3,.i i4]]
def z1w (s0:BA) (i2:Int) (r1:RW) (s1 s2:BA) (i3 i4 i5:Int):St:=stOf 19 [(4,.i i5)] [sC [.s s0,.i i2,.l r1,.s s1,.s s2,.i i3,.i i4]]
def z7u (s0:BA) (i2:Int) (r1:RW) (s1 s2:BA) (i3 i4:Int):St:=stOf 19 [] [sC [.s s0,.i i2,.l r1,.s s1,.s s2,.i i3,.i i4]]
section
variable (h1:i1<i0)(h2:0≤i1)(h3:r0[(Int.toNat i1)]?=some [.s s3,.i i6,.l r2,.s s4,.s s5,.i i7,.i i8])
include h1 h2 h3
theorem y5k (h4:Rn E F5 [.agg [.s s3,.i i6,.l r2,.s s4,.s s5,.i i7,.i i8],.ptr 0 0] [sC [.s s0,.i i2,.l r1,.s s1,.s s2,.i i3,.i i4]] (.b false) [sC [.s s0,.i i2,.l r1,.s s1,.s s2,.i i3,.i i4]])(e1:IntKind.i64.wrap (i1+1)=i9)(ih:Lp E 1 B5 0 (K1 r0 i0 i9 s0 i2 r1 s1 s2 i3 i4) o t):Lp E 1 B5 0 (K1 r0 i0 i1 s0 i2 r1 s1 s2 i3 i4) o t:=by subst e1;exact lpM (oT h1 (oP h2 (oD h3 (oR h4 oZ)))) ih
theorem y3u (h4:Rn E F5 [.agg [.s s3,.i i6,.l r2,.s s4,.s s5,.i i7,.i i8],.ptr 0 0] [sC [.s s0,.i i2,.l r1,.s s1,.s s2,.i i3,.i i4]] (.b true) [sC [.s s0,.i i2,.l r1,.s s1,.s s2,.i i3,.i i4]]):Lp E 1 B5 0 (K1 r0 i0 i1 s0 i2 r1 s1 s2 i3 i4) .ret (z1w s0 i2 r1 s1 s2 i3 i4 i1):=lpX (oT h1 (oP h2 (oD h3 (oR h4 oZ))))
end
theorem y3v (h1:¬ i1<i0):Lp E 1 B5 0 (K1 r0 i0 i1 s0 i2 r1 s1 s2 i3 i4) (.exit 0) (z7u s0 i2 r1 s1 s2 i3 i4):=lpX (oU h1 oZ)
theorem z7g (h1:Lp E 1 B5 0 (K1 r0 (r0.length:Int) 0 s0 i0 r1 s1 s2 i1 i2) .ret (z1w s0 i0 r1 s1 s2 i1 i2 i3)):Rn E B5 [.l r0,.fn F5 [.ptr 0 0]] [sC [.s s0,.i i0,.l r1,.s s1,.s s2,.i i1,.i i2]] (.i i3) [sC [.s s0,.i i0,.l r1,.s s1,.s s2,.i i1,.i i2]]:=rnM (oL h1 oZ)
theorem z7h (h1:Lp E 1 B5 0 (K1 r0 (r0.length:Int) 0 s0 i0 r1 s1 s2 i1 i2) (.exit 0) (z7u s0 i0 r1 s1 s2 i1 i2)):Rn E B5 [.l r0,.fn F5 [.ptr 0 0]] [sC [.s s0,.i i0,.l r1,.s s1,.s s2,.i i1,.i i2]] (.i (-1)) [sC [.s s0,.i i0,.l r1,.s s1,.s s2,.i i1,.i i2]]:=rnM (oL h1 oZ)
section
variable (h1:Rn E A9 [.l r0,.fn F7 [.ptr 0 0]] [sC [.s s0,.i i0,.l r1,.s s1,.s s2,.i i1,.i i2]] (.i i3) [sC [.s s0,.i i0,.l r1,.s s1,.s s2,.i i1,.i i2]])
include h1
theorem z4p (h2:i3≥0):Rn E P7 [.l r0,.fn F7 [.ptr 0 0]] [sC [.s s0,.i i0,.l r1,.s s1,.s s2,.i i1,.i i2]] (.b true) [sC [.s s0,.i i0,.l r1,.s s1,.s s2,.i i1,.i i2]]:=rnM (oR h1 (oT h2 oZ))
theorem z4q (h2:¬ i3≥0):Rn E P7 [.l r0,.fn F7 [.ptr 0 0]] [sC [.s s0,.i i0,.l r1,.s s1,.s s2,.i i1,.i i2]] (.b false) [sC [.s s0,.i i0,.l r1,.s s1,.s s2,.i i1,.i i2]]:=rnM (oR h1 (oU h2 oZ))
end
section
variable (h1:Rn E A4 [.l r0,.fn F8 [.ptr 0 0]] [sC [.s s0,.i i0,.l r1,.s s1,.s s2,.i i1,.i i2]] (.i i3) [sC [.s s0,.i i0,.l r1,.s s1,.s s2,.i i1,.i i2]])
include h1
theorem z3u (h2:i3≥0):Rn E P0 [.l r0,.fn F8 [.ptr 0 0]] [sC [.s s0,.i i0,.l r1,.s s1,.s s2,.i i1,.i i2]] (.b true) [sC [.s s0,.i i0,.l r1,.s s1,.s s2,.i i1,.i i2]]:=rnM (oR h1 (oT h2 oZ))
theorem z3v (h2:¬ i3≥0):Rn E P0 [.l r0,.fn F8 [.ptr 0 0]] [sC [.s s0,.i i0,.l r1,.s s1,.s s2,.i i1,.i i2]] (.b false) [sC [.s s0,.i i0,.l r1,.s s1,.s s2,.i i1,.i i2]]:=rnM (oR h1 (oU h2 oZ))
end
section
variable (h1:Rn E B6 [.l r0,.fn F6 [.ptr 0 0,.ptr 1 0]] [sC [.s s0,.i i0,.l r1,.s s1,.s s2,.i i1,.i i2],sC [.l r2,.l r3,.l r4]] (.i i3) [sC [.s s0,.i i0,.l r1,.s s1,.s s2,.i i1,.i i2],sC [.l r2,.l r3,.l r4]])
include h1
theorem z4t (h2:i3≥0):Rn E X9 [.l r0,.fn F6 [.ptr 0 0,.ptr 1 0]] [sC [.s s0,.i i0,.l r1,.s s1,.s s2,.i i1,.i i2],sC [.l r2,.l r3,.l r4]] (.b true) [sC [.s s0,.i i0,.l r1,.s s1,.s s2,.i i1,.i i2],sC [.l r2,.l r3,.l r4]]:=rnM (oR h1 (oT h2 oZ))
theorem z4u (h2:¬ i3≥0):Rn E X9 [.l r0,.fn F6 [.ptr 0 0,.ptr 1 0]] [sC [.s s0,.i i0,.l r1,.s s1,.s s2,.i i1,.i i2],sC [.l r2,.l r3,.l r4]] (.b false) [sC [.s s0,.i i0,.l r1,.s s1,.s s2,.i i1,.i i2],sC [.l r2,.l r3,.l r4]]:=rnM (oR h1 (oU h2 oZ))
end
def J1 (r0:RW) (i0 i1:Int) (s0:BA) (i2:Int) (r1:RW) (s1 s2:BA) (i3 i4:Int):St:=stOf 19 [(0,.l r0),(1,.fn O6 [.ptr 0 0]),(7,.i i0),(8,.i i1)] [sC [.s s0,.i i2,.l r1,.s s1,.s s2,.i i3,.i i4]]
def z1d (s0:BA) (i2:Int) (r1:RW) (s1 s2:BA) (i3 i4 i5:Int):St:=stOf 19 [(4,.i i5)] [sC [.s s0,.i i2,.l r1,.s s1,.s s2,.i i3,.i i4]]
def z6q (s0:BA) (i2:Int) (r1:RW) (s1 s2:BA) (i3 i4:Int):St:=stOf 19 [] [sC [.s s0,.i i2,.l r1,.s s1,.s s2,.i i3,.i i4]]
section
variable (h1:i1<i0)(h2:0≤i1)(h3:r0[(Int.toNat i1)]?=some [.i i6,.i i7,.i i8,.s s3,.s s4,.s s5,.s s6])
include h1 h2 h3
theorem y4p (h4:Rn E O6 [.agg [.i i6,.i i7,.i i8,.s s3,.s s4,.s s5,.s s6],.ptr 0 0] [sC [.s s0,.i i2,.l r1,.s s1,.s s2,.i i3,.i i4]] (.b false) [sC [.s s0,.i i2,.l r1,.s s1,.s s2,.i i3,.i i4]])(e1:IntKind.i64.wrap (i1+1)=i9)(ih:Lp E 1 A4 0 (J1 r0 i0 i9 s0 i2 r1 s1 s2 i3 i4) o t):Lp E 1 A4 0 (J1 r0 i0 i1 s0 i2 r1 s1 s2 i3 i4) o t:=by subst e1;exact lpM (oT h1 (oP h2 (oD h3 (oR h4 oZ)))) ih
theorem y2r (h4:Rn E O6 [.agg [.i i6,.i i7,.i i8,.s s3,.s s4,.s s5,.s s6],.ptr 0 0] [sC [.s s0,.i i2,.l r1,.s s1,.s s2,.i i3,.i i4]] (.b true) [sC [.s s0,.i i2,.l r1,.s s1,.s s2,.i i3,.i i4]]):Lp E 1 A4 0 (J1 r0 i0 i1 s0 i2 r1 s1 s2 i3 i4) .ret (z1d s0 i2 r1 s1 s2 i3 i4 i1):=lpX (oT h1 (oP h2 (oD h3 (oR h4 oZ))))
end
theorem y2s (h1:¬ i1<i0):Lp E 1 A4 0 (J1 r0 i0 i1 s0 i2 r1 s1 s2 i3 i4) (.exit 0) (z6q s0 i2 r1 s1 s2 i3 i4):=lpX (oU h1 oZ)
theorem z6b (h1:Lp E 1 A4 0 (J1 r0 (r0.length:Int) 0 s0 i0 r1 s1 s2 i1 i2) .ret (z1d s0 i0 r1 s1 s2 i1 i2 i3)):Rn E A4 [.l r0,.fn O6 [.ptr 0 0]] [sC [.s s0,.i i0,.l r1,.s s1,.s s2,.i i1,.i i2]] (.i i3) [sC [.s s0,.i i0,.l r1,.s s1,.s s2,.i i1,.i i2]]:=rnM (oL h1 oZ)
theorem z6c (h1:Lp E 1 A4 0 (J1 r0 (r0.length:Int) 0 s0 i0 r1 s1 s2 i1 i2) (.exit 0) (z6q s0 i0 r1 s1 s2 i1 i2)):Rn E A4 [.l r0,.fn O6 [.ptr 0 0]] [sC [.s s0,.i i0,.l r1,.s s1,.s s2,.i i1,.i i2]] (.i (-1)) [sC [.s s0,.i i0,.l r1,.s s1,.s s2,.i i1,.i i2]]:=rnM (oL h1 oZ)
def M6 (r0:RW) (i0 i1:Int):St:=stOf 19 [(0,.l r0),(1,.fn I5 []),(7,.i i0),(8,.i i1)] []
def z2r (i2:Int):St:=stOf 19 [(4,.i i2)] []
def z8t:St:=stOf 19 [] []
section
variable (h1:i1<i0)(h2:0≤i1)(h3:r0[(Int.toNat i1)]?=some [.s s0])
include h1 h2 h3
theorem y6j (h4:Fn E I5 [.s s0] (.b false))(e1:IntKind.i64.wrap (i1+1)=i3)(ih:Lp E 0 B8 0 (M6 r0 i0 i3) o t):Lp E 0 B8 0 (M6 r0 i0 i1) o t:=by subst e1;exact lpM (oT h1 (oP h2 (oD h3 (oF h4 oZ)))) ih
theorem y4q (h4:Fn E I5 [.s s0] (.b true)):Lp E 0 B8 0 (M6 r0 i0 i1) .ret (z2r i1):=lpX (oT h1 (oP h2 (oD h3 (oF h4 oZ))))
end
theorem y4r (h1:¬ i1<i0):Lp E 0 B8 0 (M6 r0 i0 i1) (.exit 0) (z8t):=lpX (oU h1 oZ)
theorem z9h (h1:Lp E 0 B8 0 (M6 r0 (r0.length:Int) 0) .ret (z2r i0)):Fn E B8 [.l r0,.fn I5 []] (.i i0):=fnM (oL h1 oZ)
theorem z9i (h1:Lp E 0 B8 0 (M6 r0 (r0.length:Int) 0) (.exit 0) (z8t)):Fn E B8 [.l r0,.fn I5 []] (.i (-1)):=fnM (oL h1 oZ)
def J9 (r0:RW) (i0 i1:Int) (s0:BA) (i2:Int) (r1:RW) (s1 s2:BA) (i3 i4:Int):St:=stOf 19 [(0,.l r0),(1,.fn F7 [.ptr 0 0]),(7,.i i0),(8,.i i1)] [sC [.s s0,.i i2,.l r1,.s s1,.s s2,.i i3,.i i4]]
def z1u (s0:BA) (i2:Int) (r1:RW) (s1 s2:BA) (i3 i4 i5:Int):St:=stOf 19 [(4,.i i5)] [sC [.s s0,.i i2,.l r1,.s s1,.s s2,.i i3,.i i4]]
def z7s (s0:BA) (i2:Int) (r1:RW) (s1 s2:BA) (i3 i4:Int):St:=stOf 19 [] [sC [.s s0,.i i2,.l r1,.s s1,.s s2,.i i3,.i i4]]
section
variable (h1:i1<i0)(h2:0≤i1)(h3:r0[(Int.toNat i1)]?=some [.i i6,.s s3,.s s4,.s s5,.s s6,.s s7,.s s8])
include h1 h2 h3
theorem y5g (h4:Rn E F7 [.agg [.i i6,.s s3,.s s4,.s s5,.s s6,.s s7,.s s8],.ptr 0 0] [sC [.s s0,.i i2,.l r1,.s s1,.s s2,.i i3,.i i4]] (.b false) [sC [.s s0,.i i2,.l r1,.s s1,.s s2,.i i3,.i i4]])(e1:IntKind.i64.wrap (i1+1)=i7)(ih:Lp E 1 A9 0 (J9 r0 i0 i7 s0 i2 r1 s1 s2 i3 i4) o t):Lp E 1 A9 0 (J9 r0 i0 i1 s0 i2 r1 s1 s2 i3 i4) o t:=by subst e1;exact lpM (oT h1 (oP h2 (oD h3 (oR h4 oZ)))) ih
theorem y3n (h4:Rn E F7 [.agg [.i i6,.s s3,.s s4,.s s5,.s s6,.s s7,.s s8],.ptr 0 0] [sC [.s s0,.i i2,.l r1,.s s1,.s s2,.i i3,.i i4]] (.b true) [sC [.s s0,.i i2,.l r1,.s s1,.s s2,.i i3,.i i4]]):Lp E 1 A9 0 (J9 r0 i0 i1 s0 i2 r1 s1 s2 i3 i4) .ret (z1u s0 i2 r1 s1 s2 i3 i4 i1):=lpX (oT h1 (oP h2 (oD h3 (oR h4 oZ))))
end
theorem y3o (h1:¬ i1<i0):Lp E 1 A9 0 (J9 r0 i0 i1 s0 i2 r1 s1 s2 i3 i4) (.exit 0) (z7s s0 i2 r1 s1 s2 i3 i4):=lpX (oU h1 oZ)
theorem z7e (h1:Lp E 1 A9 0 (J9 r0 (r0.length:Int) 0 s0 i0 r1 s1 s2 i1 i2) .ret (z1u s0 i0 r1 s1 s2 i1 i2 i3)):Rn E A9 [.l r0,.fn F7 [.ptr 0 0]] [sC [.s s0,.i i0,.l r1,.s s1,.s s2,.i i1,.i i2]] (.i i3) [sC [.s s0,.i i0,.l r1,.s s1,.s s2,.i i1,.i i2]]:=rnM (oL h1 oZ)
theorem z7f (h1:Lp E 1 A9 0 (J9 r0 (r0.length:Int) 0 s0 i0 r1 s1 s2 i1 i2) (.exit 0) (z7s s0 i0 r1 s1 s2 i1 i2)):Rn E A9 [.l r0,.fn F7 [.ptr 0 0]] [sC [.s s0,.i i0,.l r1,.s s1,.s s2,.i i1,.i i2]] (.i (-1)) [sC [.s s0,.i i0,.l r1,.s s1,.s s2,.i i1,.i i2]]:=rnM (oL h1 oZ)
def H9 (r0:RW) (i0 i1:Int) (s0:BA) (i2:Int) (r1:RW) (s1 s2:BA) (i3 i4:Int):St:=stOf 19 [(0,.l r0),(1,.fn F8 [.ptr 0 0]),(7,.i i0),(8,.i i1)] [sC [.s s0,.i i2,.l r1,.s s1,.s s2,.i i3,.i i4]]
def z0r (s0:BA) (i2:Int) (r1:RW) (s1 s2:BA) (i3 i4 i5:Int):St:=stOf 19 [(4,.i i5)] [sC [.s s0,.i i2,.l r1,.s s1,.s s2,.i i3,.i i4]]
def z5a (s0:BA) (i2:Int) (r1:RW) (s1 s2:BA) (i3 i4:Int):St:=stOf 19 [] [sC [.s s0,.i i2,.l r1,.s s1,.s s2,.i i3,.i i4]]
section
variable (h1:i1<i0)(h2:0≤i1)(h3:r0[(Int.toNat i1)]?=some [.i i6,.i i7,.i i8,.s s3,.s s4,.s s5,.s s6])
include h1 h2 h3
theorem y3r (h4:Rn E F8 [.agg [.i i6,.i i7,.i i8,.s s3,.s s4,.s s5,.s s6],.ptr 0 0] [sC [.s s0,.i i2,.l r1,.s s1,.s s2,.i i3,.i i4]] (.b false) [sC [.s s0,.i i2,.l r1,.s s1,.s s2,.i i3,.i i4]])(e1:IntKind.i64.wrap (i1+1)=i9)(ih:Lp E 1 A4 0 (H9 r0 i0 i9 s0 i2 r1 s1 s2 i3 i4) o t):Lp E 1 A4 0 (H9 r0 i0 i1 s0 i2 r1 s1 s2 i3 i4) o t:=by subst e1;exact lpM (oT h1 (oP h2 (oD h3 (oR h4 oZ)))) ih
theorem y2e (h4:Rn E F8 [.agg [.i i6,.i i7,.i i8,.s s3,.s s4,.s s5,.s s6],.ptr 0 0] [sC [.s s0,.i i2,.l r1,.s s1,.s s2,.i i3,.i i4]] (.b true) [sC [.s s0,.i i2,.l r1,.s s1,.s s2,.i i3,.i i4]]):Lp E 1 A4 0 (H9 r0 i0 i1 s0 i2 r1 s1 s2 i3 i4) .ret (z0r s0 i2 r1 s1 s2 i3 i4 i1):=lpX (oT h1 (oP h2 (oD h3 (oR h4 oZ))))
end
theorem y2f (h1:¬ i1<i0):Lp E 1 A4 0 (H9 r0 i0 i1 s0 i2 r1 s1 s2 i3 i4) (.exit 0) (z5a s0 i2 r1 s1 s2 i3 i4):=lpX (oU h1 oZ)
theorem z5z (h1:Lp E 1 A4 0 (H9 r0 (r0.length:Int) 0 s0 i0 r1 s1 s2 i1 i2) .ret (z0r s0 i0 r1 s1 s2 i1 i2 i3)):Rn E A4 [.l r0,.fn F8 [.ptr 0 0]] [sC [.s s0,.i i0,.l r1,.s s1,.s s2,.i i1,.i i2]] (.i i3) [sC [.s s0,.i i0,.l r1,.s s1,.s s2,.i i1,.i i2]]:=rnM (oL h1 oZ)
theorem z6a (h1:Lp E 1 A4 0 (H9 r0 (r0.length:Int) 0 s0 i0 r1 s1 s2 i1 i2) (.exit 0) (z5a s0 i0 r1 s1 s2 i1 i2)):Rn E A4 [.l r0,.fn F8 [.ptr 0 0]] [sC [.s s0,.i i0,.l r1,.s s1,.s s2,.i i1,.i i2]] (.i (-1)) [sC [.s s0,.i i0,.l r1,.s s1,.s s2,.i i1,.i i2]]:=rnM (oL h1 oZ)
def I0 (r0:RW) (i0 i1 i2:Int):St:=stOf 19 [(0,.l r0),(1,.fn O5 [.ptr 0 0]),(7,.i i0),(8,.i i1)] [sC [.i i2]]
def z0s (i2 i3:Int):St:=stOf 19 [(4,.i i3)] [sC [.i i2]]
def z5b (i2:Int):St:=stOf 19 [] [sC [.i i2]]
section
variable (h1:i1<i0)(h2:0≤i1)(h3:r0[(Int.toNat i1)]?=some [.i i4,.i i5,.i i6,.s s0,.s s1,.s s2,.s s3])
include h1 h2 h3
theorem y3s (h4:Rn E O5 [.agg [.i i4,.i i5,.i i6,.s s0,.s s1,.s s2,.s s3],.ptr 0 0] [sC [.i i2]] (.b false) [sC [.i i2]])(e1:IntKind.i64.wrap (i1+1)=i7)(ih:Lp E 1 A4 0 (I0 r0 i0 i7 i2) o t):Lp E 1 A4 0 (I0 r0 i0 i1 i2) o t:=by subst e1;exact lpM (oT h1 (oP h2 (oD h3 (oR h4 oZ)))) ih
theorem y2g (h4:Rn E O5 [.agg [.i i4,.i i5,.i i6,.s s0,.s s1,.s s2,.s s3],.ptr 0 0] [sC [.i i2]] (.b true) [sC [.i i2]]):Lp E 1 A4 0 (I0 r0 i0 i1 i2) .ret (z0s i2 i1):=lpX (oT h1 (oP h2 (oD h3 (oR h4 oZ))))
end
theorem y2h (h1:¬ i1<i0):Lp E 1 A4 0 (I0 r0 i0 i1 i2) (.exit 0) (z5b i2):=lpX (oU h1 oZ)
theorem z5x (h1:Lp E 1 A4 0 (I0 r0 (r0.length:Int) 0 i0) .ret (z0s i0 i1)):Rn E A4 [.l r0,.fn O5 [.ptr 0 0]] [sC [.i i0]] (.i i1) [sC [.i i0]]:=rnM (oL h1 oZ)
theorem z5y (h1:Lp E 1 A4 0 (I0 r0 (r0.length:Int) 0 i0) (.exit 0) (z5b i0)):Rn E A4 [.l r0,.fn O5 [.ptr 0 0]] [sC [.i i0]] (.i (-1)) [sC [.i i0]]:=rnM (oL h1 oZ)
def M8 (r0:RW) (i0 i1:Int) (s0:BA) (i2:Int) (r1:RW) (s1 s2:BA) (i3 i4:Int) (r2 r3 r4:RW):St:=stOf 19 [(0,.l r0),(1,.fn F6 [.ptr 0 0,.ptr 1 0]),(7,.i i0),(8,.i i1)] [sC [.s s0,.i i2,.l r1,.s s1,.s s2,.i i3,.i i4],sC [.l r2,.l r3,.l r4]]
def z2t (s0:BA) (i2:Int) (r1:RW) (s1 s2:BA) (i3 i4:Int) (r2 r3 r4:RW) (i5:Int):St:=stOf 19 [(4,.i i5)] [sC [.s s0,.i i2,.l r1,.s s1,.s s2,.i i3,.i i4],sC [.l r2,.l r3,.l r4]]
def z8v (s0:BA) (i2:Int) (r1:RW) (s1 s2:BA) (i3 i4:Int) (r2 r3 r4:RW):St:=stOf 19 [] [sC [.s s0,.i i2,.l r1,.s s1,.s s2,.i i3,.i i4],sC [.l r2,.l r3,.l r4]]
section
variable (h1:i1<i0)(h2:0≤i1)(h3:r0[(Int.toNat i1)]?=some [.i i6,.i i7,.i i8])
include h1 h2 h3
theorem y6l (h4:Rn E F6 [.agg [.i i6,.i i7,.i i8],.ptr 0 0,.ptr 1 0] [sC [.s s0,.i i2,.l r1,.s s1,.s s2,.i i3,.i i4],sC [.l r2,.l r3,.l r4]] (.b false) [sC [.s s0,.i i2,.l r1,.s s1,.s s2,.i i3,.i i4],sC [.l r2,.l r3,.l r4]])(e1:IntKind.i64.wrap (i1+1)=i9)(ih:Lp E 2 B6 0 (M8 r0 i0 i9 s0 i2 r1 s1 s2 i3 i4 r2 r3 r4) o t):Lp E 2 B6 0 (M8 r0 i0 i1 s0 i2 r1 s1 s2 i3 i4 r2 r3 r4) o t:=by subst e1;exact lpM (oT h1 (oP h2 (oD h3 (oR h4 oZ)))) ih
theorem y4u (h4:Rn E F6 [.agg [.i i6,.i i7,.i i8],.ptr 0 0,.ptr 1 0] [sC [.s s0,.i i2,.l r1,.s s1,.s s2,.i i3,.i i4],sC [.l r2,.l r3,.l r4]] (.b true) [sC [.s s0,.i i2,.l r1,.s s1,.s s2,.i i3,.i i4],sC [.l r2,.l r3,.l r4]]):Lp E 2 B6 0 (M8 r0 i0 i1 s0 i2 r1 s1 s2 i3 i4 r2 r3 r4) .ret (z2t s0 i2 r1 s1 s2 i3 i4 r2 r3 r4 i1):=lpX (oT h1 (oP h2 (oD h3 (oR h4 oZ))))
end
theorem y4v (h1:¬ i1<i0):Lp E 2 B6 0 (M8 r0 i0 i1 s0 i2 r1 s1 s2 i3 i4 r2 r3 r4) (.exit 0) (z8v s0 i2 r1 s1 s2 i3 i4 r2 r3 r4):=lpX (oU h1 oZ)
theorem z7i (h1:Lp E 2 B6 0 (M8 r0 (r0.length:Int) 0 s0 i0 r1 s1 s2 i1 i2 r2 r3 r4) .ret (z2t s0 i0 r1 s1 s2 i1 i2 r2 r3 r4 i3)):Rn E B6 [.l r0,.fn F6 [.ptr 0 0,.ptr 1 0]] [sC [.s s0,.i i0,.l r1,.s s1,.s s2,.i i1,.i i2],sC [.l r2,.l r3,.l r4]] (.i i3) [sC [.s s0,.i i0,.l r1,.s s1,.s s2,.i i1,.i i2],sC [.l r2,.l r3,.l r4]]:=rnM (oL h1 oZ)
theorem z7j (h1:Lp E 2 B6 0 (M8 r0 (r0.length:Int) 0 s0 i0 r1 s1 s2 i1 i2 r2 r3 r4) (.exit 0) (z8v s0 i0 r1 s1 s2 i1 i2 r2 r3 r4)):Rn E B6 [.l r0,.fn F6 [.ptr 0 0,.ptr 1 0]] [sC [.s s0,.i i0,.l r1,.s s1,.s s2,.i i1,.i i2],sC [.l r2,.l r3,.l r4]] (.i (-1)) [sC [.s s0,.i i0,.l r1,.s s1,.s s2,.i i1,.i i2],sC [.l r2,.l r3,.l r4]]:=rnM (oL h1 oZ)
def J8 (n0:Nat) (i0 i1:Int) (r0:RW) (i2:Int):St:=stOf 42 [(0,.vec 0 n0),(1,.fn J2 [.ptr 1 0]),(5,.i i0),(6,.i i1)] [sV D4 r0,sC [.i i2]]
def z1t (n0:Nat) (i2 i3:Int) (r1:RW):St:=stOf 42 [(0,.vec 0 n0),(5,.i i3)] [sV D4 r1,sC [.i i2]]
section
variable (h1:i1<((n0:Nat):Int))(h2:0≤i1∧i1<((n0:Nat):Int))(h3:r0[(Int.toNat i1)]?=some [.i i4,.i i5,.i i6])
include h1 h2 h3
theorem y5e (h4:Rn E J2 [.agg [.i i4,.i i5,.i i6],.ptr 1 0] [sV D4 r0,sC [.i i2],sC [.i i4,.i i5,.i i6]] (.b true) [sV D4 r0,sC [.i i2],sC [.i i4,.i i5,.i i6]])(e1:IntKind.i64.wrap (i1+1)=i7)(ih:Lp E 2 F1 0 (J8 n0 i0 i7 r0 i2) o t):Lp E 2 F1 0 (J8 n0 i0 i1 r0 i2) o t:=by subst e1;exact lpM (oT h1 (oP h2 (oD h3 (oR h4 oZ)))) ih
theorem y5f (h4:Rn E J2 [.agg [.i i4,.i i5,.i i6],.ptr 1 0] [sV D4 r0,sC [.i i2],sC [.i i4,.i i5,.i i6]] (.b false) [sV D4 r0,sC [.i i2],sC [.i i4,.i i5,.i i6]])(h5:0≤i0∧i0<((n0:Nat):Int))(h6:r0[(Int.toNat i0)]?=some [.i i7,.i i8,.i i9])(e1:List.set r0 (Int.toNat i0) [.i i4,.i i5,.i i6]=r2)(e2:IntKind.i64.wrap (i0+1)=i10)(e3:IntKind.i64.wrap (i1+1)=i11)(ih:Lp E 2 F1 0 (J8 n0 i10 i11 r2 i2) o t):Lp E 2 F1 0 (J8 n0 i0 i1 r0 i2) o t:=by subst e1 e2 e3;exact lpM (oT h1 (oP h2 (oD h3 (oR h4 (oP h5 (oD h6 oZ)))))) ih
end
theorem y3m (h1:¬ i1<((n0:Nat):Int)):Lp E 2 F1 0 (J8 n0 i0 i1 r0 i2) (.exit 0) (z1t n0 i2 i0 r0):=lpX (oU h1 oZ)
section
variable (h1:Rn E B6 [.vec 0 n0,.fn J2 [.ptr 1 0]] [sV D4 r0,sC [.i i0]] (.i i1) [sV D4 r0,sC [.i i0]])
include h1
theorem z9u (h2:i1=(-1)):Rn E F1 [.vec 0 n0,.fn J2 [.ptr 1 0]] [sV D4 r0,sC [.i i0]] (.vec 0 n0) [sV D4 r0,sC [.i i0]]:=rnM (oR h1 (oB (beT h2) oZ))
theorem z9v (h2:¬ i1=(-1))(h3:Lp E 2 F1 0 (J8 n0 i1 i2 r0 i0) (.exit 0) (z1t n0 i0 i3 r1))(h4:0≤i3∧i3≤((n0:Nat):Int)∧((n0:Nat):Int)≤((n0:Nat):Int))(h5:0≤i3∧i3≤((n0:Nat):Int))(e1:IntKind.i64.wrap (i1+1)=i2)(e2:(r1.take (Int.toNat i3))++List.replicate (n0-(Int.toNat i3)) [.i 0,.i 0,.i 0]++List.drop n0 r1=r2)(e3:(Int.toNat i3)=n1):Rn E F1 [.vec 0 n0,.fn J2 [.ptr 1 0]] [sV D4 r0,sC [.i i0]] (.vec 0 n1) [sV D4 r2,sC [.i i0]]:=by subst e1 e2 e3;exact rnM (oR h1 (oC (beF h2) (oL h3 (oG (oP h4 (oP h5 oZ))))))
end
def I2 (r0:RW) (i0 i1 i2:Int):St:=stOf 19 [(0,.l r0),(1,.fn H6 [.ptr 0 0,.ptr 1 0]),(7,.i i0),(8,.i i1)] [sC [.fn C4 []],sC [.i i2]]
def z0t (i2 i3:Int):St:=stOf 19 [(4,.i i3)] [sC [.fn C4 []],sC [.i i2]]
def z5c (i2:Int):St:=stOf 19 [] [sC [.fn C4 []],sC [.i i2]]
section
variable (h1:i1<i0)(h2:0≤i1)(h3:r0[(Int.toNat i1)]?=some [.i i4,.i i5,.i i6,.s s0,.s s1,.s s2,.s s3])
include h1 h2 h3
theorem y3t (h4:Rn E H6 [.agg [.i i4,.i i5,.i i6,.s s0,.s s1,.s s2,.s s3],.ptr 0 0,.ptr 1 0] [sC [.fn C4 []],sC [.i i2]] (.b false) [sC [.fn C4 []],sC [.i i2]])(e1:IntKind.i64.wrap (i1+1)=i7)(ih:Lp E 2 A4 0 (I2 r0 i0 i7 i2) o t):Lp E 2 A4 0 (I2 r0 i0 i1 i2) o t:=by subst e1;exact lpM (oT h1 (oP h2 (oD h3 (oR h4 oZ)))) ih
theorem y2i (h4:Rn E H6 [.agg [.i i4,.i i5,.i i6,.s s0,.s s1,.s s2,.s s3],.ptr 0 0,.ptr 1 0] [sC [.fn C4 []],sC [.i i2]] (.b true) [sC [.fn C4 []],sC [.i i2]]):Lp E 2 A4 0 (I2 r0 i0 i1 i2) .ret (z0t i2 i1):=lpX (oT h1 (oP h2 (oD h3 (oR h4 oZ))))
end
theorem y2j (h1:¬ i1<i0):Lp E 2 A4 0 (I2 r0 i0 i1 i2) (.exit 0) (z5c i2):=lpX (oU h1 oZ)
theorem z3r (h1:Lp E 2 A4 0 (I2 r0 (r0.length:Int) 0 i0) .ret (z0t i0 i1)):Rn E A4 [.l r0,.fn H6 [.ptr 0 0,.ptr 1 0]] [sC [.fn C4 []],sC [.i i0]] (.i i1) [sC [.fn C4 []],sC [.i i0]]:=rnM (oL h1 oZ)
theorem z3s (h1:Lp E 2 A4 0 (I2 r0 (r0.length:Int) 0 i0) (.exit 0) (z5c i0)):Rn E A4 [.l r0,.fn H6 [.ptr 0 0,.ptr 1 0]] [sC [.fn C4 []],sC [.i i0]] (.i (-1)) [sC [.fn C4 []],sC [.i i0]]:=rnM (oL h1 oZ)
def K0 (r0:RW) (i0 i1 i2:Int):St:=stOf 19 [(0,.l r0),(1,.fn J4 [.ptr 0 0,.ptr 1 0]),(7,.i i0),(8,.i i1)] [sC [.fn D6 []],sC [.i i2]]
def z1v (i2 i3:Int):St:=stOf 19 [(4,.i i3)] [sC [.fn D6 []],sC [.i i2]]
def z7t (i2:Int):St:=stOf 19 [] [sC [.fn D6 []],sC [.i i2]]
section
variable (h1:i1<i0)(h2:0≤i1)(h3:r0[(Int.toNat i1)]?=some [.i i4,.s s0,.s s1,.s s2,.s s3,.s s4,.s s5])
include h1 h2 h3
theorem y5h (h4:Rn E J4 [.agg [.i i4,.s s0,.s s1,.s s2,.s s3,.s s4,.s s5],.ptr 0 0,.ptr 1 0] [sC [.fn D6 []],sC [.i i2]] (.b false) [sC [.fn D6 []],sC [.i i2]])(e1:IntKind.i64.wrap (i1+1)=i5)(ih:Lp E 2 A9 0 (K0 r0 i0 i5 i2) o t):Lp E 2 A9 0 (K0 r0 i0 i1 i2) o t:=by subst e1;exact lpM (oT h1 (oP h2 (oD h3 (oR h4 oZ)))) ih
theorem y3p (h4:Rn E J4 [.agg [.i i4,.s s0,.s s1,.s s2,.s s3,.s s4,.s s5],.ptr 0 0,.ptr 1 0] [sC [.fn D6 []],sC [.i i2]] (.b true) [sC [.fn D6 []],sC [.i i2]]):Lp E 2 A9 0 (K0 r0 i0 i1 i2) .ret (z1v i2 i1):=lpX (oT h1 (oP h2 (oD h3 (oR h4 oZ))))
end
theorem y3q (h1:¬ i1<i0):Lp E 2 A9 0 (K0 r0 i0 i1 i2) (.exit 0) (z7t i2):=lpX (oU h1 oZ)
theorem z5v (h1:Lp E 2 A9 0 (K0 r0 (r0.length:Int) 0 i0) .ret (z1v i0 i1)):Rn E A9 [.l r0,.fn J4 [.ptr 0 0,.ptr 1 0]] [sC [.fn D6 []],sC [.i i0]] (.i i1) [sC [.fn D6 []],sC [.i i0]]:=rnM (oL h1 oZ)
theorem z5w (h1:Lp E 2 A9 0 (K0 r0 (r0.length:Int) 0 i0) (.exit 0) (z7t i0)):Rn E A9 [.l r0,.fn J4 [.ptr 0 0,.ptr 1 0]] [sC [.fn D6 []],sC [.i i0]] (.i (-1)) [sC [.fn D6 []],sC [.i i0]]:=rnM (oL h1 oZ)
def K2 (n0:Nat) (i0 i1:Int) (r0:RW) (i2:Int):St:=stOf 19 [(0,.vec 0 n0),(1,.fn J2 [.ptr 1 0]),(7,.i i0),(8,.i i1)] [sV D4 r0,sC [.i i2]]
def z1x (r0:RW) (i2 i3:Int):St:=stOf 19 [(4,.i i3)] [sV D4 r0,sC [.i i2]]
def z7v (r0:RW) (i2:Int):St:=stOf 19 [] [sV D4 r0,sC [.i i2]]
section
variable (h1:i1<i0)(h2:0≤i1∧i1<((n0:Nat):Int))(h3:r0[(Int.toNat i1)]?=some [.i i4,.i i5,.i i6])
include h1 h2 h3
theorem y5l (h4:Rn E J2 [.agg [.i i4,.i i5,.i i6],.ptr 1 0] [sV D4 r0,sC [.i i2]] (.b false) [sV D4 r0,sC [.i i2]])(e1:IntKind.i64.wrap (i1+1)=i7)(ih:Lp E 2 B6 0 (K2 n0 i0 i7 r0 i2) o t):Lp E 2 B6 0 (K2 n0 i0 i1 r0 i2) o t:=by subst e1;exact lpM (oT h1 (oP h2 (oD h3 (oR h4 oZ)))) ih
theorem y3w (h4:Rn E J2 [.agg [.i i4,.i i5,.i i6],.ptr 1 0] [sV D4 r0,sC [.i i2]] (.b true) [sV D4 r0,sC [.i i2]]):Lp E 2 B6 0 (K2 n0 i0 i1 r0 i2) .ret (z1x r0 i2 i1):=lpX (oT h1 (oP h2 (oD h3 (oR h4 oZ))))
end
theorem y3x (h1:¬ i1<i0):Lp E 2 B6 0 (K2 n0 i0 i1 r0 i2) (.exit 0) (z7v r0 i2):=lpX (oU h1 oZ)
theorem y0e (h1:Lp E 2 B6 0 (K2 n0 ((n0:Nat):Int) 0 r0 i0) .ret (z1x r0 i0 i1)):Rn E B6 [.vec 0 n0,.fn J2 [.ptr 1 0]] [sV D4 r0,sC [.i i0]] (.i i1) [sV D4 r0,sC [.i i0]]:=rnM (oL h1 oZ)
theorem y0f (h1:Lp E 2 B6 0 (K2 n0 ((n0:Nat):Int) 0 r0 i0) (.exit 0) (z7v r0 i0)):Rn E B6 [.vec 0 n0,.fn J2 [.ptr 1 0]] [sV D4 r0,sC [.i i0]] (.i (-1)) [sV D4 r0,sC [.i i0]]:=rnM (oL h1 oZ)
end Gev
namespace Gev
open Go Go.Proofs
variable {E:Env}
variable {o:Out} {t:St} {r0 r1 r2 r3 r4 r5:RW} {i0 i1 i2 i3 i4 i5 i6 i7 i8 i9 i10 i11 i12 i13 i14 i15 i16 i17 i18:Int} {n0 n1:Nat} {s0 s1 s2 s3 s4 s5 s6 s7 s8 s9 s10 s11 s12 s13 s14 s15 s16 s17 s18 s19 s20 s21 s22 s23 s24 s25 s26 s27 s28 s29 s30 s31 s32 s33 s34 s35 s36 s37 s38 s39 s40:BA} {b0:Bool}
def Y0 (r0:RW) (i0 i1:Int) (r1 r2:RW):St:=stOf 166 [(1,.ptr 0 0),(12,.l r0),(13,.i i0),(14,.i i1)] [sC [.l r1,.l r2]]
def z9b (r1 r2:RW):St:=stOf 166 [(2,.i 1)] [sC [.l r1,.l r2]]
def y2y (r1 r2:RW):St:=stOf 166 [(1,.ptr 0 0)] [sC [.l r1,.l r2]]
section
variable (h1:i1<i0)(h2:0≤i1)(h3:r0[(Int.toNat i1)]?=some [.i i2,.i i3,.i i4,.s s0,.s s1,.s s2,.s s3])
include h1 h2 h3
theorem k2j (h4:Fn E z1y [.l r3] (.b true))(e1:(([[.s s1],[.s s2],[.s s3]]:RW).take 3)=r3)(e2:IntKind.i64.wrap (i1+1)=i5)(ih:Lp E 1 B1 0 (Y0 r0 i0 i5 r1 r2) o t):Lp E 1 B1 0 (Y0 r0 i0 i1 r1 r2) o t:=by subst e1 e2;exact lpM (oT h1 (oP h2 (oD h3 (oF h4 oZ)))) ih
theorem x8a (h4:Fn E z1y [.l r3] (.b false))(e1:(([[.s s1],[.s s2],[.s s3]]:RW).take 3)=r3):Lp E 1 B1 0 (Y0 r0 i0 i1 r1 r2) .ret (z9b r1 r2):=by subst e1;exact lpX (oT h1 (oP h2 (oD h3 (oF h4 oZ))))
end
theorem x8b (h1:¬ i1<i0):Lp E 1 B1 0 (Y0 r0 i0 i1 r1 r2) (.exit 0) (y2y r1 r2):=lpX (oU h1 oZ)
def Y1 (r0:RW) (i0 i1:Int) (r1 r2:RW):St:=stOf 166 [(1,.ptr 0 0),(29,.l r0),(30,.i i0),(31,.i i1)] [sC [.l r1,.l r2]]
def z9c (r1 r2:RW):St:=stOf 166 [(2,.i 1)] [sC [.l r1,.l r2]]
def y2z (r1 r2:RW):St:=stOf 166 [(1,.ptr 0 0)] [sC [.l r1,.l r2]]
section
variable (h1:i1<i0)(h2:0≤i1)(h3:r0[(Int.toNat i1)]?=some [.i i2,.s s0,.s s1,.s s2,.s s3,.s s4,.s s5])
include h1 h2 h3
theorem k2k (h4:Fn E z1y [.l r3] (.b true))(e1:(([[.s s1],[.s s2],[.s s3],[.s s4],[.s s5]]:RW).take 5)=r3)(e2:IntKind.i64.wrap (i1+1)=i3)(ih:Lp E 1 B1 1 (Y1 r0 i0 i3 r1 r2) o t):Lp E 1 B1 1 (Y1 r0 i0 i1 r1 r2) o t:=by subst e1 e2;exact lpM (oT h1 (oP h2 (oD h3 (oF h4 oZ)))) ih
theorem x8c (h4:Fn E z1y [.l r3] (.b false))(e1:(([[.s s1],[.s s2],[.s s3],[.s s4],[.s s5]]:RW).take 5)=r3):Lp E 1 B1 1 (Y1 r0 i0 i1 r1 r2) .ret (z9c r1 r2):=by subst e1;exact lpX (oT h1 (oP h2 (oD h3 (oF h4 oZ))))
end
theorem x8d (h1:¬ i1<i0):Lp E 1 B1 1 (Y1 r0 i0 i1 r1 r2) (.exit 2) (y2z r1 r2):=lpX (oU h1 oZ)
def G7 (r0:RW) (i0 i1:Int) (r1 r2:RW):St:=stOf 166 [(1,.ptr 0 0),(63,.l r0),(64,.i i0),(65,.i i1)] [sC [.l r1,.l r2]]
def N6 (r1 r2:RW) (i2:Int):St:=stOf 166 [(2,.i i2)] [sC [.l r1,.l r2]]
def y3a (r1 r2:RW):St:=stOf 166 [(1,.ptr 0 0)] [sC [.l r1,.l r2]]
section
variable (h1:i1<i0)(h2:0≤i1)(h3:r0[(Int.toNat i1)]?=some [.i i3,.i i4,.i i5,.s s0,.s s1,.s s2,.s s3])
include h1 h2 h3
section
variable (h4:Fn E K6 [.i i3,.i 1073741824] (.b true))
include h4
section
variable (h5:Fn E K6 [.i i4,.i 9] (.b true))
include h5
section
variable (h6:Fn E K6 [.i i5,.i 9] (.b true))(h7:Fn E X6 [.s s1] (.i i6))
include h6 h7
section
variable (h8:¬ i6≤0)(h9:Fn E X6 [.s s2] (.i i7))(h10:¬ i7≤0)(h11:Fn E X6 [.s s3] (.i i8))(h12:¬ i8<0)(h13:Fn E U6 [.s s0] (.b true))
include h8 h9 h10 h11 h12 h13
theorem k2l (h14:i1>0)(h15:0≤i9)(h16:r1[(Int.toNat i9)]?=some [.i i10,.i i11,.i i12,.s s4,.s s5,.s s6,.s s7])(h17:¬ i10≥i3)(e1:IntKind.i64.wrap (i1-1)=i9)(e2:IntKind.i64.wrap (i1+1)=i13)(ih:Lp E 1 B1 2 (G7 r0 i0 i13 r1 r2) o t):Lp E 1 B1 2 (G7 r0 i0 i1 r1 r2) o t:=by subst e1 e2;exact lpM (oT h1 (oP h2 (oD h3 (oF h4 (oF h5 (oF h6 (oF h7 (oU h8 (oF h9 (oU h10 (oF h11 (oU h12 (oF h13 (oT h14 (oP h15 (oD h16 (oU h17 oZ))))))))))))))))) ih
theorem k2m (h14:¬ i1>0)(e1:IntKind.i64.wrap (i1+1)=i9)(ih:Lp E 1 B1 2 (G7 r0 i0 i9 r1 r2) o t):Lp E 1 B1 2 (G7 r0 i0 i1 r1 r2) o t:=by subst e1;exact lpM (oT h1 (oP h2 (oD h3 (oF h4 (oF h5 (oF h6 (oF h7 (oU h8 (oF h9 (oU h10 (oF h11 (oU h12 (oF h13 (oU h14 oZ)))))))))))))) ih
end
theorem x8e (h8:i6≤0):Lp E 1 B1 2 (G7 r0 i0 i1 r1 r2) .ret (N6 r1 r2 2):=lpX (oT h1 (oP h2 (oD h3 (oF h4 (oF h5 (oF h6 (oF h7 (oT h8 oZ))))))))
section
variable (h8:¬ i6≤0)(h9:Fn E X6 [.s s2] (.i i7))
include h8 h9
theorem x8f (h10:i7≤0):Lp E 1 B1 2 (G7 r0 i0 i1 r1 r2) .ret (N6 r1 r2 2):=lpX (oT h1 (oP h2 (oD h3 (oF h4 (oF h5 (oF h6 (oF h7 (oU h8 (oF h9 (oT h10 oZ))))))))))
section
variable (h10:¬ i7≤0)(h11:Fn E X6 [.s s3] (.i i8))
include h10 h11
theorem x8g (h12:i8<0):Lp E 1 B1 2 (G7 r0 i0 i1 r1 r2) .ret (N6 r1 r2 2):=lpX (oT h1 (oP h2 (oD h3 (oF h4 (oF h5 (oF h6 (oF h7 (oU h8 (oF h9 (oU h10 (oF h11 (oT h12 oZ))))))))))))
theorem x8h (h12:¬ i8<0)(h13:Fn E U6 [.s s0] (.b true))(h14:i1>0)(h15:0≤i9)(h16:r1[(Int.toNat i9)]?=some [.i i10,.i i11,.i i12,.s s4,.s s5,.s s6,.s s7])(h17:i10≥i3)(e1:IntKind.i64.wrap (i1-1)=i9):Lp E 1 B1 2 (G7 r0 i0 i1 r1 r2) .ret (N6 r1 r2 5):=by subst e1;exact lpX (oT h1 (oP h2 (oD h3 (oF h4 (oF h5 (oF h6 (oF h7 (oU h8 (oF h9 (oU h10 (oF h11 (oU h12 (oF h13 (oT h14 (oP h15 (oD h16 (oT h17 oZ)))))))))))))))))
theorem x8i (h12:¬ i8<0)(h13:Fn E U6 [.s s0] (.b false)):Lp E 1 B1 2 (G7 r0 i0 i1 r1 r2) .ret (N6 r1 r2 4):=lpX (oT h1 (oP h2 (oD h3 (oF h4 (oF h5 (oF h6 (oF h7 (oU h8 (oF h9 (oU h10 (oF h11 (oU h12 (oF h13 oZ)))))))))))))
end
end
end
theorem x8j (h6:Fn E K6 [.i i5,.i 9] (.b false)):Lp E 1 B1 2 (G7 r0 i0 i1 r1 r2) .ret (N6 r1 r2 2):=lpX (oT h1 (oP h2 (oD h3 (oF h4 (oF h5 (oF h6 oZ))))))
end
theorem x8k (h5:Fn E K6 [.i i4,.i 9] (.b false)):Lp E 1 B1 2 (G7 r0 i0 i1 r1 r2) .ret (N6 r1 r2 2):=lpX (oT h1 (oP h2 (oD h3 (oF h4 (oF h5 oZ)))))
end
theorem x8l (h4:Fn E K6 [.i i3,.i 1073741824] (.b false)):Lp E 1 B1 2 (G7 r0 i0 i1 r1 r2) .ret (N6 r1 r2 2):=lpX (oT h1 (oP h2 (oD h3 (oF h4 oZ))))
end
theorem x8m (h1:¬ i1<i0):Lp E 1 B1 2 (G7 r0 i0 i1 r1 r2) (.exit 4) (y3a r1 r2):=lpX (oU h1 oZ)
def J0 (r0:RW) (i0 i1:Int) (r1 r2:RW):St:=stOf 166 [(1,.ptr 0 0),(124,.l r0),(125,.i i0),(126,.i i1)] [sC [.l r1,.l r2]]
def V9 (r1 r2:RW) (i2:Int):St:=stOf 166 [(2,.i i2)] [sC [.l r1,.l r2]]
def y3b (r1 r2:RW):St:=stOf 166 [] [sC [.l r1,.l r2]]
section
variable (h1:i1<i0)(h2:0≤i1)(h3:r0[(Int.toNat i1)]?=some [.i i3,.s s0,.s s1,.s s2,.s s3,.s s4,.s s5])
include h1 h2 h3
section
variable (h4:Fn E K6 [.i i3,.i 1073741824] (.b true))(h5:Fn E X6 [.s s1] (.i i4))
include h4 h5
section
variable (h6:¬ i4<0)(h7:Fn E X6 [.s s2] (.i i5))(h8:¬ i5<0)(h9:Fn E U6 [.s s0] (.b true))
include h6 h7 h8 h9
theorem k2n (h10:i1>0)(h11:0≤i6)(h12:r2[(Int.toNat i6)]?=some [.i i7,.s s6,.s s7,.s s8,.s s9,.s s10,.s s11])(h13:¬ i7≥i3)(e1:IntKind.i64.wrap (i1-1)=i6)(e2:IntKind.i64.wrap (i1+1)=i8)(ih:Lp E 1 B1 3 (J0 r0 i0 i8 r1 r2) o t):Lp E 1 B1 3 (J0 r0 i0 i1 r1 r2) o t:=by subst e1 e2;exact lpM (oT h1 (oP h2 (oD h3 (oF h4 (oF h5 (oU h6 (oF h7 (oU h8 (oF h9 (oT h10 (oP h11 (oD h12 (oU h13 oZ))))))))))))) ih
theorem k2o (h10:¬ i1>0)(e1:IntKind.i64.wrap (i1+1)=i6)(ih:Lp E 1 B1 3 (J0 r0 i0 i6 r1 r2) o t):Lp E 1 B1 3 (J0 r0 i0 i1 r1 r2) o t:=by subst e1;exact lpM (oT h1 (oP h2 (oD h3 (oF h4 (oF h5 (oU h6 (oF h7 (oU h8 (oF h9 (oU h10 oZ)))))))))) ih
end
theorem x8n (h6:i4<0):Lp E 1 B1 3 (J0 r0 i0 i1 r1 r2) .ret (V9 r1 r2 2):=lpX (oT h1 (oP h2 (oD h3 (oF h4 (oF h5 (oT h6 oZ))))))
section
variable (h6:¬ i4<0)(h7:Fn E X6 [.s s2] (.i i5))
include h6 h7
theorem x8o (h8:i5<0):Lp E 1 B1 3 (J0 r0 i0 i1 r1 r2) .ret (V9 r1 r2 2):=lpX (oT h1 (oP h2 (oD h3 (oF h4 (oF h5 (oU h6 (oF h7 (oT h8 oZ))))))))
theorem x8p (h8:¬ i5<0)(h9:Fn E U6 [.s s0] (.b true))(h10:i1>0)(h11:0≤i6)(h12:r2[(Int.toNat i6)]?=some [.i i7,.s s6,.s s7,.s s8,.s s9,.s s10,.s s11])(h13:i7≥i3)(e1:IntKind.i64.wrap (i1-1)=i6):Lp E 1 B1 3 (J0 r0 i0 i1 r1 r2) .ret (V9 r1 r2 5):=by subst e1;exact lpX (oT h1 (oP h2 (oD h3 (oF h4 (oF h5 (oU h6 (oF h7 (oU h8 (oF h9 (oT h10 (oP h11 (oD h12 (oT h13 oZ)))))))))))))
theorem x8q (h8:¬ i5<0)(h9:Fn E U6 [.s s0] (.b false)):Lp E 1 B1 3 (J0 r0 i0 i1 r1 r2) .ret (V9 r1 r2 4):=lpX (oT h1 (oP h2 (oD h3 (oF h4 (oF h5 (oU h6 (oF h7 (oU h8 (oF h9 oZ)))))))))
end
end
theorem x8r (h4:Fn E K6 [.i i3,.i 1073741824] (.b false)):Lp E 1 B1 3 (J0 r0 i0 i1 r1 r2) .ret (V9 r1 r2 2):=lpX (oT h1 (oP h2 (oD h3 (oF h4 oZ))))
end
theorem x8s (h1:¬ i1<i0):Lp E 1 B1 3 (J0 r0 i0 i1 r1 r2) (.exit 6) (y3b r1 r2):=lpX (oU h1 oZ)
theorem j7b (h1:Lp E 1 B1 0 (Y0 r0 (r0.length:Int) 0 r0 r1) .ret (z9b r0 r1)):Fn E B1 [.agg [.l r0,.l r1]] (.i 1):=fnM (oL h1 oZ)
section
variable (h1:Lp E 1 B1 0 (Y0 r0 (r0.length:Int) 0 r0 r1) (.exit 0) (y2y r0 r1))
include h1
theorem j7c (h2:Lp E 1 B1 1 (Y1 r1 (r1.length:Int) 0 r0 r1) .ret (z9c r0 r1)):Fn E B1 [.agg [.l r0,.l r1]] (.i 1):=fnM (oL h1 (oL h2 oZ))
section
variable (h2:Lp E 1 B1 1 (Y1 r1 (r1.length:Int) 0 r0 r1) (.exit 2) (y2z r0 r1))
include h2
theorem j7d (h3:(r0.length:Int)>6):Fn E B1 [.agg [.l r0,.l r1]] (.i 8):=fnM (oL h1 (oL h2 (oT h3 oZ)))
section
variable (h3:¬ (r0.length:Int)>6)
include h3
theorem j7e (h4:(r1.length:Int)>6):Fn E B1 [.agg [.l r0,.l r1]] (.i 8):=fnM (oL h1 (oL h2 (oU h3 (oT h4 oZ))))
section
variable (h4:¬ (r1.length:Int)>6)
include h4
theorem j7f (h5:Lp E 1 B1 2 (G7 r0 (r0.length:Int) 0 r0 r1) .ret (N6 r0 r1 i0)):Fn E B1 [.agg [.l r0,.l r1]] (.i i0):=fnM (oL h1 (oL h2 (oU h3 (oU h4 (oL h5 oZ)))))
section
variable (h5:Lp E 1 B1 2 (G7 r0 (r0.length:Int) 0 r0 r1) (.exit 4) (y3a r0 r1))
include h5
theorem j7g (h6:Lp E 1 B1 3 (J0 r1 (r1.length:Int) 0 r0 r1) .ret (V9 r0 r1 i0)):Fn E B1 [.agg [.l r0,.l r1]] (.i i0):=fnM (oL h1 (oL h2 (oU h3 (oU h4 (oL h5 (oL h6 oZ))))))
theorem j7h (h6:Lp E 1 B1 3 (J0 r1 (r1.length:Int) 0 r0 r1) (.exit 6) (y3b r0 r1)):Fn E B1 [.agg [.l r0,.l r1]] (.i 0):=fnM (oL h1 (oL h2 (oU h3 (oU h4 (oL h5 (oL h6 oZ))))))
end
end
end
end
end
section
variable (h1:Fn E F0 [.agg [.l r0,.l r1],.l r2] (.i i0))
include h1
theorem k0j (h2:¬ i0=0):Fn E z5d [.agg [.l r0,.l r1],.l r2] (.tup [.i 0,.i 1]):=fnM (oF h1 (oB (bnT h2) oZ))
theorem k0k (h2:i0=0)(h3:Rn E A9 [.l r1,.fn H3 [.ptr 0 0,.ptr 1 0]] [sC [.l r0,.l r1],sC [.l r2]] (.i i1) [sC [.l r0,.l r1],sC [.l r2]]):Fn E z5d [.agg [.l r0,.l r1],.l r2] (.tup [.i i1,.i 0]):=fnM (oF h1 (oC (bnF h2) (oR h3 oZ)))
end
theorem j7q (h1:Fn E G6 [.l r0,.fn I5 []] (.b b0)):Fn E z1y [.l r0] (.b (!b0)):=fnM (oF h1 oZ)
theorem j3t (h1:i0≥1)(h2:i0≤i1):Fn E K6 [.i i0,.i i1] (.b true):=fnM (oT h1 (oT h2 oZ))
theorem j3u (h1:i0≥1)(h2:¬ i0≤i1):Fn E K6 [.i i0,.i i1] (.b false):=fnM (oT h1 (oU h2 oZ))
theorem j3v (h1:¬ i0≥1):Fn E K6 [.i i0,.i i1] (.b false):=fnM (oU h1 oZ)
theorem q0r (h1:Fn E z6k [.s s0,.s ⟨#[48]⟩] (.i i0)):Fn E X6 [.s s0] (.i i0):=fnM (oF h1 oZ)
theorem j7k (h1:(s0.size:Int)≥1)(h2:(s0.size:Int)≤64):Fn E U6 [.s s0] (.b true):=fnM (oT h1 (oT h2 oZ))
theorem j7l (h1:(s0.size:Int)≥1)(h2:¬ (s0.size:Int)≤64):Fn E U6 [.s s0] (.b false):=fnM (oT h1 (oU h2 oZ))
theorem j7m (h1:¬ (s0.size:Int)≥1):Fn E U6 [.s s0] (.b false):=fnM (oU h1 oZ)
def H1 (r0 r1:RW) (i0 i1:Int) (r2 r3:RW):St:=stOf 72 [(1,.l r0),(2,.ptr 0 0),(11,.l r1),(12,.i i0),(13,.i i1)] [sC [.l r2,.l r3]]
def O7 (r2 r3:RW) (i2:Int):St:=stOf 72 [(4,.i i2)] [sC [.l r2,.l r3]]
def y1t (r2 r3:RW):St:=stOf 72 [] [sC [.l r2,.l r3]]
section
variable (h1:i1<i0)(h2:0≤i1)(h3:r1[(Int.toNat i1)]?=some [.i i3,.i i4,.i i5])(h4:Fn E y1l [.agg [.l r2,.l r3],.i i4] (.i i6))
include h1 h2 h3 h4
section
variable (h5:¬ i6<0)(h6:Fn E z8z [.agg [.l r2,.l r3],.i i3] (.i i7))(h7:¬ i7<0)(h8:¬ i5<1)
include h5 h6 h7 h8
theorem k0l (h9:i1>0)(h10:0≤i8)(h11:r0[(Int.toNat i8)]?=some [.i i9,.i i10,.i i11])(h12:Fn E y3z [.agg [.i i9,.i i10,.i i11],.agg [.i i3,.i i4,.i i5]] (.i i12))(h13:¬ i12≥0)(h14:0≤i6)(h15:r2[(Int.toNat i6)]?=some [.i i13,.i i14,.i i15,.s s0,.s s1,.s s2,.s s3])(h16:¬ i5>i14)(h17:0≤(0:Int)∧(0:Int)≤i16∧i16≤r0.length∧∀ x∈r0,x.length=3)(h18:Fn E O1 [.l r4,.i i4] (.i i17))(h19:¬ i17>i14)(e1:IntKind.i64.wrap (i1-1)=i8)(e2:IntKind.i64.wrap (i1+1)=i16)(e3:List.drop 0 (r0.take (Int.toNat i16))=r4)(ih:Lp E 1 F0 0 (H1 r0 r1 i0 i16 r2 r3) o t):Lp E 1 F0 0 (H1 r0 r1 i0 i1 r2 r3) o t:=by subst e1 e2 e3;exact lpM (oT h1 (oP h2 (oD h3 (oF h4 (oU h5 (oF h6 (oU h7 (oU h8 (oT h9 (oP h10 (oD h11 (oF h12 (oU h13 (oP h14 (oD h15 (oU h16 (oP h17 (oF h18 (oP h14 (oD h15 (oU h19 oZ))))))))))))))))))))) ih
theorem k0m (h9:¬ i1>0)(h10:0≤i6)(h11:r2[(Int.toNat i6)]?=some [.i i8,.i i9,.i i10,.s s4,.s s5,.s s6,.s s7])(h12:¬ i5>i9)(h13:0≤(0:Int)∧(0:Int)≤i15∧i15≤r0.length∧∀ x∈r0,x.length=3)(h14:Fn E O1 [.l r5,.i i4] (.i i18))(h15:¬ i18>i9)(e1:IntKind.i64.wrap (i1+1)=i15)(e2:List.drop 0 (r0.take (Int.toNat i15))=r5)(ih:Lp E 1 F0 0 (H1 r0 r1 i0 i15 r2 r3) o t):Lp E 1 F0 0 (H1 r0 r1 i0 i1 r2 r3) o t:=by subst e1 e2;exact lpM (oT h1 (oP h2 (oD h3 (oF h4 (oU h5 (oF h6 (oU h7 (oU h8 (oU h9 (oP h10 (oD h11 (oU h12 (oP h13 (oF h14 (oP h10 (oD h11 (oU h15 oZ))))))))))))))))) ih
end
theorem x4x (h5:i6<0):Lp E 1 F0 0 (H1 r0 r1 i0 i1 r2 r3) .ret (O7 r2 r3 7):=lpX (oT h1 (oP h2 (oD h3 (oF h4 (oT h5 oZ)))))
section
variable (h5:¬ i6<0)(h6:Fn E z8z [.agg [.l r2,.l r3],.i i3] (.i i7))
include h5 h6
theorem x4y (h7:i7<0):Lp E 1 F0 0 (H1 r0 r1 i0 i1 r2 r3) .ret (O7 r2 r3 7):=lpX (oT h1 (oP h2 (oD h3 (oF h4 (oU h5 (oF h6 (oT h7 oZ)))))))
section
variable (h7:¬ i7<0)
include h7
theorem x4z (h8:i5<1):Lp E 1 F0 0 (H1 r0 r1 i0 i1 r2 r3) .ret (O7 r2 r3 2):=lpX (oT h1 (oP h2 (oD h3 (oF h4 (oU h5 (oF h6 (oU h7 (oT h8 oZ))))))))
section
variable (h8:¬ i5<1)
include h8
section
variable (h9:i1>0)(h10:0≤i8)(h11:r0[(Int.toNat i8)]?=some [.i i9,.i i10,.i i11])(h12:Fn E y3z [.agg [.i i9,.i i10,.i i11],.agg [.i i3,.i i4,.i i5]] (.i i12))
include h9 h10 h11 h12
theorem x5a (h13:i12≥0)(e1:IntKind.i64.wrap (i1-1)=i8):Lp E 1 F0 0 (H1 r0 r1 i0 i1 r2 r3) .ret (O7 r2 r3 5):=by subst e1;exact lpX (oT h1 (oP h2 (oD h3 (oF h4 (oU h5 (oF h6 (oU h7 (oU h8 (oT h9 (oP h10 (oD h11 (oF h12 (oT h13 oZ)))))))))))))
section
variable (h13:¬ i12≥0)(h14:0≤i6)(h15:r2[(Int.toNat i6)]?=some [.i i13,.i i14,.i i15,.s s0,.s s1,.s s2,.s s3])
include h13 h14 h15
theorem x5b (h16:i5>i14)(e1:IntKind.i64.wrap (i1-1)=i8):Lp E 1 F0 0 (H1 r0 r1 i0 i1 r2 r3) .ret (O7 r2 r3 12):=by subst e1;exact lpX (oT h1 (oP h2 (oD h3 (oF h4 (oU h5 (oF h6 (oU h7 (oU h8 (oT h9 (oP h10 (oD h11 (oF h12 (oU h13 (oP h14 (oD h15 (oT h16 oZ))))))))))))))))
theorem x5c (h16:¬ i5>i14)(h17:0≤(0:Int)∧(0:Int)≤i16∧i16≤r0.length∧∀ x∈r0,x.length=3)(h18:Fn E O1 [.l r4,.i i4] (.i i17))(h19:i17>i14)(e1:IntKind.i64.wrap (i1-1)=i8)(e2:IntKind.i64.wrap (i1+1)=i16)(e3:List.drop 0 (r0.take (Int.toNat i16))=r4):Lp E 1 F0 0 (H1 r0 r1 i0 i1 r2 r3) .ret (O7 r2 r3 12):=by subst e1 e2 e3;exact lpX (oT h1 (oP h2 (oD h3 (oF h4 (oU h5 (oF h6 (oU h7 (oU h8 (oT h9 (oP h10 (oD h11 (oF h12 (oU h13 (oP h14 (oD h15 (oU h16 (oP h17 (oF h18 (oP h14 (oD h15 (oT h19 oZ)))))))))))))))))))))
end
end
section
variable (h9:¬ i1>0)(h10:0≤i6)(h11:r2[(Int.toNat i6)]?=some [.i i8,.i i9,.i i10,.s s4,.s s5,.s s6,.s s7])
include h9 h10 h11
theorem x5d (h12:i5>i9):Lp E 1 F0 0 (H1 r0 r1 i0 i1 r2 r3) .ret (O7 r2 r3 12):=lpX (oT h1 (oP h2 (oD h3 (oF h4 (oU h5 (oF h6 (oU h7 (oU h8 (oU h9 (oP h10 (oD h11 (oT h12 oZ))))))))))))
theorem x5e (h12:¬ i5>i9)(h13:0≤(0:Int)∧(0:Int)≤i15∧i15≤r0.length∧∀ x∈r0,x.length=3)(h14:Fn E O1 [.l r5,.i i4] (.i i18))(h15:i18>i9)(e1:IntKind.i64.wrap (i1+1)=i15)(e2:List.drop 0 (r0.take (Int.toNat i15))=r5):Lp E 1 F0 0 (H1 r0 r1 i0 i1 r2 r3) .ret (O7 r2 r3 12):=by subst e1 e2;exact lpX (oT h1 (oP h2 (oD h3 (oF h4 (oU h5 (oF h6 (oU h7 (oU h8 (oU h9 (oP h10 (oD h11 (oU h12 (oP h13 (oF h14 (oP h10 (oD h11 (oT h15 oZ)))))))))))))))))
end
end
end
end
end
theorem x5f (h1:¬ i1<i0):Lp E 1 F0 0 (H1 r0 r1 i0 i1 r2 r3) (.exit 0) (y1t r2 r3):=lpX (oU h1 oZ)
section
variable (h1:Fn E B1 [.agg [.l r0,.l r1]] (.i i0))
include h1
theorem j3l (h2:¬ i0=0):Fn E F0 [.agg [.l r0,.l r1],.l r2] (.i 1):=fnM (oF h1 (oB (bnT h2) oZ))
theorem j3m (h2:i0=0)(h3:Lp E 1 F0 0 (H1 r2 r2 (r2.length:Int) 0 r0 r1) .ret (O7 r0 r1 i1)):Fn E F0 [.agg [.l r0,.l r1],.l r2] (.i i1):=fnM (oF h1 (oC (bnF h2) (oL h3 oZ)))
theorem j3n (h2:i0=0)(h3:Lp E 1 F0 0 (H1 r2 r2 (r2.length:Int) 0 r0 r1) (.exit 0) (y1t r0 r1)):Fn E F0 [.agg [.l r0,.l r1],.l r2] (.i 0):=fnM (oF h1 (oC (bnF h2) (oL h3 oZ)))
end
theorem k9y (h1:Fn E Z7 [.s s0,.s s1] (.tup [.i i0,.i i1])):Fn E z6k [.s s0,.s s1] (.i i0):=fnM (oF h1 oZ)
theorem q0n (h1:Fn E F0 [.agg [.l r0,.l r1],.l r2] (.i i1))(h2:i1=0)(h3:Fn E z8z [.agg [.l r0,.l r1],.i i0] (.i i2))(h4:¬ i2<0)(h5:Fn E x1f [.l r2,.i i0] (.l r3))(h6:Fn E X4 [.agg [.l r0,.l r1],.l r3] (.agg [.s s0,.s s1,.s s2,.s s3,.s s4,.s s5])):Fn E x1e [.agg [.l r0,.l r1],.l r2,.i i0] (.tup [.agg [.s s0,.s s1,.s s2,.s s3,.s s4,.s s5],.i 0]):=fnM (oF h1 (oC (bnF h2) (oF h3 (oU h4 (oF h5 (oF h6 oZ))))))
theorem j3r (h1:Fn E y5q [.l r0,.i i0,.fn C4 []] (.i i1)):Fn E y1l [.agg [.l r0,.l r1],.i i0] (.i i1):=fnM (oF h1 oZ)
theorem q0o (h1:Fn E y8c [.l r1,.i i0,.fn D6 []] (.i i1)):Fn E z8z [.agg [.l r0,.l r1],.i i0] (.i i1):=fnM (oF h1 oZ)
theorem j7n (h1:Fn E X7 [.i i0,.i i3] (.i i6))(h2:Fn E X7 [.i i1,.i i4] (.i i7))(h3:Fn E z0d [.l r0] (.i i8))(e1:(([[.i i6],[.i i7]]:RW).take 2)=r0):Fn E y3z [.agg [.i i0,.i i1,.i i2],.agg [.i i3,.i i4,.i i5]] (.i i8):=by subst e1;exact fnM (oF h1 (oF h2 (oF h3 oZ)))
def z2k (i0 i1:Int) (r0:RW) (i2 i3:Int):St:=stOf 24 [(1,.i i0),(5,.i i1),(8,.l r0),(9,.i i2),(10,.i i3)] []
def y3e (i4:Int):St:=stOf 24 [(5,.i i4)] []
section
variable (h1:i3<i2)(h2:0≤i3)(h3:r0[(Int.toNat i3)]?=some [.i i5,.i i6,.i i7])
include h1 h2 h3
theorem k2q (h4:i6=i0)(e1:IntKind.i64.wrap (i1+i7)=i8)(e2:IntKind.i64.wrap (i3+1)=i9)(ih:Lp E 0 O1 0 (z2k i0 i8 r0 i2 i9) o t):Lp E 0 O1 0 (z2k i0 i1 r0 i2 i3) o t:=by subst e1 e2;exact lpM (oT h1 (oP h2 (oD h3 (oB (beT h4) oZ)))) ih
theorem k2r (h4:¬ i6=i0)(e1:IntKind.i64.wrap (i3+1)=i8)(ih:Lp E 0 O1 0 (z2k i0 i1 r0 i2 i8) o t):Lp E 0 O1 0 (z2k i0 i1 r0 i2 i3) o t:=by subst e1;exact lpM (oT h1 (oP h2 (oD h3 (oC (beF h4) oZ)))) ih
end
theorem x8x (h1:¬ i3<i2):Lp E 0 O1 0 (z2k i0 i1 r0 i2 i3) (.exit 0) (y3e i1):=lpX (oU h1 oZ)
theorem j7p (h1:Lp E 0 O1 0 (z2k i0 0 r0 (r0.length:Int) 0) (.exit 0) (y3e i1)):Fn E O1 [.l r0,.i i0] (.i i1):=fnM (oL h1 oZ)
section
variable (h1:Fn E x1f [.l r2,.i i0] (.l r3))(h2:Fn E X4 [.agg [.l r0,.l r1],.l r3] (.agg [.s s6,.s s7,.s s8,.s s9,.s s10,.s s11]))(h3:Fn E z6k [.s s6,.s s2] (.i i1))
include h1 h2 h3
theorem x4u (h4:i1>0):Rn E H3 [.agg [.i i0,.s s0,.s s1,.s s2,.s s3,.s s4,.s s5],.ptr 0 0,.ptr 1 0] [sC [.l r0,.l r1],sC [.l r2]] (.b true) [sC [.l r0,.l r1],sC [.l r2]]:=rnM (oF h1 (oF h2 (oF h3 (oT h4 oZ))))
section
variable (h4:¬ i1>0)(h5:Fn E z6k [.s s7,.s s1] (.i i2))
include h4 h5
theorem x4v (h6:i2>0):Rn E H3 [.agg [.i i0,.s s0,.s s1,.s s2,.s s3,.s s4,.s s5],.ptr 0 0,.ptr 1 0] [sC [.l r0,.l r1],sC [.l r2]] (.b true) [sC [.l r0,.l r1],sC [.l r2]]:=rnM (oF h1 (oF h2 (oF h3 (oU h4 (oF h5 (oT h6 oZ))))))
theorem x4w (h6:¬ i2>0):Rn E H3 [.agg [.i i0,.s s0,.s s1,.s s2,.s s3,.s s4,.s s5],.ptr 0 0,.ptr 1 0] [sC [.l r0,.l r1],sC [.l r2]] (.b false) [sC [.l r0,.l r1],sC [.l r2]]:=rnM (oF h1 (oF h2 (oF h3 (oU h4 (oF h5 (oU h6 oZ))))))
end
end
theorem q5i (h1:Rn E N3 [.l r0] [] (.vec 0 n0) [sV D4 r1])(h2:Rn E F1 [.vec 1 n0,.fn J2 [.ptr 0 0]] [sC [.i i0],sV D4 r1] (.vec 1 n1) [sC [.i i0],sV D4 r2])(e1:(r2.take n1)=r3):Fn E x1f [.l r0,.i i0] (.l r3):=by subst e1;exact fnM (oN h1 (oV h2 oZ))
def z0n (r0:RW) (i0 i1:Int) (r1 r2:RW) (s0 s1 s2 s3 s4 s5 s6 s7 s8 s9 s10 s11:BA):St:=stOf 93 [(2,.ptr 0 0),(4,.ptr 1 0),(5,.ptr 2 0),(14,.l r0),(15,.i i0),(16,.i i1)] [sC [.l r1,.l r2],sC [.s s0,.s s1,.s s2,.s s3,.s s4,.s s5],sC [.s s6,.s s7,.s s8,.s s9,.s s10,.s s11]]
def y3d (r1 r2:RW) (s0 s1 s2 s3 s4 s5 s12 s13 s14 s15 s16 s17:BA):St:=stOf 93 [(4,.ptr 1 0),(5,.ptr 2 0)] [sC [.l r1,.l r2],sC [.s s0,.s s1,.s s2,.s s3,.s s4,.s s5],sC [.s s12,.s s13,.s s14,.s s15,.s s16,.s s17]]
theorem k2p (h1:i1<i0)(h2:0≤i1)(h3:r0[(Int.toNat i1)]?=some [.i i2,.i i3,.i i4])(h4:Fn E y1l [.agg [.l r1,.l r2],.i i3] (.i i5))(h5:0≤i5)(h6:r1[(Int.toNat i5)]?=some [.i i6,.i i7,.i i8,.s s18,.s s19,.s s20,.s s21])(h7:Fn E z8z [.agg [.l r1,.l r2],.i i2] (.i i9))(h8:0≤i9)(h9:r2[(Int.toNat i9)]?=some [.i i10,.s s22,.s s23,.s s24,.s s25,.s s26,.s s27])(h10:Fn E y6r [.i i4] (.s s28))(h11:Fn E z4y [.s s28,.s s19] (.s s29))(h12:Fn E z4x [.s s6,.s s29] (.s s30))(h13:Fn E z4y [.s s28,.s s20] (.s s31))(h14:Fn E z4x [.s s7,.s s31] (.s s32))(h15:Fn E z4y [.s s28,.s s21] (.s s33))(h16:Fn E z4x [.s s8,.s s33] (.s s34))(h17:Fn E z4y [.s s29,.s s25] (.s s35))(h18:Fn E z4x [.s s9,.s s35] (.s s36))(h19:Fn E z4y [.s s29,.s s26] (.s s37))(h20:Fn E z4x [.s s10,.s s37] (.s s38))(h21:Fn E z4y [.s s29,.s s27] (.s s39))(h22:Fn E z4x [.s s11,.s s39] (.s s40))(e1:IntKind.i64.wrap (i1+1)=i11)(ih:Lp E 3 X4 0 (z0n r0 i0 i11 r1 r2 s0 s1 s2 s3 s4 s5 s30 s32 s34 s36 s38 s40) o t):Lp E 3 X4 0 (z0n r0 i0 i1 r1 r2 s0 s1 s2 s3 s4 s5 s6 s7 s8 s9 s10 s11) o t:=by subst e1;exact lpM (oT h1 (oP h2 (oD h3 (oF h4 (oP h5 (oD h6 (oF h7 (oP h8 (oD h9 (oF h10 (oF h11 (oF h12 (oF h13 (oF h14 (oF h15 (oF h16 (oF h17 (oF h18 (oF h19 (oF h20 (oF h21 (oF h22 oZ)))))))))))))))))))))) ih
theorem x8w (h1:¬ i1<i0):Lp E 3 X4 0 (z0n r0 i0 i1 r1 r2 s0 s1 s2 s3 s4 s5 s6 s7 s8 s9 s10 s11) (.exit 0) (y3d r1 r2 s0 s1 s2 s3 s4 s5 s6 s7 s8 s9 s10 s11):=lpX (oU h1 oZ)
theorem j7j (h1:Lp E 3 X4 0 (z0n r2 (r2.length:Int) 0 r0 r1 ⟨#[]⟩ ⟨#[]⟩ ⟨#[]⟩ ⟨#[]⟩ ⟨#[]⟩ ⟨#[]⟩ ⟨#[48]⟩ ⟨#[48]⟩ ⟨#[48]⟩ ⟨#[48]⟩ ⟨#[48]⟩ ⟨#[48]⟩) (.exit 0) (y3d r0 r1 ⟨#[]⟩ ⟨#[]⟩ ⟨#[]⟩ ⟨#[]⟩ ⟨#[]⟩ ⟨#[]⟩ s0 s1 s2 s3 s4 s5)):Fn E X4 [.agg [.l r0,.l r1],.l r2] (.agg [.s s0,.s s1,.s s2,.s s3,.s s4,.s s5]):=fnM (oL h1 oZ)
theorem y0a (h1:Rn E A4 [.l r0,.fn H6 [.ptr 1 0,.ptr 0 0]] [sC [.i i0],sC [.fn C4 []]] (.i i1) [sC [.i i0],sC [.fn C4 []]]):Fn E y5q [.l r0,.i i0,.fn C4 []] (.i i1):=fnM (oR h1 oZ)
theorem y2q (h1:Rn E A9 [.l r0,.fn J4 [.ptr 1 0,.ptr 0 0]] [sC [.i i0],sC [.fn D6 []]] (.i i1) [sC [.i i0],sC [.fn D6 []]]):Fn E y8c [.l r0,.i i0,.fn D6 []] (.i i1):=fnM (oR h1 oZ)
theorem j0a (h1:Fn E z4d [.s s0] (.b b0)):Fn E I5 [.s s0] (.b (!b0)):=fnM (oF h1 oZ)
theorem j3p (h1:Fn E y1r [.i i0] (.s s0)):Fn E y6r [.i i0] (.s s0):=fnM (oF h1 oZ)
theorem q2s (h1:Fn E y1q [.s s0,.s s1] (.tup [.s s2,.i i0])):Fn E z4y [.s s0,.s s1] (.s s2):=fnM (oF h1 oZ)
theorem q2r (h1:Fn E y1p [.s s0,.s s1] (.tup [.s s2,.i i0])):Fn E z4x [.s s0,.s s1] (.s s2):=fnM (oF h1 oZ)
theorem q0p (h1:¬ i0=i3):Rn E J2 [.agg [.i i0,.i i1,.i i2],.ptr 0 0] [sC [.i i3]] (.b true) [sC [.i i3]]:=rnM (oB (bnT h1) oZ)
theorem q0q (h1:i0=i3):Rn E J2 [.agg [.i i0,.i i1,.i i2],.ptr 0 0] [sC [.i i3]] (.b false) [sC [.i i3]]:=rnM (oC (bnF h1) oZ)
section
variable (h1:Fn E C4 [.agg [.i i0,.i i1,.i i2,.s s0,.s s1,.s s2,.s s3]] (.i i4))
include h1
theorem x3f (h2:i4=i3):Rn E H6 [.agg [.i i0,.i i1,.i i2,.s s0,.s s1,.s s2,.s s3],.ptr 0 0,.ptr 1 0] [sC [.fn C4 []],sC [.i i3]] (.b true) [sC [.fn C4 []],sC [.i i3]]:=rnM (oF h1 (oB (beT h2) oZ))
theorem x3g (h2:¬ i4=i3):Rn E H6 [.agg [.i i0,.i i1,.i i2,.s s0,.s s1,.s s2,.s s3],.ptr 0 0,.ptr 1 0] [sC [.fn C4 []],sC [.i i3]] (.b false) [sC [.fn C4 []],sC [.i i3]]:=rnM (oF h1 (oC (beF h2) oZ))
end
section
variable (h1:Fn E D6 [.agg [.i i0,.s s0,.s s1,.s s2,.s s3,.s s4,.s s5]] (.i i2))
include h1
theorem x8u (h2:i2=i1):Rn E J4 [.agg [.i i0,.s s0,.s s1,.s s2,.s s3,.s s4,.s s5],.ptr 0 0,.ptr 1 0] [sC [.fn D6 []],sC [.i i1]] (.b true) [sC [.fn D6 []],sC [.i i1]]:=rnM (oF h1 (oB (beT h2) oZ))
theorem x8v (h2:¬ i2=i1):Rn E J4 [.agg [.i i0,.s s0,.s s1,.s s2,.s s3,.s s4,.s s5],.ptr 0 0,.ptr 1 0] [sC [.fn D6 []],sC [.i i1]] (.b false) [sC [.fn D6 []],sC [.i i1]]:=rnM (oF h1 (oC (beF h2) oZ))
end
theorem y9s:Fn E C4 [.agg [.i i0,.i i1,.i i2,.s s0,.s s1,.s s2,.s s3]] (.i i0):=fnM oZ
theorem x5g:Fn E D6 [.agg [.i i0,.s s0,.s s1,.s s2,.s s3,.s s4,.s s5]] (.i i0):=fnM oZ
end Gev
namespace Gev
open Go Go.Proofs
variable {E:Env}
variable {o:Out} {t:St} {r0 r1 r2 r3 r4 r5 r6 r7 r8 r9 r10 r11 r12 r13 r14 r15:RW} {i0 i1 i2 i3 i4 i5 i6 i7 i8 i9 i10 i11 i12 i13 i14 i15:Int} {n0 n1 n2 n3 n4 n5 n6 n7 n8:Nat} {s0 s1 s2 s3 s4 s5 s6 s7 s8 s9 s10 s11 s12 s13 s14 s15 s16 s17 s18 s19:BA} {b0:Bool}
def Z9 (i0 i1:Int) (r0 r1 r2:RW):St:=stOf 31 [(1,.ptr 0 0),(19,.i i0),(20,.i i1)] [sC [.l r0,.l r1,.l r2]]
def y0q (r0 r1 r2:RW) (i2 i3:Int):St:=stOf 31 [(2,.i i2),(3,.i i3)] [sC [.l r0,.l r1,.l r2]]
def y0r (r0 r1 r2:RW):St:=stOf 31 [] [sC [.l r0,.l r1,.l r2]]
section
variable (h1:i1<i0)(h2:Fn E D8 [.agg [.l r0,.l r1,.l r2],.i i1] (.i i4))
include h1 h2
theorem x9i (h3:i4=0)(e1:IntKind.i64.wrap (i1+1)=i5)(ih:Lp E 1 H0 0 (Z9 i0 i5 r0 r1 r2) o t):Lp E 1 H0 0 (Z9 i0 i1 r0 r1 r2) o t:=by subst e1;exact lpM (oT h1 (oF h2 (oC (bnF h3) oZ))) ih
theorem x3y (h3:¬ i4=0):Lp E 1 H0 0 (Z9 i0 i1 r0 r1 r2) .ret (y0q r0 r1 r2 i1 i4):=lpX (oT h1 (oF h2 (oB (bnT h3) oZ)))
end
theorem x3z (h1:¬ i1<i0):Lp E 1 H0 0 (Z9 i0 i1 r0 r1 r2) (.exit 0) (y0r r0 r1 r2):=lpX (oU h1 oZ)
section
variable (h1:Fn E B1 [.agg [.l r0,.l r1]] (.i i0))
include h1
theorem j0z (h2:¬ i0=0):Fn E H0 [.agg [.l r0,.l r1,.l r2]] (.tup [.i (-1),.i i0]):=fnM (oF h1 (oB (bnT h2) oZ))
theorem j1a (h2:i0=0)(h3:(r2.length:Int)>16):Fn E H0 [.agg [.l r0,.l r1,.l r2]] (.tup [.i (-1),.i 8]):=fnM (oF h1 (oC (bnF h2) (oT h3 oZ)))
theorem j1b (h2:i0=0)(h3:¬ (r2.length:Int)>16)(h4:Lp E 1 H0 0 (Z9 (r2.length:Int) 0 r0 r1 r2) .ret (y0q r0 r1 r2 i1 i2)):Fn E H0 [.agg [.l r0,.l r1,.l r2]] (.tup [.i i1,.i i2]):=fnM (oF h1 (oC (bnF h2) (oU h3 (oL h4 oZ))))
theorem j1c (h2:i0=0)(h3:¬ (r2.length:Int)>16)(h4:Lp E 1 H0 0 (Z9 (r2.length:Int) 0 r0 r1 r2) (.exit 0) (y0r r0 r1 r2)):Fn E H0 [.agg [.l r0,.l r1,.l r2]] (.tup [.i (-1),.i 0]):=fnM (oF h1 (oC (bnF h2) (oU h3 (oL h4 oZ))))
end
theorem j8q (h1:Fn E V8 [.agg [.l r0,.l r1,.l r2],.i i0,.l r3] (.tup [.s s0,.i i1])):Fn E y8u [.agg [.l r0,.l r1,.l r2],.i i0,.l r3] (.tup [.s s0,.i i1]):=fnM (oF h1 oZ)
section
variable (h1:Fn E V8 [.agg [.l r0,.l r1,.l r2],.i i0,.l r3] (.tup [.s s0,.i i1]))
include h1
theorem k7s (h2:¬ i1=0):Fn E z9a [.agg [.l r0,.l r1,.l r2],.i i0,.l r3] (.tup [.s ⟨#[]⟩,.i i1]):=fnM (oF h1 (oB (bnT h2) oZ))
theorem k7t (h2:i1=0)(h3:0≤i0)(h4:r2[(Int.toNat i0)]?=some [.s s1,.i i2,.l r4,.s s2,.s s3,.i i3,.i i4])(h5:Fn E P5 [.agg [.s s1,.i i2,.l r4,.s s2,.s s3,.i i3,.i i4],.s s0] (.s s4)):Fn E z9a [.agg [.l r0,.l r1,.l r2],.i i0,.l r3] (.tup [.s s4,.i 0]):=fnM (oF h1 (oC (bnF h2) (oP h3 (oD h4 (oF h5 oZ)))))
end
theorem k7n (h1:Fn E P2 [.agg [.l r0,.l r1,.l r2],.l r3] (.b true))(h2:Fn E C0 [.agg [.l r0,.l r1,.l r2],.l r3] (.l r4)):Fn E U1 [.agg [.l r0,.l r1,.l r2],.l r3] (.tup [.l r4,.i 0]):=fnM (oF h1 (oF h2 oZ))
theorem k7o (h1:Fn E P2 [.agg [.l r0,.l r1,.l r2],.l r3] (.b false)):Fn E U1 [.agg [.l r0,.l r1,.l r2],.l r3] (.tup [.l [],.i 1]):=fnM (oF h1 oZ)
section
variable (h1:Fn E P2 [.agg [.l r0,.l r1,.l r2],.l r3] (.b true))(h2:Fn E C0 [.agg [.l r0,.l r1,.l r2],.l r3] (.l r4))
include h1 h2
theorem j1d (h3:(r4.length:Int)>0):Fn E P1 [.agg [.l r0,.l r1,.l r2],.l r3] (.b false):=fnM (oF h1 (oF h2 (oT h3 oZ)))
section
variable (h3:¬ (r4.length:Int)>0)(h4:Fn E z5d [.agg [.l r0,.l r1],.l r3] (.tup [.i i0,.i i1]))
include h3 h4
theorem j1e (h5:i0<0):Fn E P1 [.agg [.l r0,.l r1,.l r2],.l r3] (.b true):=fnM (oF h1 (oF h2 (oU h3 (oF h4 (oT h5 oZ)))))
theorem j1f (h5:¬ i0<0):Fn E P1 [.agg [.l r0,.l r1,.l r2],.l r3] (.b false):=fnM (oF h1 (oF h2 (oU h3 (oF h4 (oU h5 oZ)))))
end
end
theorem j1g (h1:Fn E P2 [.agg [.l r0,.l r1,.l r2],.l r3] (.b false)):Fn E P1 [.agg [.l r0,.l r1,.l r2],.l r3] (.b false):=fnM (oF h1 oZ)
def z2d (i0:Int) (r0:RW) (i1 i2:Int) (r1 r2 r3 r4 r5:RW) (n0 n1:Nat) (r6 r7:RW):St:=stOf 139 [(1,.ptr 0 0),(2,.ptr 1 0),(6,.ptr 2 0),(7,.ptr 3 0),(8,.i i0),(9,.ptr 4 0),(10,.fn A1 [.ptr 2 0,.ptr 3 0,.ptr 4 0]),(11,.ptr 5 0),(42,.l r0),(43,.i i1),(44,.i i2)] [sC [.l r1,.l r2,.l r3],sC [.nils,.nils,.nils],sC [.l r4],sC [.l r5],sC [.vec 6 n0,.vec 7 n1,.nils],sC [.fn A0 []],sV A3 r6,sV A2 r7]
def z6d (i0:Int) (r1 r2 r3 r4 r5:RW) (n2 n3:Nat) (r8 r9:RW):St:=stOf 139 [(1,.ptr 0 0),(2,.ptr 1 0),(6,.ptr 2 0),(7,.ptr 3 0),(8,.i i0),(9,.ptr 4 0),(10,.fn A1 [.ptr 2 0,.ptr 3 0,.ptr 4 0]),(11,.ptr 5 0)] [sC [.l r1,.l r2,.l r3],sC [.nils,.nils,.nils],sC [.l r4],sC [.l r5],sC [.vec 6 n2,.vec 7 n3,.nils],sC [.fn A0 []],sV A3 r8,sV A2 r9]
theorem x9j (h1:i2<i1)(h2:0≤i2)(h3:r0[(Int.toNat i2)]?=some [.i i3,.i i4,.i i5,.s s0,.s s1,.s s2,.s s3])(h4:Fn E y2x [.i i4] (.s s4))(h5:Rn E A1 [.s s4,.fn O2 [.ptr 5 0,.ptr 8 0],.ptr 2 0,.ptr 3 0,.ptr 4 0] [sC [.l r1,.l r2,.l r3],sC [.nils,.nils,.nils],sC [.l r4],sC [.l r5],sC [.vec 6 n0,.vec 7 n1,.nils],sC [.fn A0 []],sV A3 r6,sV A2 r7,sC [.i i2],sC [.i i3,.i i4,.i i5,.s s0,.s s1,.s s2,.s s3]] (.tup []) [sC [.l r1,.l r2,.l r3],sC [.nils,.nils,.nils],sC [.l r4],sC [.l r5],sC [.vec 10 n4,.vec 11 n5,.nils],sC [.fn A0 []],some .dead,some .dead,sC [.i i2],sC [.i i3,.i i4,.i i5,.s s0,.s s1,.s s2,.s s3],sV A3 r10,sV A2 r11])(e1:IntKind.i64.wrap (i2+1)=i6)(ih:Lp E 6 A8 0 (z2d i0 r0 i1 i6 r1 r2 r3 r4 r5 n4 n5 r10 r11) o t):Lp E 6 A8 0 (z2d i0 r0 i1 i2 r1 r2 r3 r4 r5 n0 n1 r6 r7) o t:=by subst e1;exact lpM (oT h1 (oP h2 (oD h3 (oF h4 (oV h5 oZ))))) ih
theorem x4c (h1:¬ i2<i1):Lp E 6 A8 0 (z2d i0 r0 i1 i2 r1 r2 r3 r4 r5 n0 n1 r6 r7) (.exit 0) (z6d i0 r1 r2 r3 r4 r5 n0 n1 r6 r7):=lpX (oU h1 oZ)
def z2e (i0:Int) (r0:RW) (i1 i2:Int) (r1 r2 r3 r4 r5:RW) (n0 n1:Nat) (r6 r7:RW):St:=stOf 139 [(1,.ptr 0 0),(2,.ptr 1 0),(6,.ptr 2 0),(7,.ptr 3 0),(8,.i i0),(9,.ptr 4 0),(10,.fn A1 [.ptr 2 0,.ptr 3 0,.ptr 4 0]),(11,.ptr 5 0),(56,.l r0),(57,.i i1),(58,.i i2)] [sC [.l r1,.l r2,.l r3],sC [.nils,.nils,.nils],sC [.l r4],sC [.l r5],sC [.vec 8 n0,.vec 9 n1,.nils],sC [.fn A0 []],some .dead,some .dead,sV A3 r6,sV A2 r7]
def z6e (i0:Int) (r1 r2 r3 r4 r5:RW) (n2 n3:Nat) (r8 r9:RW):St:=stOf 139 [(1,.ptr 0 0),(2,.ptr 1 0),(6,.ptr 2 0),(7,.ptr 3 0),(8,.i i0),(9,.ptr 4 0),(10,.fn A1 [.ptr 2 0,.ptr 3 0,.ptr 4 0]),(11,.ptr 5 0)] [sC [.l r1,.l r2,.l r3],sC [.nils,.nils,.nils],sC [.l r4],sC [.l r5],sC [.vec 8 n2,.vec 9 n3,.nils],sC [.fn A0 []],some .dead,some .dead,sV A3 r8,sV A2 r9]
theorem x9k (h1:i2<i1)(h2:0≤i2)(h3:r0[(Int.toNat i2)]?=some [.i i3,.s s0,.s s1,.s s2,.s s3,.s s4,.s s5])(h4:Rn E A1 [.s s2,.fn O3 [.ptr 5 0,.ptr 10 0,.ptr 2 0],.ptr 2 0,.ptr 3 0,.ptr 4 0] [sC [.l r1,.l r2,.l r3],sC [.nils,.nils,.nils],sC [.l r4],sC [.l r5],sC [.vec 8 n0,.vec 9 n1,.nils],sC [.fn A0 []],some .dead,some .dead,sV A3 r6,sV A2 r7,sC [.i i2],sC [.i i3,.s s0,.s s1,.s s2,.s s3,.s s4,.s s5]] (.tup []) [sC [.l r1,.l r2,.l r3],sC [.nils,.nils,.nils],sC [.l r4],sC [.l r5],sC [.vec 12 n4,.vec 13 n5,.nils],sC [.fn A0 []],some .dead,some .dead,some .dead,some .dead,sC [.i i2],sC [.i i3,.s s0,.s s1,.s s2,.s s3,.s s4,.s s5],sV A3 r10,sV A2 r11])(e1:IntKind.i64.wrap (i2+1)=i4)(ih:Lp E 8 A8 1 (z2e i0 r0 i1 i4 r1 r2 r3 r4 r5 n4 n5 r10 r11) o t):Lp E 8 A8 1 (z2e i0 r0 i1 i2 r1 r2 r3 r4 r5 n0 n1 r6 r7) o t:=by subst e1;exact lpM (oT h1 (oP h2 (oD h3 (oV h4 oZ)))) ih
theorem x4d (h1:¬ i2<i1):Lp E 8 A8 1 (z2e i0 r0 i1 i2 r1 r2 r3 r4 r5 n0 n1 r6 r7) (.exit 2) (z6e i0 r1 r2 r3 r4 r5 n0 n1 r6 r7):=lpX (oU h1 oZ)
def z2f (i0:Int) (r0:RW) (i1 i2:Int) (r1 r2 r3 r4 r5:RW) (n0 n1:Nat) (r6 r7:RW):St:=stOf 139 [(1,.ptr 0 0),(2,.ptr 1 0),(6,.ptr 2 0),(7,.ptr 3 0),(8,.i i0),(9,.ptr 4 0),(10,.fn A1 [.ptr 2 0,.ptr 3 0,.ptr 4 0]),(11,.ptr 5 0),(69,.l r0),(70,.i i1),(71,.i i2)] [sC [.l r1,.l r2,.l r3],sC [.nils,.nils,.nils],sC [.l r4],sC [.l r5],sC [.vec 10 n0,.vec 11 n1,.nils],sC [.fn A0 []],some .dead,some .dead,some .dead,some .dead,sV A3 r6,sV A2 r7]
def z6f (i0:Int) (r1 r2 r3 r4 r5:RW) (n2 n3:Nat) (r8 r9:RW):St:=stOf 139 [(1,.ptr 0 0),(2,.ptr 1 0),(6,.ptr 2 0),(7,.ptr 3 0),(8,.i i0),(9,.ptr 4 0),(10,.fn A1 [.ptr 2 0,.ptr 3 0,.ptr 4 0])] [sC [.l r1,.l r2,.l r3],sC [.nils,.nils,.nils],sC [.l r4],sC [.l r5],sC [.vec 10 n2,.vec 11 n3,.nils],sC [.fn A0 []],some .dead,some .dead,some .dead,some .dead,sV A3 r8,sV A2 r9]
theorem x9l (h1:i2<i1)(h2:0≤i2)(h3:r0[(Int.toNat i2)]?=some [.i i3,.s s0,.s s1,.s s2,.s s3,.s s4,.s s5])(h4:Rn E A1 [.s s1,.fn O4 [.ptr 5 0,.ptr 12 0,.ptr 2 0],.ptr 2 0,.ptr 3 0,.ptr 4 0] [sC [.l r1,.l r2,.l r3],sC [.nils,.nils,.nils],sC [.l r4],sC [.l r5],sC [.vec 10 n0,.vec 11 n1,.nils],sC [.fn A0 []],some .dead,some .dead,some .dead,some .dead,sV A3 r6,sV A2 r7,sC [.i i2],sC [.i i3,.s s0,.s s1,.s s2,.s s3,.s s4,.s s5]] (.tup []) [sC [.l r1,.l r2,.l r3],sC [.nils,.nils,.nils],sC [.l r4],sC [.l r5],sC [.vec 14 n4,.vec 15 n5,.nils],sC [.fn A0 []],some .dead,some .dead,some .dead,some .dead,some .dead,some .dead,sC [.i i2],sC [.i i3,.s s0,.s s1,.s s2,.s s3,.s s4,.s s5],sV A3 r10,sV A2 r11])(e1:IntKind.i64.wrap (i2+1)=i4)(ih:Lp E 10 A8 2 (z2f i0 r0 i1 i4 r1 r2 r3 r4 r5 n4 n5 r10 r11) o t):Lp E 10 A8 2 (z2f i0 r0 i1 i2 r1 r2 r3 r4 r5 n0 n1 r6 r7) o t:=by subst e1;exact lpM (oT h1 (oP h2 (oD h3 (oV h4 oZ)))) ih
theorem x4e (h1:¬ i2<i1):Lp E 10 A8 2 (z2f i0 r0 i1 i2 r1 r2 r3 r4 r5 n0 n1 r6 r7) (.exit 4) (z6f i0 r1 r2 r3 r4 r5 n0 n1 r6 r7):=lpX (oU h1 oZ)
def H5 (i0:Int) (r0:RW) (i1 i2:Int) (r1 r2 r3 r4 r5:RW) (n0 n1:Nat) (r6 r7:RW):St:=stOf 139 [(2,.ptr 1 0),(6,.ptr 2 0),(7,.ptr 3 0),(8,.i i0),(9,.ptr 4 0),(10,.fn A1 [.ptr 2 0,.ptr 3 0,.ptr 4 0]),(83,.l r0),(84,.i i1),(85,.i i2)] [sC [.l r1,.l r2,.l r3],sC [.nils,.nils,.nils],sC [.l r4],sC [.l r5],sC [.vec 12 n0,.vec 13 n1,.nils],sC [.fn A0 []],some .dead,some .dead,some .dead,some .dead,some .dead,some .dead,sV A3 r6,sV A2 r7]
def z6g (i0:Int) (r1 r2 r3 r4 r5:RW) (n2 n3:Nat) (r8 r9:RW):St:=stOf 139 [(2,.ptr 1 0),(6,.ptr 2 0),(7,.ptr 3 0),(8,.i i0),(9,.ptr 4 0)] [sC [.l r1,.l r2,.l r3],sC [.nils,.nils,.nils],sC [.l r4],sC [.l r5],sC [.vec 12 n2,.vec 13 n3,.nils],sC [.fn A0 []],some .dead,some .dead,some .dead,some .dead,some .dead,some .dead,sV A3 r8,sV A2 r9]
section
variable (h1:i2<i1)(h2:0≤i2)(h3:r0[(Int.toNat i2)]?=some [.s s0,.i i3,.l r10,.s s1,.s s2,.i i4,.i i5])
include h1 h2 h3
theorem x9m (h4:¬ i3=1)(e1:IntKind.i64.wrap (i2+1)=i6)(ih:Lp E 12 A8 3 (H5 i0 r0 i1 i6 r1 r2 r3 r4 r5 n0 n1 r6 r7) o t):Lp E 12 A8 3 (H5 i0 r0 i1 i2 r1 r2 r3 r4 r5 n0 n1 r6 r7) o t:=by subst e1;exact lpM (oT h1 (oP h2 (oD h3 (oB (bnT h4) oZ)))) ih
theorem x9n (h4:i3=1)(h5:¬ s2=(⟨#[]⟩:BA))(h6:Rn E A1 [.s s2,.fn I6 [.ptr 2 0,.ptr 14 0],.ptr 2 0,.ptr 3 0,.ptr 4 0] [sC [.l r1,.l r2,.l r3],sC [.nils,.nils,.nils],sC [.l r4],sC [.l r5],sC [.vec 12 n0,.vec 13 n1,.nils],sC [.fn A0 []],some .dead,some .dead,some .dead,some .dead,some .dead,some .dead,sV A3 r6,sV A2 r7,sC [.s s0,.i i3,.l r10,.s s1,.s s2,.i i4,.i i5]] (.tup []) [sC [.l r1,.l r2,.l r3],sC [.nils,.nils,.nils],sC [.l r4],sC [.l r5],sC [.vec 15 n4,.vec 16 n5,.nils],sC [.fn A0 []],some .dead,some .dead,some .dead,some .dead,some .dead,some .dead,some .dead,some .dead,sC [.s s0,.i i3,.l r10,.s s1,.s s2,.i i4,.i i5],sV A3 r11,sV A2 r12])(h7:¬ s1=(⟨#[]⟩:BA))(h8:Fn E U7 [.s ⟨#[48]⟩,.s s1] (.s s3))(h9:Rn E A1 [.s s3,.fn H4 [.ptr 2 0,.ptr 14 0],.ptr 2 0,.ptr 3 0,.ptr 4 0] [sC [.l r1,.l r2,.l r3],sC [.nils,.nils,.nils],sC [.l r4],sC [.l r5],sC [.vec 15 n4,.vec 16 n5,.nils],sC [.fn A0 []],some .dead,some .dead,some .dead,some .dead,some .dead,some .dead,some .dead,some .dead,sC [.s s0,.i i3,.l r10,.s s1,.s s2,.i i4,.i i5],sV A3 r11,sV A2 r12] (.tup []) [sC [.l r1,.l r2,.l r3],sC [.nils,.nils,.nils],sC [.l r4],sC [.l r5],sC [.vec 17 n6,.vec 18 n7,.nils],sC [.fn A0 []],some .dead,some .dead,some .dead,some .dead,some .dead,some .dead,some .dead,some .dead,sC [.s s0,.i i3,.l r10,.s s1,.s s2,.i i4,.i i5],some .dead,some .dead,sV A3 r13,sV A2 r14])(e1:IntKind.i64.wrap (i2+1)=i7)(ih:Lp E 12 A8 3 (H5 i0 r0 i1 i7 r1 r2 r3 r4 r5 n6 n7 r13 r14) o t):Lp E 12 A8 3 (H5 i0 r0 i1 i2 r1 r2 r3 r4 r5 n0 n1 r6 r7) o t:=by subst e1;exact lpM (oT h1 (oP h2 (oD h3 (oC (bnF h4) (oB (snT h5) (oV h6 (oB (snT h7) (oF h8 (oV h9 oZ))))))))) ih
theorem x9o (h4:i3=1)(h5:¬ s2=(⟨#[]⟩:BA))(h6:Rn E A1 [.s s2,.fn I6 [.ptr 2 0,.ptr 14 0],.ptr 2 0,.ptr 3 0,.ptr 4 0] [sC [.l r1,.l r2,.l r3],sC [.nils,.nils,.nils],sC [.l r4],sC [.l r5],sC [.vec 12 n0,.vec 13 n1,.nils],sC [.fn A0 []],some .dead,some .dead,some .dead,some .dead,some .dead,some .dead,sV A3 r6,sV A2 r7,sC [.s s0,.i i3,.l r10,.s s1,.s s2,.i i4,.i i5]] (.tup []) [sC [.l r1,.l r2,.l r3],sC [.nils,.nils,.nils],sC [.l r4],sC [.l r5],sC [.vec 15 n4,.vec 16 n5,.nils],sC [.fn A0 []],some .dead,some .dead,some .dead,some .dead,some .dead,some .dead,some .dead,some .dead,sC [.s s0,.i i3,.l r10,.s s1,.s s2,.i i4,.i i5],sV A3 r11,sV A2 r12])(h7:s1=(⟨#[]⟩:BA))(e1:IntKind.i64.wrap (i2+1)=i8)(ih:Lp E 12 A8 3 (H5 i0 r0 i1 i8 r1 r2 r3 r4 r5 n4 n5 r11 r12) o t):Lp E 12 A8 3 (H5 i0 r0 i1 i2 r1 r2 r3 r4 r5 n0 n1 r6 r7) o t:=by subst e1;exact lpM (oT h1 (oP h2 (oD h3 (oC (bnF h4) (oB (snT h5) (oV h6 (oC (snF h7) oZ))))))) ih
theorem x9p (h4:i3=1)(h5:s2=(⟨#[]⟩:BA))(h6:¬ s1=(⟨#[]⟩:BA))(h7:Fn E U7 [.s ⟨#[48]⟩,.s s1] (.s s4))(h8:Rn E A1 [.s s4,.fn H4 [.ptr 2 0,.ptr 14 0],.ptr 2 0,.ptr 3 0,.ptr 4 0] [sC [.l r1,.l r2,.l r3],sC [.nils,.nils,.nils],sC [.l r4],sC [.l r5],sC [.vec 12 n0,.vec 13 n1,.nils],sC [.fn A0 []],some .dead,some .dead,some .dead,some .dead,some .dead,some .dead,sV A3 r6,sV A2 r7,sC [.s s0,.i i3,.l r10,.s s1,.s s2,.i i4,.i i5]] (.tup []) [sC [.l r1,.l r2,.l r3],sC [.nils,.nils,.nils],sC [.l r4],sC [.l r5],sC [.vec 15 n5,.vec 16 n8,.nils],sC [.fn A0 []],some .dead,some .dead,some .dead,some .dead,some .dead,some .dead,some .dead,some .dead,sC [.s s0,.i i3,.l r10,.s s1,.s s2,.i i4,.i i5],sV A3 r12,sV A2 r15])(e1:IntKind.i64.wrap (i2+1)=i9)(ih:Lp E 12 A8 3 (H5 i0 r0 i1 i9 r1 r2 r3 r4 r5 n5 n8 r12 r15) o t):Lp E 12 A8 3 (H5 i0 r0 i1 i2 r1 r2 r3 r4 r5 n0 n1 r6 r7) o t:=by subst e1;exact lpM (oT h1 (oP h2 (oD h3 (oC (bnF h4) (oC (snF h5) (oB (snT h6) (oF h7 (oV h8 oZ)))))))) ih
theorem x9q (h4:i3=1)(h5:s2=(⟨#[]⟩:BA))(h6:s1=(⟨#[]⟩:BA))(e1:IntKind.i64.wrap (i2+1)=i6)(ih:Lp E 12 A8 3 (H5 i0 r0 i1 i6 r1 r2 r3 r4 r5 n0 n1 r6 r7) o t):Lp E 12 A8 3 (H5 i0 r0 i1 i2 r1 r2 r3 r4 r5 n0 n1 r6 r7) o t:=by subst e1;exact lpM (oT h1 (oP h2 (oD h3 (oC (bnF h4) (oC (snF h5) (oC (snF h6) oZ)))))) ih
end
theorem x4f (h1:¬ i2<i1):Lp E 12 A8 3 (H5 i0 r0 i1 i2 r1 r2 r3 r4 r5 n0 n1 r6 r7) (.exit 6) (z6g i0 r1 r2 r3 r4 r5 n0 n1 r6 r7):=lpX (oU h1 oZ)
def z0x (r0:RW) (i0 i1 i2 i3:Int) (r1 r2 r3 r4 r5:RW) (n0 n1 n2:Nat) (r6 r7:RW) (i4 i5 i6:Int) (s0 s1 s2 s3:BA) (r8:RW):St:=stOf 139 [(2,.ptr 1 0),(7,.ptr 3 0),(9,.ptr 4 0),(21,.ptr 15 0),(119,.l r0),(120,.i i0),(121,.i i1),(126,.i i2),(127,.i i3)] [sC [.l r1,.l r2,.l r3],sC [.nils,.nils,.nils],sC [.l r4],sC [.l r5],sC [.vec 12 n0,.vec 13 n1,.vec 16 n2],sC [.fn A0 []],some .dead,some .dead,some .dead,some .dead,some .dead,some .dead,sV A3 r6,sV A2 r7,some .dead,sC [.i i4,.i i5,.i i6,.s s0,.s s1,.s s2,.s s3],sV A2 r8]
def z4c (r0:RW) (i0 i1:Int) (r1 r2 r3 r4 r5:RW) (n0 n1:Nat) (r6 r7:RW) (i4 i5 i6:Int) (s0 s1 s2 s3:BA) (n3:Nat) (r9:RW):St:=stOf 139 [(2,.ptr 1 0),(7,.ptr 3 0),(9,.ptr 4 0),(119,.l r0),(120,.i i0),(121,.i i1)] [sC [.l r1,.l r2,.l r3],sC [.nils,.nils,.nils],sC [.l r4],sC [.l r5],sC [.vec 12 n0,.vec 13 n1,.vec 16 n3],sC [.fn A0 []],some .dead,some .dead,some .dead,some .dead,some .dead,some .dead,sV A3 r6,sV A2 r7,some .dead,sC [.i i4,.i i5,.i i6,.s s0,.s s1,.s s2,.s s3],sV A2 r9]
theorem x6w (h1:i3<i2)(h2:(n2+1)*16≤140737488355328∧n2+1≤140737488355328)(e1:(r8.take n2)++[[.s s3]]=r10)(e2:n2+1=n4)(e3:IntKind.i64.wrap (i3+1)=i7)(ih:Lp E 16 A8 5 (z0x r0 i0 i1 i2 i7 r1 r2 r3 r4 r5 n0 n1 n4 r6 r7 i4 i5 i6 s0 s1 s2 s3 r10) o t):Lp E 16 A8 5 (z0x r0 i0 i1 i2 i3 r1 r2 r3 r4 r5 n0 n1 n2 r6 r7 i4 i5 i6 s0 s1 s2 s3 r8) o t:=by subst e1 e2 e3;exact lpM (oT h1 (oP (show ∀ y∈([[.s s3]]:RW),y.length=1 from by simp) (oP h2 oZ))) ih
theorem x2l (h1:¬ i3<i2):Lp E 16 A8 5 (z0x r0 i0 i1 i2 i3 r1 r2 r3 r4 r5 n0 n1 n2 r6 r7 i4 i5 i6 s0 s1 s2 s3 r8) (.exit 10) (z4c r0 i0 i1 r1 r2 r3 r4 r5 n0 n1 r6 r7 i4 i5 i6 s0 s1 s2 s3 n2 r8):=lpX (oU h1 oZ)
def z2g (r0:RW) (i0 i1:Int) (r1 r2 r3 r4 r5:RW) (n0 n1 n2:Nat) (r6 r7 r8:RW):St:=stOf 139 [(2,.ptr 1 0),(7,.ptr 3 0),(9,.ptr 4 0),(119,.l r0),(120,.i i0),(121,.i i1)] [sC [.l r1,.l r2,.l r3],sC [.nils,.nils,.nils],sC [.l r4],sC [.l r5],sC [.vec 12 n0,.vec 13 n1,.vec 14 n2],sC [.fn A0 []],some .dead,some .dead,some .dead,some .dead,some .dead,some .dead,sV A3 r6,sV A2 r7,sV A2 r8]
def z6h (r1 r2 r3 r4 r5:RW) (n0 n1:Nat) (r6 r7:RW) (n3:Nat) (r9:RW):St:=stOf 139 [(2,.ptr 1 0),(9,.ptr 4 0)] [sC [.l r1,.l r2,.l r3],sC [.nils,.nils,.nils],sC [.l r4],sC [.l r5],sC [.vec 12 n0,.vec 13 n1,.vec 14 n3],sC [.fn A0 []],some .dead,some .dead,some .dead,some .dead,some .dead,some .dead,sV A3 r6,sV A2 r7,sV A2 r9]
theorem x9r (h1:i1<i0)(h2:0≤i1)(h3:r0[(Int.toNat i1)]?=some [.i i2,.i i3,.i i4,.s s0,.s s1,.s s2,.s s3])(h4:Lp E 16 A8 5 (z0x r0 i0 i1 (r5.length:Int) 0 r1 r2 r3 r4 r5 n0 n1 n2 r6 r7 i2 i3 i4 s0 s1 s2 s3 r8) (.exit 10) (z4c r0 i0 i1 r1 r2 r3 r4 r5 n0 n1 r6 r7 i2 i3 i4 s0 s1 s2 s3 n4 r10))(e1:IntKind.i64.wrap (i1+1)=i5)(ih:Lp E 14 A8 4 (z2g r0 i0 i5 r1 r2 r3 r4 r5 n0 n1 n4 r6 r7 r10) o t):Lp E 14 A8 4 (z2g r0 i0 i1 r1 r2 r3 r4 r5 n0 n1 n2 r6 r7 r8) o t:=by subst e1;exact lpM (oT h1 (oP h2 (oD h3 (oM [(397,A2)] h4 oZ)))) ih
theorem x4g (h1:¬ i1<i0):Lp E 14 A8 4 (z2g r0 i0 i1 r1 r2 r3 r4 r5 n0 n1 n2 r6 r7 r8) (.exit 8) (z6h r1 r2 r3 r4 r5 n0 n1 r6 r7 n2 r8):=lpX (oU h1 oZ)
section
variable (h1:Fn E H0 [.agg [.l r0,.l r1,.l r2]] (.tup [.i i0,.i i1]))
include h1
theorem j1h (h2:¬ i1=0):Fn E A8 [.agg [.l r0,.l r1,.l r2]] (.tup [.agg [.l [],.l [],.l []],.i 1]):=fnM (oF h1 (oB (bnT h2) oZ))
section
variable (h2:i1=0)(h3:Lp E 6 A8 0 (z2d i2 r0 (r0.length:Int) 0 r0 r1 r2 r0 r1 0 0 [] []) (.exit 0) (z6d i2 r0 r1 r2 r0 r1 n0 n1 r3 r4))(h4:Lp E 8 A8 1 (z2e i2 r1 (r1.length:Int) 0 r0 r1 r2 r0 r1 n0 n1 r3 r4) (.exit 2) (z6e i2 r0 r1 r2 r0 r1 n2 n3 r5 r6))(h5:Lp E 10 A8 2 (z2f i2 r1 (r1.length:Int) 0 r0 r1 r2 r0 r1 n2 n3 r5 r6) (.exit 4) (z6f i2 r0 r1 r2 r0 r1 n4 n5 r7 r8))(h6:Lp E 12 A8 3 (H5 i2 r2 (r2.length:Int) 0 r0 r1 r2 r0 r1 n4 n5 r7 r8) (.exit 6) (z6g i2 r0 r1 r2 r0 r1 n6 n7 r9 r10))
include h2 h3 h4 h5 h6
theorem j1i (h7:i2>12)(e1:IntKind.i64.wrap ((r0.length:Int)*(r1.length:Int))=i2):Fn E A8 [.agg [.l r0,.l r1,.l r2]] (.tup [.agg [.l [],.l [],.l []],.i 8]):=by subst e1;exact fnM (oF h1 (oC (bnF h2) (oM [(395,A3),(396,A2)] h3 (oM [(395,A3),(396,A2)] h4 (oM [(395,A3),(396,A2)] h5 (oM [(395,A3),(396,A2)] h6 (oT h7 oZ)))))))
theorem j1j (h7:¬ i2>12)(h8:((n7:Nat):Int)>12)(e1:IntKind.i64.wrap ((r0.length:Int)*(r1.length:Int))=i2):Fn E A8 [.agg [.l r0,.l r1,.l r2]] (.tup [.agg [.l [],.l [],.l []],.i 8]):=by subst e1;exact fnM (oF h1 (oC (bnF h2) (oM [(395,A3),(396,A2)] h3 (oM [(395,A3),(396,A2)] h4 (oM [(395,A3),(396,A2)] h5 (oM [(395,A3),(396,A2)] h6 (oU h7 (oT h8 oZ))))))))
theorem j1k (h7:¬ i2>12)(h8:¬ ((n7:Nat):Int)>12)(h9:Lp E 14 A8 4 (z2g r0 (r0.length:Int) 0 r0 r1 r2 r0 r1 n6 n7 0 r9 r10 []) (.exit 8) (z6h r0 r1 r2 r0 r1 n6 n7 r9 r10 n8 r11))(e1:IntKind.i64.wrap ((r0.length:Int)*(r1.length:Int))=i2)(e2:(r9.take n6)=r12)(e3:(r10.take n7)=r13)(e4:(r11.take n8)=r14):Fn E A8 [.agg [.l r0,.l r1,.l r2]] (.tup [.agg [.l r12,.l r13,.l r14],.i 0]):=by subst e1 e2 e3 e4;exact fnM (oF h1 (oC (bnF h2) (oM [(395,A3),(396,A2)] h3 (oM [(395,A3),(396,A2)] h4 (oM [(395,A3),(396,A2)] h5 (oM [(395,A3),(396,A2)] h6 (oU h7 (oU h8 (oM [(397,A2)] h9 oZ)))))))))
end
end
def z6r (i0 i1:Int) (r0 r1 r2:RW) (s0:BA) (r3 r4 r5 r6:RW) (n0:Nat) (r7:RW):St:=stOf 71 [(4,.ptr 1 0),(9,.ptr 5 0),(53,.i i0),(54,.i i1)] [sC [.l r0,.l r1,.l r2],sC [.nils,.nils,.nils],sC [.s s0],sF r3,sF r4,sC [.l r5,.l r6,.vec 6 n0],sV C9 r7]
def y2l (r0 r1 r2:RW) (s0:BA) (r3 r4 r5 r6:RW) (n0:Nat) (r8:RW):St:=stOf 71 [(4,.ptr 1 0),(9,.ptr 5 0)] [sC [.l r0,.l r1,.l r2],sC [.nils,.nils,.nils],sC [.s s0],sF r3,sF r4,sC [.l r5,.l r6,.vec 6 n0],sV C9 r8]
theorem k1z (h1:i1<i0)(h2:0≤i1∧i1<((n0:Nat):Int))(h3:r7[(Int.toNat i1)]?=some [.s s1,.i i2,.l r9,.s s2,.s s3,.i i3,.i i4])(h4:Rn E z5h [.l r9] [] (.vec 0 n1) [sV A2 r10])(e1:(r10.take n1)=r11)(e2:List.set r7 (Int.toNat i1) [.s s1,.i i2,.l r11,.s s2,.s s3,.i i3,.i i4]=r12)(e3:IntKind.i64.wrap (i1+1)=i5)(ih:Lp E 7 N5 0 (z6r i0 i5 r0 r1 r2 s0 r3 r4 r5 r6 n0 r12) o t):Lp E 7 N5 0 (z6r i0 i1 r0 r1 r2 s0 r3 r4 r5 r6 n0 r7) o t:=by subst e1 e2 e3;exact lpM (oT h1 (oP h2 (oD h3 (oN h4 (oP h2 (oD h3 oZ)))))) ih
theorem x6v (h1:¬ i1<i0):Lp E 7 N5 0 (z6r i0 i1 r0 r1 r2 s0 r3 r4 r5 r6 n0 r7) (.exit 0) (y2l r0 r1 r2 s0 r3 r4 r5 r6 n0 r7):=lpX (oU h1 oZ)
section
variable (h1:Fn E H0 [.agg [.l r0,.l r1,.l r2]] (.tup [.i i1,.i i2]))
include h1
theorem j6j (h2:¬ i2=0):Fn E N5 [.agg [.l r0,.l r1,.l r2],.i i0] (.tup [.agg [.l [],.l [],.l []],.i 1]):=fnM (oF h1 (oB (bnT h2) oZ))
theorem j6k (h2:i2=0)(h3:i0<0):Fn E N5 [.agg [.l r0,.l r1,.l r2],.i i0] (.tup [.agg [.l [],.l [],.l []],.i 7]):=fnM (oF h1 (oC (bnF h2) (oT h3 oZ)))
theorem j6l (h2:i2=0)(h3:¬ i0<0)(h4:i0≥(r2.length:Int)):Fn E N5 [.agg [.l r0,.l r1,.l r2],.i i0] (.tup [.agg [.l [],.l [],.l []],.i 7]):=fnM (oF h1 (oC (bnF h2) (oU h3 (oT h4 oZ))))
theorem j6m (h2:i2=0)(h3:¬ i0<0)(h4:¬ i0≥(r2.length:Int))(h5:0≤i0)(h6:r2[(Int.toNat i0)]?=some [.s s0,.i i3,.l r3,.s s1,.s s2,.i i4,.i i5])(h7:Rn E z2w [.l r0] [] (.vec 0 n0) [sV x1j r4])(h8:Rn E z3y [.l r1] [] (.vec 0 n1) [sV k0i r5])(h9:Rn E z3z [.l r2] [] (.vec 0 n2) [sV C9 r8])(h10:Rn E D7 [.vec 6 n2,.fn F2 [.ptr 2 0]] [sC [.l r0,.l r1,.l r2],sC [.nils,.nils,.nils],sC [.s s0],sF r4,sF r5,sC [.l r6,.l r7,.l []],sV C9 r8] (.vec 6 n3) [sC [.l r0,.l r1,.l r2],sC [.nils,.nils,.nils],sC [.s s0],sF r4,sF r5,sC [.l r6,.l r7,.l []],sV C9 r9])(h11:Lp E 7 N5 0 (z6r ((n3:Nat):Int) 0 r0 r1 r2 s0 r4 r5 r6 r7 n3 r9) (.exit 0) (y2l r0 r1 r2 s0 r4 r5 r6 r7 n3 r10))(e1:(r4.take n0)=r6)(e2:(r5.take n1)=r7)(e3:(r10.take n3)=r11):Fn E N5 [.agg [.l r0,.l r1,.l r2],.i i0] (.tup [.agg [.l r6,.l r7,.l r11],.i 0]):=by subst e1 e2 e3;exact fnM (oF h1 (oC (bnF h2) (oU h3 (oU h4 (oP h5 (oD h6 (oN h7 (oN h8 (oN h9 (oV h10 (oL h11 oZ)))))))))))
end
theorem k1x (h1:Fn E P2 [.agg [.l r0,.l r1,.l r2],.l r3] (.b true))(h2:Rn E C0 [.agg [.l r0,.l r1,.l r2],.l r3] [] (.vec 0 n0) [sV N1 r4]):Rn E U1 [.agg [.l r0,.l r1,.l r2],.l r3] [] (.tup [.vec 0 n0,.i 0]) [sV N1 r4]:=rnM (oF h1 (oW h2 oZ))
section
variable (h1:0≤i0)(h2:r2[(Int.toNat i0)]?=some [.s s0,.i i1,.l r3,.s s1,.s s2,.i i2,.i i3])
include h1 h2
theorem j1q (h3:Fn E G6 [.l r3,.fn G1 []] (.b true)):Fn E D8 [.agg [.l r0,.l r1,.l r2],.i i0] (.i 1):=fnM (oP h1 (oD h2 (oF h3 oZ)))
section
variable (h3:Fn E G6 [.l r3,.fn G1 []] (.b false))
include h3
section
variable (h4:Fn E z1a [.s s1] (.b true))
include h4
section
variable (h5:Fn E z1a [.s s2] (.b true))
include h5
theorem j1r (h6:(s0.size:Int)<1):Fn E D8 [.agg [.l r0,.l r1,.l r2],.i i0] (.i 4):=fnM (oP h1 (oD h2 (oF h3 (oF h4 (oF h5 (oT h6 oZ))))))
section
variable (h6:¬ (s0.size:Int)<1)
include h6
theorem j1s (h7:(s0.size:Int)>64):Fn E D8 [.agg [.l r0,.l r1,.l r2],.i i0] (.i 4):=fnM (oP h1 (oD h2 (oF h3 (oF h4 (oF h5 (oU h6 (oT h7 oZ)))))))
section
variable (h7:¬ (s0.size:Int)>64)(h8:0≤(0:Int)∧(0:Int)≤i0∧i0≤r2.length∧∀ x∈r2,x.length=7)
include h7 h8
theorem j1t (h9:Rn E P8 [.l r4,.fn F5 [.ptr 1 0]] [sC [.l r0,.l r1,.l r2],sC [.s s0,.i i1,.l r3,.s s1,.s s2,.i i2,.i i3]] (.b true) [sC [.l r0,.l r1,.l r2],sC [.s s0,.i i1,.l r3,.s s1,.s s2,.i i2,.i i3]])(e1:List.drop 0 (r2.take (Int.toNat i0))=r4):Fn E D8 [.agg [.l r0,.l r1,.l r2],.i i0] (.i 6):=by subst e1;exact fnM (oP h1 (oD h2 (oF h3 (oF h4 (oF h5 (oU h6 (oU h7 (oP h8 (oR h9 oZ)))))))))
section
variable (h9:Rn E P8 [.l r4,.fn F5 [.ptr 1 0]] [sC [.l r0,.l r1,.l r2],sC [.s s0,.i i1,.l r3,.s s1,.s s2,.i i2,.i i3]] (.b false) [sC [.l r0,.l r1,.l r2],sC [.s s0,.i i1,.l r3,.s s1,.s s2,.i i2,.i i3]])
include h9
theorem j1u (h10:i1<1)(e1:List.drop 0 (r2.take (Int.toNat i0))=r4):Fn E D8 [.agg [.l r0,.l r1,.l r2],.i i0] (.i 2):=by subst e1;exact fnM (oP h1 (oD h2 (oF h3 (oF h4 (oF h5 (oU h6 (oU h7 (oP h8 (oR h9 (oT h10 oZ))))))))))
section
variable (h10:¬ i1<1)
include h10
theorem j1v (h11:i1>4)(e1:List.drop 0 (r2.take (Int.toNat i0))=r4):Fn E D8 [.agg [.l r0,.l r1,.l r2],.i i0] (.i 2):=by subst e1;exact fnM (oP h1 (oD h2 (oF h3 (oF h4 (oF h5 (oU h6 (oU h7 (oP h8 (oR h9 (oU h10 (oT h11 oZ)))))))))))
section
variable (h11:¬ i1>4)
include h11
section
variable (h12:i1=1)
include h12
theorem j1w (h13:¬ (r3.length:Int)=(r1.length:Int))(e1:List.drop 0 (r2.take (Int.toNat i0))=r4):Fn E D8 [.agg [.l r0,.l r1,.l r2],.i i0] (.i 10):=by subst e1;exact fnM (oP h1 (oD h2 (oF h3 (oF h4 (oF h5 (oU h6 (oU h7 (oP h8 (oR h9 (oU h10 (oU h11 (oB (beT h12) (oB (bnT h13) oZ)))))))))))))
section
variable (h13:(r3.length:Int)=(r1.length:Int))
include h13
theorem j1x (h14:¬ i2=0)(e1:List.drop 0 (r2.take (Int.toNat i0))=r4):Fn E D8 [.agg [.l r0,.l r1,.l r2],.i i0] (.i 10):=by subst e1;exact fnM (oP h1 (oD h2 (oF h3 (oF h4 (oF h5 (oU h6 (oU h7 (oP h8 (oR h9 (oU h10 (oU h11 (oB (beT h12) (oC (bnF h13) (oB (bnT h14) oZ))))))))))))))
section
variable (h14:i2=0)
include h14
theorem j1y (h15:¬ i3=0)(e1:List.drop 0 (r2.take (Int.toNat i0))=r4):Fn E D8 [.agg [.l r0,.l r1,.l r2],.i i0] (.i 10):=by subst e1;exact fnM (oP h1 (oD h2 (oF h3 (oF h4 (oF h5 (oU h6 (oU h7 (oP h8 (oR h9 (oU h10 (oU h11 (oB (beT h12) (oC (bnF h13) (oC (bnF h14) (oB (bnT h15) oZ)))))))))))))))
section
variable (h15:i3=0)
include h15
section
variable (h16:s1=(⟨#[]⟩:BA))
include h16
theorem j1z (h17:s2=(⟨#[]⟩:BA))(e1:List.drop 0 (r2.take (Int.toNat i0))=r4):Fn E D8 [.agg [.l r0,.l r1,.l r2],.i i0] (.i 2):=by subst e1;exact fnM (oP h1 (oD h2 (oF h3 (oF h4 (oF h5 (oU h6 (oU h7 (oP h8 (oR h9 (oU h10 (oU h11 (oB (beT h12) (oC (bnF h13) (oC (bnF h14) (oC (bnF h15) (oB (seT h16) (oB (seT h17) oZ)))))))))))))))))
theorem k8e (h17:¬ s2=(⟨#[]⟩:BA))(e1:List.drop 0 (r2.take (Int.toNat i0))=r4):Fn E D8 [.agg [.l r0,.l r1,.l r2],.i i0] (.i 0):=by subst e1;exact fnM (oP h1 (oD h2 (oF h3 (oF h4 (oF h5 (oU h6 (oU h7 (oP h8 (oR h9 (oU h10 (oU h11 (oB (beT h12) (oC (bnF h13) (oC (bnF h14) (oC (bnF h15) (oB (seT h16) (oC (seF h17) (oC (snF h16) oZ))))))))))))))))))
end
section
variable (h16:¬ s1=(⟨#[]⟩:BA))
include h16
section
variable (h17:¬ s2=(⟨#[]⟩:BA))(h18:Fn E K7 [.s s1,.s s2] (.i i4))
include h17 h18
theorem k8f (h19:i4>0)(e1:List.drop 0 (r2.take (Int.toNat i0))=r4):Fn E D8 [.agg [.l r0,.l r1,.l r2],.i i0] (.i 2):=by subst e1;exact fnM (oP h1 (oD h2 (oF h3 (oF h4 (oF h5 (oU h6 (oU h7 (oP h8 (oR h9 (oU h10 (oU h11 (oB (beT h12) (oC (bnF h13) (oC (bnF h14) (oC (bnF h15) (oC (seF h16) (oB (snT h16) (oB (snT h17) (oF h18 (oT h19 oZ))))))))))))))))))))
theorem k8g (h19:¬ i4>0)(e1:List.drop 0 (r2.take (Int.toNat i0))=r4):Fn E D8 [.agg [.l r0,.l r1,.l r2],.i i0] (.i 0):=by subst e1;exact fnM (oP h1 (oD h2 (oF h3 (oF h4 (oF h5 (oU h6 (oU h7 (oP h8 (oR h9 (oU h10 (oU h11 (oB (beT h12) (oC (bnF h13) (oC (bnF h14) (oC (bnF h15) (oC (seF h16) (oB (snT h16) (oB (snT h17) (oF h18 (oU h19 oZ))))))))))))))))))))
end
theorem k8h (h17:s2=(⟨#[]⟩:BA))(e1:List.drop 0 (r2.take (Int.toNat i0))=r4):Fn E D8 [.agg [.l r0,.l r1,.l r2],.i i0] (.i 0):=by subst e1;exact fnM (oP h1 (oD h2 (oF h3 (oF h4 (oF h5 (oU h6 (oU h7 (oP h8 (oR h9 (oU h10 (oU h11 (oB (beT h12) (oC (bnF h13) (oC (bnF h14) (oC (bnF h15) (oC (seF h16) (oB (snT h16) (oC (snF h17) oZ))))))))))))))))))
end
end
end
end
end
section
variable (h12:¬ i1=1)
include h12
theorem k8i (h13:(r3.length:Int)>0)(e1:List.drop 0 (r2.take (Int.toNat i0))=r4):Fn E D8 [.agg [.l r0,.l r1,.l r2],.i i0] (.i 10):=by subst e1;exact fnM (oP h1 (oD h2 (oF h3 (oF h4 (oF h5 (oU h6 (oU h7 (oP h8 (oR h9 (oU h10 (oU h11 (oC (beF h12) (oT h13 oZ)))))))))))))
section
variable (h13:¬ (r3.length:Int)>0)
include h13
theorem k8j (h14:¬ s1=(⟨#[]⟩:BA))(e1:List.drop 0 (r2.take (Int.toNat i0))=r4):Fn E D8 [.agg [.l r0,.l r1,.l r2],.i i0] (.i 10):=by subst e1;exact fnM (oP h1 (oD h2 (oF h3 (oF h4 (oF h5 (oU h6 (oU h7 (oP h8 (oR h9 (oU h10 (oU h11 (oC (beF h12) (oU h13 (oB (snT h14) oZ))))))))))))))
theorem k8k (h14:s1=(⟨#[]⟩:BA))(h15:¬ s2=(⟨#[]⟩:BA))(e1:List.drop 0 (r2.take (Int.toNat i0))=r4):Fn E D8 [.agg [.l r0,.l r1,.l r2],.i i0] (.i 10):=by subst e1;exact fnM (oP h1 (oD h2 (oF h3 (oF h4 (oF h5 (oU h6 (oU h7 (oP h8 (oR h9 (oU h10 (oU h11 (oC (beF h12) (oU h13 (oC (snF h14) (oB (snT h15) oZ)))))))))))))))
theorem k8l (h14:s1=(⟨#[]⟩:BA))(h15:s2=(⟨#[]⟩:BA))(h16:Fn E N4 [.agg [.l r0,.l r1,.l r2],.agg [.s s0,.i i1,.l r3,.s s1,.s s2,.i i2,.i i3]] (.i i4))(e1:List.drop 0 (r2.take (Int.toNat i0))=r4):Fn E D8 [.agg [.l r0,.l r1,.l r2],.i i0] (.i i4):=by subst e1;exact fnM (oP h1 (oD h2 (oF h3 (oF h4 (oF h5 (oU h6 (oU h7 (oP h8 (oR h9 (oU h10 (oU h11 (oC (beF h12) (oU h13 (oC (snF h14) (oC (snF h15) (oF h16 oZ))))))))))))))))
end
end
end
end
end
end
end
end
theorem k8m (h5:Fn E z1a [.s s2] (.b false)):Fn E D8 [.agg [.l r0,.l r1,.l r2],.i i0] (.i 1):=fnM (oP h1 (oD h2 (oF h3 (oF h4 (oF h5 oZ)))))
end
theorem k8n (h4:Fn E z1a [.s s1] (.b false)):Fn E D8 [.agg [.l r0,.l r1,.l r2],.i i0] (.i 1):=fnM (oP h1 (oD h2 (oF h3 (oF h4 oZ))))
end
end
section
variable (h1:Fn E P2 [.agg [.l r0,.l r1,.l r2],.l r3] (.b true))
include h1
theorem k8s (h2:i0<0):Fn E V8 [.agg [.l r0,.l r1,.l r2],.i i0,.l r3] (.tup [.s ⟨#[]⟩,.i 7]):=fnM (oF h1 (oT h2 oZ))
theorem k8t (h2:¬ i0<0)(h3:i0≥(r2.length:Int)):Fn E V8 [.agg [.l r0,.l r1,.l r2],.i i0,.l r3] (.tup [.s ⟨#[]⟩,.i 7]):=fnM (oF h1 (oU h2 (oT h3 oZ)))
theorem k8u (h2:¬ i0<0)(h3:¬ i0≥(r2.length:Int))(h4:0≤i0)(h5:r2[(Int.toNat i0)]?=some [.s s0,.i i1,.l r4,.s s1,.s s2,.i i2,.i i3])(h6:¬ i1=1):Fn E V8 [.agg [.l r0,.l r1,.l r2],.i i0,.l r3] (.tup [.s ⟨#[]⟩,.i 10]):=fnM (oF h1 (oU h2 (oU h3 (oP h4 (oD h5 (oB (bnT h6) oZ))))))
theorem k8v (h2:¬ i0<0)(h3:¬ i0≥(r2.length:Int))(h4:0≤i0)(h5:r2[(Int.toNat i0)]?=some [.s s0,.i i1,.l r4,.s s1,.s s2,.i i2,.i i3])(h6:i1=1)(h7:Fn E z0g [.agg [.l r0,.l r1,.l r2],.agg [.s s0,.i i1,.l r4,.s s1,.s s2,.i i2,.i i3],.l r3] (.s s3)):Fn E V8 [.agg [.l r0,.l r1,.l r2],.i i0,.l r3] (.tup [.s s3,.i 0]):=fnM (oF h1 (oU h2 (oU h3 (oP h4 (oD h5 (oC (bnF h6) (oP h4 (oD h5 (oF h7 oZ)))))))))
end
theorem k8w (h1:Fn E P2 [.agg [.l r0,.l r1,.l r2],.l r3] (.b false)):Fn E V8 [.agg [.l r0,.l r1,.l r2],.i i0,.l r3] (.tup [.s ⟨#[]⟩,.i 1]):=fnM (oF h1 oZ)
section
variable (h1:¬ s2=(⟨#[]⟩:BA))(h2:Fn E K7 [.s s3,.s s2] (.i i3))
include h1 h2
theorem k7x (h3:i3>0)(h4:Fn E U7 [.s s3,.s s2] (.s s4)):Fn E P5 [.agg [.s s0,.i i0,.l r0,.s s1,.s s2,.i i1,.i i2],.s s3] (.s s4):=fnM (oB (snT h1) (oF h2 (oT h3 (oF h4 oZ))))
theorem k7y (h3:¬ i3>0)(h4:¬ s1=(⟨#[]⟩:BA))(h5:Fn E K7 [.s s3,.s s1] (.i i4))(h6:i4<0)(h7:Fn E U7 [.s s3,.s s1] (.s s5)):Fn E P5 [.agg [.s s0,.i i0,.l r0,.s s1,.s s2,.i i1,.i i2],.s s3] (.s s5):=fnM (oB (snT h1) (oF h2 (oU h3 (oB (snT h4) (oF h5 (oT h6 (oF h7 oZ)))))))
theorem k7z (h3:¬ i3>0)(h4:¬ s1=(⟨#[]⟩:BA))(h5:Fn E K7 [.s s3,.s s1] (.i i4))(h6:¬ i4<0):Fn E P5 [.agg [.s s0,.i i0,.l r0,.s s1,.s s2,.i i1,.i i2],.s s3] (.s ⟨#[48]⟩):=fnM (oB (snT h1) (oF h2 (oU h3 (oB (snT h4) (oF h5 (oU h6 oZ))))))
theorem k8a (h3:¬ i3>0)(h4:s1=(⟨#[]⟩:BA)):Fn E P5 [.agg [.s s0,.i i0,.l r0,.s s1,.s s2,.i i1,.i i2],.s s3] (.s ⟨#[48]⟩):=fnM (oB (snT h1) (oF h2 (oU h3 (oC (snF h4) oZ))))
end
section
variable (h1:s2=(⟨#[]⟩:BA))
include h1
section
variable (h2:¬ s1=(⟨#[]⟩:BA))(h3:Fn E K7 [.s s3,.s s1] (.i i3))
include h2 h3
theorem k8b (h4:i3<0)(h5:Fn E U7 [.s s3,.s s1] (.s s4)):Fn E P5 [.agg [.s s0,.i i0,.l r0,.s s1,.s s2,.i i1,.i i2],.s s3] (.s s4):=fnM (oC (snF h1) (oB (snT h2) (oF h3 (oT h4 (oF h5 oZ)))))
theorem k8c (h4:¬ i3<0):Fn E P5 [.agg [.s s0,.i i0,.l r0,.s s1,.s s2,.i i1,.i i2],.s s3] (.s ⟨#[48]⟩):=fnM (oC (snF h1) (oB (snT h2) (oF h3 (oU h4 oZ))))
end
theorem k8d (h2:s1=(⟨#[]⟩:BA)):Fn E P5 [.agg [.s s0,.i i0,.l r0,.s s1,.s s2,.i i1,.i i2],.s s3] (.s ⟨#[48]⟩):=fnM (oC (snF h1) (oC (snF h2) oZ))
end
section
variable (h1:Fn E H0 [.agg [.l r0,.l r1,.l r2]] (.tup [.i i0,.i i1]))
include h1
section
variable (h2:i1=0)(h3:Fn E F0 [.agg [.l r0,.l r1],.l r3] (.i i2))
include h2 h3
theorem j2l (h4:i2=0):Fn E P2 [.agg [.l r0,.l r1,.l r2],.l r3] (.b true):=fnM (oF h1 (oB (beT h2) (oF h3 (oB (beT h4) oZ))))
theorem j2m (h4:¬ i2=0):Fn E P2 [.agg [.l r0,.l r1,.l r2],.l r3] (.b false):=fnM (oF h1 (oB (beT h2) (oF h3 (oC (beF h4) oZ))))
end
theorem j2n (h2:¬ i1=0):Fn E P2 [.agg [.l r0,.l r1,.l r2],.l r3] (.b false):=fnM (oF h1 (oC (beF h2) oZ))
end
def D2 (r0:RW) (n0:Nat) (r1:RW) (i0 i1:Int) (r2 r3 r4 r5:RW):St:=stOf 32 [(1,.l r0),(2,.ptr 0 0),(5,.ptr 1 0),(6,.vec 2 n0),(11,.l r1),(12,.i i0),(13,.i i1)] [sC [.l r2,.l r3,.l r4],sC [.c (.nof),.c (.fn V4),.c (.fn C5),.c (.fn z3g),.c (.fn I8)],sV N1 r5]
def z1l (r2 r3 r4:RW) (n1:Nat) (r6:RW):St:=stOf 32 [(6,.vec 2 n1)] [sC [.l r2,.l r3,.l r4],sC [.c (.nof),.c (.fn V4),.c (.fn C5),.c (.fn z3g),.c (.fn I8)],sV N1 r6]
section
variable (h1:i1<i0)(h2:0≤i1)
include h1 h2
section
variable (h3:r1[(Int.toNat i1)]?=some [.s s0,.i 1,.l r7,.s s1,.s s2,.i i2,.i i3])
include h3
theorem x6x (h4:Fn E V4 [.agg [.l r2,.l r3,.l r4],.agg [.s s0,.i 1,.l r7,.s s1,.s s2,.i i2,.i i3],.l r0] (.b true))(h5:(n0+1)*8≤140737488355328∧n0+1≤140737488355328)(e1:(r5.take n0)++[[.i i1]]=r8)(e2:n0+1=n2)(e3:IntKind.i64.wrap (i1+1)=i4)(ih:Lp E 2 C0 0 (D2 r0 n2 r1 i0 i4 r2 r3 r4 r8) o t):Lp E 2 C0 0 (D2 r0 n0 r1 i0 i1 r2 r3 r4 r5) o t:=by subst e1 e2 e3;exact lpM (oT h1 (oP h2 (oD h3 (oP (show (0:Int)≤1∧(1:Int)<5 from by decide) (oF h4 (oP (show ∀ y∈([[.i i1]]:RW),y.length=1 from by simp) (oP h5 oZ))))))) ih
theorem x6y (h4:Fn E V4 [.agg [.l r2,.l r3,.l r4],.agg [.s s0,.i 1,.l r7,.s s1,.s s2,.i i2,.i i3],.l r0] (.b false))(e1:IntKind.i64.wrap (i1+1)=i5)(ih:Lp E 2 C0 0 (D2 r0 n0 r1 i0 i5 r2 r3 r4 r5) o t):Lp E 2 C0 0 (D2 r0 n0 r1 i0 i1 r2 r3 r4 r5) o t:=by subst e1;exact lpM (oT h1 (oP h2 (oD h3 (oP (show (0:Int)≤1∧(1:Int)<5 from by decide) (oF h4 oZ))))) ih
end
section
variable (h3:r1[(Int.toNat i1)]?=some [.s s0,.i 2,.l r7,.s s1,.s s2,.i i2,.i i3])
include h3
theorem x6z (h4:Fn E C5 [.agg [.l r2,.l r3,.l r4],.agg [.s s0,.i 2,.l r7,.s s1,.s s2,.i i2,.i i3],.l r0] (.b true))(h5:(n0+1)*8≤140737488355328∧n0+1≤140737488355328)(e1:(r5.take n0)++[[.i i1]]=r8)(e2:n0+1=n2)(e3:IntKind.i64.wrap (i1+1)=i4)(ih:Lp E 2 C0 0 (D2 r0 n2 r1 i0 i4 r2 r3 r4 r8) o t):Lp E 2 C0 0 (D2 r0 n0 r1 i0 i1 r2 r3 r4 r5) o t:=by subst e1 e2 e3;exact lpM (oT h1 (oP h2 (oD h3 (oP (show (0:Int)≤2∧(2:Int)<5 from by decide) (oF h4 (oP (show ∀ y∈([[.i i1]]:RW),y.length=1 from by simp) (oP h5 oZ))))))) ih
theorem x7a (h4:Fn E C5 [.agg [.l r2,.l r3,.l r4],.agg [.s s0,.i 2,.l r7,.s s1,.s s2,.i i2,.i i3],.l r0] (.b false))(e1:IntKind.i64.wrap (i1+1)=i5)(ih:Lp E 2 C0 0 (D2 r0 n0 r1 i0 i5 r2 r3 r4 r5) o t):Lp E 2 C0 0 (D2 r0 n0 r1 i0 i1 r2 r3 r4 r5) o t:=by subst e1;exact lpM (oT h1 (oP h2 (oD h3 (oP (show (0:Int)≤2∧(2:Int)<5 from by decide) (oF h4 oZ))))) ih
end
section
variable (h3:r1[(Int.toNat i1)]?=some [.s s0,.i 3,.l r7,.s s1,.s s2,.i i2,.i i3])
include h3
theorem x7b (h4:Fn E z3g [.agg [.l r2,.l r3,.l r4],.agg [.s s0,.i 3,.l r7,.s s1,.s s2,.i i2,.i i3],.l r0] (.b true))(h5:(n0+1)*8≤140737488355328∧n0+1≤140737488355328)(e1:(r5.take n0)++[[.i i1]]=r8)(e2:n0+1=n2)(e3:IntKind.i64.wrap (i1+1)=i4)(ih:Lp E 2 C0 0 (D2 r0 n2 r1 i0 i4 r2 r3 r4 r8) o t):Lp E 2 C0 0 (D2 r0 n0 r1 i0 i1 r2 r3 r4 r5) o t:=by subst e1 e2 e3;exact lpM (oT h1 (oP h2 (oD h3 (oP (show (0:Int)≤3∧(3:Int)<5 from by decide) (oF h4 (oP (show ∀ y∈([[.i i1]]:RW),y.length=1 from by simp) (oP h5 oZ))))))) ih
theorem x7c (h4:Fn E z3g [.agg [.l r2,.l r3,.l r4],.agg [.s s0,.i 3,.l r7,.s s1,.s s2,.i i2,.i i3],.l r0] (.b false))(e1:IntKind.i64.wrap (i1+1)=i5)(ih:Lp E 2 C0 0 (D2 r0 n0 r1 i0 i5 r2 r3 r4 r5) o t):Lp E 2 C0 0 (D2 r0 n0 r1 i0 i1 r2 r3 r4 r5) o t:=by subst e1;exact lpM (oT h1 (oP h2 (oD h3 (oP (show (0:Int)≤3∧(3:Int)<5 from by decide) (oF h4 oZ))))) ih
end
section
variable (h3:r1[(Int.toNat i1)]?=some [.s s0,.i 4,.l r7,.s s1,.s s2,.i i2,.i i3])
include h3
theorem x7d (h4:Fn E I8 [.agg [.l r2,.l r3,.l r4],.agg [.s s0,.i 4,.l r7,.s s1,.s s2,.i i2,.i i3],.l r0] (.b true))(h5:(n0+1)*8≤140737488355328∧n0+1≤140737488355328)(e1:(r5.take n0)++[[.i i1]]=r8)(e2:n0+1=n2)(e3:IntKind.i64.wrap (i1+1)=i4)(ih:Lp E 2 C0 0 (D2 r0 n2 r1 i0 i4 r2 r3 r4 r8) o t):Lp E 2 C0 0 (D2 r0 n0 r1 i0 i1 r2 r3 r4 r5) o t:=by subst e1 e2 e3;exact lpM (oT h1 (oP h2 (oD h3 (oP (show (0:Int)≤4∧(4:Int)<5 from by decide) (oF h4 (oP (show ∀ y∈([[.i i1]]:RW),y.length=1 from by simp) (oP h5 oZ))))))) ih
theorem x7e (h4:Fn E I8 [.agg [.l r2,.l r3,.l r4],.agg [.s s0,.i 4,.l r7,.s s1,.s s2,.i i2,.i i3],.l r0] (.b false))(e1:IntKind.i64.wrap (i1+1)=i5)(ih:Lp E 2 C0 0 (D2 r0 n0 r1 i0 i5 r2 r3 r4 r5) o t):Lp E 2 C0 0 (D2 r0 n0 r1 i0 i1 r2 r3 r4 r5) o t:=by subst e1;exact lpM (oT h1 (oP h2 (oD h3 (oP (show (0:Int)≤4∧(4:Int)<5 from by decide) (oF h4 oZ))))) ih
end
end
theorem x2m (h1:¬ i1<i0):Lp E 2 C0 0 (D2 r0 n0 r1 i0 i1 r2 r3 r4 r5) (.exit 0) (z1l r2 r3 r4 n0 r5):=lpX (oU h1 oZ)
theorem k7w (h1:Lp E 2 C0 0 (D2 r3 0 r2 (r2.length:Int) 0 r0 r1 r2 []) (.exit 0) (z1l r0 r1 r2 n0 r4))(e1:(r4.take n0)=r5):Fn E C0 [.agg [.l r0,.l r1,.l r2],.l r3] (.l r5):=by subst e1;exact fnM (oM [(6,N1)] h1 oZ)
theorem k8q (h1:Fn E y1r [.i i0] (.s s0)):Fn E y2x [.i i0] (.s s0):=fnM (oF h1 oZ)
def z0a (s0:BA) (n0:Nat) (i0 i1 i2 i3 i4 i5:Int) (r0 r1:RW) (n1 n2:Nat) (r2 r3 r4:RW):St:=stOf 41 [(0,.s s0),(1,.fn O2 [.ptr 0 0,.ptr 1 0]),(3,.ptr 3 0),(4,.ptr 4 0),(7,.vec 8 n0),(8,.i i0),(11,.i i1),(12,.i i2),(16,.i i3),(17,.i i4)] [sC [.fn A0 []],sC [.i i5],sC [.l r0],sC [.l r1],sC [.vec 5 n1,.vec 6 n2,.nils],sV A3 r2,sV A2 r3,some .dead,sV A2 r4]
def z3j (s0:BA) (i1 i2 i5:Int) (r0 r1:RW) (n1 n2:Nat) (r2 r3:RW) (n3:Nat) (r5:RW):St:=stOf 41 [(0,.s s0),(1,.fn O2 [.ptr 0 0,.ptr 1 0]),(3,.ptr 3 0),(4,.ptr 4 0),(7,.vec 8 n3),(11,.i i1),(12,.i i2)] [sC [.fn A0 []],sC [.i i5],sC [.l r0],sC [.l r1],sC [.vec 5 n1,.vec 6 n2,.nils],sV A3 r2,sV A2 r3,some .dead,sV A2 r5]
theorem x4b (h1:i4<i3)(h2:Rn E O2 [.i i0,.i i4,.ptr 0 0,.ptr 1 0] [sC [.fn A0 []],sC [.i i5],sC [.l r0],sC [.l r1],sC [.vec 5 n1,.vec 6 n2,.nils],sV A3 r2,sV A2 r3,some .dead,sV A2 r4,none,none] (.s s1) [sC [.fn A0 []],sC [.i i5],sC [.l r0],sC [.l r1],sC [.vec 5 n1,.vec 6 n2,.nils],sV A3 r2,sV A2 r3,some .dead,sV A2 r4,none,none])(h3:(n0+1)*16≤140737488355328∧n0+1≤140737488355328)(e1:(r4.take n0)++[[.s s1]]=r6)(e2:n0+1=n4)(e3:IntKind.i64.wrap (i4+1)=i6)(ih:Lp E 8 A1 1 (z0a s0 n4 i0 i1 i2 i3 i6 i5 r0 r1 n1 n2 r2 r3 r6) o t):Lp E 8 A1 1 (z0a s0 n0 i0 i1 i2 i3 i4 i5 r0 r1 n1 n2 r2 r3 r4) o t:=by subst e1 e2 e3;exact lpM (oT h1 (oR h2 (oP (show ∀ y∈([[.s s1]]:RW),y.length=1 from by simp) (oP h3 oZ)))) ih
theorem x0x (h1:¬ i4<i3):Lp E 8 A1 1 (z0a s0 n0 i0 i1 i2 i3 i4 i5 r0 r1 n1 n2 r2 r3 r4) (.exit 2) (z3j s0 i1 i2 i5 r0 r1 n1 n2 r2 r3 n0 r4):=lpX (oU h1 oZ)
def z2v (s0:BA) (n0:Nat) (i0 i1 i2:Int) (r0 r1:RW) (n1 n2:Nat) (r2 r3 r4:RW):St:=stOf 41 [(0,.s s0),(1,.fn O2 [.ptr 0 0,.ptr 1 0]),(3,.ptr 3 0),(4,.ptr 4 0),(7,.vec 7 n0),(11,.i i0),(12,.i i1)] [sC [.fn A0 []],sC [.i i2],sC [.l r0],sC [.l r1],sC [.vec 5 n1,.vec 6 n2,.nils],sV A3 r2,sV A2 r3,sV A2 r4]
def z8w (s0:BA) (i2:Int) (r0 r1:RW) (n1 n2:Nat) (r2 r3:RW) (n3:Nat) (r5:RW):St:=stOf 41 [(0,.s s0),(4,.ptr 4 0),(7,.vec 7 n3)] [sC [.fn A0 []],sC [.i i2],sC [.l r0],sC [.l r1],sC [.vec 5 n1,.vec 6 n2,.nils],sV A3 r2,sV A2 r3,sV A2 r5]
theorem x4a (h1:i1<i0)(h2:Lp E 8 A1 1 (z0a s0 n0 i1 i0 i1 (r1.length:Int) 0 i2 r0 r1 n1 n2 r2 r3 r4) (.exit 2) (z3j s0 i0 i1 i2 r0 r1 n1 n2 r2 r3 n4 r6))(e1:IntKind.i64.wrap (i1+1)=i3)(ih:Lp E 7 A1 0 (z2v s0 n4 i0 i3 i2 r0 r1 n1 n2 r2 r3 r6) o t):Lp E 7 A1 0 (z2v s0 n0 i0 i1 i2 r0 r1 n1 n2 r2 r3 r4) o t:=by subst e1;exact lpM (oT h1 (oM [(7,A2)] h2 oZ)) ih
theorem x0w (h1:¬ i1<i0):Lp E 7 A1 0 (z2v s0 n0 i0 i1 i2 r0 r1 n1 n2 r2 r3 r4) (.exit 0) (z8w s0 i2 r0 r1 n1 n2 r2 r3 n0 r4):=lpX (oU h1 oZ)
theorem y0s (h1:Lp E 7 A1 0 (z2v s0 0 (r0.length:Int) 0 i0 r0 r1 n0 n1 r2 r3 []) (.exit 0) (z8w s0 i0 r0 r1 n0 n1 r2 r3 n2 r4))(h2:(n0+1)*24≤140737488355328∧n0+1≤140737488355328)(h3:(n1+1)*16≤140737488355328∧n1+1≤140737488355328)(e1:(r4.take n2)=r5)(e2:(r2.take n0)++[[.l r5]]=r6)(e3:n0+1=n3)(e4:(r3.take n1)++[[.s s0]]=r7)(e5:n1+1=n4):Rn E A1 [.s s0,.fn O2 [.ptr 0 0,.ptr 1 0],.ptr 2 0,.ptr 3 0,.ptr 4 0] [sC [.fn A0 []],sC [.i i0],sC [.l r0],sC [.l r1],sC [.vec 5 n0,.vec 6 n1,.nils],sV A3 r2,sV A2 r3] (.tup []) [sC [.fn A0 []],sC [.i i0],sC [.l r0],sC [.l r1],sC [.vec 7 n3,.vec 8 n4,.nils],some .dead,some .dead,sV A3 r6,sV A2 r7]:=by subst e1 e2 e3 e4 e5;exact rnM (oM [(7,A2)] h1 (oP (show ∀ y∈([[.l (r4.take n2)]]:RW),y.length=1 from by simp) (oP h2 (oP (show ∀ y∈([[.s s0]]:RW),y.length=1 from by simp) (oP h3 oZ)))))
def Y7 (s0:BA) (n0:Nat) (i0 i1 i2 i3 i4 i5:Int) (r0 r1:RW) (n1 n2:Nat) (r2 r3 r4:RW):St:=stOf 41 [(0,.s s0),(1,.fn O3 [.ptr 0 0,.ptr 1 0,.ptr 2 0]),(3,.ptr 3 0),(4,.ptr 4 0),(7,.vec 8 n0),(8,.i i0),(11,.i i1),(12,.i i2),(16,.i i3),(17,.i i4)] [sC [.fn A0 []],sC [.i i5],sC [.l r0],sC [.l r1],sC [.vec 5 n1,.vec 6 n2,.nils],sV A3 r2,sV A2 r3,some .dead,sV A2 r4]
def z2z (s0:BA) (i1 i2 i5:Int) (r0 r1:RW) (n1 n2:Nat) (r2 r3:RW) (n3:Nat) (r5:RW):St:=stOf 41 [(0,.s s0),(1,.fn O3 [.ptr 0 0,.ptr 1 0,.ptr 2 0]),(3,.ptr 3 0),(4,.ptr 4 0),(7,.vec 8 n3),(11,.i i1),(12,.i i2)] [sC [.fn A0 []],sC [.i i5],sC [.l r0],sC [.l r1],sC [.vec 5 n1,.vec 6 n2,.nils],sV A3 r2,sV A2 r3,some .dead,sV A2 r5]
theorem x2h (h1:i4<i3)(h2:Rn E O3 [.i i0,.i i4,.ptr 0 0,.ptr 1 0,.ptr 2 0] [sC [.fn A0 []],sC [.i i5],sC [.l r0],sC [.l r1],sC [.vec 5 n1,.vec 6 n2,.nils],sV A3 r2,sV A2 r3,some .dead,sV A2 r4,none,none] (.s s1) [sC [.fn A0 []],sC [.i i5],sC [.l r0],sC [.l r1],sC [.vec 5 n1,.vec 6 n2,.nils],sV A3 r2,sV A2 r3,some .dead,sV A2 r4,none,none])(h3:(n0+1)*16≤140737488355328∧n0+1≤140737488355328)(e1:(r4.take n0)++[[.s s1]]=r6)(e2:n0+1=n4)(e3:IntKind.i64.wrap (i4+1)=i6)(ih:Lp E 8 A1 1 (Y7 s0 n4 i0 i1 i2 i3 i6 i5 r0 r1 n1 n2 r2 r3 r6) o t):Lp E 8 A1 1 (Y7 s0 n0 i0 i1 i2 i3 i4 i5 r0 r1 n1 n2 r2 r3 r4) o t:=by subst e1 e2 e3;exact lpM (oT h1 (oR h2 (oP (show ∀ y∈([[.s s1]]:RW),y.length=1 from by simp) (oP h3 oZ)))) ih
theorem y9n (h1:¬ i4<i3):Lp E 8 A1 1 (Y7 s0 n0 i0 i1 i2 i3 i4 i5 r0 r1 n1 n2 r2 r3 r4) (.exit 2) (z2z s0 i1 i2 i5 r0 r1 n1 n2 r2 r3 n0 r4):=lpX (oU h1 oZ)
def z1h (s0:BA) (n0:Nat) (i0 i1 i2:Int) (r0 r1:RW) (n1 n2:Nat) (r2 r3 r4:RW):St:=stOf 41 [(0,.s s0),(1,.fn O3 [.ptr 0 0,.ptr 1 0,.ptr 2 0]),(3,.ptr 3 0),(4,.ptr 4 0),(7,.vec 7 n0),(11,.i i0),(12,.i i1)] [sC [.fn A0 []],sC [.i i2],sC [.l r0],sC [.l r1],sC [.vec 5 n1,.vec 6 n2,.nils],sV A3 r2,sV A2 r3,sV A2 r4]
def z7k (s0:BA) (i2:Int) (r0 r1:RW) (n1 n2:Nat) (r2 r3:RW) (n3:Nat) (r5:RW):St:=stOf 41 [(0,.s s0),(4,.ptr 4 0),(7,.vec 7 n3)] [sC [.fn A0 []],sC [.i i2],sC [.l r0],sC [.l r1],sC [.vec 5 n1,.vec 6 n2,.nils],sV A3 r2,sV A2 r3,sV A2 r5]
theorem x2d (h1:i1<i0)(h2:Lp E 8 A1 1 (Y7 s0 n0 i1 i0 i1 (r1.length:Int) 0 i2 r0 r1 n1 n2 r2 r3 r4) (.exit 2) (z2z s0 i0 i1 i2 r0 r1 n1 n2 r2 r3 n4 r6))(e1:IntKind.i64.wrap (i1+1)=i3)(ih:Lp E 7 A1 0 (z1h s0 n4 i0 i3 i2 r0 r1 n1 n2 r2 r3 r6) o t):Lp E 7 A1 0 (z1h s0 n0 i0 i1 i2 r0 r1 n1 n2 r2 r3 r4) o t:=by subst e1;exact lpM (oT h1 (oM [(7,A2)] h2 oZ)) ih
theorem y9j (h1:¬ i1<i0):Lp E 7 A1 0 (z1h s0 n0 i0 i1 i2 r0 r1 n1 n2 r2 r3 r4) (.exit 0) (z7k s0 i2 r0 r1 n1 n2 r2 r3 n0 r4):=lpX (oU h1 oZ)
theorem y0t (h1:Lp E 7 A1 0 (z1h s0 0 (r0.length:Int) 0 i0 r0 r1 n0 n1 r2 r3 []) (.exit 0) (z7k s0 i0 r0 r1 n0 n1 r2 r3 n2 r4))(h2:(n0+1)*24≤140737488355328∧n0+1≤140737488355328)(h3:(n1+1)*16≤140737488355328∧n1+1≤140737488355328)(e1:(r4.take n2)=r5)(e2:(r2.take n0)++[[.l r5]]=r6)(e3:n0+1=n3)(e4:(r3.take n1)++[[.s s0]]=r7)(e5:n1+1=n4):Rn E A1 [.s s0,.fn O3 [.ptr 0 0,.ptr 1 0,.ptr 2 0],.ptr 2 0,.ptr 3 0,.ptr 4 0] [sC [.fn A0 []],sC [.i i0],sC [.l r0],sC [.l r1],sC [.vec 5 n0,.vec 6 n1,.nils],sV A3 r2,sV A2 r3] (.tup []) [sC [.fn A0 []],sC [.i i0],sC [.l r0],sC [.l r1],sC [.vec 7 n3,.vec 8 n4,.nils],some .dead,some .dead,sV A3 r6,sV A2 r7]:=by subst e1 e2 e3 e4 e5;exact rnM (oM [(7,A2)] h1 (oP (show ∀ y∈([[.l (r4.take n2)]]:RW),y.length=1 from by simp) (oP h2 (oP (show ∀ y∈([[.s s0]]:RW),y.length=1 from by simp) (oP h3 oZ)))))
def Y8 (s0:BA) (n0:Nat) (i0 i1 i2 i3 i4 i5:Int) (r0 r1:RW) (n1 n2:Nat) (r2 r3 r4:RW):St:=stOf 41 [(0,.s s0),(1,.fn O4 [.ptr 0 0,.ptr 1 0,.ptr 2 0]),(3,.ptr 3 0),(4,.ptr 4 0),(7,.vec 8 n0),(8,.i i0),(11,.i i1),(12,.i i2),(16,.i i3),(17,.i i4)] [sC [.fn A0 []],sC [.i i5],sC [.l r0],sC [.l r1],sC [.vec 5 n1,.vec 6 n2,.nils],sV A3 r2,sV A2 r3,some .dead,sV A2 r4]
def z3a (s0:BA) (i1 i2 i5:Int) (r0 r1:RW) (n1 n2:Nat) (r2 r3:RW) (n3:Nat) (r5:RW):St:=stOf 41 [(0,.s s0),(1,.fn O4 [.ptr 0 0,.ptr 1 0,.ptr 2 0]),(3,.ptr 3 0),(4,.ptr 4 0),(7,.vec 8 n3),(11,.i i1),(12,.i i2)] [sC [.fn A0 []],sC [.i i5],sC [.l r0],sC [.l r1],sC [.vec 5 n1,.vec 6 n2,.nils],sV A3 r2,sV A2 r3,some .dead,sV A2 r5]
theorem x2i (h1:i4<i3)(h2:Rn E O4 [.i i0,.i i4,.ptr 0 0,.ptr 1 0,.ptr 2 0] [sC [.fn A0 []],sC [.i i5],sC [.l r0],sC [.l r1],sC [.vec 5 n1,.vec 6 n2,.nils],sV A3 r2,sV A2 r3,some .dead,sV A2 r4,none,none] (.s s1) [sC [.fn A0 []],sC [.i i5],sC [.l r0],sC [.l r1],sC [.vec 5 n1,.vec 6 n2,.nils],sV A3 r2,sV A2 r3,some .dead,sV A2 r4,none,none])(h3:(n0+1)*16≤140737488355328∧n0+1≤140737488355328)(e1:(r4.take n0)++[[.s s1]]=r6)(e2:n0+1=n4)(e3:IntKind.i64.wrap (i4+1)=i6)(ih:Lp E 8 A1 1 (Y8 s0 n4 i0 i1 i2 i3 i6 i5 r0 r1 n1 n2 r2 r3 r6) o t):Lp E 8 A1 1 (Y8 s0 n0 i0 i1 i2 i3 i4 i5 r0 r1 n1 n2 r2 r3 r4) o t:=by subst e1 e2 e3;exact lpM (oT h1 (oR h2 (oP (show ∀ y∈([[.s s1]]:RW),y.length=1 from by simp) (oP h3 oZ)))) ih
theorem y9o (h1:¬ i4<i3):Lp E 8 A1 1 (Y8 s0 n0 i0 i1 i2 i3 i4 i5 r0 r1 n1 n2 r2 r3 r4) (.exit 2) (z3a s0 i1 i2 i5 r0 r1 n1 n2 r2 r3 n0 r4):=lpX (oU h1 oZ)
def z1i (s0:BA) (n0:Nat) (i0 i1 i2:Int) (r0 r1:RW) (n1 n2:Nat) (r2 r3 r4:RW):St:=stOf 41 [(0,.s s0),(1,.fn O4 [.ptr 0 0,.ptr 1 0,.ptr 2 0]),(3,.ptr 3 0),(4,.ptr 4 0),(7,.vec 7 n0),(11,.i i0),(12,.i i1)] [sC [.fn A0 []],sC [.i i2],sC [.l r0],sC [.l r1],sC [.vec 5 n1,.vec 6 n2,.nils],sV A3 r2,sV A2 r3,sV A2 r4]
def z7l (s0:BA) (i2:Int) (r0 r1:RW) (n1 n2:Nat) (r2 r3:RW) (n3:Nat) (r5:RW):St:=stOf 41 [(0,.s s0),(4,.ptr 4 0),(7,.vec 7 n3)] [sC [.fn A0 []],sC [.i i2],sC [.l r0],sC [.l r1],sC [.vec 5 n1,.vec 6 n2,.nils],sV A3 r2,sV A2 r3,sV A2 r5]
theorem x2e (h1:i1<i0)(h2:Lp E 8 A1 1 (Y8 s0 n0 i1 i0 i1 (r1.length:Int) 0 i2 r0 r1 n1 n2 r2 r3 r4) (.exit 2) (z3a s0 i0 i1 i2 r0 r1 n1 n2 r2 r3 n4 r6))(e1:IntKind.i64.wrap (i1+1)=i3)(ih:Lp E 7 A1 0 (z1i s0 n4 i0 i3 i2 r0 r1 n1 n2 r2 r3 r6) o t):Lp E 7 A1 0 (z1i s0 n0 i0 i1 i2 r0 r1 n1 n2 r2 r3 r4) o t:=by subst e1;exact lpM (oT h1 (oM [(7,A2)] h2 oZ)) ih
theorem y9k (h1:¬ i1<i0):Lp E 7 A1 0 (z1i s0 n0 i0 i1 i2 r0 r1 n1 n2 r2 r3 r4) (.exit 0) (z7l s0 i2 r0 r1 n1 n2 r2 r3 n0 r4):=lpX (oU h1 oZ)
theorem y0u (h1:Lp E 7 A1 0 (z1i s0 0 (r0.length:Int) 0 i0 r0 r1 n0 n1 r2 r3 []) (.exit 0) (z7l s0 i0 r0 r1 n0 n1 r2 r3 n2 r4))(h2:(n0+1)*24≤140737488355328∧n0+1≤140737488355328)(h3:(n1+1)*16≤140737488355328∧n1+1≤140737488355328)(e1:(r4.take n2)=r5)(e2:(r2.take n0)++[[.l r5]]=r6)(e3:n0+1=n3)(e4:(r3.take n1)++[[.s s0]]=r7)(e5:n1+1=n4):Rn E A1 [.s s0,.fn O4 [.ptr 0 0,.ptr 1 0,.ptr 2 0],.ptr 2 0,.ptr 3 0,.ptr 4 0] [sC [.fn A0 []],sC [.i i0],sC [.l r0],sC [.l r1],sC [.vec 5 n0,.vec 6 n1,.nils],sV A3 r2,sV A2 r3] (.tup []) [sC [.fn A0 []],sC [.i i0],sC [.l r0],sC [.l r1],sC [.vec 7 n3,.vec 8 n4,.nils],some .dead,some .dead,sV A3 r6,sV A2 r7]:=by subst e1 e2 e3 e4 e5;exact rnM (oM [(7,A2)] h1 (oP (show ∀ y∈([[.l (r4.take n2)]]:RW),y.length=1 from by simp) (oP h2 (oP (show ∀ y∈([[.s s0]]:RW),y.length=1 from by simp) (oP h3 oZ)))))
def Y9 (s0:BA) (n0:Nat) (i0 i1 i2 i3 i4:Int) (r0:RW) (s1:BA) (i5:Int) (r1:RW) (s2 s3:BA) (i6 i7:Int) (r2:RW) (n1 n2:Nat) (r3 r4 r5:RW):St:=stOf 41 [(0,.s s0),(1,.fn I6 [.ptr 0 0,.ptr 1 0]),(3,.ptr 2 0),(4,.ptr 3 0),(7,.vec 7 n0),(8,.i i0),(11,.i i1),(12,.i i2),(16,.i i3),(17,.i i4)] [sC [.l r0],sC [.s s1,.i i5,.l r1,.s s2,.s s3,.i i6,.i i7],sC [.l r2],sC [.vec 4 n1,.vec 5 n2,.nils],sV A3 r3,sV A2 r4,some .dead,sV A2 r5]
def z3b (s0:BA) (i1 i2:Int) (r0:RW) (s1:BA) (i5:Int) (r1:RW) (s2 s3:BA) (i6 i7:Int) (r2:RW) (n1 n2:Nat) (r3 r4:RW) (n3:Nat) (r6:RW):St:=stOf 41 [(0,.s s0),(1,.fn I6 [.ptr 0 0,.ptr 1 0]),(3,.ptr 2 0),(4,.ptr 3 0),(7,.vec 7 n3),(11,.i i1),(12,.i i2)] [sC [.l r0],sC [.s s1,.i i5,.l r1,.s s2,.s s3,.i i6,.i i7],sC [.l r2],sC [.vec 4 n1,.vec 5 n2,.nils],sV A3 r3,sV A2 r4,some .dead,sV A2 r6]
theorem x2j (h1:i4<i3)(h2:Rn E I6 [.i i0,.i i4,.ptr 0 0,.ptr 1 0] [sC [.l r0],sC [.s s1,.i i5,.l r1,.s s2,.s s3,.i i6,.i i7],sC [.l r2],sC [.vec 4 n1,.vec 5 n2,.nils],sV A3 r3,sV A2 r4,some .dead,sV A2 r5,none,none] (.s s4) [sC [.l r0],sC [.s s1,.i i5,.l r1,.s s2,.s s3,.i i6,.i i7],sC [.l r2],sC [.vec 4 n1,.vec 5 n2,.nils],sV A3 r3,sV A2 r4,some .dead,sV A2 r5,none,none])(h3:(n0+1)*16≤140737488355328∧n0+1≤140737488355328)(e1:(r5.take n0)++[[.s s4]]=r7)(e2:n0+1=n4)(e3:IntKind.i64.wrap (i4+1)=i8)(ih:Lp E 7 A1 1 (Y9 s0 n4 i0 i1 i2 i3 i8 r0 s1 i5 r1 s2 s3 i6 i7 r2 n1 n2 r3 r4 r7) o t):Lp E 7 A1 1 (Y9 s0 n0 i0 i1 i2 i3 i4 r0 s1 i5 r1 s2 s3 i6 i7 r2 n1 n2 r3 r4 r5) o t:=by subst e1 e2 e3;exact lpM (oT h1 (oR h2 (oP (show ∀ y∈([[.s s4]]:RW),y.length=1 from by simp) (oP h3 oZ)))) ih
theorem y9p (h1:¬ i4<i3):Lp E 7 A1 1 (Y9 s0 n0 i0 i1 i2 i3 i4 r0 s1 i5 r1 s2 s3 i6 i7 r2 n1 n2 r3 r4 r5) (.exit 2) (z3b s0 i1 i2 r0 s1 i5 r1 s2 s3 i6 i7 r2 n1 n2 r3 r4 n0 r5):=lpX (oU h1 oZ)
def z1j (s0:BA) (n0:Nat) (i0 i1:Int) (r0:RW) (s1:BA) (i2:Int) (r1:RW) (s2 s3:BA) (i3 i4:Int) (r2:RW) (n1 n2:Nat) (r3 r4 r5:RW):St:=stOf 41 [(0,.s s0),(1,.fn I6 [.ptr 0 0,.ptr 1 0]),(3,.ptr 2 0),(4,.ptr 3 0),(7,.vec 6 n0),(11,.i i0),(12,.i i1)] [sC [.l r0],sC [.s s1,.i i2,.l r1,.s s2,.s s3,.i i3,.i i4],sC [.l r2],sC [.vec 4 n1,.vec 5 n2,.nils],sV A3 r3,sV A2 r4,sV A2 r5]
def z7m (s0:BA) (r0:RW) (s1:BA) (i2:Int) (r1:RW) (s2 s3:BA) (i3 i4:Int) (r2:RW) (n1 n2:Nat) (r3 r4:RW) (n3:Nat) (r6:RW):St:=stOf 41 [(0,.s s0),(4,.ptr 3 0),(7,.vec 6 n3)] [sC [.l r0],sC [.s s1,.i i2,.l r1,.s s2,.s s3,.i i3,.i i4],sC [.l r2],sC [.vec 4 n1,.vec 5 n2,.nils],sV A3 r3,sV A2 r4,sV A2 r6]
theorem x2f (h1:i1<i0)(h2:Lp E 7 A1 1 (Y9 s0 n0 i1 i0 i1 (r2.length:Int) 0 r0 s1 i2 r1 s2 s3 i3 i4 r2 n1 n2 r3 r4 r5) (.exit 2) (z3b s0 i0 i1 r0 s1 i2 r1 s2 s3 i3 i4 r2 n1 n2 r3 r4 n4 r7))(e1:IntKind.i64.wrap (i1+1)=i5)(ih:Lp E 6 A1 0 (z1j s0 n4 i0 i5 r0 s1 i2 r1 s2 s3 i3 i4 r2 n1 n2 r3 r4 r7) o t):Lp E 6 A1 0 (z1j s0 n0 i0 i1 r0 s1 i2 r1 s2 s3 i3 i4 r2 n1 n2 r3 r4 r5) o t:=by subst e1;exact lpM (oT h1 (oM [(7,A2)] h2 oZ)) ih
theorem y9l (h1:¬ i1<i0):Lp E 6 A1 0 (z1j s0 n0 i0 i1 r0 s1 i2 r1 s2 s3 i3 i4 r2 n1 n2 r3 r4 r5) (.exit 0) (z7m s0 r0 s1 i2 r1 s2 s3 i3 i4 r2 n1 n2 r3 r4 n0 r5):=lpX (oU h1 oZ)
theorem y0v (h1:Lp E 6 A1 0 (z1j s0 0 (r0.length:Int) 0 r0 s1 i0 r1 s2 s3 i1 i2 r2 n0 n1 r3 r4 []) (.exit 0) (z7m s0 r0 s1 i0 r1 s2 s3 i1 i2 r2 n0 n1 r3 r4 n2 r5))(h2:(n0+1)*24≤140737488355328∧n0+1≤140737488355328)(h3:(n1+1)*16≤140737488355328∧n1+1≤140737488355328)(e1:(r5.take n2)=r6)(e2:(r3.take n0)++[[.l r6]]=r7)(e3:n0+1=n3)(e4:(r4.take n1)++[[.s s0]]=r8)(e5:n1+1=n4):Rn E A1 [.s s0,.fn I6 [.ptr 0 0,.ptr 1 0],.ptr 0 0,.ptr 2 0,.ptr 3 0] [sC [.l r0],sC [.s s1,.i i0,.l r1,.s s2,.s s3,.i i1,.i i2],sC [.l r2],sC [.vec 4 n0,.vec 5 n1,.nils],sV A3 r3,sV A2 r4] (.tup []) [sC [.l r0],sC [.s s1,.i i0,.l r1,.s s2,.s s3,.i i1,.i i2],sC [.l r2],sC [.vec 6 n3,.vec 7 n4,.nils],some .dead,some .dead,sV A3 r7,sV A2 r8]:=by subst e1 e2 e3 e4 e5;exact rnM (oM [(7,A2)] h1 (oP (show ∀ y∈([[.l (r5.take n2)]]:RW),y.length=1 from by simp) (oP h2 (oP (show ∀ y∈([[.s s0]]:RW),y.length=1 from by simp) (oP h3 oZ)))))
theorem j8t (h1:Fn E y6t [.s s0,.s s1] (.tup [.s s2,.i i0])):Fn E U7 [.s s0,.s s1] (.s s2):=fnM (oF h1 oZ)
def Z0 (s0:BA) (n0:Nat) (i0 i1 i2 i3 i4:Int) (r0:RW) (s1:BA) (i5:Int) (r1:RW) (s2 s3:BA) (i6 i7:Int) (r2:RW) (n1 n2:Nat) (r3 r4 r5:RW):St:=stOf 41 [(0,.s s0),(1,.fn H4 [.ptr 0 0,.ptr 1 0]),(3,.ptr 2 0),(4,.ptr 3 0),(7,.vec 7 n0),(8,.i i0),(11,.i i1),(12,.i i2),(16,.i i3),(17,.i i4)] [sC [.l r0],sC [.s s1,.i i5,.l r1,.s s2,.s s3,.i i6,.i i7],sC [.l r2],sC [.vec 4 n1,.vec 5 n2,.nils],sV A3 r3,sV A2 r4,some .dead,sV A2 r5]
def z3c (s0:BA) (i1 i2:Int) (r0:RW) (s1:BA) (i5:Int) (r1:RW) (s2 s3:BA) (i6 i7:Int) (r2:RW) (n1 n2:Nat) (r3 r4:RW) (n3:Nat) (r6:RW):St:=stOf 41 [(0,.s s0),(1,.fn H4 [.ptr 0 0,.ptr 1 0]),(3,.ptr 2 0),(4,.ptr 3 0),(7,.vec 7 n3),(11,.i i1),(12,.i i2)] [sC [.l r0],sC [.s s1,.i i5,.l r1,.s s2,.s s3,.i i6,.i i7],sC [.l r2],sC [.vec 4 n1,.vec 5 n2,.nils],sV A3 r3,sV A2 r4,some .dead,sV A2 r6]
theorem x2k (h1:i4<i3)(h2:Rn E H4 [.i i0,.i i4,.ptr 0 0,.ptr 1 0] [sC [.l r0],sC [.s s1,.i i5,.l r1,.s s2,.s s3,.i i6,.i i7],sC [.l r2],sC [.vec 4 n1,.vec 5 n2,.nils],sV A3 r3,sV A2 r4,some .dead,sV A2 r5,none,none] (.s s4) [sC [.l r0],sC [.s s1,.i i5,.l r1,.s s2,.s s3,.i i6,.i i7],sC [.l r2],sC [.vec 4 n1,.vec 5 n2,.nils],sV A3 r3,sV A2 r4,some .dead,sV A2 r5,none,none])(h3:(n0+1)*16≤140737488355328∧n0+1≤140737488355328)(e1:(r5.take n0)++[[.s s4]]=r7)(e2:n0+1=n4)(e3:IntKind.i64.wrap (i4+1)=i8)(ih:Lp E 7 A1 1 (Z0 s0 n4 i0 i1 i2 i3 i8 r0 s1 i5 r1 s2 s3 i6 i7 r2 n1 n2 r3 r4 r7) o t):Lp E 7 A1 1 (Z0 s0 n0 i0 i1 i2 i3 i4 r0 s1 i5 r1 s2 s3 i6 i7 r2 n1 n2 r3 r4 r5) o t:=by subst e1 e2 e3;exact lpM (oT h1 (oR h2 (oP (show ∀ y∈([[.s s4]]:RW),y.length=1 from by simp) (oP h3 oZ)))) ih
theorem y9q (h1:¬ i4<i3):Lp E 7 A1 1 (Z0 s0 n0 i0 i1 i2 i3 i4 r0 s1 i5 r1 s2 s3 i6 i7 r2 n1 n2 r3 r4 r5) (.exit 2) (z3c s0 i1 i2 r0 s1 i5 r1 s2 s3 i6 i7 r2 n1 n2 r3 r4 n0 r5):=lpX (oU h1 oZ)
def z1k (s0:BA) (n0:Nat) (i0 i1:Int) (r0:RW) (s1:BA) (i2:Int) (r1:RW) (s2 s3:BA) (i3 i4:Int) (r2:RW) (n1 n2:Nat) (r3 r4 r5:RW):St:=stOf 41 [(0,.s s0),(1,.fn H4 [.ptr 0 0,.ptr 1 0]),(3,.ptr 2 0),(4,.ptr 3 0),(7,.vec 6 n0),(11,.i i0),(12,.i i1)] [sC [.l r0],sC [.s s1,.i i2,.l r1,.s s2,.s s3,.i i3,.i i4],sC [.l r2],sC [.vec 4 n1,.vec 5 n2,.nils],sV A3 r3,sV A2 r4,sV A2 r5]
def z7n (s0:BA) (r0:RW) (s1:BA) (i2:Int) (r1:RW) (s2 s3:BA) (i3 i4:Int) (r2:RW) (n1 n2:Nat) (r3 r4:RW) (n3:Nat) (r6:RW):St:=stOf 41 [(0,.s s0),(4,.ptr 3 0),(7,.vec 6 n3)] [sC [.l r0],sC [.s s1,.i i2,.l r1,.s s2,.s s3,.i i3,.i i4],sC [.l r2],sC [.vec 4 n1,.vec 5 n2,.nils],sV A3 r3,sV A2 r4,sV A2 r6]
theorem x2g (h1:i1<i0)(h2:Lp E 7 A1 1 (Z0 s0 n0 i1 i0 i1 (r2.length:Int) 0 r0 s1 i2 r1 s2 s3 i3 i4 r2 n1 n2 r3 r4 r5) (.exit 2) (z3c s0 i0 i1 r0 s1 i2 r1 s2 s3 i3 i4 r2 n1 n2 r3 r4 n4 r7))(e1:IntKind.i64.wrap (i1+1)=i5)(ih:Lp E 6 A1 0 (z1k s0 n4 i0 i5 r0 s1 i2 r1 s2 s3 i3 i4 r2 n1 n2 r3 r4 r7) o t):Lp E 6 A1 0 (z1k s0 n0 i0 i1 r0 s1 i2 r1 s2 s3 i3 i4 r2 n1 n2 r3 r4 r5) o t:=by subst e1;exact lpM (oT h1 (oM [(7,A2)] h2 oZ)) ih
theorem y9m (h1:¬ i1<i0):Lp E 6 A1 0 (z1k s0 n0 i0 i1 r0 s1 i2 r1 s2 s3 i3 i4 r2 n1 n2 r3 r4 r5) (.exit 0) (z7n s0 r0 s1 i2 r1 s2 s3 i3 i4 r2 n1 n2 r3 r4 n0 r5):=lpX (oU h1 oZ)
theorem y0w (h1:Lp E 6 A1 0 (z1k s0 0 (r0.length:Int) 0 r0 s1 i0 r1 s2 s3 i1 i2 r2 n0 n1 r3 r4 []) (.exit 0) (z7n s0 r0 s1 i0 r1 s2 s3 i1 i2 r2 n0 n1 r3 r4 n2 r5))(h2:(n0+1)*24≤140737488355328∧n0+1≤140737488355328)(h3:(n1+1)*16≤140737488355328∧n1+1≤140737488355328)(e1:(r5.take n2)=r6)(e2:(r3.take n0)++[[.l r6]]=r7)(e3:n0+1=n3)(e4:(r4.take n1)++[[.s s0]]=r8)(e5:n1+1=n4):Rn E A1 [.s s0,.fn H4 [.ptr 0 0,.ptr 1 0],.ptr 0 0,.ptr 2 0,.ptr 3 0] [sC [.l r0],sC [.s s1,.i i0,.l r1,.s s2,.s s3,.i i1,.i i2],sC [.l r2],sC [.vec 4 n0,.vec 5 n1,.nils],sV A3 r3,sV A2 r4] (.tup []) [sC [.l r0],sC [.s s1,.i i0,.l r1,.s s2,.s s3,.i i1,.i i2],sC [.l r2],sC [.vec 6 n3,.vec 7 n4,.nils],some .dead,some .dead,sV A3 r7,sV A2 r8]:=by subst e1 e2 e3 e4 e5;exact rnM (oM [(7,A2)] h1 (oP (show ∀ y∈([[.l (r5.take n2)]]:RW),y.length=1 from by simp) (oP h2 (oP (show ∀ y∈([[.s s0]]:RW),y.length=1 from by simp) (oP h3 oZ)))))
theorem k2c (h1:Lp E 2 C0 0 (D2 r3 0 r2 (r2.length:Int) 0 r0 r1 r2 []) (.exit 0) (z1l r0 r1 r2 n0 r4)):Rn E C0 [.agg [.l r0,.l r1,.l r2],.l r3] [] (.vec 0 n0) [sV N1 r4]:=rnM (oM [(6,N1)] h1 oZ)
theorem j1o (h1:s0=(⟨#[]⟩:BA)):Fn E z1a [.s s0] (.b true):=fnM (oB (seT h1) oZ)
theorem j1p (h1:¬ s0=(⟨#[]⟩:BA))(h2:Fn E z4d [.s s0] (.b b0)):Fn E z1a [.s s0] (.b b0):=fnM (oC (seF h1) (oF h2 oZ))
theorem y8n (h1:Fn E Z7 [.s s0,.s s1] (.tup [.i i0,.i i1])):Fn E K7 [.s s0,.s s1] (.i i0):=fnM (oF h1 oZ)
theorem j2b (h1:i0=2)(h2:i1≥i2):Fn E N4 [.agg [.l r0,.l r1,.l r2],.agg [.s s0,.i i0,.l r3,.s s1,.s s2,.i i1,.i i2]] (.i 2):=fnM (oB (beT h1) (oT h2 oZ))
theorem j2c (h1:i0=2)(h2:¬ i1≥i2)(h3:Fn E I7 [.i i1] (.b true))(h4:Fn E I7 [.i i2] (.b true)):Fn E N4 [.agg [.l r0,.l r1,.l r2],.agg [.s s0,.i i0,.l r3,.s s1,.s s2,.i i1,.i i2]] (.i 0):=fnM (oB (beT h1) (oU h2 (oF h3 (oF h4 oZ))))
theorem j2d (h1:i0=2)(h2:¬ i1≥i2)(h3:Fn E I7 [.i i1] (.b true))(h4:Fn E I7 [.i i2] (.b false)):Fn E N4 [.agg [.l r0,.l r1,.l r2],.agg [.s s0,.i i0,.l r3,.s s1,.s s2,.i i1,.i i2]] (.i 2):=fnM (oB (beT h1) (oU h2 (oF h3 (oF h4 oZ))))
theorem j2e (h1:i0=2)(h2:¬ i1≥i2)(h3:Fn E I7 [.i i1] (.b false)):Fn E N4 [.agg [.l r0,.l r1,.l r2],.agg [.s s0,.i i0,.l r3,.s s1,.s s2,.i i1,.i i2]] (.i 2):=fnM (oB (beT h1) (oU h2 (oF h3 oZ)))
section
variable (h1:¬ i0=2)
include h1
theorem j2f (h2:i0=3)(h3:Fn E I7 [.i i1] (.b true))(h4:Rn E P7 [.l r1,.fn F7 [.ptr 1 0]] [sC [.l r0,.l r1,.l r2],sC [.s s0,.i i0,.l r3,.s s1,.s s2,.i i1,.i i2]] (.b true) [sC [.l r0,.l r1,.l r2],sC [.s s0,.i i0,.l r3,.s s1,.s s2,.i i1,.i i2]]):Fn E N4 [.agg [.l r0,.l r1,.l r2],.agg [.s s0,.i i0,.l r3,.s s1,.s s2,.i i1,.i i2]] (.i 0):=fnM (oC (beF h1) (oB (beT h2) (oF h3 (oR h4 oZ))))
theorem j2g (h2:i0=3)(h3:Fn E I7 [.i i1] (.b true))(h4:Rn E P7 [.l r1,.fn F7 [.ptr 1 0]] [sC [.l r0,.l r1,.l r2],sC [.s s0,.i i0,.l r3,.s s1,.s s2,.i i1,.i i2]] (.b false) [sC [.l r0,.l r1,.l r2],sC [.s s0,.i i0,.l r3,.s s1,.s s2,.i i1,.i i2]]):Fn E N4 [.agg [.l r0,.l r1,.l r2],.agg [.s s0,.i i0,.l r3,.s s1,.s s2,.i i1,.i i2]] (.i 7):=fnM (oC (beF h1) (oB (beT h2) (oF h3 (oR h4 oZ))))
theorem j2h (h2:i0=3)(h3:Fn E I7 [.i i1] (.b false)):Fn E N4 [.agg [.l r0,.l r1,.l r2],.agg [.s s0,.i i0,.l r3,.s s1,.s s2,.i i1,.i i2]] (.i 2):=fnM (oC (beF h1) (oB (beT h2) (oF h3 oZ)))
theorem j2i (h2:¬ i0=3)(h3:¬ i2=0):Fn E N4 [.agg [.l r0,.l r1,.l r2],.agg [.s s0,.i i0,.l r3,.s s1,.s s2,.i i1,.i i2]] (.i 2):=fnM (oC (beF h1) (oC (beF h2) (oB (bnT h3) oZ)))
theorem j2j (h2:¬ i0=3)(h3:i2=0)(h4:Rn E P0 [.l r0,.fn F8 [.ptr 1 0]] [sC [.l r0,.l r1,.l r2],sC [.s s0,.i i0,.l r3,.s s1,.s s2,.i i1,.i i2]] (.b true) [sC [.l r0,.l r1,.l r2],sC [.s s0,.i i0,.l r3,.s s1,.s s2,.i i1,.i i2]]):Fn E N4 [.agg [.l r0,.l r1,.l r2],.agg [.s s0,.i i0,.l r3,.s s1,.s s2,.i i1,.i i2]] (.i 0):=fnM (oC (beF h1) (oC (beF h2) (oC (bnF h3) (oR h4 oZ))))
theorem j2k (h2:¬ i0=3)(h3:i2=0)(h4:Rn E P0 [.l r0,.fn F8 [.ptr 1 0]] [sC [.l r0,.l r1,.l r2],sC [.s s0,.i i0,.l r3,.s s1,.s s2,.i i1,.i i2]] (.b false) [sC [.l r0,.l r1,.l r2],sC [.s s0,.i i0,.l r3,.s s1,.s s2,.i i1,.i i2]]):Fn E N4 [.agg [.l r0,.l r1,.l r2],.agg [.s s0,.i i0,.l r3,.s s1,.s s2,.i i1,.i i2]] (.i 7):=fnM (oC (beF h1) (oC (beF h2) (oC (bnF h3) (oR h4 oZ))))
end
def z8x (r0:RW) (s0:BA) (r1:RW) (i0 i1:Int) (r2 r3 r4:RW) (s1:BA) (i2:Int) (r5:RW) (s2 s3:BA) (i3 i4:Int):St:=stOf 42 [(2,.l r0),(3,.ptr 0 0),(4,.ptr 1 0),(7,.s s0),(14,.l r1),(15,.i i0),(16,.i i1)] [sC [.l r2,.l r3,.l r4],sC [.s s1,.i i2,.l r5,.s s2,.s s3,.i i3,.i i4]]
def y3y (r2 r3 r4:RW) (s1:BA) (i2:Int) (r5:RW) (s2 s3:BA) (i3 i4:Int) (s4:BA):St:=stOf 42 [(7,.s s4)] [sC [.l r2,.l r3,.l r4],sC [.s s1,.i i2,.l r5,.s s2,.s s3,.i i3,.i i4]]
theorem k5u (h1:i1<i0)(h2:0≤i1)(h3:r1[(Int.toNat i1)]?=some [.i i5,.s s5,.s s6,.s s7,.s s8,.s s9,.s s10])(h4:Fn E x1e [.agg [.l r2,.l r3],.l r0,.i i5] (.tup [.agg [.s s11,.s s12,.s s13,.s s14,.s s15,.s s16],.i i6]))(h5:r5[(Int.toNat i1)]?=some [.s s17])(h6:Fn E z9z [.s s17,.s s11] (.s s18))(h7:Fn E y8v [.s s0,.s s18] (.s s19))(e1:IntKind.i64.wrap (i1+1)=i7)(ih:Lp E 2 z0g 0 (z8x r0 s19 r1 i0 i7 r2 r3 r4 s1 i2 r5 s2 s3 i3 i4) o t):Lp E 2 z0g 0 (z8x r0 s0 r1 i0 i1 r2 r3 r4 s1 i2 r5 s2 s3 i3 i4) o t:=by subst e1;exact lpM (oT h1 (oP h2 (oD h3 (oF h4 (oP h2 (oD h5 (oF h6 (oF h7 oZ)))))))) ih
theorem x9w (h1:¬ i1<i0):Lp E 2 z0g 0 (z8x r0 s0 r1 i0 i1 r2 r3 r4 s1 i2 r5 s2 s3 i3 i4) (.exit 0) (y3y r2 r3 r4 s1 i2 r5 s2 s3 i3 i4 s0):=lpX (oU h1 oZ)
theorem j8u (h1:Lp E 2 z0g 0 (z8x r4 ⟨#[48]⟩ r1 (r1.length:Int) 0 r0 r1 r2 s0 i0 r3 s1 s2 i1 i2) (.exit 0) (y3y r0 r1 r2 s0 i0 r3 s1 s2 i1 i2 s3)):Fn E z0g [.agg [.l r0,.l r1,.l r2],.agg [.s s0,.i i0,.l r3,.s s1,.s s2,.i i1,.i i2],.l r4] (.s s3):=fnM (oL h1 oZ)
section
variable (h1:Fn E z0g [.agg [.l r0,.l r1,.l r2],.agg [.s s0,.i i0,.l r3,.s s1,.s s2,.i i1,.i i2],.l r4] (.s s3))(h2:Fn E P5 [.agg [.s s0,.i i0,.l r3,.s s1,.s s2,.i i1,.i i2],.s s3] (.s s4))(h3:Fn E y6u [.s s4] (.i i3))
include h1 h2 h3
theorem k2a (h4:¬ i3=0):Fn E V4 [.agg [.l r0,.l r1,.l r2],.agg [.s s0,.i i0,.l r3,.s s1,.s s2,.i i1,.i i2],.l r4] (.b true):=fnM (oF h1 (oF h2 (oF h3 (oB (bnT h4) oZ))))
theorem k2b (h4:i3=0):Fn E V4 [.agg [.l r0,.l r1,.l r2],.agg [.s s0,.i i0,.l r3,.s s1,.s s2,.i i1,.i i2],.l r4] (.b false):=fnM (oF h1 (oF h2 (oF h3 (oC (bnF h4) oZ))))
end
def I4 (r0 r1:RW) (i0 i1:Int) (r2:RW) (i2 i3:Int) (r3 r4 r5:RW) (s0:BA) (i4:Int) (r6:RW) (s1 s2:BA) (i5 i6 i7 i8 i9:Int):St:=stOf 48 [(2,.l r0),(3,.ptr 0 0),(4,.ptr 1 0),(8,.ptr 2 0),(11,.l r1),(12,.i i0),(13,.i i1),(17,.l r2),(18,.i i2),(19,.i i3)] [sC [.l r3,.l r4,.l r5],sC [.s s0,.i i4,.l r6,.s s1,.s s2,.i i5,.i i6],sC [.i i7,.i i8,.i i9]]
def z6i (r3 r4 r5:RW) (s0:BA) (i4:Int) (r6:RW) (s1 s2:BA) (i5 i6 i7 i8 i9:Int):St:=stOf 48 [(6,.b true)] [sC [.l r3,.l r4,.l r5],sC [.s s0,.i i4,.l r6,.s s1,.s s2,.i i5,.i i6],sC [.i i7,.i i8,.i i9]]
def z6j (r0 r1:RW) (i0 i1:Int) (r3 r4 r5:RW) (s0:BA) (i4:Int) (r6:RW) (s1 s2:BA) (i5 i6 i7 i8 i9:Int):St:=stOf 48 [(2,.l r0),(3,.ptr 0 0),(4,.ptr 1 0),(11,.l r1),(12,.i i0),(13,.i i1)] [sC [.l r3,.l r4,.l r5],sC [.s s0,.i i4,.l r6,.s s1,.s s2,.i i5,.i i6],sC [.i i7,.i i8,.i i9]]
section
variable (h1:i3<i2)(h2:0≤i3)(h3:r2[(Int.toNat i3)]?=some [.i i10,.i i11,.i i12])
include h1 h2 h3
section
variable (h4:i7=i10)(h5:Fn E z0z [.agg [.l r3,.l r4,.l r5],.i i8] (.i i13))
include h4 h5
theorem x9t (h6:i13=i5)(h7:Fn E z0z [.agg [.l r3,.l r4,.l r5],.i i11] (.i i14))(h8:¬ i14=i6)(e1:IntKind.i64.wrap (i3+1)=i15)(ih:Lp E 3 C5 1 (I4 r0 r1 i0 i1 r2 i2 i15 r3 r4 r5 s0 i4 r6 s1 s2 i5 i6 i7 i8 i9) o t):Lp E 3 C5 1 (I4 r0 r1 i0 i1 r2 i2 i3 r3 r4 r5 s0 i4 r6 s1 s2 i5 i6 i7 i8 i9) o t:=by subst e1;exact lpM (oT h1 (oP h2 (oD h3 (oB (beT h4) (oF h5 (oB (beT h6) (oF h7 (oC (beF h8) oZ)))))))) ih
theorem x9u (h6:¬ i13=i5)(e1:IntKind.i64.wrap (i3+1)=i14)(ih:Lp E 3 C5 1 (I4 r0 r1 i0 i1 r2 i2 i14 r3 r4 r5 s0 i4 r6 s1 s2 i5 i6 i7 i8 i9) o t):Lp E 3 C5 1 (I4 r0 r1 i0 i1 r2 i2 i3 r3 r4 r5 s0 i4 r6 s1 s2 i5 i6 i7 i8 i9) o t:=by subst e1;exact lpM (oT h1 (oP h2 (oD h3 (oB (beT h4) (oF h5 (oC (beF h6) oZ)))))) ih
end
theorem x9v (h4:¬ i7=i10)(e1:IntKind.i64.wrap (i3+1)=i13)(ih:Lp E 3 C5 1 (I4 r0 r1 i0 i1 r2 i2 i13 r3 r4 r5 s0 i4 r6 s1 s2 i5 i6 i7 i8 i9) o t):Lp E 3 C5 1 (I4 r0 r1 i0 i1 r2 i2 i3 r3 r4 r5 s0 i4 r6 s1 s2 i5 i6 i7 i8 i9) o t:=by subst e1;exact lpM (oT h1 (oP h2 (oD h3 (oC (beF h4) oZ)))) ih
theorem x4j (h4:i7=i10)(h5:Fn E z0z [.agg [.l r3,.l r4,.l r5],.i i8] (.i i13))(h6:i13=i5)(h7:Fn E z0z [.agg [.l r3,.l r4,.l r5],.i i11] (.i i14))(h8:i14=i6):Lp E 3 C5 1 (I4 r0 r1 i0 i1 r2 i2 i3 r3 r4 r5 s0 i4 r6 s1 s2 i5 i6 i7 i8 i9) .ret (z6i r3 r4 r5 s0 i4 r6 s1 s2 i5 i6 i7 i8 i9):=lpX (oT h1 (oP h2 (oD h3 (oB (beT h4) (oF h5 (oB (beT h6) (oF h7 (oB (beT h8) oZ))))))))
end
theorem x4k (h1:¬ i3<i2):Lp E 3 C5 1 (I4 r0 r1 i0 i1 r2 i2 i3 r3 r4 r5 s0 i4 r6 s1 s2 i5 i6 i7 i8 i9) (.exit 2) (z6j r0 r1 i0 i1 r3 r4 r5 s0 i4 r6 s1 s2 i5 i6 i7 i8 i9):=lpX (oU h1 oZ)
def z0b (r0 r1:RW) (i0 i1:Int) (r2 r3 r4:RW) (s0:BA) (i2:Int) (r5:RW) (s1 s2:BA) (i3 i4:Int):St:=stOf 48 [(2,.l r0),(3,.ptr 0 0),(4,.ptr 1 0),(11,.l r1),(12,.i i0),(13,.i i1)] [sC [.l r2,.l r3,.l r4],sC [.s s0,.i i2,.l r5,.s s1,.s s2,.i i3,.i i4]]
def y0x (r2 r3 r4:RW) (s0:BA) (i2:Int) (r5:RW) (s1 s2:BA) (i3 i4:Int):St:=stOf 48 [(6,.b true)] [sC [.l r2,.l r3,.l r4],sC [.s s0,.i i2,.l r5,.s s1,.s s2,.i i3,.i i4]]
def y0y (r2 r3 r4:RW) (s0:BA) (i2:Int) (r5:RW) (s1 s2:BA) (i3 i4:Int):St:=stOf 48 [] [sC [.l r2,.l r3,.l r4],sC [.s s0,.i i2,.l r5,.s s1,.s s2,.i i3,.i i4]]
section
variable (h1:i1<i0)(h2:0≤i1)(h3:r1[(Int.toNat i1)]?=some [.i i5,.i i6,.i i7])
include h1 h2 h3
theorem x9s (h4:Lp E 3 C5 1 (I4 r0 r1 i0 i1 r0 (r0.length:Int) 0 r2 r3 r4 s0 i2 r5 s1 s2 i3 i4 i5 i6 i7) (.exit 2) (z6j r0 r1 i0 i1 r2 r3 r4 s0 i2 r5 s1 s2 i3 i4 i5 i6 i7))(e1:IntKind.i64.wrap (i1+1)=i8)(ih:Lp E 2 C5 0 (z0b r0 r1 i0 i8 r2 r3 r4 s0 i2 r5 s1 s2 i3 i4) o t):Lp E 2 C5 0 (z0b r0 r1 i0 i1 r2 r3 r4 s0 i2 r5 s1 s2 i3 i4) o t:=by subst e1;exact lpM (oT h1 (oP h2 (oD h3 (oL h4 oZ)))) ih
theorem x4h (h4:Lp E 3 C5 1 (I4 r0 r1 i0 i1 r0 (r0.length:Int) 0 r2 r3 r4 s0 i2 r5 s1 s2 i3 i4 i5 i6 i7) .ret (z6i r2 r3 r4 s0 i2 r5 s1 s2 i3 i4 i5 i6 i7)):Lp E 2 C5 0 (z0b r0 r1 i0 i1 r2 r3 r4 s0 i2 r5 s1 s2 i3 i4) .ret (y0x r2 r3 r4 s0 i2 r5 s1 s2 i3 i4):=lpX (oT h1 (oP h2 (oD h3 (oL h4 oZ))))
end
theorem x4i (h1:¬ i1<i0):Lp E 2 C5 0 (z0b r0 r1 i0 i1 r2 r3 r4 s0 i2 r5 s1 s2 i3 i4) (.exit 0) (y0y r2 r3 r4 s0 i2 r5 s1 s2 i3 i4):=lpX (oU h1 oZ)
theorem j1l (h1:Lp E 2 C5 0 (z0b r4 r4 (r4.length:Int) 0 r0 r1 r2 s0 i0 r3 s1 s2 i1 i2) .ret (y0x r0 r1 r2 s0 i0 r3 s1 s2 i1 i2)):Fn E C5 [.agg [.l r0,.l r1,.l r2],.agg [.s s0,.i i0,.l r3,.s s1,.s s2,.i i1,.i i2],.l r4] (.b true):=fnM (oL h1 oZ)
theorem j1m (h1:Lp E 2 C5 0 (z0b r4 r4 (r4.length:Int) 0 r0 r1 r2 s0 i0 r3 s1 s2 i1 i2) (.exit 0) (y0y r0 r1 r2 s0 i0 r3 s1 s2 i1 i2)):Fn E C5 [.agg [.l r0,.l r1,.l r2],.agg [.s s0,.i i0,.l r3,.s s1,.s s2,.i i1,.i i2],.l r4] (.b false):=fnM (oL h1 oZ)
theorem j2a (h1:Rn E X9 [.l r4,.fn F6 [.ptr 1 0,.ptr 0 0]] [sC [.l r0,.l r1,.l r2],sC [.s s0,.i i0,.l r3,.s s1,.s s2,.i i1,.i i2]] (.b b0) [sC [.l r0,.l r1,.l r2],sC [.s s0,.i i0,.l r3,.s s1,.s s2,.i i1,.i i2]]):Fn E z3g [.agg [.l r0,.l r1,.l r2],.agg [.s s0,.i i0,.l r3,.s s1,.s s2,.i i1,.i i2],.l r4] (.b b0):=fnM (oR h1 oZ)
def z0c (i0:Int) (r0:RW) (i1 i2:Int) (r1 r2 r3:RW) (s0:BA) (i3:Int) (r4:RW) (s1 s2:BA) (i4 i5:Int):St:=stOf 41 [(4,.ptr 1 0),(8,.i i0),(23,.l r0),(24,.i i1),(25,.i i2)] [sC [.l r1,.l r2,.l r3],sC [.s s0,.i i3,.l r4,.s s1,.s s2,.i i4,.i i5]]
def y1a (r1 r2 r3:RW) (s0:BA) (i3:Int) (r4:RW) (s1 s2:BA) (i4 i5 i6:Int):St:=stOf 41 [(8,.i i6)] [sC [.l r1,.l r2,.l r3],sC [.s s0,.i i3,.l r4,.s s1,.s s2,.i i4,.i i5]]
section
variable (h1:i2<i1)(h2:0≤i2)(h3:r0[(Int.toNat i2)]?=some [.i i7,.i i8,.i i9])
include h1 h2 h3
theorem x9x (h4:i8=i4)(e1:IntKind.i64.wrap (i0-i9)=i10)(e2:IntKind.i64.wrap (i2+1)=i11)(ih:Lp E 2 I8 0 (z0c i10 r0 i1 i11 r1 r2 r3 s0 i3 r4 s1 s2 i4 i5) o t):Lp E 2 I8 0 (z0c i0 r0 i1 i2 r1 r2 r3 s0 i3 r4 s1 s2 i4 i5) o t:=by subst e1 e2;exact lpM (oT h1 (oP h2 (oD h3 (oB (beT h4) oZ)))) ih
theorem x9y (h4:¬ i8=i4)(e1:IntKind.i64.wrap (i2+1)=i10)(ih:Lp E 2 I8 0 (z0c i0 r0 i1 i10 r1 r2 r3 s0 i3 r4 s1 s2 i4 i5) o t):Lp E 2 I8 0 (z0c i0 r0 i1 i2 r1 r2 r3 s0 i3 r4 s1 s2 i4 i5) o t:=by subst e1;exact lpM (oT h1 (oP h2 (oD h3 (oC (beF h4) oZ)))) ih
end
theorem x4l (h1:¬ i2<i1):Lp E 2 I8 0 (z0c i0 r0 i1 i2 r1 r2 r3 s0 i3 r4 s1 s2 i4 i5) (.exit 0) (y1a r1 r2 r3 s0 i3 r4 s1 s2 i4 i5 i0):=lpX (oU h1 oZ)
section
variable (h1:Rn E A4 [.l r0,.fn O6 [.ptr 1 0]] [sC [.l r0,.l r1,.l r2],sC [.s s0,.i i0,.l r3,.s s1,.s s2,.i i1,.i i2]] (.i i3) [sC [.l r0,.l r1,.l r2],sC [.s s0,.i i0,.l r3,.s s1,.s s2,.i i1,.i i2]])(h2:0≤i3)(h3:r0[(Int.toNat i3)]?=some [.i i4,.i i5,.i i6,.s s3,.s s4,.s s5,.s s6])(h4:Lp E 2 I8 0 (z0c i5 r4 (r4.length:Int) 0 r0 r1 r2 s0 i0 r3 s1 s2 i1 i2) (.exit 0) (y1a r0 r1 r2 s0 i0 r3 s1 s2 i1 i2 i7))
include h1 h2 h3 h4
theorem j2q (h5:i7>0):Fn E I8 [.agg [.l r0,.l r1,.l r2],.agg [.s s0,.i i0,.l r3,.s s1,.s s2,.i i1,.i i2],.l r4] (.b true):=fnM (oR h1 (oP h2 (oD h3 (oL h4 (oT h5 oZ)))))
theorem j2r (h5:¬ i7>0):Fn E I8 [.agg [.l r0,.l r1,.l r2],.agg [.s s0,.i i0,.l r3,.s s1,.s s2,.i i1,.i i2],.l r4] (.b false):=fnM (oR h1 (oP h2 (oD h3 (oL h4 (oU h5 oZ)))))
end
theorem k4z (h1:Fn E A0 [.b b0,.s ⟨#[49]⟩] (.s s0))(e1:(i0 == i2)=b0):Rn E O2 [.i i0,.i i1,.ptr 0 0,.ptr 1 0] [sC [.fn A0 []],sC [.i i2]] (.s s0) [sC [.fn A0 []],sC [.i i2]]:=by subst e1;exact rnM (oK (oF h1 oZ))
theorem k5a (h1:0≤i0)(h2:r0[(Int.toNat i0)]?=some [.i i3,.i i4,.i i5,.s s0,.s s1,.s s2,.s s3])(h3:Fn E A0 [.b b0,.s s1] (.s s4))(e1:(i1 == i2)=b0):Rn E O3 [.i i0,.i i1,.ptr 0 0,.ptr 1 0,.ptr 2 0] [sC [.fn A0 []],sC [.i i2],sC [.l r0]] (.s s4) [sC [.fn A0 []],sC [.i i2],sC [.l r0]]:=by subst e1;exact rnM (oK (oP h1 (oD h2 (oF h3 oZ))))
theorem k5b (h1:0≤i0)(h2:r0[(Int.toNat i0)]?=some [.i i3,.i i4,.i i5,.s s0,.s s1,.s s2,.s s3])(h3:Fn E A0 [.b b0,.s s2] (.s s4))(e1:(i1 == i2)=b0):Rn E O4 [.i i0,.i i1,.ptr 0 0,.ptr 1 0,.ptr 2 0] [sC [.fn A0 []],sC [.i i2],sC [.l r0]] (.s s4) [sC [.fn A0 []],sC [.i i2],sC [.l r0]]:=by subst e1;exact rnM (oK (oP h1 (oD h2 (oF h3 oZ))))
theorem k5c (h1:0≤i0)(h2:r0[(Int.toNat i0)]?=some [.i i5,.i i6,.i i7,.s s3,.s s4,.s s5,.s s6])(h3:0≤i1)(h4:r1[(Int.toNat i1)]?=some [.s s7])(h5:Fn E z9z [.s s4,.s s7] (.s s8)):Rn E I6 [.i i0,.i i1,.ptr 0 0,.ptr 1 0] [sC [.l r0],sC [.s s0,.i i2,.l r1,.s s1,.s s2,.i i3,.i i4]] (.s s8) [sC [.l r0],sC [.s s0,.i i2,.l r1,.s s1,.s s2,.i i3,.i i4]]:=rnM (oP h1 (oD h2 (oP h3 (oD h4 (oF h5 oZ)))))
theorem k5d (h1:0≤i0)(h2:r0[(Int.toNat i0)]?=some [.i i5,.i i6,.i i7,.s s3,.s s4,.s s5,.s s6])(h3:0≤i1)(h4:r1[(Int.toNat i1)]?=some [.s s7])(h5:Fn E z9z [.s s4,.s s7] (.s s8))(h6:Fn E U7 [.s ⟨#[48]⟩,.s s8] (.s s9)):Rn E H4 [.i i0,.i i1,.ptr 0 0,.ptr 1 0] [sC [.l r0],sC [.s s0,.i i2,.l r1,.s s1,.s s2,.i i3,.i i4]] (.s s9) [sC [.l r0],sC [.s s0,.i i2,.l r1,.s s1,.s s2,.i i3,.i i4]]:=rnM (oP h1 (oD h2 (oP h3 (oD h4 (oF h5 (oF h6 oZ))))))
theorem k7p (h1:s0=s3):Rn E F2 [.agg [.s s0,.i i0,.l r0,.s s1,.s s2,.i i1,.i i2],.ptr 0 0] [sC [.s s3]] (.b true) [sC [.s s3]]:=rnM (oB (seT h1) oZ)
theorem k7q (h1:¬ s0=s3):Rn E F2 [.agg [.s s0,.i i0,.l r0,.s s1,.s s2,.i i1,.i i2],.ptr 0 0] [sC [.s s3]] (.b false) [sC [.s s3]]:=rnM (oC (seF h1) oZ)
theorem k5n (h1:i0≥1)(h2:i0≤9):Fn E I7 [.i i0] (.b true):=fnM (oT h1 (oT h2 oZ))
theorem k5o (h1:i0≥1)(h2:¬ i0≤9):Fn E I7 [.i i0] (.b false):=fnM (oT h1 (oU h2 oZ))
theorem k5p (h1:¬ i0≥1):Fn E I7 [.i i0] (.b false):=fnM (oU h1 oZ)
theorem j8s (h1:Fn E y1q [.s s0,.s s1] (.tup [.s s2,.i i0])):Fn E z9z [.s s0,.s s1] (.s s2):=fnM (oF h1 oZ)
theorem j8r (h1:Fn E y1p [.s s0,.s s1] (.tup [.s s2,.i i0])):Fn E y8v [.s s0,.s s1] (.s s2):=fnM (oF h1 oZ)
theorem j6p (h1:Fn E K7 [.s s0,.s ⟨#[48]⟩] (.i i0)):Fn E y6u [.s s0] (.i i0):=fnM (oF h1 oZ)
theorem j1n (h1:Rn E A4 [.l r0,.fn O5 [.ptr 1 0]] [sC [.l r0,.l r1,.l r2],sC [.i i0]] (.i i1) [sC [.l r0,.l r1,.l r2],sC [.i i0]])(h2:0≤i1)(h3:r0[(Int.toNat i1)]?=some [.i i2,.i i3,.i i4,.s s0,.s s1,.s s2,.s s3]):Fn E z0z [.agg [.l r0,.l r1,.l r2],.i i0] (.i i4):=fnM (oR h1 (oP h2 (oD h3 oZ)))
theorem k4x:Fn E A0 [.b true,.s s0] (.s s0):=fnM oZ
theorem k4y:Fn E A0 [.b false,.s s0] (.s ⟨#[48]⟩):=fnM oZ
theorem k5g (h1:Fn E z4d [.s s0] (.b b0)):Fn E G1 [.s s0] (.b (!b0)):=fnM (oF h1 oZ)
theorem k5h (h1:s0=s3):Rn E F5 [.agg [.s s0,.i i0,.l r0,.s s1,.s s2,.i i1,.i i2],.ptr 0 0] [sC [.s s3,.i i3,.l r1,.s s4,.s s5,.i i4,.i i5]] (.b true) [sC [.s s3,.i i3,.l r1,.s s4,.s s5,.i i4,.i i5]]:=rnM (oB (seT h1) oZ)
theorem k5i (h1:¬ s0=s3):Rn E F5 [.agg [.s s0,.i i0,.l r0,.s s1,.s s2,.i i1,.i i2],.ptr 0 0] [sC [.s s3,.i i3,.l r1,.s s4,.s s5,.i i4,.i i5]] (.b false) [sC [.s s3,.i i3,.l r1,.s s4,.s s5,.i i4,.i i5]]:=rnM (oC (seF h1) oZ)
theorem k5v (h1:i0=i4):Rn E O6 [.agg [.i i0,.i i1,.i i2,.s s0,.s s1,.s s2,.s s3],.ptr 0 0] [sC [.s s4,.i i3,.l r0,.s s5,.s s6,.i i4,.i i5]] (.b true) [sC [.s s4,.i i3,.l r0,.s s5,.s s6,.i i4,.i i5]]:=rnM (oB (beT h1) oZ)
theorem k5w (h1:¬ i0=i4):Rn E O6 [.agg [.i i0,.i i1,.i i2,.s s0,.s s1,.s s2,.s s3],.ptr 0 0] [sC [.s s4,.i i3,.l r0,.s s5,.s s6,.i i4,.i i5]] (.b false) [sC [.s s4,.i i3,.l r0,.s s5,.s s6,.i i4,.i i5]]:=rnM (oC (beF h1) oZ)
theorem k5q (h1:i0=i3):Rn E F7 [.agg [.i i0,.s s0,.s s1,.s s2,.s s3,.s s4,.s s5],.ptr 0 0] [sC [.s s6,.i i1,.l r0,.s s7,.s s8,.i i2,.i i3]] (.b true) [sC [.s s6,.i i1,.l r0,.s s7,.s s8,.i i2,.i i3]]:=rnM (oB (beT h1) oZ)
theorem k5r (h1:¬ i0=i3):Rn E F7 [.agg [.i i0,.s s0,.s s1,.s s2,.s s3,.s s4,.s s5],.ptr 0 0] [sC [.s s6,.i i1,.l r0,.s s7,.s s8,.i i2,.i i3]] (.b false) [sC [.s s6,.i i1,.l r0,.s s7,.s s8,.i i2,.i i3]]:=rnM (oC (beF h1) oZ)
theorem k5s (h1:i0=i4):Rn E F8 [.agg [.i i0,.i i1,.i i2,.s s0,.s s1,.s s2,.s s3],.ptr 0 0] [sC [.s s4,.i i3,.l r0,.s s5,.s s6,.i i4,.i i5]] (.b true) [sC [.s s4,.i i3,.l r0,.s s5,.s s6,.i i4,.i i5]]:=rnM (oB (beT h1) oZ)
theorem k5t (h1:¬ i0=i4):Rn E F8 [.agg [.i i0,.i i1,.i i2,.s s0,.s s1,.s s2,.s s3],.ptr 0 0] [sC [.s s4,.i i3,.l r0,.s s5,.s s6,.i i4,.i i5]] (.b false) [sC [.s s4,.i i3,.l r0,.s s5,.s s6,.i i4,.i i5]]:=rnM (oC (beF h1) oZ)
theorem k5e (h1:i0=i3):Rn E O5 [.agg [.i i0,.i i1,.i i2,.s s0,.s s1,.s s2,.s s3],.ptr 0 0] [sC [.i i3]] (.b true) [sC [.i i3]]:=rnM (oB (beT h1) oZ)
theorem k5f (h1:¬ i0=i3):Rn E O5 [.agg [.i i0,.i i1,.i i2,.s s0,.s s1,.s s2,.s s3],.ptr 0 0] [sC [.i i3]] (.b false) [sC [.i i3]]:=rnM (oC (beF h1) oZ)
section
variable (h1:i0=i5)(h2:Fn E z0z [.agg [.l r1,.l r2,.l r3],.i i1] (.i i6))
include h1 h2
theorem k5j (h3:i6=i4):Rn E F6 [.agg [.i i0,.i i1,.i i2],.ptr 0 0,.ptr 1 0] [sC [.s s0,.i i3,.l r0,.s s1,.s s2,.i i4,.i i5],sC [.l r1,.l r2,.l r3]] (.b true) [sC [.s s0,.i i3,.l r0,.s s1,.s s2,.i i4,.i i5],sC [.l r1,.l r2,.l r3]]:=rnM (oB (beT h1) (oF h2 (oB (beT h3) oZ)))
theorem k5k (h3:¬ i6=i4):Rn E F6 [.agg [.i i0,.i i1,.i i2],.ptr 0 0,.ptr 1 0] [sC [.s s0,.i i3,.l r0,.s s1,.s s2,.i i4,.i i5],sC [.l r1,.l r2,.l r3]] (.b false) [sC [.s s0,.i i3,.l r0,.s s1,.s s2,.i i4,.i i5],sC [.l r1,.l r2,.l r3]]:=rnM (oB (beT h1) (oF h2 (oC (beF h3) oZ)))
end
theorem k5l (h1:¬ i0=i5):Rn E F6 [.agg [.i i0,.i i1,.i i2],.ptr 0 0,.ptr 1 0] [sC [.s s0,.i i3,.l r0,.s s1,.s s2,.i i4,.i i5],sC [.l r1,.l r2,.l r3]] (.b false) [sC [.s s0,.i i3,.l r0,.s s1,.s s2,.i i4,.i i5],sC [.l r1,.l r2,.l r3]]:=rnM (oC (beF h1) oZ)
end Gev
namespace Gev
open Go Go.Proofs
variable {E:Env}
variable {o:Out} {t:St} {r0 r1 r2 r3 r4 r5 r6 r7 r8 r9 r10:RW} {i0 i1 i2 i3 i4 i5:Int} {n0 n1 n2 n3:Nat} {s0 s1 s2 s3:BA}
def z1q (i0 i1:Int) (r0 r1 r2:RW) (s0:BA) (i2:Int) (r3:RW) (s1 s2:BA) (i3 i4:Int):St:=stOf 63 [(1,.ptr 0 0),(3,.i i0),(4,.ptr 1 0),(5,.i i1)] [sC [.l r0,.l r1,.l r2],sC [.s s0,.i i2,.l r3,.s s1,.s s2,.i i3,.i i4]]
def y2c (r0 r1 r2:RW) (s0:BA) (i2:Int) (r3:RW) (s1 s2:BA) (i3 i4:Int):St:=stOf 63 [(2,.b false)] [sC [.l r0,.l r1,.l r2],sC [.s s0,.i i2,.l r3,.s s1,.s s2,.i i3,.i i4]]
def y2d (i0:Int) (r0 r1 r2:RW) (s0:BA) (i2:Int) (r3:RW) (s1 s2:BA) (i3 i4:Int):St:=stOf 63 [(1,.ptr 0 0),(3,.i i0)] [sC [.l r0,.l r1,.l r2],sC [.s s0,.i i2,.l r3,.s s1,.s s2,.i i3,.i i4]]
section
variable (h1:i1<(r3.length:Int))(h2:0≤i1)(h3:r3[(Int.toNat i1)]?=some [.s s3])
include h1 h2 h3
theorem j0y (h4:¬ (s3.size:Int)>40)(e1:IntKind.i64.wrap (i1+1)=i5)(ih:Lp E 2 G0 1 (z1q i0 i5 r0 r1 r2 s0 i2 r3 s1 s2 i3 i4) o t):Lp E 2 G0 1 (z1q i0 i1 r0 r1 r2 s0 i2 r3 s1 s2 i3 i4) o t:=by subst e1;exact lpM (oT h1 (oP h2 (oD h3 (oU h4 oZ)))) ih
theorem k4p (h4:(s3.size:Int)>40):Lp E 2 G0 1 (z1q i0 i1 r0 r1 r2 s0 i2 r3 s1 s2 i3 i4) .ret (y2c r0 r1 r2 s0 i2 r3 s1 s2 i3 i4):=lpX (oT h1 (oP h2 (oD h3 (oT h4 oZ))))
end
theorem k4q (h1:¬ i1<(r3.length:Int)):Lp E 2 G0 1 (z1q i0 i1 r0 r1 r2 s0 i2 r3 s1 s2 i3 i4) (.exit 2) (y2d i0 r0 r1 r2 s0 i2 r3 s1 s2 i3 i4):=lpX (oU h1 oZ)
def Y3 (i0:Int) (r0 r1 r2:RW):St:=stOf 63 [(1,.ptr 0 0),(3,.i i0)] [sC [.l r0,.l r1,.l r2]]
def z2o (r0 r1 r2:RW):St:=stOf 63 [(2,.b false)] [sC [.l r0,.l r1,.l r2]]
def x6s (r0 r1 r2:RW):St:=stOf 63 [(1,.ptr 0 0)] [sC [.l r0,.l r1,.l r2]]
section
variable (h1:i0<(r2.length:Int))(h2:0≤i0)(h3:r2[(Int.toNat i0)]?=some [.s s0,.i i1,.l r3,.s s1,.s s2,.i i2,.i i3])
include h1 h2 h3
theorem j0x (h4:¬ (s0.size:Int)>70)(h5:¬ (s1.size:Int)>40)(h6:¬ (s2.size:Int)>40)(h7:¬ (r3.length:Int)>8)(h8:Lp E 2 G0 1 (z1q i0 0 r0 r1 r2 s0 i1 r3 s1 s2 i2 i3) (.exit 2) (y2d i0 r0 r1 r2 s0 i1 r3 s1 s2 i2 i3))(e1:IntKind.i64.wrap (i0+1)=i4)(ih:Lp E 1 G0 0 (Y3 i4 r0 r1 r2) o t):Lp E 1 G0 0 (Y3 i0 r0 r1 r2) o t:=by subst e1;exact lpM (oT h1 (oP h2 (oD h3 (oU h4 (oU h5 (oU h6 (oU h7 (oL h8 oZ)))))))) ih
theorem k4j (h4:(s0.size:Int)>70):Lp E 1 G0 0 (Y3 i0 r0 r1 r2) .ret (z2o r0 r1 r2):=lpX (oT h1 (oP h2 (oD h3 (oT h4 oZ))))
section
variable (h4:¬ (s0.size:Int)>70)
include h4
theorem k4k (h5:(s1.size:Int)>40):Lp E 1 G0 0 (Y3 i0 r0 r1 r2) .ret (z2o r0 r1 r2):=lpX (oT h1 (oP h2 (oD h3 (oU h4 (oT h5 oZ)))))
section
variable (h5:¬ (s1.size:Int)>40)
include h5
theorem k4l (h6:(s2.size:Int)>40):Lp E 1 G0 0 (Y3 i0 r0 r1 r2) .ret (z2o r0 r1 r2):=lpX (oT h1 (oP h2 (oD h3 (oU h4 (oU h5 (oT h6 oZ))))))
theorem k4m (h6:¬ (s2.size:Int)>40)(h7:(r3.length:Int)>8):Lp E 1 G0 0 (Y3 i0 r0 r1 r2) .ret (z2o r0 r1 r2):=lpX (oT h1 (oP h2 (oD h3 (oU h4 (oU h5 (oU h6 (oT h7 oZ)))))))
theorem k4n (h6:¬ (s2.size:Int)>40)(h7:¬ (r3.length:Int)>8)(h8:Lp E 2 G0 1 (z1q i0 0 r0 r1 r2 s0 i1 r3 s1 s2 i2 i3) .ret (y2c r0 r1 r2 s0 i1 r3 s1 s2 i2 i3)):Lp E 1 G0 0 (Y3 i0 r0 r1 r2) .ret (z2o r0 r1 r2):=lpX (oT h1 (oP h2 (oD h3 (oU h4 (oU h5 (oU h6 (oU h7 (oL h8 oZ))))))))
end
end
end
theorem k4o (h1:¬ i0<(r2.length:Int)):Lp E 1 G0 0 (Y3 i0 r0 r1 r2) (.exit 0) (x6s r0 r1 r2):=lpX (oU h1 oZ)
theorem q4h (h1:Lp E 1 G0 0 (Y3 0 r0 r1 r2) .ret (z2o r0 r1 r2)):Fn E G0 [.agg [.l r0,.l r1,.l r2]] (.b false):=fnM (oL h1 oZ)
section
variable (h1:Lp E 1 G0 0 (Y3 0 r0 r1 r2) (.exit 0) (x6s r0 r1 r2))
include h1
section
variable (h2:Fn E F4 [.agg [.l r0,.l r1]] (.b true))
include h2
theorem q4i (h3:(r2.length:Int)≤17):Fn E G0 [.agg [.l r0,.l r1,.l r2]] (.b true):=fnM (oL h1 (oF h2 (oT h3 oZ)))
theorem q4j (h3:¬ (r2.length:Int)≤17):Fn E G0 [.agg [.l r0,.l r1,.l r2]] (.b false):=fnM (oL h1 (oF h2 (oU h3 oZ)))
end
theorem q4k (h2:Fn E F4 [.agg [.l r0,.l r1]] (.b false)):Fn E G0 [.agg [.l r0,.l r1,.l r2]] (.b false):=fnM (oL h1 (oF h2 oZ))
end
def z6x (i0:Int) (r0 r1 r2 r3 r4:RW) (n0:Nat) (r5:RW):St:=stOf 34 [(1,.ptr 0 0),(2,.ptr 1 0),(3,.ptr 2 0),(4,.i i0)] [sC [.l r0,.l r1,.l r2],sC [.nils,.nils,.nils],sC [.l r3,.l r4,.vec 3 n0],sV C9 r5]
def y0k (r0 r1 r2 r3 r4:RW) (n1:Nat) (r6:RW):St:=stOf 34 [(2,.ptr 1 0),(3,.ptr 2 0)] [sC [.l r0,.l r1,.l r2],sC [.nils,.nils,.nils],sC [.l r3,.l r4,.vec 3 n1],sV C9 r6]
theorem k7h (h1:i0<(r2.length:Int))(h2:0≤i0)(h3:r2[(Int.toNat i0)]?=some [.s s0,.i i1,.l r7,.s s1,.s s2,.i i2,.i i3])(h4:∀ y∈r7,y.length=1)(h5:(0+r7.length)*16≤140737488355328∧0+r7.length≤140737488355328)(h6:(n0+1)*96≤140737488355328∧n0+1≤140737488355328)(e1:(([]:RW).take 0)++r7=r8)(e2:0+r7.length=n2)(e3:(r8.take n2)=r9)(e4:(r5.take n0)++[[.s s0,.i i1,.l r9,.s s1,.s s2,.i i2,.i i3]]=r10)(e5:n0+1=n3)(e6:IntKind.i64.wrap (i0+1)=i4)(ih:Lp E 3 V1 0 (z6x i4 r0 r1 r2 r3 r4 n3 r10) o t):Lp E 3 V1 0 (z6x i0 r0 r1 r2 r3 r4 n0 r5) o t:=by subst e1 e2 e3 e4 e5 e6;exact lpM (oT h1 (oP h2 (oD h3 (oP h4 (oP h5 (oP (show ∀ y∈([[.s s0,.i i1,.l (((([]:RW).take 0)++r7).take (0+r7.length)),.s s1,.s s2,.i i2,.i i3]]:RW),y.length=7 from by simp) (oP h6 oZ))))))) ih
theorem k1s (h1:¬ i0<(r2.length:Int)):Lp E 3 V1 0 (z6x i0 r0 r1 r2 r3 r4 n0 r5) (.exit 0) (y0k r0 r1 r2 r3 r4 n0 r5):=lpX (oU h1 oZ)
theorem q2e (h1:Fn E x1g [.agg [.l r0,.l r1]] (.agg [.l r3,.l r4]))(h2:Lp E 3 V1 0 (z6x 0 r0 r1 r2 r3 r4 0 []) (.exit 0) (y0k r0 r1 r2 r3 r4 n0 r5))(e1:(r5.take n0)=r6):Fn E V1 [.agg [.l r0,.l r1,.l r2]] (.agg [.l r3,.l r4,.l r6]):=by subst e1;exact fnM (oF h1 (oG (oM [(164,C9)] h2 oZ)))
end Gev
namespace Gev
open Go
theorem wi {n m:Int} (h:n=m∧-9223372036854775808≤m∧m≤9223372036854775807):IntKind.i64.wrap n=m:=by rw [IntKind.wrap_i64];omega
theorem wu {n m:Int} (h:n=m∧0≤m∧m≤18446744073709551615):IntKind.u64.wrap n=m:=by simp [IntKind.wrap,IntKind.bits,IntKind.signed];omega
theorem w32 {n m:Int} (h:n=m∧0≤m∧m≤4294967295):IntKind.u32.wrap n=m:=by rw [IntKind.wrap_u32];omega
theorem tdv {a b c:Int} (ha:0≤a) (h:a / b=c):Int.tdiv a b=c:=by rw [Int.tdiv_eq_ediv_of_nonneg ha];exact h
theorem tmd {a b c:Int} (ha:0≤a) (h:a % b=c):Int.tmod a b=c:=by rw [Int.tmod_eq_emod_of_nonneg ha];exact h
def Wr (ws:List Int):RW:=ws.map fun x=>[.u32 x]
theorem G5 (ws:List Int):(Wr ws).length=ws.length:=by simp [Wr]
theorem q5b {ws:List Int} {i:Nat} {x:Int} (h:ws[i]?=some x):(Wr ws)[i]?=some [.u32 x]:=by simp [Wr,h]
theorem z7o (ws:List Int) (n:Nat):(Wr ws).take n=Wr (ws.take n):=by simp [Wr,List.map_take]
theorem k2g (ws:List Int) (x:Int):Wr ws++[[.u32 x]]=Wr (ws++[x]):=by simp [Wr]
theorem y8x (ws:List Int) (n:Nat) (x:Int):(Wr ws).set n [.u32 x]=Wr (ws.set n x):=by simp [Wr,List.map_set]
theorem y5t (n:Nat) (x:Int):List.replicate n [DV.u32 x]=Wr (List.replicate n x):=by simp [Wr]
theorem Wr_one (ws:List Int):∀ x∈Wr ws,x.length=1:=by intro x hx;simp [Wr] at hx;obtain ⟨_,_,rfl⟩:=hx;rfl
theorem getD_some {ws:List Int} {i:Nat} (h:i<ws.length):ws[i]?=some (ws.getD i 0):=by
 rw [List.getD_eq_getElem?_getD,List.getElem?_eq_getElem h];rfl
theorem X2 {ws:List Int} {i:Nat} (h:i<ws.length):(Wr ws)[i]?=some [.u32 (ws.getD i 0)]:=q5b (getD_some h)
def B (l:List UInt8):BA:=⟨l.toArray⟩
theorem V3 (l:List UInt8):(B l).size=l.length:=by show l.toArray.size=_;simp
theorem y4y (l:List UInt8):(B l).data.toList=l:=by simp [B]
theorem B_of (a:BA):B a.data.toList=a:=by cases a;simp [B]
theorem y5p {l m:List UInt8} (h:B l=B m):l=m:=by have:=congrArg (fun a:BA=>a.data.toList) h;simpa [B] using this
theorem q9p:B []=⟨#[]⟩:=rfl
theorem j3c (l m:List UInt8):B l++B m=B (l++m):=by
 show ByteArray.append _ _=_
 apply bytes_ext
 rw [toList_eq,toList_eq]
 have:(B l++B m).data=(B l).data++(B m).data:=ByteArray.data_append
 rw [show (ByteArray.append (B l) (B m)).data=(B l++B m).data from rfl,this]
 simp [B]
theorem j8w (l:List UInt8) (i j:Nat):(B l).extract i j=B ((l.take j).drop i):=by
 apply bytes_ext
 rw [toList_eq,toList_eq]
 have:((B l).extract i j).data=(B l).data.extract i j:=ByteArray.data_extract
 rw [this]
 simp [B,List.drop_take]
end Gev
namespace Gev
open Go Gb
variable {E:Env}
def cmpI (a b:Int):Int:=if a<b then -1 else if a>b then 1 else 0
theorem v3g (a b:Int):Fn E z0j [.c (.u32 a),.c (.u32 b)] (.c (.i64 (cmpI a b))):=by
 have ha:=y6x (E:=E) (rfl:a=a)
 have hb:=y6x (E:=E) (rfl:b=b)
 unfold cmpI
 by_cases h:a<b
 · rw [if_pos h];exact x5j ha hb h
 · rw [if_neg h]
   by_cases k:a>b
   · rw [if_pos k];exact x5k ha hb h k
   · rw [if_neg k];exact x5l ha hb h k
theorem q0w (a b:Int):Fn E X7 [.c (.i64 a),.c (.i64 b)] (.c (.i64 (cmpI a b))):=by
 have ha:=x2w (E:=E) (rfl:a=a)
 have hb:=x2w (E:=E) (rfl:b=b)
 unfold cmpI
 by_cases h:a<b
 · rw [if_pos h];exact k2u ha hb h
 · rw [if_neg h]
   by_cases k:a>b
   · rw [if_pos k];exact k2v ha hb h k
   · rw [if_neg k];exact k2w ha hb h k
def y4w (ws:List Int):Nat→Nat
 | 0=>0
 | k+1=>if ws.getD k 0=0 then y4w ws k else k+1
theorem q4x (ws:List Int) (k:Nat):y4w ws k≤k:=by
 induction k with
 | zero=>exact Nat.le_refl 0
 | succ k ih=>unfold y4w;split <;> omega
theorem z8y {ws:List Int} (h:Wd ws) {k:Nat} (hk:k≤ws.length):ws.take (y4w ws k)=words (wv (ws.take k)).toNat:=by
 induction k with
 | zero=>simp [y4w,wv,z3t]
 | succ k ih =>
  unfold y4w
  have e:=y0g ws k (by omega)
  by_cases h0:ws.getD k 0=0
  · rw [if_pos h0,ih (by omega),e,h0];simp
  · rw [if_neg h0]
    refine q3d (h.take _) ?_
    rw [x7v ws k (by omega)]
    exact Tr.snoc h0
theorem q0i (ws:List Int):∀ k,k≤ws.length→k<9223372036854775807→Lp E 1 C1 0 (Y6 k (Wr ws)) (.exit 0) (z2y (Wr ws) (y4w ws k))
 | 0,_,_=>y9f (by omega)
 | k+1,hk,hb=>by
  unfold y4w
  by_cases h0:ws.getD k 0=0
  · rw [if_pos h0]
    exact x1x (i0:=(k:Int)) (i1:=ws.getD k 0) (n2:=k) (wi (by omega)) rfl (by omega) (by omega) (X2 (by omega)) h0 (by omega) (q0i ws k (by omega) (by omega))
  · rw [if_neg h0]
    exact y9e (i0:=(k:Int)) (i1:=ws.getD k 0) (wi (by omega)) (by omega) (by omega) (X2 (by omega)) h0
theorem x1c {ws:List Int} {k:Nat} (hk:k≤ws.length) (hb:k<9223372036854775807):Rn E C1 [.vec 0 k] [some (.vec B3 (Wr ws))] (.vec 0 (y4w ws k)) [some (.vec B3 (Wr ws))] :=
 k1k (q0i ws k hk hb)
theorem j6t (ws:List Int):∀ k,k≤ws.length→k<9223372036854775807→Lp E 0 C1 0 (X0 (Wr (ws.take k))) (.exit 0) (z1o (Wr (ws.take (y4w ws k))))
 | 0,_,_=>y8b (by rw [G5];simp)
 | k+1,hk,hb=>by
  have hl:(ws.take (k+1)).length=k+1:=by simp;omega
  have hg:(Wr (ws.take (k+1)))[Int.toNat (k:Int)]?=some [.u32 (ws.getD k 0)]:=by
   refine q5b ?_
   rw [Int.toNat_natCast,List.getElem?_take_of_lt (by omega)]
   exact getD_some (by omega)
  unfold y4w
  by_cases h0:ws.getD k 0=0
  · rw [if_pos h0]
    refine x0p (i0:=(k:Int)) (i1:=ws.getD k 0) (r2:=Wr (ws.take k)) (wi (by rw [G5,hl];omega)) ?_ (by rw [G5,hl];omega) (by omega) hg h0 ⟨by omega,by omega,by rw [G5,hl];omega,Wr_one _⟩ (j6t ws k (by omega) (by omega))
    rw [Int.toNat_natCast,List.drop_zero,z7o,List.take_take,Nat.min_eq_left (by omega)]
  · rw [if_neg h0]
    exact y8a (i0:=(k:Int)) (i1:=ws.getD k 0) (wi (by rw [G5,hl];omega)) (by rw [G5,hl];omega) (by omega) hg h0
theorem q9k {ws:List Int} (h:Wd ws) (hb:ws.length<9223372036854775807):Rn E C1 [.c (.list (Wr ws))] [] (.c (.list (Wr (words (wv ws).toNat)))) []:=by
 have:=j6t (E:=E) ws ws.length (Nat.le_refl _) hb
 rw [List.take_length,z8y h (Nat.le_refl _),List.take_length] at this
 exact x6i this
theorem q0l {n:Nat} (h:n<1000000000000000000):words n=[]∧n=0∨(words n=[(n:Int)]∧n≠0∧n<1000000000)∨(words n=[((n % 1000000000:Nat):Int),((n / 1000000000:Nat):Int)]∧1000000000≤n):=by
 by_cases h0:n=0
 · exact .inl ⟨by rw [h0,z3t],h0⟩
 · by_cases h1:n<1000000000
   · refine .inr (.inl ⟨?_,h0,h1⟩)
     rw [x1d h0,show n / 1000000000=0 by omega,z3t,show n % 1000000000=n by omega]
   · refine .inr (.inr ⟨?_,by omega⟩)
     rw [x1d h0,x1d (n:=n / 1000000000) (by omega),show n / 1000000000 / 1000000000=0 by omega,z3t,show n / 1000000000 % 1000000000=n / 1000000000 by omega]
theorem q9m {n:Nat}:(words n).length≤2↔n<1000000000000000000:=by
 constructor
 · intro h
   have h1:=y5o (F9 n)
   rw [F3] at h1
   have h2:=q2b h
   have:pw 2=1000000000000000000:=by decide
   omega
 · intro h
   exact y0l (by rw [show pw 2=1000000000000000000 by decide];omega)
theorem j9x {n:Nat} (h:n<1000000000000000000):Fn E z5f [.c (.u64 n)] (.c (.list (Wr (words n)))):=by
 have hw:Wd [((n % 1000000000:Nat):Int),((n / 1000000000:Nat):Int)]:=Wd.cons (by omega) (by omega) (Wd.cons (by omega) (by omega) Wd.nil)
 have ht:=x1c (E:=E) (ws:=[((n % 1000000000:Nat):Int),((n / 1000000000:Nat):Int)]) (k:=2) (Nat.le_refl _) (by decide)
 refine q1t (i1:=((n % 1000000000:Nat):Int)) (i2:=((n % 1000000000:Nat):Int)) (i3:=((n / 1000000000:Nat):Int)) (i4:=((n / 1000000000:Nat):Int)) (tmd (by omega) (by omega)) (w32 (by omega)) (wu ⟨tdv (by omega) (by omega),by omega,by omega⟩) (w32 (by omega)) ?_ ht
 show (Wr [((n % 1000000000:Nat):Int),((n / 1000000000:Nat):Int)]).take _=_
 rw [z7o,z8y hw (by simp)]
 have:(wv (List.take 2 [((n % 1000000000:Nat):Int),((n / 1000000000:Nat):Int)])).toNat=n:=by simp [wv];omega
 rw [this]
theorem z4m {n:Nat} (h:n<1000000000000000000):Fn E C8 [.c (.list (Wr (words n)))] (.tup [.c (.u64 n),.c (.bool true)]):=by
 rcases q0l h with ⟨e,rfl⟩ | ⟨e,h0,h1⟩ | ⟨e,h1⟩
 · rw [e];exact x9b rfl
 · rw [e]
   exact x9c (i0:=(n:Int)) (i1:=(n:Int)) (wu (by omega)) (by simp [Wr]) (by simp [Wr]) rfl
 · rw [e]
   exact x9d (i0:=((n % 1000000000:Nat):Int)) (i1:=((n % 1000000000:Nat):Int)) (i2:=((n / 1000000000:Nat):Int)) (i3:=((n / 1000000000:Nat):Int)) (i4:=1000000000*((n / 1000000000:Nat):Int)) (i5:=(n:Int))
    (wu (by omega)) (wu (by omega)) (wu (by omega)) (wu (by omega)) (by simp [Wr]) (by simp [Wr]) (by simp [Wr]) rfl rfl
theorem y2k {n:Nat} (h:¬ n<1000000000000000000):Fn E C8 [.c (.list (Wr (words n)))] (.tup [.c (.u64 0),.c (.bool false)]):=by
 have hl:¬ (words n).length≤2:=fun e=>h (q9m.1 e)
 exact x9e (by rw [G5];omega) (by rw [G5];omega) (by rw [G5];omega)
theorem k0f {xs ys:List Int} (hx:Wd xs) (hy:Wd ys) {i:Nat} (hi:i<xs.length) (hj:i<ys.length) (h:xs.getD i 0<ys.getD i 0) (he:xs.drop (i+1)=ys.drop (i+1)):wv xs<wv ys:=by
 rw [J5 xs i (by omega),J5 ys i (by omega),Y4 xs i hi,Y4 ys i hj,he]
 have h1:=y5o (hx.take i)
 have h2:=I3 (hy.take i)
 rw [List.length_take,Nat.min_eq_left (by omega)] at h1
 rw [Int.mul_add,Int.mul_add]
 have h3:pw i*(xs.getD i 0+1)≤pw i*ys.getD i 0:=Int.mul_le_mul_of_nonneg_left (by omega) (by have:=z8p i;omega)
 rw [Int.mul_add,Int.mul_one] at h3
 omega
theorem q2t (xs ys:List Int) (hx:Wd xs) (hy:Wd ys) (hl:xs.length=ys.length) (hb:xs.length<9223372036854775807):∀ k:Nat,k≤xs.length→xs.drop k=ys.drop k →
    (xs=ys∧Lp E 0 C6 0 (M1 (Wr xs) (Wr ys) ((k:Int)-1)) (.exit 0) z3n) ∨
    (xs≠ys∧Lp E 0 C6 0 (M1 (Wr xs) (Wr ys) ((k:Int)-1)) .ret (z3m (cmpI (wv xs) (wv ys))))
 | 0,_,h=>.inl ⟨by simpa using h,y5w (by omega)⟩
 | k+1,hk,h=>by
  have ek:((k+1:Nat):Int)-1=(k:Int):=by omega
  rw [ek]
  have g1:(Wr xs)[Int.toNat (k:Int)]?=some [.u32 (xs.getD k 0)]:=X2 (by omega)
  have g2:(Wr ys)[Int.toNat (k:Int)]?=some [.u32 (ys.getD k 0)]:=X2 (by omega)
  by_cases h0:xs.getD k 0=ys.getD k 0
  · have hd:xs.drop k=ys.drop k:=by rw [k6m xs k (by omega),k6m ys k (by omega),h0,h]
    rcases q2t xs ys hx hy hl hb k (by omega) hd with ⟨e,ih⟩ | ⟨e,ih⟩
    · exact .inl ⟨e,z9m (wi (by omega)) (by omega) (by omega) g1 g2 h0 ih⟩
    · exact .inr ⟨e,z9m (wi (by omega)) (by omega) (by omega) g1 g2 h0 ih⟩
  · refine .inr ⟨fun e=>h0 (by rw [e]),?_⟩
    have hc:cmpI (wv xs) (wv ys)=cmpI (xs.getD k 0) (ys.getD k 0):=by
     rcases Int.lt_or_gt_of_ne h0 with c | c
     · have:=k0f hx hy (by omega) (by omega) c h
       unfold cmpI;rw [if_pos this,if_pos c]
     · have:=k0f hy hx (by omega) (by omega) c h.symm
       unfold cmpI;rw [if_neg (by omega),if_pos this,if_neg (by omega),if_pos c]
    rw [hc]
    exact y5v (by omega) (by omega) g1 g2 h0 (v3g _ _)
theorem q0u {a b:Int} (h:a=b):cmpI a b=0:=by unfold cmpI;rw [if_neg (by omega),if_neg (by omega)]
theorem y6y {m n:Nat} (hm:(words m).length<9223372036854775807):Fn E C6 [.c (.list (Wr (words m))),.c (.list (Wr (words n)))] (.c (.i64 (cmpI m n))):=by
 by_cases hl:(words m).length=(words n).length
 · rcases q2t (E:=E) (words m) (words n) (F9 m) (F9 n) hl hm (words m).length (Nat.le_refl _) (by rw [List.drop_length,hl,List.drop_length]) with ⟨e,h⟩ | ⟨e,h⟩
   · have:=q9l e
     subst this
     rw [q0u rfl]
     exact x3w (wi (by rw [G5];omega)) (by rw [G5]) h
   · rw [F3,F3] at h
     exact x3v (wi (by rw [G5];omega)) (by rw [G5,G5];omega) h
 · have hc:cmpI m n=cmpI ((Wr (words m)).length:Int) ((Wr (words n)).length:Int):=by
    rw [G5,G5]
    rcases Nat.lt_or_gt_of_ne hl with c | c
    · have:m<n:=by
       rcases Nat.lt_or_ge m n with h | h
       · exact h
       · have:=(z4o n).length_le (F9 n) (F9 m) (by rw [F3,F3];omega)
         omega
      unfold cmpI;rw [if_pos (by omega),if_pos (by omega)]
    · have:n<m:=by
       rcases Nat.lt_or_ge n m with h | h
       · exact h
       · have:=(z4o m).length_le (F9 m) (F9 n) (by rw [F3,F3];omega)
         omega
      unfold cmpI;rw [if_neg (by omega),if_pos (by omega),if_neg (by omega),if_pos (by omega)]
   rw [hc]
   exact x3u (by rw [G5,G5];omega) (q0w _ _)
theorem drop_nil {xs:List Int} {i:Nat} (h:xs.length≤i):xs.drop i=[]:=List.drop_eq_nil_of_le h
theorem k3h {xs:List Int} {i:Nat} (h:xs.length≤i):xs.getD i 0=0:=by rw [List.getD_eq_getElem?_getD,List.getElem?_eq_none h];rfl
theorem k6b (xs:List Int) (i:Nat):wv (xs.drop i)=xs.getD i 0+1000000000*wv (xs.drop (i+1)):=by
 rcases Nat.lt_or_ge i xs.length with h | h
 · exact Y4 xs i h
 · rw [drop_nil h,drop_nil (by omega),k3h h];rfl
theorem v4o (S:Int):(if Int.tmod S 1000000000<0 then Int.tmod S 1000000000+1000000000 else Int.tmod S 1000000000)=S % 1000000000:=by
 rw [Int.tmod_eq_emod]
 split <;> split <;> omega
theorem q3n {xs ys:List Int} {sg:Int} (hsg:sg=1∨sg=-1) (hx:Wd xs) (hy:Wd ys) {N:Int} (hN:N<4611686018427387904) {i:Nat} {c:Int} (hc:-1≤c∧c≤1) {zs:List Int} (hz:zs.length=i) (hi:(i:Int)<N) (hM:i+1≤35184372088832) {o:Out} {st':St}
    (ih:Lp E 1 B4 0 (B9 (Wr xs) (Wr ys) sg (i+1) ((c+xs.getD i 0+sg*ys.getD i 0) / 1000000000) N ((i+1:Nat):Int) (Wr (zs++[(c+xs.getD i 0+sg*ys.getD i 0) % 1000000000]))) o st') :
    Lp E 1 B4 0 (B9 (Wr xs) (Wr ys) sg i c N i (Wr zs)) o st':=by
 have ha:=hx.getD i
 have hb:=hy.getD i
 obtain ⟨a,ea⟩:∃ a,a=xs.getD i 0:=⟨_,rfl⟩
 obtain ⟨b,eb⟩:∃ b,b=ys.getD i 0:=⟨_,rfl⟩
 obtain ⟨p,ep⟩:∃ p,p=sg*b:=⟨_,rfl⟩
 have hp:-1000000000<p∧p<1000000000:=by rcases hsg with rfl | rfl <;> omega
 rw [← ea,← eb] at ih
 rw [← ea] at ha
 rw [← eb] at hb
 rw [← ep] at ih
 obtain ⟨S,eS⟩:∃ S,S=c+a+p:=⟨_,rfl⟩
 rw [← eS] at ih
 have gx:i<xs.length→(Wr xs)[Int.toNat (i:Int)]?=some [.u32 a]:=fun h=>by rw [ea];exact X2 h
 have gy:i<ys.length→(Wr ys)[Int.toNat (i:Int)]?=some [.u32 b]:=fun h=>by rw [eb];exact X2 h
 have hS:-2000000000<S∧S<3000000000:=by omega
 have hlen:(i+1)*4≤140737488355328∧i+1≤140737488355328:=by omega
 have hap:∀ w,(Wr zs).take i++[[DV.u32 w]]=Wr (zs++[w]):=fun w=>by rw [z7o,← hz,List.take_length,k2g]
 have ht:=v4o S
 have hq:Int.tmod S 1000000000<0→Int.tdiv S 1000000000-1=S / 1000000000:=fun h=>by
  have:=Int.tmod_add_mul_tdiv S 1000000000
  have:=Int.emod_add_mul_ediv S 1000000000
  rw [if_pos h] at ht;omega
 have hq':¬ Int.tmod S 1000000000<0→Int.tdiv S 1000000000=S / 1000000000:=fun h=>by
  have:=Int.tmod_add_mul_tdiv S 1000000000
  have:=Int.emod_add_mul_ediv S 1000000000
  rw [if_neg h] at ht;omega
 have hr:0≤S % 1000000000∧S % 1000000000<1000000000:=by omega
 have hd:-4≤S / 1000000000∧S / 1000000000≤4:=by omega
 by_cases c1:i<xs.length
 · by_cases c2:i<ys.length
   · by_cases c3:Int.tmod S 1000000000<0
     · rw [if_pos c3] at ht
       exact x0c (i5:=a) (i6:=a) (i7:=c+a) (i8:=b) (i9:=b) (i10:=p) (i11:=S) (i13:=Int.tdiv S 1000000000) (wi (by omega)) (wi (by omega)) (wi (by omega)) (wi (by omega)) (wi (by omega)) rfl (wi (by have:=hq c3;omega)) (wi ⟨ht,by omega⟩) (wi ⟨hq c3,by omega⟩) (w32 (by omega)) (hap _) rfl (wi (by omega))
        (by omega) (by rw [G5];omega) (by omega) (gx c1) (by rw [G5];omega) (gy c2) c3 hlen ih
     · rw [if_neg c3] at ht
       exact x0d (i5:=a) (i6:=a) (i7:=c+a) (i8:=b) (i9:=b) (i10:=p) (i11:=S) (i12:=S % 1000000000) (wi (by omega)) (wi (by omega)) (wi (by omega)) (wi (by omega)) (wi (by omega)) ht (wi ⟨hq' c3,by omega⟩) (w32 (by omega)) (hap _) rfl (wi (by omega))
        (by omega) (by rw [G5];omega) (by omega) (gx c1) (by rw [G5];omega) (gy c2) (by omega) hlen ih
   · have b0:b=0:=by rw [eb];exact k3h (by omega)
     have p0:p=0:=by rw [ep,b0];exact Int.mul_zero _
     by_cases c3:Int.tmod S 1000000000<0
     · rw [if_pos c3] at ht
       exact x0e (i5:=a) (i6:=a) (i7:=S) (i9:=Int.tdiv S 1000000000) (wi (by omega)) (wi (by omega)) rfl (wi (by have:=hq c3;omega)) (wi ⟨ht,by omega⟩) (wi ⟨hq c3,by omega⟩) (w32 (by omega)) (hap _) rfl (wi (by omega))
        (by omega) (by rw [G5];omega) (by omega) (gx c1) (by rw [G5];omega) c3 hlen ih
     · rw [if_neg c3] at ht
       exact x0f (i5:=a) (i6:=a) (i7:=S) (i8:=S % 1000000000) (wi (by omega)) (wi (by omega)) ht (wi ⟨hq' c3,by omega⟩) (w32 (by omega)) (hap _) rfl (wi (by omega))
        (by omega) (by rw [G5];omega) (by omega) (gx c1) (by rw [G5];omega) (by omega) hlen ih
 · have a0:a=0:=by rw [ea];exact k3h (by omega)
   by_cases c2:i<ys.length
   · by_cases c3:Int.tmod S 1000000000<0
     · rw [if_pos c3] at ht
       exact x0g (i5:=b) (i6:=b) (i7:=p) (i8:=S) (i10:=Int.tdiv S 1000000000) (wi (by omega)) (wi (by omega)) (wi (by omega)) rfl (wi (by have:=hq c3;omega)) (wi ⟨ht,by omega⟩) (wi ⟨hq c3,by omega⟩) (w32 (by omega)) (hap _) rfl (wi (by omega))
        (by omega) (by rw [G5];omega) (by rw [G5];omega) (by omega) (gy c2) c3 hlen ih
     · rw [if_neg c3] at ht
       exact x0h (i5:=b) (i6:=b) (i7:=p) (i8:=S) (i9:=S % 1000000000) (wi (by omega)) (wi (by omega)) (wi (by omega)) ht (wi ⟨hq' c3,by omega⟩) (w32 (by omega)) (hap _) rfl (wi (by omega))
        (by omega) (by rw [G5];omega) (by rw [G5];omega) (by omega) (gy c2) (by omega) hlen ih
   · have b0:b=0:=by rw [eb];exact k3h (by omega)
     have p0:p=0:=by rw [ep,b0];exact Int.mul_zero _
     have e0:S=c:=by omega
     subst e0
     by_cases c3:Int.tmod S 1000000000<0
     · rw [if_pos c3] at ht
       exact x0i (i6:=Int.tdiv S 1000000000) rfl (wi (by have:=hq c3;omega)) (wi ⟨ht,by omega⟩) (wi ⟨hq c3,by omega⟩) (w32 (by omega)) (hap _) rfl (wi (by omega))
        (by omega) (by rw [G5];omega) (by rw [G5];omega) c3 hlen ih
     · rw [if_neg c3] at ht
       exact x0j (i5:=S % 1000000000) ht (wi ⟨hq' c3,by omega⟩) (w32 (by omega)) (hap _) rfl (wi (by omega))
        (by omega) (by rw [G5];omega) (by rw [G5];omega) (by omega) hlen ih
theorem j5q {xs ys:List Int} {sg:Int} (hsg:sg=1∨sg=-1) (hx:Wd xs) (hy:Wd ys) {N:Nat} (hN:N<35184372088832):∀ d i c zs,i+d=N→-1≤c∧c≤1→zs.length=i→Wd zs →
    ∃ c' zs',Lp E 1 B4 0 (B9 (Wr xs) (Wr ys) sg i c N i (Wr zs)) (.exit 0) (z1n N c' (Wr zs'))∧zs'.length=N∧Wd zs'∧(-1≤c'∧c'≤1) ∧
     wv zs'+pw N*(c'+wv (xs.drop N)+sg*wv (ys.drop N))=wv zs+pw i*(c+wv (xs.drop i)+sg*wv (ys.drop i))
 | 0,i,c,zs,hi,hc,hz,hw=>by
  have:i=N:=by omega
  subst this
  exact ⟨c,zs,y7q (by omega),hz,hw,hc,rfl⟩
 | d+1,i,c,zs,hi,hc,hz,hw=>by
  have ha:=hx.getD i
  have hb:=hy.getD i
  obtain ⟨p,ep⟩:∃ p,p=sg*ys.getD i 0:=⟨_,rfl⟩
  have hp:-1000000000<p∧p<1000000000:=by rcases hsg with rfl | rfl <;> omega
  obtain ⟨S,eS⟩:∃ S,S=c+xs.getD i 0+sg*ys.getD i 0:=⟨_,rfl⟩
  rw [← ep] at eS
  have hr:0≤S % 1000000000∧S % 1000000000<1000000000:=by omega
  obtain ⟨c',zs',h1,h2,h3,h4,h5⟩:=j5q hsg hx hy hN d (i+1) (S / 1000000000) (zs++[S % 1000000000]) (by omega) (by omega) (by simp [hz]) (hw.append (Wd.cons hr.1 hr.2 Wd.nil))
  refine ⟨c',zs',q3n hsg hx hy (by omega) hc hz (by omega) (by omega) (by rw [← ep,← eS];exact h1),h2,h3,h4,?_⟩
  rw [h5,y4x,hz,k6b xs i,k6b ys i,y6d]
  have e1:S % 1000000000=S-1000000000*(S / 1000000000):=by omega
  rw [e1,eS,ep]
  grind
theorem q3m {xs ys:List Int} {sg:Int} (hsg:sg=1∨sg=-1) (hx:Wd xs) (hy:Wd ys)(h1:xs.length<35184372088000)(h2:ys.length<35184372088000) :
    ∃ c zs,Fn E B4 [.c (.list (Wr xs)),.c (.list (Wr ys)),.c (.i64 sg)] (.c (.list (Wr (if c>0 then zs++[c] else zs))))∧zs.length=max xs.length ys.length∧Wd zs∧(-1≤c∧c≤1)∧wv zs+pw (max xs.length ys.length)*c=wv xs+sg*wv ys:=by
 obtain ⟨c,zs,k1,k2,k3,k4,k5⟩:=j5q (E:=E) hsg hx hy (N:=max xs.length ys.length) (by omega) (max xs.length ys.length) 0 0 [] (by omega) (by omega) rfl Wd.nil
 rw [drop_nil (xs:=xs) (by omega),drop_nil (xs:=ys) (by omega),List.drop_zero,List.drop_zero,q2c] at k5
 have e5:wv zs+pw (max xs.length ys.length)*c=wv xs+sg*wv ys:=by
  rw [show wv []=0 from rfl] at k5
  have:c+0+sg*0=c:=by omega
  rw [this] at k5
  omega
 have em:(if ((Wr ys).length:Int)>((Wr xs).length:Int) then ((Wr ys).length:Int) else ((Wr xs).length:Int))=((max xs.length ys.length:Nat):Int):=by
  rw [G5,G5];split <;> omega
 have hcap:0≤(0:Int)∧(0:Int)≤(xs.length:Int)+1∧(Int.toNat ((xs.length:Int)+1))*4≤140737488355328∧(Int.toNat ((xs.length:Int)+1))≤140737488355328:=by omega
 have tk:(Wr zs).take (max xs.length ys.length)=Wr zs:=by rw [← k2,z7o,List.take_length]
 refine ⟨c,zs,?_,k2,k3,k4,e5⟩
 by_cases hc:c>0
 · rw [if_pos hc]
   refine x8y (i1:=(xs.length:Int)+1) (i4:=c) (r3:=Wr (zs++[c])) (wi (by rw [G5];omega)) em (w32 (by omega)) (by rw [tk,k2g]) rfl ?_ hcap k1 hc (by omega)
   rw [z7o,List.take_of_length_le (by simp;omega)]
 · rw [if_neg hc]
   exact x8z (i1:=(xs.length:Int)+1) (wi (by rw [G5];omega)) em tk hcap k1 hc
theorem v4c {m n:Nat} (h1:(words m).length<35184372088000)(h2:(words n).length<35184372088000):Fn E z2i [.c (.list (Wr (words m))),.c (.list (Wr (words n)))] (.c (.list (Wr (words (m+n))))):=by
 obtain ⟨c,zs,k1,k2,k3,k4,k5⟩:=q3m (E:=E) (.inl rfl) (F9 m) (F9 n) h1 h2
 refine k1j ?_
 have hv:=F3 m
 have hv':=F3 n
 rw [hv,hv',Int.one_mul] at k5
 have hz:=y5o k3
 have hz0:=I3 k3
 have hpos:=z8p (max (words m).length (words n).length)
 rw [k2] at hz
 have hc0:0≤c:=by
  rcases Int.lt_or_le c 0 with h | h
  · have:c=-1:=by omega
    subst this
    rw [Int.mul_neg,Int.mul_one] at k5
    omega
  · exact h
 have e:(if c>0 then zs++[c] else zs)=words (m+n):=by
  have hval:wv (if c>0 then zs++[c] else zs)=((m+n:Nat):Int):=by
   split
   · rw [y4x,k2,k5];omega
   · have:c=0:=by omega
     subst this
     rw [Int.mul_zero] at k5;omega
  have hwd:Wd (if c>0 then zs++[c] else zs):=by
   split
   · exact k3.append (Wd.cons hc0 (by omega) Wd.nil)
   · exact k3
  rw [← show (((m+n:Nat):Int)).toNat=m+n from rfl,← hval]
  refine q3d hwd ?_
  split
  · exact Tr.snoc (by omega)
  · rename_i hn
    have hc:c=0:=by omega
    subst hc
    rw [Int.mul_zero] at k5
    intro hl
    by_cases hzn:zs=[]
    · rw [hzn] at hl;cases hl
    · obtain ⟨ys,y,rfl⟩:∃ ys y,zs=ys++[y]:=by
       rcases List.eq_nil_or_concat zs with h | ⟨ys,y,h⟩
       · exact absurd h hzn
       · exact ⟨ys,y,by rw [h,List.concat_eq_append]⟩
      have hy:y=0:=by simpa using hl
      subst hy
      rw [y4x,Int.mul_zero] at k5
      have h6:=y5o k3.left
      simp only [List.length_append,List.length_singleton] at k2
      have h7:wv ys+0=(m:Int)+n:=by omega
      rcases Nat.le_total (words m).length (words n).length with hmn | hmn
      · have hne:words n≠[]:=by intro h0;rw [h0] at k2 hmn;simp at hmn;rw [hmn] at k2;simp at k2
        have h8:=(z4o n).val_ge (F9 n) hne
        rw [hv',show (words n).length-1=ys.length by omega] at h8
        omega
      · have hne:words m≠[]:=by intro h0;rw [h0] at k2 hmn;simp at hmn;rw [hmn] at k2;simp at k2
        have h8:=(z4o m).val_ge (F9 m) hne
        rw [hv,show (words m).length-1=ys.length by omega] at h8
        omega
 rw [e] at k1
 exact k1
theorem v1b {m n:Nat} (h1:(words m).length<35184372088000) (hmn:n≤m):Fn E z1e [.c (.list (Wr (words m))),.c (.list (Wr (words n)))] (.c (.list (Wr (words (m-n))))):=by
 have hle:(words n).length≤(words m).length:=(z4o n).length_le (F9 n) (F9 m) (by rw [F3,F3];omega)
 obtain ⟨c,zs,k1,k2,k3,k4,k5⟩:=q3m (E:=E) (.inr rfl) (F9 m) (F9 n) h1 (by omega)
 rw [F3,F3] at k5
 have hz:=y5o k3
 have hz0:=I3 k3
 have hpos:=z8p (max (words m).length (words n).length)
 rw [k2] at hz
 have hm:=y5o (F9 m)
 rw [F3] at hm
 rw [Nat.max_eq_left hle] at k5 k2 hz hpos
 have hc:c=0:=by
  rcases Int.lt_trichotomy c 0 with h | h | h
  · have:c=-1:=by omega
    subst this
    rw [Int.mul_neg,Int.mul_one] at k5
    omega
  · exact h
  · have:c=1:=by omega
    subst this
    rw [Int.mul_one] at k5
    omega
 subst hc
 rw [if_neg (by decide)] at k1
 refine x9a k1 ?_
 have:=q9k (E:=E) k3 (by omega)
 rw [show (wv zs).toNat=m-n by omega] at this
 exact this
theorem x9z {xs:List Int} {i:Nat} (h:i<xs.length) (x:Int):(xs.set i x).getD i 0=x:=by
 rw [List.getD_eq_getElem?_getD,List.getElem?_set_self h];rfl
theorem z1z {xs:List Int} {i j:Nat} (h:i≠j) (x:Int):(xs.set i x).getD j 0=xs.getD j 0:=by
 rw [List.getD_eq_getElem?_getD,List.getD_eq_getElem?_getD,List.getElem?_set_ne h]
theorem j9w {x y:Int} (hx:0≤x∧x<1000000000) (hy:0≤y∧y<1000000000):0≤x*y∧x*y≤999999998000000001:=by
 constructor
 · exact Int.mul_nonneg hx.1 hy.1
 · have:=Int.mul_le_mul (show x≤999999999 by omega) (show y≤999999999 by omega) hy.1 (by decide)
   omega
theorem Wd.at {xs:List Int} (h:Wd xs) {i:Nat}:0≤xs.getD i 0∧xs.getD i 0<1000000000:=h.getD i
theorem alg1 {O O0 P K c T x y w S q r p:Int} (hv:O+P*K*c=O0+P*(x*T)) (ep:p=x*y) (hS:S=c+(p+w)) (hr:r+1000000000*q=S):O+P*K*(r-w)+1000000000*(P*K)*q=O0+P*(x*(T+K*y)):=by
 have e:r=c+x*y+w-1000000000*q:=by omega
 subst e
 grind
theorem alg2 {A x w S q r V:Int} (hS:S=r*1000000000+x) (hr:A+w*q=S):(q+1000000000*V)*w+A=x+1000000000*(V*w+r):=by
 have e:A=r*1000000000+x-w*q:=by omega
 subst e
 grind
theorem k9q {xs ys:List Int} (hy:Wd ys) {N i:Nat} {x:Int} (hx:0≤x∧x<1000000000) (hN:N<4611686018427387904) (hiN:i+ys.length≤N) {out0:List Int} :
    ∀ d k c out,k+d=ys.length→0≤c∧c<1000000000→Wd out→out.length=N→(∀ j,i+k≤j→out.getD j 0=out0.getD j 0) →
    wv out+pw (i+k)*c=wv out0+pw i*(x*wv (ys.take k)) →
    ∃ c' out',Lp E 1 D0 1 (z0p (Wr ys) N i x c (Wr xs) xs.length i (Wr ys) ys.length k (Wr out)) (.exit 2) (z5r (Wr ys) N i (Wr xs) xs.length i c' (Wr out')) ∧
     (0≤c'∧c'<1000000000)∧Wd out'∧out'.length=N∧(∀ j,i+ys.length≤j→out'.getD j 0=out0.getD j 0)∧wv out'+pw (i+ys.length)*c'=wv out0+pw i*(x*wv ys)
 | 0,k,c,out,hk,hc,hw,hl,hj,hv=>by
  have:k=ys.length:=by omega
  subst this
  rw [List.take_length] at hv
  exact ⟨c,out,y7z (by omega),hc,hw,hl,hj,hv⟩
 | d+1,k,c,out,hk,hc,hw,hl,hj,hv=>by
  have hyk:=hy.getD k
  obtain ⟨y,ey⟩:∃ y,y=ys.getD k 0:=⟨_,rfl⟩
  rw [← ey] at hyk
  have ho:=hw.getD (i+k)
  obtain ⟨w,ew⟩:∃ w,w=out.getD (i+k) 0:=⟨_,rfl⟩
  rw [← ew] at ho
  have hxy:=j9w hx hyk
  obtain ⟨p,ep⟩:∃ p,p=x*y:=⟨_,rfl⟩
  rw [← ep] at hxy
  obtain ⟨S,eS⟩:∃ S,S=c+(p+w):=⟨_,rfl⟩
  have hS:0≤S∧S≤999999999999999999:=by omega
  have hik:i+k<out.length:=by omega
  obtain ⟨c',out',k1,k2,k3,k4,k5,k6⟩:=k9q hy hx hN hiN (out0:=out0) d (k+1) (S / 1000000000) (out.set (i+k) (S % 1000000000)) (by omega) (by omega) (hw.set _ (by omega) (by omega)) (by simpa using hl)
   (fun j h=>by rw [z1z (by omega)];exact hj j (by omega)) (by
    rw [x7x out (i+k) hik,← ew,y0g ys k (by omega),← ey,← Nat.add_assoc,y6d,k1n]
    rw [k1n] at hv
    exact alg1 hv ep eS (Int.emod_add_mul_ediv S 1000000000))
  refine ⟨c',out',?_,k2,k3,k4,k5,k6⟩
  refine x0o (i8:=y) (i9:=x) (i10:=y) (i11:=p) (i12:=((i+k:Nat):Int)) (i13:=w) (i14:=w) (i15:=p+w) (i16:=S) (i17:=S % 1000000000) (i18:=S % 1000000000) (r5:=Wr (out.set (i+k) (S % 1000000000))) (i19:=S / 1000000000) (i20:=((k+1:Nat):Int))
   (wu (by omega)) (wu (by omega)) (wu (by omega)) (wi (by omega)) (wu (by omega)) (wu (by omega)) (wu (by omega)) (tmd hS.1 rfl) (w32 (by omega)) ?_ (wu ⟨tdv hS.1 rfl,by omega,by omega⟩) (wi (by omega))
   (by omega) (by omega) (by rw [ey];exact X2 (by omega)) (by omega) (by rw [ew];exact X2 hik) k1
  rw [Int.toNat_natCast,y8x]
theorem k9r {xs ys:List Int} (hx:Wd xs) (hy:Wd ys) {N:Nat} (hN:N<4611686018427387904) (hl:N=xs.length+ys.length) :
    ∀ d i out,i+d=xs.length→Wd out→out.length=N→(∀ j,i+ys.length≤j→out.getD j 0=0)→wv out=wv (xs.take i)*wv ys →
    ∃ out',Lp E 1 D0 0 (z0o (Wr ys) N (Wr xs) xs.length i (Wr out)) (.exit 0) (z5q N (Wr out'))∧Wd out'∧out'.length=N∧wv out'=wv xs*wv ys
 | 0,i,out,hi,hw,ho,_,hv=>by
  have:i=xs.length:=by omega
  subst this
  rw [List.take_length] at hv
  exact ⟨out,y7y (by omega),hw,ho,hv⟩
 | d+1,i,out,hi,hw,ho,hj,hv=>by
  have hxi:=hx.getD i
  obtain ⟨x,ex⟩:∃ x,x=xs.getD i 0:=⟨_,rfl⟩
  rw [← ex] at hxi
  obtain ⟨c',out1,k1,k2,k3,k4,k5,k6⟩:=k9q (E:=E) (xs:=xs) hy hxi hN (i:=i) (by omega) (out0:=out) ys.length 0 0 out (by omega) (by omega) hw ho (fun _ _=>rfl) (by simp [wv])
  have hik:i+ys.length<out1.length:=by omega
  have h0:out1.getD (i+ys.length) 0=0:=by rw [k5 _ (Nat.le_refl _)];exact hj _ (Nat.le_refl _)
  obtain ⟨out',g1,g2,g3,g4⟩:=k9r hx hy hN hl d (i+1) (out1.set (i+ys.length) c') (by omega) (k3.set _ k2.1 k2.2) (by simp [k4])
   (fun j h=>by rw [z1z (by omega),k5 j (by omega)];exact hj j (by omega)) (by
    rw [x7x out1 _ hik,h0,y0g xs i (by omega),← ex,Int.sub_zero,k6,hv]
    grind)
  refine ⟨out',?_,g2,g3,g4⟩
  refine x0n (i2:=x) (i3:=c') (r4:=Wr out1) (i4:=((i+ys.length:Nat):Int)) (i5:=c') (i6:=0) (r5:=Wr (out1.set (i+ys.length) c')) (i7:=((i+1:Nat):Int))
   (wi (by rw [G5];omega)) (w32 (by omega)) (by rw [Int.toNat_natCast,y8x]) (wi (by omega)) (by omega) (by omega) (by rw [ex];exact X2 (by omega)) (by rw [G5];exact k1) (by omega) (by rw [← h0];exact X2 hik) g1
theorem q9i {a b:Int} {m n:Nat} (ha:a=m) (hb:b=n):(a*b).toNat=m*n:=by
 rw [ha,hb,← Int.natCast_mul];rfl
theorem j6s {m n:Nat} (hl:(words m).length+(words n).length<35184372088000):∃ k xs,Rn E D0 [.c (.list (Wr (words m))),.c (.list (Wr (words n)))] [] (.vec 0 k) [some (.vec B3 (Wr xs))]∧xs.take k=words (m*n)∧k≤xs.length∧xs.length=(words m).length+(words n).length:=by
 obtain ⟨out,k1,k2,k3,k4⟩:=k9r (E:=E) (F9 m) (F9 n) (N:=(words m).length+(words n).length) (by omega) rfl (words m).length 0 (List.replicate ((words m).length+(words n).length) 0) (by omega) (Wd.replicate _) (by simp)
  (fun j _=>by rw [List.getD_eq_getElem?_getD,List.getElem?_replicate];split <;> rfl) (by rw [j8v];simp [wv])
 have ht:=x1c (E:=E) (ws:=out) (k:=(words m).length+(words n).length) (by omega) (by omega)
 have hw:=z8y k2 (k:=(words m).length+(words n).length) (by omega)
 rw [← k3,List.take_length,k4,q9i (F3 m) (F3 n),k3] at hw
 refine ⟨y4w out ((words m).length+(words n).length),out,?_,hw,by have:=q4x out ((words m).length+(words n).length);omega,k3⟩
 refine x9f (i0:=(((words m).length+(words n).length:Nat):Int)) (n0:=(words m).length+(words n).length) (r2:=Wr (List.replicate ((words m).length+(words n).length) 0)) (wi (by rw [G5,G5];omega)) (Int.toNat_natCast _) (y5t _ _) (by omega) ?_ ht
 rw [G5];exact k1
theorem v2u {m n:Nat} (hl:(words m).length+(words n).length<35184372088000):Fn E D0 [.c (.list (Wr (words m))),.c (.list (Wr (words n)))] (.c (.list (Wr (words (m*n))))):=by
 obtain ⟨k,xs,h,hk,_,_⟩:=j6s (E:=E) hl
 have:=h.toFn hTT E.hs hmm
 rwa [z7o,hk] at this
theorem q6t {xs:List Int} (hx:Wd xs) {N:Nat} (hN:xs.length=N) (hb:N<4611686018427387904) {w:Int} (hw:0<w∧w<1000000000):∀ k rest out,k≤N→0≤rest∧rest<w→Wd out→out.length=N →
    wv (out.drop k)*w+rest=wv (xs.drop k) →
    ∃ rest' out',Lp E 1 P9 0 (z3i (Wr xs) w N rest ((k:Int)-1) (Wr out)) (.exit 0) (z9s N rest' (Wr out'))∧(0≤rest'∧rest'<w)∧Wd out'∧out'.length=N∧wv out'*w+rest'=wv xs
 | 0,rest,out,_,hr,ho,hl,hv=>by
  rw [List.drop_zero,List.drop_zero] at hv
  exact ⟨rest,out,x1w (by omega),hr,ho,hl,hv⟩
 | k+1,rest,out,hk,hr,ho,hl,hv=>by
  have ek:((k+1:Nat):Int)-1=(k:Int):=by omega
  rw [ek]
  have hxk:=hx.getD k
  obtain ⟨x,ex⟩:∃ x,x=xs.getD k 0:=⟨_,rfl⟩
  rw [← ex] at hxk
  obtain ⟨S,eS⟩:∃ S,S=rest*1000000000+x:=⟨_,rfl⟩
  have hS:0≤S∧S<w*1000000000:=by omega
  have hq0:0≤S / w:=Int.ediv_nonneg hS.1 (by omega)
  have hq:S / w<1000000000:=Int.ediv_lt_of_lt_mul (by omega) (by rw [Int.mul_comm];exact hS.2)
  have hm0:=Int.emod_nonneg S (show w≠0 by omega)
  have hm1:=Int.emod_lt_of_pos S (show 0<w by omega)
  have hdm:=Int.emod_add_mul_ediv S w
  have hkl:k<out.length:=by omega
  have hd:(out.set k (S / w)).drop (k+1)=out.drop (k+1):=List.drop_set_of_lt (Nat.lt_succ_self k)
  obtain ⟨rest',out',k1,k2,k3,k4,k5⟩:=q6t hx hN hb hw k (S % w) (out.set k (S / w)) (by omega) ⟨hm0,hm1⟩ (ho.set _ hq0 hq) (by simp [hl]) (by
   rw [k6b _ k,k6b xs k,← ex,x9z hkl,hd,← hv]
   exact alg2 eS hdm)
  refine ⟨rest',out',?_,k2,k3,k4,k5⟩
  exact x6e (i4:=rest*1000000000) (i5:=x) (i6:=x) (i7:=S) (i8:=S / w) (i9:=S / w) (i10:=out.getD k 0) (r3:=Wr (out.set k (S / w))) (i11:=S % w) (i12:=(k:Int)-1)
   (wu (by omega)) (wu (by omega)) (wu (by omega)) (wu ⟨tdv hS.1 rfl,hq0,by omega⟩) (w32 (by omega)) (by rw [Int.toNat_natCast,y8x]) (tmd hS.1 rfl) (wi (by omega))
   (by omega) (by omega) (by rw [ex];exact X2 (by omega)) (by omega) (by omega) (X2 hkl) k1
theorem by_ok {n w:Nat} (hw:0<w∧w<1000000000) (hl:(words n).length<35184372088000):Fn E P9 [.c (.list (Wr (words n))),.c (.u64 w)] (.tup [.c (.list (Wr (words (n / w)))),.c (.list (Wr (words (n % w))))]):=by
 obtain ⟨rest,out,k1,k2,k3,k4,k5⟩:=q6t (E:=E) (F9 n) (N:=(words n).length) rfl (by omega) (w:=w) (by omega) (words n).length 0 (List.replicate (words n).length 0) (Nat.le_refl _) (by omega) (Wd.replicate _) (by simp)
  (by rw [drop_nil (by simp),drop_nil (Nat.le_refl _)];simp [wv])
 rw [F3] at k5
 have h0:=I3 k3
 obtain ⟨q,hq⟩:∃ q:Nat,wv out=q:=⟨(wv out).toNat,by omega⟩
 obtain ⟨r,hr⟩:∃ r:Nat,rest=r:=⟨rest.toNat,by omega⟩
 rw [hq,hr] at k5
 subst hr
 have hn:q*w+r=n:=by
  have:((q*w+r:Nat):Int)=n:=by rw [Int.natCast_add,Int.natCast_mul];exact k5
  omega
 have hrw:r<w:=by omega
 have e1:n / w=q:=by rw [← hn,Nat.mul_comm,Nat.mul_add_div (by omega),Nat.div_eq_of_lt hrw,Nat.add_zero]
 have e2:n % w=r:=by rw [← hn,Nat.mul_comm,Nat.mul_add_mod,Nat.mod_eq_of_lt hrw]
 rw [e1,e2]
 have ht:=x1c (E:=E) (ws:=out) (k:=(words n).length) (by omega) (by omega)
 have hw':=z8y k3 (k:=(words n).length) (by omega)
 rw [← k4,List.take_length,hq,k4] at hw'
 refine k7a (n0:=(words n).length) (r1:=Wr (List.replicate (words n).length 0)) (i1:=((words n).length:Int)-1) (i2:=(r:Int)) (r2:=Wr out) (r3:=Wr (words r)) (by rw [G5];rfl) (y5t _ _) (wi (by rw [G5];omega)) ?_ ?_ k1 ht (j9x (by omega))
 · rw [z7o];exact congrArg Wr hw'
 · rw [G5];omega
structure Dv (u v:List Int) (lu k j:Nat):Prop where
 hu:Wd u
 hv:Wd v
 elu:u.length=lu
 elv:v.length=k
 two:2≤k
 norm:1000000000≤2*v.getD (k-1) 0
 jk:j+k<lu
 small:lu<35184372088832
 low:wv (u.drop (j+1))<wv v
theorem Dv.vk {u v:List Int} {lu k j:Nat} (h:Dv u v lu k j):wv v<pw k:=by have:=y5o h.hv;rwa [h.elv] at this
theorem Dv.zero {u v:List Int} {lu k j:Nat} (h:Dv u v lu k j):wv (u.drop (j+k+1))=0:=q5c h.hu (Int.lt_trans h.low h.vk)
theorem Dv.vpos {u v:List Int} {lu k j:Nat} (h:Dv u v lu k j):0<wv v:=by
 have e:=k7m h.elv h.two
 have h1:=I3 (h.hv.take (k-2))
 have h2:=h.hv.getD (k-2)
 have h3:=h.norm
 have:0<(v.getD (k-1) 0*1000000000+v.getD (k-2) 0)*pw (k-2):=Int.mul_pos (by omega) (z8p _)
 omega
theorem q3p {m w1 w3 w4:RW} {lq lu k j:Nat} {u v:List Int} (D:Dv u v lu k j) (hw3:∀ i:Nat,i<k→w3[i]?=some [.u32 (v.getD i 0)]) :
    ∀ (t:Nat) (g rest:Int),0≤g→g<t→g≤1000000001→0≤rest∧rest<1000000000→g*v.getD (k-1) 0+rest=u.getD (j+k) 0*1000000000+u.getD (j+k-1) 0→wv (u.drop j)<(g+1)*wv v→(g=1000000001→rest+v.getD (k-1) 0<1000000000) →
    ∃ g',Lp E 5 A6 1 (G2 m lu k k lq j g rest w1 (Wr u) w3 w4) (.exit 3) (M2 m lu k k lq j w1 (Wr u) w3 w4 g')∧(0≤g'∧g'<1000000000)∧wv (u.drop j)<(g'+1)*wv v∧(g'-1)*wv v≤wv (u.drop j)
 | 0,g,rest,h0,ht,_,_,_,_,_=>by omega
 | t+1,g,rest,h0,ht,hg,hr,he,hX,hbig=>by
  have h2:=D.two
  have hjk:=D.jk
  have hsm:=D.small
  have hlu:=D.elu
  have a1:=D.hv.getD (k-1)
  have a2:=D.hv.getD (k-2)
  have b2:=D.hu.getD (j+k-2)
  have b1:=D.hu.getD (j+k-1)
  have b0:=D.hu.getD (j+k)
  have hnorm:=D.norm
  have eV:=k7m D.elv D.two
  have eX:=k9o (u:=u) (j:=j) (k:=k) D.two (by omega) D.zero
  have vl0:=I3 (D.hv.take (k-2))
  have vl1:=D.hv.val_take_lt (k-2) (by have:=D.elv;omega)
  have xl0:=I3 ((D.hu.drop j).take (k-2))
  have xl1:=(D.hu.drop j).val_take_lt (k-2) (by simp;omega)
  have hP:=z8p (k-2)
  have gk1:w3[Int.toNat ((k:Int)-1)]?=some [.u32 (v.getD (k-1) 0)]:=by
   rw [show Int.toNat ((k:Int)-1)=k-1 by omega];exact hw3 _ (by omega)
  have gk2:w3[Int.toNat ((k:Int)-2)]?=some [.u32 (v.getD (k-2) 0)]:=by
   rw [show Int.toNat ((k:Int)-2)=k-2 by omega];exact hw3 _ (by omega)
  have gu:(Wr u)[Int.toNat ((j:Int)+k-2)]?=some [.u32 (u.getD (j+k-2) 0)]:=by
   rw [show Int.toNat ((j:Int)+k-2)=j+k-2 by omega];exact X2 (by omega)
  obtain ⟨v1,e1⟩:∃ x,x=v.getD (k-1) 0:=⟨_,rfl⟩
  obtain ⟨v2,e2⟩:∃ x,x=v.getD (k-2) 0:=⟨_,rfl⟩
  obtain ⟨u2,e3⟩:∃ x,x=u.getD (j+k-2) 0:=⟨_,rfl⟩
  obtain ⟨top,e4⟩:∃ x,x=u.getD (j+k) 0*1000000000+u.getD (j+k-1) 0:=⟨_,rfl⟩
  rw [← e1] at a1 hnorm eV gk1 he hbig
  rw [← e2] at a2 eV gk2
  rw [← e3] at b2 eX gu
  rw [← e4] at eX he
  have hg2:0≤g*v2∧g*v2≤1000000001*999999999:=by
   constructor
   · exact Int.mul_nonneg h0 a2.1
   · exact Int.mul_le_mul hg (by omega) a2.1 (by decide)
  have down:1≤g→wv (u.drop j)<g*wv v→(g=1000000001→rest+v1<1000000000) →
      (¬ rest+v1≥1000000000→∃ g',Lp E 5 A6 1 (G2 m lu k k lq j (g-1) (rest+v1) w1 (Wr u) w3 w4) (.exit 3) (M2 m lu k k lq j w1 (Wr u) w3 w4 g')∧(0≤g'∧g'<1000000000)∧wv (u.drop j)<(g'+1)*wv v∧(g'-1)*wv v≤wv (u.drop j)) ∧
      (rest+v1≥1000000000→(0≤g-1∧g-1<1000000000)∧wv (u.drop j)<(g-1+1)*wv v∧(g-1-1)*wv v≤wv (u.drop j)):=by
   intro hg1 hlt hb
   have hmul:(g-1)*v1+(rest+v1)=top:=by
    have:(g-1)*v1=g*v1-v1:=by grind
    omega
   refine ⟨fun hc=>?_,fun hc=>?_⟩
   · refine q3p D hw3 t (g-1) (rest+v1) (by omega) (by omega) (by omega) (by omega) ?_ (by rw [show g-1+1=g by omega];exact hlt) (fun h=>by omega)
     rw [← e1,← e4];exact hmul
   · have hgB:g-1<1000000000:=by
      rcases Int.lt_or_le (g-1) 1000000000 with h | h
      · exact h
      · have:=hb (by omega);omega
     refine ⟨⟨by omega,hgB⟩,by rw [show g-1+1=g by omega];exact hlt,?_⟩
     refine j4w hP ⟨vl0,vl1⟩ xl0 eV eX hmul ⟨by omega,hgB⟩ ?_ hnorm a2.1
     have h5:(g-1)*v2≤999999999*999999999:=Int.mul_le_mul (by omega) (by omega) a2.1 (by decide)
     omega
  by_cases c1:g≥1000000000
  · have hlt:wv (u.drop j)<g*wv v:=by
     have h6:=Y4 u j (by omega)
     have h7:=D.hu.getD j
     have h8:=D.low
     have h9:1000000000*wv v≤g*wv v:=Int.mul_le_mul_of_nonneg_right c1 (by have:=D.vpos;omega)
     omega
    obtain ⟨d1,d2⟩:=down (by omega) hlt hbig
    by_cases c2:rest+v1≥1000000000
    · obtain ⟨d3,d4,d5⟩:=d2 c2
      exact ⟨g-1,y5y (i6:=(k:Int)-1) (i7:=v1) (i8:=v1) (i9:=rest+v1) (wu (by omega)) (wi (by omega)) (wu (by omega)) (wu (by omega)) c1 (by omega) gk1 c2,d3,d4,d5⟩
    · obtain ⟨g',d3,d4⟩:=d1 c2
      exact ⟨g',y7t (i6:=(k:Int)-1) (i7:=v1) (i8:=v1) (wu (by omega)) (wi (by omega)) (wu (by omega)) (wu (by omega)) c1 (by omega) gk1 c2 d3,d4⟩
  · by_cases c3:g*v2>rest*1000000000+u2
    · have hlt:=q8j hP vl0 xl1 eV eX he h0 c3
      have hg1:1≤g:=by
       rcases Int.lt_or_le g 1 with h | h
       · have:g=0:=by omega
         subst this
         rw [Int.zero_mul] at c3
         omega
       · exact h
      obtain ⟨d1,d2⟩:=down hg1 hlt hbig
      by_cases c2:rest+v1≥1000000000
      · obtain ⟨d3,d4,d5⟩:=d2 c2
        exact ⟨g-1,y5z (i5:=(k:Int)-2) (i6:=v2) (i7:=v2) (i8:=g*v2) (i9:=rest*1000000000) (i10:=(j:Int)+k) (i11:=(j:Int)+k-2) (i12:=u2) (i13:=u2) (i14:=rest*1000000000+u2) (i16:=(k:Int)-1) (i17:=v1) (i18:=v1) (i19:=rest+v1)
         (wi (by omega)) (wu (by omega)) (wu (by omega)) (wu (by omega)) (wi (by omega)) (wi (by omega)) (wu (by omega)) (wu (by omega)) (wu (by omega)) (wi (by omega)) (wu (by omega)) (wu (by omega)) c1 (by omega) gk2 (by omega) gu c3 (by omega) gk1 c2,d3,d4,d5⟩
      · obtain ⟨g',d3,d4⟩:=d1 c2
        exact ⟨g',y7u (i5:=(k:Int)-2) (i6:=v2) (i7:=v2) (i8:=g*v2) (i9:=rest*1000000000) (i10:=(j:Int)+k) (i11:=(j:Int)+k-2) (i12:=u2) (i13:=u2) (i14:=rest*1000000000+u2) (i16:=(k:Int)-1) (i17:=v1) (i18:=v1)
         (wi (by omega)) (wu (by omega)) (wu (by omega)) (wu (by omega)) (wi (by omega)) (wi (by omega)) (wu (by omega)) (wu (by omega)) (wu (by omega)) (wi (by omega)) (wu (by omega)) (wu (by omega)) c1 (by omega) gk2 (by omega) gu c3 (by omega) gk1 c2 d3,d4⟩
    · refine ⟨g,y6a (i5:=(k:Int)-2) (i6:=v2) (i7:=v2) (i8:=g*v2) (i9:=rest*1000000000) (i10:=(j:Int)+k) (i11:=(j:Int)+k-2) (i12:=u2) (i13:=u2) (i14:=rest*1000000000+u2)
          (wi (by omega)) (wu (by omega)) (wu (by omega)) (wu (by omega)) (wi (by omega)) (wi (by omega)) (wu (by omega)) (wu (by omega)) c1 (by omega) gk2 (by omega) gu c3,⟨h0,by omega⟩,hX,?_⟩
      exact j4w hP ⟨vl0,vl1⟩ xl0 eV eX he ⟨h0,by omega⟩ (by omega) hnorm a2.1
theorem v1e {m w1 w3 w4:RW} {lq lu k j:Nat} {u v:List Int} (D:Dv u v lu k j) (hw3:∀ i:Nat,i<k→w3[i]?=some [.u32 (v.getD i 0)]) {g:Int} (hg:0≤g∧g<1000000000) :
    ∀ d i c b u',i+d=k→0≤c∧c<1000000000→b=0∨b=1→Wd u'→u'.length=lu→(∀ n,n<j∨j+i≤n→u'.getD n 0=u.getD n 0)→wv u'=wv u-pw j*(g*wv (v.take i))+pw j*pw i*(c+b) →
    ∃ c' b' u'',Lp E 5 A6 2 (G3 m lu k k lq j g c b k i w1 (Wr u') w3 w4) (.exit 5) (U9 m lu k k lq j g w1 w3 w4 c' b' (Wr u''))∧(0≤c'∧c'<1000000000)∧(b'=0∨b'=1)∧Wd u''∧u''.length=lu∧(∀ n,n<j∨j+k≤n→u''.getD n 0=u.getD n 0)∧wv u''=wv u-pw j*(g*wv v)+pw j*pw k*(c'+b')
 | 0,i,c,b,u',hi,hc,hb,hw,hl,hn,hv=>by
  have:i=k:=by omega
  subst this
  have:=D.elv
  rw [List.take_of_length_le (by omega)] at hv
  exact ⟨c,b,u',y6b (by omega),hc,hb,hw,hl,hn,hv⟩
 | d+1,i,c,b,u',hi,hc,hb,hw,hl,hn,hv=>by
  have hjk:=D.jk
  have hsm:=D.small
  have a0:=D.hv.getD i
  have b0:=hw.getD (i+j)
  have gk:w3[Int.toNat (i:Int)]?=some [.u32 (v.getD i 0)]:=hw3 i (by omega)
  have gu:(Wr u')[Int.toNat ((i+j:Nat):Int)]?=some [.u32 (u'.getD (i+j) 0)]:=X2 (by omega)
  have et:=y0g v i (by have:=D.elv;omega)
  have es:=x7x u' (i+j) (by omega)
  obtain ⟨x,ex⟩:∃ x,x=v.getD i 0:=⟨_,rfl⟩
  obtain ⟨w,ew⟩:∃ w,w=u'.getD (i+j) 0:=⟨_,rfl⟩
  rw [← ex] at a0 gk et
  rw [← ew] at b0 gu es
  have hgx:0≤g*x∧g*x≤999999998000000001:=j9w hg a0
  obtain ⟨S,eS⟩:∃ S,S=g*x+c:=⟨_,rfl⟩
  have hS:0≤S∧S≤999999999000000000:=by omega
  obtain ⟨dd,ed⟩:∃ dd,dd=w-S % 1000000000-b:=⟨_,rfl⟩
  have key:∀ b' d',d'=dd+1000000000*b'→0≤d'∧d'<1000000000→(b'=0∨b'=1) →
      (∀ {c2:Int} {st:St},Lp E 5 A6 2 (G3 m lu k k lq j g (S / 1000000000) b' k ((i+1:Nat):Int) w1 (Wr (u'.set (i+j) d')) w3 w4) (.exit 5) st→Lp E 5 A6 2 (G3 m lu k k lq j g c b k i w1 (Wr u') w3 w4) (.exit 5) st) →
      ∃ c' b' u'',Lp E 5 A6 2 (G3 m lu k k lq j g c b k i w1 (Wr u') w3 w4) (.exit 5) (U9 m lu k k lq j g w1 w3 w4 c' b' (Wr u''))∧(0≤c'∧c'<1000000000)∧(b'=0∨b'=1)∧Wd u''∧u''.length=lu∧(∀ n,n<j∨j+k≤n→u''.getD n 0=u.getD n 0)∧wv u''=wv u-pw j*(g*wv v)+pw j*pw k*(c'+b'):=by
   intro b' d' hd' hd0 hb' hstep
   obtain ⟨c2,b2,u2,k1,k2⟩:=v1e D hw3 hg d (i+1) (S / 1000000000) b' (u'.set (i+j) d') (by omega) (by omega) hb' (hw.set _ hd0.1 hd0.2) (by simpa using hl)
    (fun n h=>by rw [z1z (by omega)];exact hn n (by omega)) (by
     rw [es d',et,y6d,show i+j=j+i by omega,k1n]
     have:=v2q hv eS (Int.emod_add_mul_ediv S 1000000000) ed hd'
     rw [this];grind)
   exact ⟨c2,b2,u2,hstep (c2:=0) k1,k2⟩
  by_cases c1:dd<0
  · refine key 1 (dd+1000000000) (by omega) (by omega) (.inr rfl) fun k1=>?_
    exact y7v (i9:=g) (i10:=x) (i11:=x) (i12:=g*x) (i13:=S) (i14:=S / 1000000000) (i15:=((i+j:Nat):Int)) (i16:=w) (i17:=w) (i18:=S % 1000000000) (i19:=w-S % 1000000000) (i20:=dd) (i21:=dd+1000000000) (i22:=dd+1000000000) (r6:=Wr (u'.set (i+j) (dd+1000000000))) (i23:=((i+1:Nat):Int))
     (wi (by omega)) (wi (by omega)) (wi (by omega)) (wi (by omega)) (wi ⟨tdv hS.1 rfl,by omega,by omega⟩) (wi (by omega)) (wi (by omega)) (tmd hS.1 rfl) (wi (by omega)) (wi (by omega)) (wi (by omega)) (w32 (by omega)) (by rw [Int.toNat_natCast,y8x]) (wi (by omega))
     (by omega) (by omega) gk (by omega) gu c1 k1
  · refine key 0 dd (by omega) (by omega) (.inl rfl) fun k1=>?_
    exact y7w (i9:=g) (i10:=x) (i11:=x) (i12:=g*x) (i13:=S) (i14:=S / 1000000000) (i15:=((i+j:Nat):Int)) (i16:=w) (i17:=w) (i18:=S % 1000000000) (i19:=w-S % 1000000000) (i20:=dd) (i21:=dd) (r7:=Wr (u'.set (i+j) dd)) (i24:=((i+1:Nat):Int))
     (wi (by omega)) (wi (by omega)) (wi (by omega)) (wi (by omega)) (wi ⟨tdv hS.1 rfl,by omega,by omega⟩) (wi (by omega)) (wi (by omega)) (tmd hS.1 rfl) (wi (by omega)) (wi (by omega)) (w32 (by omega)) (by rw [Int.toNat_natCast,y8x]) (wi (by omega))
     (by omega) (by omega) gk (by omega) gu c1 k1
theorem v1c {m w1 w3 w4:RW} {lq lu k j:Nat} {u v:List Int} (D:Dv u v lu k j) (hw3:∀ i:Nat,i<k→w3[i]?=some [.u32 (v.getD i 0)]) {g last:Int} {u1:List Int} :
    ∀ d i up u',i+d=k→0≤up∧up≤1→Wd u'→u'.length=lu→(∀ n,n<j∨j+i≤n→u'.getD n 0=u1.getD n 0)→wv u'=wv u1+pw j*wv (v.take i)-pw j*pw i*up →
    ∃ up' u'',Lp E 5 A6 3 (Y2 m lu k k lq j g last up k i w1 (Wr u') w3 w4) (.exit 7) (z3p m lu k k lq j g last w1 w3 w4 up' (Wr u''))∧(0≤up'∧up'≤1)∧Wd u''∧u''.length=lu∧(∀ n,n<j∨j+k≤n→u''.getD n 0=u1.getD n 0)∧wv u''=wv u1+pw j*wv v-pw j*pw k*up'
 | 0,i,up,u',hi,hc,hw,hl,hn,hv=>by
  have:i=k:=by omega
  subst this
  have:=D.elv
  rw [List.take_of_length_le (by omega)] at hv
  exact ⟨up,u',y6c (by omega),hc,hw,hl,hn,hv⟩
 | d+1,i,up,u',hi,hc,hw,hl,hn,hv=>by
  have hjk:=D.jk
  have hsm:=D.small
  have a0:=D.hv.getD i
  have b0:=hw.getD (i+j)
  have gk:w3[Int.toNat (i:Int)]?=some [.u32 (v.getD i 0)]:=hw3 i (by omega)
  have gu:(Wr u')[Int.toNat ((i+j:Nat):Int)]?=some [.u32 (u'.getD (i+j) 0)]:=X2 (by omega)
  have et:=y0g v i (by have:=D.elv;omega)
  have es:=x7x u' (i+j) (by omega)
  obtain ⟨x,ex⟩:∃ x,x=v.getD i 0:=⟨_,rfl⟩
  obtain ⟨w,ew⟩:∃ w,w=u'.getD (i+j) 0:=⟨_,rfl⟩
  rw [← ex] at a0 gk et
  rw [← ew] at b0 gu es
  obtain ⟨S,eS⟩:∃ S,S=up+(w+x):=⟨_,rfl⟩
  have hS:0≤S∧S≤1999999999:=by omega
  obtain ⟨up2,u2,k1,k2⟩:=v1c (g:=g) (last:=last) D hw3 (u1:=u1) d (i+1) (S / 1000000000) (u'.set (i+j) (S % 1000000000)) (by omega) (by omega) (hw.set _ (by omega) (by omega)) (by simpa using hl)
   (fun n h=>by rw [z1z (by omega)];exact hn n (by omega)) (by
    rw [es,et,y6d,show i+j=j+i by omega,k1n]
    have:=q9t hv eS (Int.emod_add_mul_ediv S 1000000000)
    rw [this];grind)
  refine ⟨up2,u2,?_,k2⟩
  exact y7x (i8:=((i+j:Nat):Int)) (i9:=w) (i10:=w) (i11:=x) (i12:=x) (i13:=w+x) (i14:=S) (i15:=S % 1000000000) (i16:=S % 1000000000) (r6:=Wr (u'.set (i+j) (S % 1000000000))) (i17:=S / 1000000000) (i18:=((i+1:Nat):Int))
   (wi (by omega)) (wu (by omega)) (wu (by omega)) (wu (by omega)) (wu (by omega)) (tmd hS.1 rfl) (w32 (by omega)) (by rw [Int.toNat_natCast,y8x]) (wu ⟨tdv hS.1 rfl,by omega,by omega⟩) (wi (by omega))
   (by omega) (by omega) gu (by omega) gk k1
theorem v4m {xs ys:List Int} (hl:xs.length=ys.length) (j:Nat) (h:∀ n,n<j→xs.getD n 0=ys.getD n 0):xs.take j=ys.take j:=by
 induction j with
 | zero=>simp
 | succ j ih =>
  rcases Nat.lt_or_ge j xs.length with hj | hj
  · rw [x7v xs j hj,x7v ys j (by omega),ih (fun n hn=>h n (by omega)),h j (by omega)]
  · rw [List.take_of_length_le (by omega),List.take_of_length_le (by omega)]
    rw [List.take_of_length_le hj,List.take_of_length_le (by omega)] at ih
    exact ih fun n hn=>h n (by omega)
theorem q5x {p a b:Int} (hp:0<p) (h:p*a=p*b):a=b:=Int.eq_of_mul_eq_mul_left (by omega) h
theorem k3c {xs ys:List Int} (hl:xs.length=ys.length) {j:Nat} (hj:j≤xs.length) (h:∀ n,n<j→xs.getD n 0=ys.getD n 0) {T:Int} (hv:wv xs=wv ys-pw j*T):wv (xs.drop j)=wv (ys.drop j)-T:=by
 have e1:=J5 xs j hj
 have e2:=J5 ys j (by omega)
 rw [v4m hl j h] at e1
 refine q5x (z8p j) ?_
 rw [Int.mul_sub]
 omega
theorem v1d {m w1 w3:RW} {lq lu k j:Nat} {u v q:List Int} (D:Dv u v lu k j) (hw3:∀ i:Nat,i<k→w3[i]?=some [.u32 (v.getD i 0)]) (hq:q.length=lq) (hj:j<lq) :
    ∃ u' g,(∀ {o:Out} {st:St},Lp E 5 A6 0 (H8 m lu k k lq ((j:Int)-1) w1 (Wr u') w3 (Wr (q.set j g))) o st→Lp E 5 A6 0 (H8 m lu k k lq j w1 (Wr u) w3 (Wr q)) o st) ∧
     (0≤g∧g<1000000000)∧Wd u'∧u'.length=lu∧wv u'=wv u-pw j*(g*wv v)∧0≤wv (u'.drop j)∧wv (u'.drop j)<wv v:=by
 have h2:=D.two
 have hjk:=D.jk
 have hsm:=D.small
 have hlu:=D.elu
 have hlv:=D.elv
 have hnorm:=D.norm
 have hV:=D.vpos
 have hVk:=D.vk
 have a1:=D.hv.getD (k-1)
 have b1:=D.hu.getD (j+k-1)
 have b0:=D.hu.getD (j+k)
 have bj:=D.hu.getD j
 have hlow:=D.low
 have hz:=D.zero
 have eX1:=Y4 u j (by omega)
 obtain ⟨v1,e1⟩:∃ x,x=v.getD (k-1) 0:=⟨_,rfl⟩
 obtain ⟨u0,e3⟩:∃ x,x=u.getD (j+k) 0:=⟨_,rfl⟩
 obtain ⟨u1',e4⟩:∃ x,x=u.getD (j+k-1) 0:=⟨_,rfl⟩
 obtain ⟨top,et⟩:∃ x,x=u0*1000000000+u1':=⟨_,rfl⟩
 have gk1:w3[Int.toNat ((k:Int)-1)]?=some [.u32 v1]:=by
  rw [show Int.toNat ((k:Int)-1)=k-1 by omega,e1];exact hw3 _ (by omega)
 have gu0:(Wr u)[Int.toNat ((j:Int)+k)]?=some [.u32 u0]:=by
  rw [show Int.toNat ((j:Int)+k)=j+k by omega,e3];exact X2 (by omega)
 have gu1:(Wr u)[Int.toNat ((j:Int)+k-1)]?=some [.u32 u1']:=by
  rw [show Int.toNat ((j:Int)+k-1)=j+k-1 by omega,e4];exact X2 (by omega)
 rw [← e1] at a1 hnorm
 rw [← e3] at b0
 rw [← e4] at b1
 have htop:0≤top:=by omega
 have hdm:=Int.emod_add_mul_ediv top v1
 have hr0:=Int.emod_nonneg top (show v1≠0 by omega)
 have hr1:=Int.emod_lt_of_pos top (show 0<v1 by omega)
 have hg0:0≤top / v1:=Int.ediv_nonneg htop (by omega)
 have hmul:top / v1*v1+top % v1=top:=by rw [Int.mul_comm];omega
 have hX3:=k9o (u:=u) (j:=j) (k:=k) h2 (by omega) hz
 rw [← e3,← e4,← et] at hX3
 have hV2:=k7m hlv h2
 rw [← e1] at hV2
 have a2:=D.hv.getD (k-2)
 have vl1:=D.hv.val_take_lt (k-2) (by omega)
 have xl0:=I3 ((D.hu.drop j).take (k-2))
 have hP:=z8p (k-2)
 have b2:=D.hu.getD (j+k-2)
 have hu0:u0≤v1:=by
  rcases Int.lt_or_le v1 u0 with h | h
  · exfalso
    have e5:=J5 (u.drop (j+1)) (k-1) (by simp;omega)
    rw [List.drop_drop,show j+1+(k-1)=j+k by omega,Y4 u (j+k) (by omega),hz,← e3] at e5
    have h6:=I3 ((D.hu.drop (j+1)).take (k-1))
    have e7:=J5 v (k-1) (by omega)
    rw [Y4 v (k-1) (by omega),← e1,show k-1+1=k by omega,List.drop_eq_nil_of_le (by omega),show wv []=0 from rfl] at e7
    have h8:=D.hv.val_take_lt (k-1) (by omega)
    have h9:pw (k-1)*(v1+1)≤pw (k-1)*u0:=Int.mul_le_mul_of_nonneg_left (by omega) (by have:=z8p (k-1);omega)
    rw [Int.mul_add,Int.mul_one] at h9
    simp at e5 e7
    omega
  · exact h
 have hgB:top / v1≤1000000001:=by
  have:top / v1<1000000002:=Int.ediv_lt_of_lt_mul (by omega) (by omega)
  omega
 have hbig:top / v1=1000000001→top % v1+v1<1000000000:=by
  intro h
  rw [h] at hmul
  omega
 have hXg:wv (u.drop j)<(top / v1+1)*wv v:=by
  have h5:top+1≤(top / v1+1)*v1:=by
   have:(top / v1+1)*v1=top / v1*v1+v1:=by grind
   omega
  have h6:=Int.mul_le_mul_of_nonneg_right h5 (show 0≤1000000000*pw (k-2) by omega)
  have h7:(top / v1+1)*(v1*(1000000000*pw (k-2)))≤(top / v1+1)*wv v:=by
   refine Int.mul_le_mul_of_nonneg_left ?_ (by omega)
   have h8:(v1*1000000000+v.getD (k-2) 0)*pw (k-2)=v1*(1000000000*pw (k-2))+v.getD (k-2) 0*pw (k-2):=by grind
   have h9:0≤v.getD (k-2) 0*pw (k-2):=Int.mul_nonneg a2.1 (by omega)
   have h10:=I3 (D.hv.take (k-2))
   omega
  have h8:(top / v1+1)*v1*(1000000000*pw (k-2))=(top / v1+1)*(v1*(1000000000*pw (k-2))):=by grind
  have h9:(top+1)*(1000000000*pw (k-2))=top*1000000000*pw (k-2)+1000000000*pw (k-2):=by grind
  have h10:(top*1000000000+u.getD (j+k-2) 0)*pw (k-2)=top*1000000000*pw (k-2)+u.getD (j+k-2) 0*pw (k-2):=by grind
  have h11:u.getD (j+k-2) 0*pw (k-2)≤999999999*pw (k-2):=Int.mul_le_mul_of_nonneg_right (by omega) (by omega)
  have h12:=(D.hu.drop j).val_take_lt (k-2) (by simp;omega)
  omega
 obtain ⟨g,k1,k2,k3,k4⟩:=q3p (E:=E) (m:=m) (w1:=w1) (w4:=Wr q) (lq:=lq) D hw3 1000000002 (top / v1) (top % v1) hg0 (by omega) hgB ⟨hr0,by omega⟩ (by rw [← e1,← e3,← e4,← et];exact hmul) hXg (by rw [← e1];exact hbig)
 obtain ⟨c,b,us,s1,s2,s3,s4,s5,s6,s7⟩:=v1e (E:=E) (m:=m) (w1:=w1) (w4:=Wr q) (lq:=lq) D hw3 k2 k 0 0 0 u (by omega) (by omega) (.inl rfl) D.hu D.elu (fun _ _=>rfl) (by simp [wv])
 have hsu:us.getD (j+k) 0=u0:=by rw [s6 _ (.inr (Nat.le_refl _)),← e3]
 have gs0:(Wr us)[Int.toNat ((j:Int)+k)]?=some [.u32 u0]:=by
  rw [show Int.toNat ((j:Int)+k)=j+k by omega,← hsu];exact X2 (by omega)
 obtain ⟨last,hlast⟩:∃ x,x=u0-c-b:=⟨_,rfl⟩
 have hset:=x7x us (j+k) (by omega)
 rw [hsu] at hset
 have sv:wv us=wv u-pw j*(g*wv v-pw k*(c+b)):=by rw [s7];grind
 have sd:=k3c (xs:=us) (ys:=u) (by omega) (j:=j) (by omega) (fun n hn=>s6 n (.inl hn)) sv
 have sk:=J5 (us.drop j) k (by simp;omega)
 have sz:wv (us.drop (j+k+1))=0:=by
  have h0:wv (us.drop (j+k+1))=wv (u.drop (j+k+1)):=by
   congr 1
   apply List.ext_getElem?
   intro i
   rw [List.getElem?_drop,List.getElem?_drop]
   rcases Nat.lt_or_ge (j+k+1+i) lu with h | h
   · rw [getD_some (by omega),getD_some (by omega),s6 _ (.inr (by omega))]
   · rw [List.getElem?_eq_none (by omega),List.getElem?_eq_none (by omega)]
  rw [h0];exact hz
 rw [List.drop_drop,Y4 us (j+k) (by omega),sz,hsu] at sk
 have sk0:=I3 ((s4.drop j).take k)
 have sk1:=(s4.drop j).val_take_lt k (by simp;omega)
 have hpk:=z8p k
 have hpj:=z8p j
 have wj:((j:Int)+k)=((j+k:Nat):Int):=by omega
 have gq:(Wr q)[Int.toNat (j:Int)]?=some [.u32 (q.getD j 0)]:=X2 (by omega)
 have hXV:(g+1)*wv v=g*wv v+wv v:=by grind
 by_cases c1:last<0
 · -- once too often
   have hneg:wv (u.drop j)<g*wv v:=by
    have h5:pw k*last≤pw k*(-1):=Int.mul_le_mul_of_nonneg_left (by omega) (by omega)
    have h6:pw k*last=pw k*u0-pw k*(c+b):=by rw [hlast];grind
    simp at sk
    omega
   have hg1:1≤g:=by
    rcases Int.lt_or_le g 1 with h | h
    · have:g=0:=by omega
      subst this
      have:=I3 (D.hu.drop j)
      omega
    · exact h
   obtain ⟨up,ua,t1,t2,t3,t4,t5,t6⟩:=v1c (E:=E) (m:=m) (w1:=w1) (w4:=Wr q) (lq:=lq) (g:=g-1) (last:=last) D hw3 (u1:=us) k 0 0 us (by omega) (by omega) s4 s5 (fun _ _=>rfl) (by simp [wv])
   have hau:ua.getD (j+k) 0=u0:=by rw [t5 _ (.inr (Nat.le_refl _)),hsu]
   have ga0:(Wr ua)[Int.toNat ((j:Int)+k)]?=some [.u32 u0]:=by
    rw [show Int.toNat ((j:Int)+k)=j+k by omega,← hau];exact X2 (by omega)
   have hset2:=x7x ua (j+k) (by omega)
   rw [hau] at hset2
   have tv:wv ua=wv u-pw j*((g-1)*wv v-pw k*(c+b)+pw k*up):=by rw [t6,s7];grind
   have td:=k3c (xs:=ua) (ys:=u) (by omega) (j:=j) (by omega) (fun n hn=>by rw [t5 n (.inl hn)];exact s6 n (.inl hn)) tv
   have tk:=J5 (ua.drop j) k (by simp;omega)
   have tz:wv (ua.drop (j+k+1))=0:=by
    have h0:wv (ua.drop (j+k+1))=wv (us.drop (j+k+1)):=by
     congr 1
     apply List.ext_getElem?
     intro i
     rw [List.getElem?_drop,List.getElem?_drop]
     rcases Nat.lt_or_ge (j+k+1+i) lu with h | h
     · rw [getD_some (by omega),getD_some (by omega),t5 _ (.inr (by omega))]
     · rw [List.getElem?_eq_none (by omega),List.getElem?_eq_none (by omega)]
    rw [h0];exact sz
   rw [List.drop_drop,Y4 ua (j+k) (by omega),tz,hau] at tk
   have tk0:=I3 ((t3.drop j).take k)
   have tk1:=(t3.drop j).val_take_lt k (by simp;omega)
   have hg1V:(g-1)*wv v=g*wv v-wv v:=by grind
   have hzero:last+up=0:=by
    have h5:pw k*(last+up)=pw k*u0-pw k*(c+b)+pw k*up:=by rw [hlast];grind
    have h6:-pw k<pw k*(last+up)∧pw k*(last+up)<pw k:=by
     simp at tk
     omega
    rcases Int.lt_trichotomy (last+up) 0 with h | h | h
    · have:pw k*(last+up)≤pw k*(-1):=Int.mul_le_mul_of_nonneg_left (by omega) (by omega)
      omega
    · exact h
    · have:pw k*1≤pw k*(last+up):=Int.mul_le_mul_of_nonneg_left (by omega) (by omega)
      omega
   have hfin:wv (ua.set (j+k) 0)=wv u-pw j*((g-1)*wv v):=by
    rw [hset2,tv,k1n]
    have:u0=c+b-up:=by omega
    rw [this];grind
   have hd:=k3c (xs:=ua.set (j+k) 0) (ys:=u) (by simp;omega) (j:=j) (by simp;omega) (fun n hn=>by rw [z1z (by omega),t5 n (.inl hn)];exact s6 n (.inl hn)) hfin
   refine ⟨ua.set (j+k) 0,g-1,fun {o} {st} ih=>?_,by omega,t3.set _ (by omega) (by omega),by simpa using t4,hfin,?_,?_⟩
   · exact y7r (i2:=(j:Int)+k) (i3:=u0) (i4:=u0) (i5:=u0*1000000000) (i6:=(j:Int)+k-1) (i7:=u1') (i8:=u1') (i9:=top) (i10:=(k:Int)-1) (i11:=v1) (i12:=v1) (i13:=top / v1) (i14:=top % v1) (i15:=g) (i16:=c) (i17:=b) (r7:=Wr us) (i18:=u0) (i19:=u0) (i20:=u0-c) (i21:=last) (i22:=g-1) (i23:=up) (r8:=Wr ua) (i24:=up) (i25:=0) (i26:=0) (i27:=0) (i28:=u0) (r9:=Wr (ua.set (j+k) 0)) (i29:=g-1) (i30:=q.getD j 0) (r10:=Wr (q.set j (g-1))) (i31:=(j:Int)-1)
      (wi (by omega)) (wu (by omega)) (wu (by omega)) (wi (by omega)) (wu (by omega)) (wu (by omega)) (wi (by omega)) (wu (by omega)) (wu ⟨tdv htop rfl,hg0,by omega⟩) (tmd htop rfl) (wi (by omega)) (wi (by omega)) (wi (by omega)) (wu (by omega)) (wi (by omega)) (wi (by omega)) (by simp) (w32 (by omega)) (by rw [wj,Int.toNat_natCast,y8x]) (w32 (by omega)) (by rw [Int.toNat_natCast,y8x]) (wi (by omega))
      (by omega) (by omega) gu0 (by omega) gu1 (by omega) gk1 (by omega) k1 s1 gs0 c1 t1 ga0 (by omega) gq ih
   · rw [hd];omega
   · rw [hd];omega
 · have hfin:wv (us.set (j+k) last)=wv u-pw j*(g*wv v):=by
    rw [hset,sv,k1n,hlast];grind
   have hd:=k3c (xs:=us.set (j+k) last) (ys:=u) (by simp;omega) (j:=j) (by simp;omega) (fun n hn=>by rw [z1z (by omega)];exact s6 n (.inl hn)) hfin
   refine ⟨us.set (j+k) last,g,fun {o} {st} ih=>?_,k2,s4.set _ (by omega) (by omega),by simpa using s5,hfin,?_,?_⟩
   · exact y7s (i2:=(j:Int)+k) (i3:=u0) (i4:=u0) (i5:=u0*1000000000) (i6:=(j:Int)+k-1) (i7:=u1') (i8:=u1') (i9:=top) (i10:=(k:Int)-1) (i11:=v1) (i12:=v1) (i13:=top / v1) (i14:=top % v1) (i15:=g) (i16:=c) (i17:=b) (r7:=Wr us) (i18:=u0) (i19:=u0) (i20:=u0-c) (i21:=last) (i22:=last) (i23:=last) (r8:=Wr (us.set (j+k) last)) (i24:=g) (i25:=q.getD j 0) (r11:=Wr (q.set j g)) (i27:=(j:Int)-1)
      (wi (by omega)) (wu (by omega)) (wu (by omega)) (wi (by omega)) (wu (by omega)) (wu (by omega)) (wi (by omega)) (wu (by omega)) (wu ⟨tdv htop rfl,hg0,by omega⟩) (tmd htop rfl) (wi (by omega)) (wi (by omega)) (wi (by omega)) (if_neg (by omega)) (w32 (by omega)) (by rw [wj,Int.toNat_natCast,y8x]) (w32 (by omega)) (by rw [Int.toNat_natCast,y8x]) (wi (by omega))
      (by omega) (by omega) gu0 (by omega) gu1 (by omega) gk1 (by omega) k1 s1 gs0 c1 (by omega) gq ih
   · have h5:=I3 ((s4.set (j+k) (show 0≤last by omega) (by omega)).drop j)
     exact h5
   · rw [hd];omega
theorem q7c {m w1 w3:RW} {lq lu k:Nat} {v:List Int} (hv:Wd v) (hlv:v.length=k)(h2:2≤k) (hn:1000000000≤2*v.getD (k-1) 0) (hsm:lu<35184372088832) (hw3:∀ i:Nat,i<k→w3[i]?=some [.u32 (v.getD i 0)]) :
    ∀ j u q,Wd u→u.length=lu→Wd q→q.length=lq→j≤lq→(0<j→j-1+k<lu)→wv (u.drop j)<wv v →
    ∃ u' q',Lp E 5 A6 0 (H8 m lu k k lq ((j:Int)-1) w1 (Wr u) w3 (Wr q)) (.exit 1) (z3o m lu k lq w1 w3 (Wr u') (Wr q'))∧Wd u'∧u'.length=lu∧Wd q'∧q'.length=lq∧wv u'<wv v∧wv u'+wv v*wv q'=wv u+wv v*(pw j*wv (q.drop j))
 | 0,u,q,hu,hlu,hq,hlq,_,_,hlow=>⟨u,q,y5x (by omega),hu,hlu,hq,hlq,by simpa using hlow,by simp [q2c]⟩
 | j+1,u,q,hu,hlu,hq,hlq,hj,hjk,hlow=>by
  have D:Dv u v lu k j:=⟨hu,hv,hlu,hlv,h2,hn,by have:=hjk (by omega);omega,hsm,hlow⟩
  obtain ⟨u1,g,st,hg,k1,k2,k3,k4,k5⟩:=v1d (E:=E) (m:=m) (w1:=w1) D hw3 hlq (by omega)
  obtain ⟨u',q',r1,r2,r3,r4,r5,r6,r7⟩:=q7c hv hlv h2 hn hsm hw3 j u1 (q.set j g) k1 k2 (hq.set _ hg.1 hg.2) (by simpa using hlq) (by omega) (fun h=>by have:=D.jk;omega) k5
  refine ⟨u',q',?_,r2,r3,r4,r5,r6,?_⟩
  · rw [show ((j+1:Nat):Int)-1=(j:Int) by omega];exact st r1
  · have hd:(q.set j g).drop (j+1)=q.drop (j+1):=List.drop_set_of_lt (Nat.lt_succ_self j)
    rw [r7,k3,k6b (q.set j g) j,x9z (by omega),hd,y6d]
    grind
theorem j7t {n m q r:Nat} (h:n=q*m+r) (hr:r<m):n / m=q∧n % m=r:=by
 subst h
 rw [Nat.mul_comm]
 exact ⟨by rw [Nat.mul_add_div (by omega),Nat.div_eq_of_lt hr,Nat.add_zero],by rw [Nat.mul_add_mod,Nat.mod_eq_of_lt hr]⟩
theorem q9c {xs:List Int} {k i:Nat} (h:i<k):(xs.take k).getD i 0=xs.getD i 0:=by
 rw [List.getD_eq_getElem?_getD,List.getD_eq_getElem?_getD,List.getElem?_take_of_lt h]
theorem q1b {m n:Nat} (hm:2≤(words m).length) (hmn:m≤n) (hl:(words n).length<1099511627776) (hns:¬ n<1000000000000000000):Fn E A6 [.c (.list (Wr (words n))),.c (.list (Wr (words m)))] (.tup [.c (.list (Wr (words (n / m)))),.c (.list (Wr (words (n % m))))]):=by
 have hlm:(words m).length≤(words n).length:=(z4o m).length_le (F9 m) (F9 n) (by rw [F3,F3];omega)
 obtain ⟨k,hk⟩:∃ k,k=(words m).length:=⟨_,rfl⟩
 rw [← hk] at hm hlm
 have ht:=(F9 m).getD (k-1)
 obtain ⟨t,et⟩:∃ t,t=(words m).getD (k-1) 0:=⟨_,rfl⟩
 rw [← et] at ht
 obtain ⟨f,hf⟩:∃ f:Nat,(f:Int)=1000000000 / (t+1):=⟨(1000000000 / (t+1)).toNat,by have:0≤1000000000 / (t+1):=Int.ediv_nonneg (by decide) (by omega);omega⟩
 obtain ⟨f1,f2,lv,nv⟩:=q3q (n:=m) rfl hk.symm (by omega) (f:=f) (by rw [← et];exact hf)
 have hfl:(words f).length≤1:=y0l (by rw [show pw 1=1000000000 by decide];omega)
 obtain ⟨ku,xu,hru,eu,hku,hxu⟩:=j6s (E:=E) (m:=n) (n:=f) (by omega)
 obtain ⟨kv,xv,hrv,ev,hkv,hxv⟩:=j6s (E:=E) (m:=m) (n:=f) (by omega)
 have hkv':kv=k:=by
  have:=congrArg List.length ev
  rw [List.length_take,lv] at this
  omega
 subst hkv'
 have hku':ku=(words (n*f)).length:=by
  have:=congrArg List.length eu
  rw [List.length_take] at this
  omega
 have hnf:n≤n*f:=by have:=Nat.mul_le_mul_left n f1;omega
 have hkn:(words n).length≤ku:=by rw [hku'];exact (z4o n).length_le (F9 n) (F9 _) (by rw [F3,F3];omega)
 have hku2:ku≤(words n).length+1:=by omega
 have hu0:Wd (words (n*f)++[0]):=(F9 _).append (Wd.cons (by omega) (by omega) Wd.nil)
 have hu0l:(words (n*f)++[0]).length=ku+1:=by simp [hku']
 have hw3:∀ i:Nat,i<kv→(Wr xv)[i]?=some [.u32 ((words (m*f)).getD i 0)]:=fun i hi=>by
  rw [← ev,q9c hi];exact X2 (by omega)
 have hvk:=y5o (F9 (m*f))
 have hvge:=(z4o (m*f)).val_ge (F9 _) (by intro h;rw [h] at lv;simp at lv;omega)
 rw [lv] at hvk hvge
 have hlow:wv ((words (n*f)++[0]).drop (ku+1-kv))<wv (words (m*f)):=by
  have h5:=y5o ((F9 (n*f)).drop (ku+1-kv))
  rw [List.length_drop,← hku',show ku-(ku+1-kv)=kv-1 by omega] at h5
  rw [List.drop_append_of_le_length (by omega),y4x]
  omega
 obtain ⟨u',q',r1,r2,r3,r4,r5,r6,r7⟩:=q7c (E:=E) (m:=Wr (words f)) (w1:=[[.u32 0]]) (w3:=Wr xv) (lq:=ku+1-kv) (lu:=ku+1) (F9 (m*f)) lv hm nv (by omega) hw3 (ku+1-kv) (words (n*f)++[0]) (List.replicate (ku+1-kv) 0) hu0 hu0l (Wd.replicate _) (by simp) (Nat.le_refl _) (fun _=>by omega) hlow
 rw [drop_nil (by simp),y4x,F3,F3,show wv []=0 from rfl] at r7
 rw [F3] at r6
 have hq0:=I3 r4
 have hr0:=I3 r2
 obtain ⟨Q,hQ⟩:∃ Q:Nat,wv q'=Q:=⟨(wv q').toNat,by omega⟩
 obtain ⟨R,hR⟩:∃ R:Nat,wv u'=R:=⟨(wv u').toNat,by omega⟩
 rw [hQ,hR] at r7
 rw [hR] at r6
 have hmf0:0<m*f:=by omega
 have e1:n*f=Q*(m*f)+R:=by
  have:((n*f:Nat):Int)=((Q*(m*f)+R:Nat):Int):=by
   rw [Int.natCast_add,Int.natCast_mul Q]
   have:((Q:Int))*((m*f:Nat):Int)=((m*f:Nat):Int)*Q:=Int.mul_comm _ _
   simp at r7
   simp at this ⊢
   omega
  omega
 have hfR:f ∣ R:=by
  have h5:f ∣ Q*(m*f):=⟨Q*m,by rw [← Nat.mul_assoc,Nat.mul_comm]⟩
  exact (Nat.dvd_add_right h5).1 (by rw [← e1];exact ⟨n,Nat.mul_comm _ _⟩)
 obtain ⟨R',hR'⟩:=hfR
 have e2:n=Q*m+R':=by
  have:f*n=f*(Q*m+R'):=by
   rw [Nat.mul_add,← hR',Nat.mul_comm f n,e1,← Nat.mul_assoc,Nat.mul_comm f]
  exact Nat.eq_of_mul_eq_mul_left (by omega) this
 have e3:R'<m:=by
  have:f*R'<f*m:=by rw [← hR',Nat.mul_comm f m];omega
  exact Nat.lt_of_mul_lt_mul_left this
 obtain ⟨d1,d2⟩:=j7t e2 e3
 have hRf:R / f=R':=by rw [hR',Nat.mul_div_cancel_left _ (by omega)]
 have hul:wv (u'.take kv)=R:=by
  have h5:=J5 u' kv (by omega)
  have h6:=I3 (r2.take kv)
  have h7:=I3 (r2.drop kv)
  rw [F3] at hvk
  rcases Int.lt_or_le 0 (wv (u'.drop kv)) with h | h
  · have h8:pw kv*1≤pw kv*wv (u'.drop kv):=Int.mul_le_mul_of_nonneg_left (by omega) (by have:=z8p kv;omega)
    omega
  · have:wv (u'.drop kv)=0:=by omega
    rw [this,Int.mul_zero] at h5
    omega
 have t1:=(x1c (E:=E) (ws:=u') (k:=kv) (by omega) (by omega)).at (args:=[]) rfl rfl rfl rfl (objs:=[some .dead,some (.vec B3 [[.u32 0]]),some (.vec B3 (Wr u')),some (.vec B3 (Wr xv)),some (.vec B3 (Wr q'))]) (l:=2) rfl
 have t2:=(x1c (E:=E) (ws:=q') (k:=ku+1-kv) (by omega) (by omega)).at (args:=[]) rfl rfl rfl rfl (objs:=[some .dead,some (.vec B3 [[.u32 0]]),some (.fro (Wr u')),some (.vec B3 (Wr xv)),some (.vec B3 (Wr q'))]) (l:=4) rfl
 have w1:=z8y r2 (k:=kv) (by omega)
 rw [hul] at w1
 have w2:=z8y r4 (k:=ku+1-kv) (by omega)
 rw [← r5,List.take_length,hQ,r5] at w2
 have hRl:(words R).length<35184372088000:=by
  have:=congrArg List.length w1
  rw [List.length_take,Int.toNat_natCast] at this
  have:=q4x u' kv
  omega
 have hby:=by_ok (E:=E) (n:=R) (w:=f) ⟨by omega,by omega⟩ hRl
 rw [hRf,show words R=u'.take (y4w u' kv) from w1.symm,← z7o] at hby
 rw [d1,d2]
 have h18:(18446744073709551615:Int)≥0:=by decide
 by_cases hsm:m<1000000000000000000
 · exact y4j (i0:=cmpI n m) (i1:=0) (i2:=(m:Int)) (b2:=true) (i3:=(kv:Int)-1) (i5:=t) (i4:=t) (i6:=t+1) (i7:=(f:Int)) (r5:=Wr (words f)) (n0:=ku) (r6:=Wr xu) (r7:=Wr (words (n*f)++[0])) (n1:=ku+1) (n2:=kv) (r8:=Wr xv) (i11:=((ku+1-kv:Nat):Int)) (n3:=ku+1-kv) (r17:=Wr (List.replicate (ku+1-kv) 0)) (i12:=((ku+1-kv:Nat):Int)-1) (r10:=Wr u') (r18:=Wr q') (i13:=(f:Int)) (b1:=true) (n8:=kv) (n9:=y4w u' kv) (n10:=y4w q' (ku+1-kv))
    (wi (by rw [G5,← hk];omega)) (wu (by omega)) (wu (by omega)) (wu ⟨tdv (by omega) hf.symm,by omega,by omega⟩) (by rw [z7o,eu,k2g]) rfl (wi (by omega)) (Int.toNat_natCast _) (y5t _ _) (wi (by omega)) (Int.toNat_natCast _) rfl (by rw [z7o,w2,Int.toNat_natCast])
    (y6y (by omega)) (by unfold cmpI;split <;> (try split) <;> omega) (y2k hns) (z4m hsm) (by rw [G5,← hk];omega) (by omega) (by rw [show Int.toNat ((kv:Int)-1)=kv-1 by omega,et];exact X2 (by omega)) (by omega) (j9x (by omega)) hru (by omega) hrv (by rw [G5];omega) (by omega) r1 (z4m (by omega)) (by omega) t1 hby t2
 · exact y4j (i0:=cmpI n m) (i1:=0) (i2:=0) (b2:=false) (i3:=(kv:Int)-1) (i5:=t) (i4:=t) (i6:=t+1) (i7:=(f:Int)) (r5:=Wr (words f)) (n0:=ku) (r6:=Wr xu) (r7:=Wr (words (n*f)++[0])) (n1:=ku+1) (n2:=kv) (r8:=Wr xv) (i11:=((ku+1-kv:Nat):Int)) (n3:=ku+1-kv) (r17:=Wr (List.replicate (ku+1-kv) 0)) (i12:=((ku+1-kv:Nat):Int)-1) (r10:=Wr u') (r18:=Wr q') (i13:=(f:Int)) (b1:=true) (n8:=kv) (n9:=y4w u' kv) (n10:=y4w q' (ku+1-kv))
    (wi (by rw [G5,← hk];omega)) (wu (by omega)) (wu (by omega)) (wu ⟨tdv (by omega) hf.symm,by omega,by omega⟩) (by rw [z7o,eu,k2g]) rfl (wi (by omega)) (Int.toNat_natCast _) (y5t _ _) (wi (by omega)) (Int.toNat_natCast _) rfl (by rw [z7o,w2,Int.toNat_natCast])
    (y6y (by omega)) (by unfold cmpI;split <;> (try split) <;> omega) (y2k hns) (y2k hsm) (by rw [G5,← hk];omega) (by omega) (by rw [show Int.toNat ((kv:Int)-1)=kv-1 by omega,et];exact X2 (by omega)) (by omega) (j9x (by omega)) hru (by omega) hrv (by rw [G5];omega) (by omega) r1 (z4m (by omega)) (by omega) t1 hby t2
def Lim:Nat:=1000000000
structure Lib (E:Env):Prop where
 parseUint:∀ l:List UInt8,Dg l→1≤l.length→l.length≤9→Fn E z9q [.c (.str (B l)),.c (.i64 10),.c (.i64 32)] (.tup [.c (.u64 (dval l:Int)),.undef])
 /-- what is behind a text in front of another one -/
 cutPrefix:∀ l p:List UInt8,l.length<10000000000000→p.length<10000000000000→Fn E z9r [.c (.str (B l)),.c (.str (B p))] (.tup [.c (.str (B (if p.isPrefixOf l then l.drop p.length else l))),.c (.bool (p.isPrefixOf l))])
 /-- what is ahead of the first slash,and behind it -/
 cutYes:∀ p q:List UInt8,(47:UInt8) ∉ p→p.length+q.length<4000000000→Fn E z6s [.c (.str (B (p++47::q))),.c (.str (B [47]))] (.tup [.c (.str (B p)),.c (.str (B q)),.c (.bool true)])
 cutNo:∀ p:List UInt8,(47:UInt8) ∉ p→p.length<4000000000→Fn E z6s [.c (.str (B p)),.c (.str (B [47]))] (.tup [.c (.str (B p)),.c (.str (B [])),.c (.bool false)])
 parseInt:∀ z:Int,(decZ z).length≤9→Fn E z5i [.c (.str (B (decZ z))),.c (.i64 10),.c (.i64 64)] (.tup [.c (.i64 z),.undef])
 formatInt:∀ z:Int,-9223372036854775808≤z∧z≤9223372036854775807→Fn E z4a [.c (.i64 z),.c (.i64 10)] (.c (.str (B (decZ z))))
 itoa:∀ z:Int,-9223372036854775808≤z∧z≤9223372036854775807→Fn E y1r [.c (.i64 z)] (.c (.str (B (decZ z))))
 /-- an operation of package rational,by its byte -/
 apply:∀ (op:Int) (f:Nat),(op,f)∈[(43,z0y),(42,z2b),(45,V7),(47,y1b)]→∀ (a b x1 x2 y1 y2 z1 z2 t:BA),Fn E F_rational_both [.c (.str a),.c (.str b)] (.tup [.agg [.str x1,.str x2],.agg [.str y1,.str y2],.c (.i64 0)])→(op=47→¬ y1=B [48]) →
  Fn E f [.agg [.str x1,.str x2],.agg [.str y1,.str y2]] (.agg [.str z1,.str z2])→Fn E F_rational_frac_text [.agg [.str z1,.str z2]] (.c (.str t))→Fn E z4e [.c (.u8 op),.c (.str a),.c (.str b)] (.tup [.c (.str t),.c (.i64 0)])
 text:∀ n K:Nat,n<10 ^ K→K≤Lim+1→Fn E O8 [.c (.list (Wr (words n)))] (.c (.str (B (dec n))))
theorem q8x (K:Nat):((10 ^ K:Nat):Int)≤pw K:=by
 unfold pw
 rw [show (1000000000:Int) ^ K=((1000000000 ^ K:Nat):Int) by rw [Int.natCast_pow];rfl]
 exact Int.ofNat_le.2 (Nat.pow_le_pow_left (by decide) K)
theorem y0h {n K:Nat} (h:n<10 ^ K):(words n).length≤K:=y0l (Int.lt_of_lt_of_le (Int.ofNat_lt.2 h) (q8x K))
theorem k2t {a b:Int}:cmpI a b<0↔a<b:=by unfold cmpI;split <;> (try split) <;> omega
theorem j9f {m n:Nat} (hm:m≠0) (hl:(words n).length<1099511627776):Fn E A6 [.c (.list (Wr (words n))),.c (.list (Wr (words m)))] (.tup [.c (.list (Wr (words (n / m)))),.c (.list (Wr (words (n % m))))]):=by
 have hc:=y6y (E:=E) (m:=n) (n:=m) (by omega)
 by_cases h1:n<m
 · rw [Nat.div_eq_of_lt h1,Nat.mod_eq_of_lt h1,z3t]
   exact x6f hc (k2t.2 (by omega))
 · have hc':¬ cmpI n m<0:=fun h=>h1 (by have:=k2t.1 h;omega)
   by_cases h2:n<1000000000000000000
   · have hd:n / m<1000000000000000000:=Nat.lt_of_le_of_lt (Nat.div_le_self _ _) h2
     have hr:n % m<1000000000000000000:=Nat.lt_of_lt_of_le (Nat.mod_lt _ (by omega)) (by omega)
     have hdz:0≤((n / m:Nat):Int)∧((n / m:Nat):Int)≤18446744073709551615:=⟨Int.natCast_nonneg _,by have:=Int.ofNat_lt.2 hd;exact Int.le_trans (Int.le_of_lt this) (by decide)⟩
     exact x6g (i3:=((n / m:Nat):Int)) (i4:=((n % m:Nat):Int)) (wu ⟨tdv (by omega) rfl,hdz⟩) (tmd (by omega) rfl) hc hc' (z4m h2) (z4m (by omega)) (by omega) (j9x hd) (j9x hr)
   · by_cases h3:(words m).length=1
     · have hm1:m<1000000000:=by
        have:=y5o (F9 m)
        rw [F3,h3,show pw 1=1000000000 by decide] at this
        omega
       have e:words m=[(m:Int)]:=by
        rcases q0l (n:=m) (by omega) with ⟨_,h⟩ | ⟨e,_,_⟩ | ⟨_,h⟩
        · exact absurd h hm
        · exact e
        · omega
       have hs:=z4m (E:=E) (n:=m) (by omega)
       have hb:=by_ok (E:=E) (n:=n) (w:=m) ⟨by omega,hm1⟩ (by omega)
       exact x6h (i3:=(m:Int)) (i5:=(m:Int)) (wu (by omega)) hc hc' (y2k h2) hs (by rw [G5,h3];rfl) (by rw [e];rfl) hb
     · have:words m≠[]:=fun h=>hm (x7z.1 h)
       have:=x7q this
       exact q1b (by omega) (by omega) hl h2
theorem j9o:∀ (t y x:Nat),y<t→x<1000000000000000000→y<1000000000000000000→Lp E 0 D1 1 (z2n x y) (.exit 2) (z8m (Nat.gcd x y:Nat))
 | 0,y,x,h,_,_=>by omega
 | t+1,y,x,h,hx,hy=>by
  by_cases h0:y=0
  · subst h0
    rw [Nat.gcd_zero_right]
    exact x0m (by omega)
  · have hm:=Nat.mod_lt x (show 0<y by omega)
    have e:Nat.gcd x y=Nat.gcd y (x % y):=by rw [Nat.gcd_comm x y,Nat.gcd_rec y x,Nat.gcd_comm]
    rw [e]
    exact x3x (i3:=((x % y:Nat):Int)) (tmd (by omega) rfl) (by omega) (by omega) (j9o t (x % y) y (by omega) hy (by omega))
theorem j4t {L:Nat} (hL:L<1099511627776):∀ (t n m:Nat),n<t→(words m).length≤L→(words n).length≤L →
    (Lp E 0 D1 0 (M3 (Wr (words m)) (Wr (words n))) .ret (z8k (Wr (words (Nat.gcd m n))))) ∨
    (Lp E 0 D1 0 (M3 (Wr (words m)) (Wr (words n))) (.exit 0) (z8l (Wr (words (Nat.gcd m n)))))
 | 0,n,m,h,_,_=>by omega
 | t+1,n,m,h,hm,hn=>by
  by_cases h0:n=0
  · subst h0
    rw [Nat.gcd_zero_right,z3t]
    exact .inr (x0l (by simp [Wr]))
  · have hpos:((Wr (words n)).length:Int)>0:=by
     have:words n≠[]:=fun h=>h0 (x7z.1 h)
     have:=x7q this
     rw [G5];omega
    have hr:=Nat.mod_lt m (show 0<n by omega)
    have e:Nat.gcd m n=Nat.gcd n (m % n):=by rw [Nat.gcd_comm m n,Nat.gcd_rec n m,Nat.gcd_comm]
    have hrl:(words (m % n)).length≤L:=Nat.le_trans ((z4o _).length_le (F9 _) (F9 n) (by rw [F3,F3];omega)) hn
    have hd:=j9f (E:=E) (m:=n) (n:=m) h0 (by omega)
    by_cases s1:m<1000000000000000000
    · by_cases s2:n<1000000000000000000
      · refine .inl (x0k hpos (z4m s1) (z4m s2) (j9o (n+1) n m (by omega) s1 s2) (j9x ?_))
        exact Nat.lt_of_le_of_lt (Nat.gcd_le_right m (by omega)) s2
      · rw [e]
        rcases j4t hL t (m % n) n (by omega) hn hrl with ih | ih
        · exact .inl (y2t hpos (z4m s1) (y2k s2) hd ih)
        · exact .inr (y2t hpos (z4m s1) (y2k s2) hd ih)
    · rw [e]
      have hs:∃ v b,Fn E C8 [.c (.list (Wr (words n)))] (.tup [.c (.u64 v),.c (.bool b)]):=by
       by_cases s2:n<1000000000000000000
       · exact ⟨_,_,z4m s2⟩
       · exact ⟨_,_,y2k s2⟩
      obtain ⟨v,b,hs⟩:=hs
      rcases j4t hL t (m % n) n (by omega) hn hrl with ih | ih
      · exact .inl (y2u hpos (y2k s1) hs hd ih)
      · exact .inr (y2u hpos (y2k s1) hs hd ih)
theorem gcd_ok {m n L:Nat} (hL:L<1099511627776) (hm:(words m).length≤L) (hn:(words n).length≤L):Fn E D1 [.c (.list (Wr (words m))),.c (.list (Wr (words n)))] (.c (.list (Wr (words (Nat.gcd m n))))):=by
 rcases j4t (E:=E) hL (n+1) n m (by omega) hm hn with h | h
 · exact k3q h
 · exact k3r h
def x2y (c:UInt8):Bool:=decide (48≤c.toNat) && decide (c.toNat≤57)
def natB (l:List UInt8):Bool:=!l.isEmpty && l.all x2y && (decide (l.length≤1) || !(l.head? == some 48))
theorem k6u {c:UInt8}:x2y c=true↔48≤c.toNat∧c.toNat≤57:=by simp [x2y]
theorem k9g {c:UInt8} (h:c.toNat<48∨57<c.toNat):x2y c=false:=by
 cases hb:x2y c with
 | false=>rfl
 | true=>have:=k6u.1 hb;omega
theorem x6c {l:List UInt8}:natB l=true↔k9c l:=by
 unfold natB k9c Dg
 simp only [Bool.and_eq_true,Bool.not_eq_true',List.isEmpty_eq_false_iff,List.all_eq_true,k6u,Bool.or_eq_true,decide_eq_true_eq,beq_eq_false_iff_ne,and_assoc]
 constructor
 · rintro ⟨h1,h2,h3⟩
   exact ⟨h1,h2,fun h=>h3.resolve_left (by omega)⟩
 · rintro ⟨h1,h2,h3⟩
   refine ⟨h1,h2,?_⟩
   by_cases h:l.length≤1
   · exact .inl h
   · exact .inr (h3 (by omega))
theorem q3o (n:Nat):natB (dec n)=true:=x6c.2 (x7k n)
theorem j2t (l:List UInt8) (i:Nat):(((B l).data.toList.getD (Int.toNat (i:Int)) 0).toNat:Int)=((l.getD i 0).toNat:Int):=by rw [y4y,Int.toNat_natCast]
theorem j6z (l:List UInt8) (hl:l.length<9223372036854775807):∀ d i:Nat,i+d=l.length →
    ((l.drop i).all x2y=true∧Lp E 0 D5 0 (N7 (B l) l.length i) (.exit 0) z5p) ∨
    ((l.drop i).all x2y=false∧Lp E 0 D5 0 (N7 (B l) l.length i) .ret z2m)
 | 0,i,hi=>.inl ⟨by rw [List.drop_eq_nil_of_le (by omega)];rfl,x3t (by omega)⟩
 | d+1,i,hi=>by
  have hd:l.drop i=l.getD i 0::l.drop (i+1):=by
   rw [List.drop_eq_getElem_cons (by omega),List.getD_eq_getElem?_getD,List.getElem?_eq_getElem (by omega)];rfl
  have hlt:0≤(i:Int)∧(i:Int)<(B l).size:=by rw [V3];omega
  rw [hd,List.all_cons]
  by_cases c1:(l.getD i 0).toNat<48
  · have:x2y (l.getD i 0)=false:=k9g (by omega)
    exact .inr ⟨by rw [this];rfl,x3r (j2t l i) (by omega) hlt (by omega)⟩
  · by_cases c2:(l.getD i 0).toNat>57
    · have:x2y (l.getD i 0)=false:=k9g (by omega)
      exact .inr ⟨by rw [this];rfl,x3s (j2t l i) (by omega) hlt (by omega) (by omega)⟩
    · have:x2y (l.getD i 0)=true:=k6u.2 (by omega)
      rw [this,Bool.true_and]
      rcases j6z l hl d (i+1) (by omega) with ⟨h1,h2⟩ | ⟨h1,h2⟩
      · exact .inl ⟨h1,y5r (j2t l i) (wi (by omega)) (by omega) hlt (by omega) (by omega) h2⟩
      · exact .inr ⟨h1,y5r (j2t l i) (wi (by omega)) (by omega) hlt (by omega) (by omega) h2⟩
theorem q9o {l:List UInt8} (h:l≠[]):¬ B l=(⟨#[]⟩:BA):=fun e=>h (y5p (e.trans q9p.symm))
theorem z2c (l:List UInt8) (hl:l.length<9223372036854775807):Fn E D5 [.c (.str (B l))] (.c (.bool (natB l))):=by
 cases l with
 | nil=>exact j0d q9p
 | cons c m =>
  have hne:=q9o (l:=c::m) (by simp)
  have h0:(((B (c::m)).data.toList.getD 0 0).toNat:Int)=(c.toNat:Int):=by rw [y4y];rfl
  have hloop:=j6z (E:=E) (c::m) hl (c::m).length 0 (by omega)
  simp only [List.drop_zero] at hloop
  by_cases h1:1<(c::m).length
  · have hlt:0≤(0:Int)∧(0:Int)<(B (c::m)).size:=by rw [V3];omega
    by_cases h2:c.toNat=48
    · have hc:c=48:=UInt8.toNat_inj.1 h2
      have e:natB (c::m)=false:=by
       unfold natB
       have:decide ((c::m).length≤1)=false:=decide_eq_false (by omega)
       rw [this];subst hc;simp
      rw [e]
      exact j0e h0 hne (by rw [V3];omega) hlt (by omega)
    · have hc:¬ c=48:=fun e=>h2 (by rw [e];rfl)
      have e:natB (c::m)=(c::m).all x2y:=by
       unfold natB
       have:((c::m).head? == some 48)=false:=by simp [hc]
       rw [this];simp
      rw [e]
      rcases hloop with ⟨g1,g2⟩ | ⟨g1,g2⟩
      · rw [g1];exact j0g h0 hne (by rw [V3];omega) hlt (by omega) (by rw [V3];exact g2)
      · rw [g1];exact j0f h0 hne (by rw [V3];omega) hlt (by omega) (by rw [V3];exact g2)
  · have e:natB (c::m)=(c::m).all x2y:=by
     unfold natB
     have:decide ((c::m).length≤1)=true:=decide_eq_true (by omega)
     rw [this];simp
    rw [e]
    rcases hloop with ⟨g1,g2⟩ | ⟨g1,g2⟩
    · rw [g1];exact j0i hne (by rw [V3];omega) (by rw [V3];exact g2)
    · rw [g1];exact j0h hne (by rw [V3];omega) (by rw [V3];exact g2)
theorem Dg.take {l:List UInt8} (h:Dg l) (n:Nat):Dg (l.take n):=fun c hc=>h c (List.mem_of_mem_take hc)
theorem Dg.drop {l:List UInt8} (h:Dg l) (n:Nat):Dg (l.drop n):=fun c hc=>h c (List.mem_of_mem_drop hc)
theorem j6q:(10:Nat) ^ 9=1000000000:=by decide
theorem q0b (hlib:Lib E) {l:List UInt8} (hd:Dg l) (hl:l.length<10000000000000):∀ (t i:Nat) (ws:List Int) (n:Nat),n≤t→n≤l.length→9*i≤l.length+8→ws.length=i→(0<n→n+9*i=l.length)→Wd ws→wv ws+pw i*(dval (l.take n):Int)=dval l →
    ∃ ws',Lp E 0 X8 0 (z6p (B (l.take n)) i (Wr ws)) (.exit 0) (y1y ws'.length (Wr ws'))∧Wd ws'∧wv ws'=dval l∧ws'.length≤l.length+8
 | t,i,ws,0,_,_,hi,hw,_,hwd,hv=>by
  rw [List.take_zero,show dval []=0 from rfl] at hv
  exact ⟨ws,by rw [hw];exact x6j (by rw [V3];simp),hwd,by simpa using hv,by omega⟩
 | 0,i,ws,n+1,h,_,_,_,_,_,_=>by omega
 | t+1,i,ws,n+1,hn,hnl,hi,hw,hni,hwd,hv=>by
  obtain ⟨at',ha⟩:∃ a,a=n+1-9:=⟨_,rfl⟩
  have hlen:(l.take (n+1)).length=n+1:=by simp;omega
  obtain ⟨p,hp⟩:∃ p,p=(l.take (n+1)).drop at':=⟨_,rfl⟩
  have hpd:Dg p:=by rw [hp];exact Dg.drop (Dg.take hd _) _
  have hpl:p.length=n+1-at':=by rw [hp,List.length_drop,hlen]
  have hval:dval p<1000000000:=by
   have:=q1d hpd
   have h9:(10:Nat) ^ p.length≤10 ^ 9:=Nat.pow_le_pow_right (by decide) (by omega)
   rw [j6q] at h9
   omega
  have hsplit:l.take (n+1)=l.take at'++p:=by
   rw [hp]
   have:=(List.take_append_drop at' (l.take (n+1))).symm
   rwa [List.take_take,Nat.min_eq_left (by omega)] at this
  have hvs:wv (ws++[(dval p:Int)])+pw (i+1)*(dval (l.take at'):Int)=dval l:=by
   rw [y4x,hw,y6d]
   rw [hsplit,y8f] at hv
   by_cases h9:p.length=9
   · rw [h9,j6q] at hv
     have e:((dval (l.take at')*1000000000+dval p:Nat):Int)=1000000000*(dval (l.take at'):Int)+dval p:=by omega
     rw [e] at hv
     grind
   · have:at'=0:=by omega
     subst this
     rw [List.take_zero,show dval []=0 from rfl] at hv ⊢
     rw [show ((0*10 ^ p.length+dval p:Nat):Int)=(dval p:Int) by simp] at hv
     simp
     omega
  obtain ⟨ws',k1,k2,k3,k4⟩:=q0b hlib hd hl t (i+1) (ws++[(dval p:Int)]) at' (by omega) (by omega) (by omega) (by simp [hw]) (by omega) (hwd.append (Wd.cons (by omega) (by omega) Wd.nil)) hvs
  refine ⟨ws',?_,k2,k3,k4⟩
  have hsz:((B (l.take (n+1))).size:Int)=((n+1:Nat):Int):=by rw [V3,hlen]
  refine k1l (i0:=((n+1:Nat):Int)-9) (i1:=(at':Int)) (s1:=B p) (i2:=(dval p:Int)) (i3:=(dval p:Int)) (r2:=Wr (ws++[(dval p:Int)])) (n2:=i+1) (s2:=B (l.take at'))
   (wi (by rw [hsz];omega)) (by split <;> omega) (by rw [hsz,Int.toNat_natCast,Int.toNat_natCast,j8w,List.take_of_length_le (by omega),hp]) (w32 (by omega)) (by rw [z7o,← hw,List.take_length,k2g]) rfl (by rw [Int.toNat_natCast,j8w,List.drop_zero,List.take_take,Nat.min_eq_left (by omega)])
   (by rw [hsz];omega) (by rw [V3,hlen];omega) (hlib.parseUint p hpd (by omega) (by omega)) (by omega) (by rw [V3,hlen];omega) k1
theorem q7m (hlib:Lib E) {l:List UInt8} (hd:Dg l) (hl:l.length<10000000000000):Fn E X8 [.c (.str (B l))] (.c (.list (Wr (words (dval l))))):=by
 obtain ⟨ws,k1,k2,k3,k4⟩:=q0b (E:=E) hlib hd hl l.length 0 [] l.length (Nat.le_refl _) (Nat.le_refl _) (by omega) rfl (by omega) Wd.nil (by rw [List.take_length,q2c];simp [wv])
 rw [List.take_length] at k1
 have h:=z8y k2 (k:=ws.length) (Nat.le_refl _)
 rw [List.take_length,k3,Int.toNat_natCast] at h
 exact j5t (by rw [z7o,h]) k1 (x1c (Nat.le_refl _) (by omega))
theorem q0z {n K:Nat} (h:n<10 ^ K):(dec n).length≤K+1:=by
 rcases Nat.eq_zero_or_pos K with rfl | hK
 · have:n=0:=by simpa using h
   subst this;rw [z6n];simp
 · exact Nat.le_succ_of_le (dec_length h hK)
theorem z2x:Lim=1000000000:=rfl
theorem x7j (hlib:Lib E) {a b K L:Nat} (ha:a<10 ^ K) (hb:b<10 ^ L) (hK:K≤Lim) (hL:L≤Lim):Fn E z0m [.c (.str (B (dec a))),.c (.str (B (dec b)))] (.tup [.c (.list (Wr (words a))),.c (.list (Wr (words b))),.c (.i64 0)]):=by
 have h1:=q0z ha
 have h2:=q0z hb
 rw [z2x] at hK hL
 have v1:=z2c (E:=E) (dec a) (by omega)
 have v2:=z2c (E:=E) (dec b) (by omega)
 have r1:=q7m hlib (y6z a) (by omega)
 have r2:=q7m hlib (y6z b) (by omega)
 rw [q3o] at v1 v2
 rw [z4g] at r1 r2
 exact j5s v1 v2 r1 r2
theorem k1i (hlib:Lib E) {a b K L:Nat} (ha:a<10 ^ K) (hb:b<10 ^ L) (hK:K≤Lim) (hL:L≤Lim):Fn E y1o [.c (.str (B (dec a))),.c (.str (B (dec b)))] (.tup [.c (.i64 (cmpI a b)),.c (.i64 0)]):=by
 have w1:=y0h ha
 have hK':=hK
 rw [z2x] at hK'
 exact k3p (x7j hlib ha hb hK hL) rfl (y6y (by omega))
theorem z8o {a K M:Nat} (h:a<10 ^ K) (k:K≤M):a<10 ^ M:=Nat.lt_of_lt_of_le h (Nat.pow_le_pow_right (by decide) k)
theorem q5d {a b K:Nat} (h:a<10 ^ K) (k:b<10 ^ K):a+b<10 ^ (K+1):=by rw [Nat.pow_succ];omega
theorem x6d (hlib:Lib E) {a b K L:Nat} (ha:a<10 ^ K) (hb:b<10 ^ L) (hK:K≤Lim) (hL:L≤Lim):Fn E y4c [.c (.str (B (dec a))),.c (.str (B (dec b)))] (.tup [.c (.str (B (dec (a+b)))),.c (.i64 0)]):=by
 have w1:=y0h ha
 have w2:=y0h hb
 have hK':=hK
 have hL':=hL
 rw [z2x] at hK' hL'
 have hs:=q5d (z8o ha (show K≤max K L by omega)) (z8o hb (show L≤max K L by omega))
 exact j8i (x7j hlib ha hb hK hL) rfl (y1k (v4c (by omega) (by omega)) (hlib.text _ _ hs (by omega)))
theorem y7i (hlib:Lib E) {a b K L:Nat} (ha:a<10 ^ K) (hb:b<10 ^ L) (hK:K≤Lim) (hL:L≤Lim) (hab:b≤a):Fn E z9y [.c (.str (B (dec a))),.c (.str (B (dec b)))] (.tup [.c (.str (B (dec (a-b)))),.c (.i64 0)]):=by
 have w1:=y0h ha
 have hK':=hK
 rw [z2x] at hK'
 exact j8l (x7j hlib ha hb hK hL) rfl (y6y (by omega)) (fun h=>by have:=k2t.1 h;omega) (y0o (v1b (by omega) hab) (hlib.text _ _ (Nat.lt_of_le_of_lt (Nat.sub_le _ _) ha) (by omega)))
theorem y7h (hlib:Lib E) {a b K L:Nat} (ha:a<10 ^ K) (hb:b<10 ^ L) (hKL:K+L≤Lim):Fn E z3k [.c (.str (B (dec a))),.c (.str (B (dec b)))] (.tup [.c (.str (B (dec (a*b)))),.c (.i64 0)]):=by
 have w1:=y0h ha
 have w2:=y0h hb
 have hK':=hKL
 rw [z2x] at hK'
 exact j8k (x7j hlib ha hb (by omega) (by omega)) rfl (y0p (v2u (by omega)) (hlib.text _ _ (z5o ha hb) (by omega)))
theorem y8i (hlib:Lib E) {a b K L:Nat} (ha:a<10 ^ K) (hb:b<10 ^ L) (hK:K≤Lim) (hL:L≤Lim)(h0:b≠0):Fn E z2a [.c (.str (B (dec a))),.c (.str (B (dec b)))] (.tup [.c (.str (B (dec (a / b)))),.c (.str (B (dec (a % b)))),.c (.i64 0)]):=by
 have w1:=y0h ha
 have hK':=hK
 rw [z2x] at hK'
 have hne:((Wr (words b)).length:Int)≠0:=by
  have:words b≠[]:=fun h=>h0 (x7z.1 h)
  have:=x7q this
  rw [G5];omega
 exact k6z (x7j hlib ha hb hK hL) rfl hne (j9f h0 (by omega)) (hlib.text _ _ (Nat.lt_of_le_of_lt (Nat.div_le_self _ _) ha) (by omega)) (hlib.text _ _ (Nat.lt_of_le_of_lt (Nat.mod_le _ _) ha) (by omega))
theorem j5r (hlib:Lib E) {a b K L:Nat} (ha:a<10 ^ K) (hb:b<10 ^ L) (hK:K≤Lim) (hL:L≤Lim) (hp:0<a∨0<b):Fn E y8t [.c (.str (B (dec a))),.c (.str (B (dec b)))] (.tup [.c (.str (B (dec (Nat.gcd a b)))),.c (.i64 0)]):=by
 have w1:=y0h ha
 have w2:=y0h hb
 have hK':=hK
 have hL':=hL
 rw [z2x] at hK' hL'
 have hg:Nat.gcd a b<10 ^ max K L:=by
  rcases hp with h | h
  · exact Nat.lt_of_le_of_lt (Nat.gcd_le_left b h) (z8o ha (by omega))
  · exact Nat.lt_of_le_of_lt (Nat.gcd_le_right a h) (z8o hb (by omega))
 exact j8j (x7j hlib ha hb hK hL) rfl (y1x (gcd_ok (L:=max K L) (by omega) (by omega) (by omega)) (hlib.text _ _ hg (by omega)))
end Gev
