/- A part of the proof: see the last text of this claim. -/
import Derived.Test.YtpjlnfpbkhcobaaGreatDoorB
set_option linter.unusedSectionVars false
set_option linter.unusedVariables false
set_option linter.unusedSimpArgs false
namespace Gev
open Go Go.Proofs
variable {E:Env}
variable {o:Out} {t:St} {r0 r1 r2 r3 r4 r5 r6 r7 r8 r9 r10 r11 r13 r15 r17 r18 r19 r20:RW} {i0 i1 i2 i3 i4 i5 i6 i7 i8 i9 i10 i11 i12 i13 i14 i15 i16 i17 i18 i19 i20 i21 i22 i23 i24 i25 i26 i27 i28 i29 i30 i31:Int} {n0 n1 n2 n3 n4 n5 n6 n7 n8 n9 n10:Nat} {s0 s1 s2 s3:BA} {b0 b1 b2:Bool}
theorem q8s (h1:Fn E D8 [.s s0] (.b true))(h2:Fn E D8 [.s s1] (.b true))(h3:Fn E z0w [.s s0] (.l r0))(h4:Fn E z0w [.s s1] (.l r1)):Fn E z2l [.s s0,.s s1] (.tup [.l r0,.l r1,.i 0]):=fnM (oF h1 (oF h2 (oF h3 (oF h4 oZ))))
theorem v2r (h1:Fn E z2l [.s s0,.s s1] (.tup [.l r0,.l r1,.i i0]))(h2:i0=0)(h3:Fn E z1l [.mv D3 [.l r0],.l r1] (.tup [.s s2,.i i1])):Fn E z6e [.s s0,.s s1] (.tup [.s s2,.i i1]):=fnM (oF h1 (oC (bnF h2) (oF h3 oZ)))
def U1 (s0:BA) (i0 i1:Int):St:=stOf 32 [(0,.s s0),(17,.i i0),(18,.i i1)] []
def z4t:St:=stOf 32 [(2,.b false)] []
def z8t:St:=stOf 32 [] []
section
variable (e1:((s0.data.toList.getD (Int.toNat i1) 0).toNat:Int)=i2)
include e1
theorem x1c (e2:IntKind.i64.wrap (i1+1)=i3)(h1:i1<i0)(h2:0≤i1∧i1<s0.size)(h3:¬ i2<48)(h4:¬ i2>57)(ih:Lp E 0 D8 0 (U1 s0 i0 i3) o t):Lp E 0 D8 0 (U1 s0 i0 i1) o t:=by subst e1 e2;exact lpM (oT h1 (oP h2 (oU h3 (oP h2 (oU h4 oZ))))) ih
section
variable (h1:i1<i0)(h2:0≤i1∧i1<s0.size)
include h1 h2
theorem k0e (h3:i2<48):Lp E 0 D8 0 (U1 s0 i0 i1) .ret (z4t):=by subst e1;exact lpX (oT h1 (oP h2 (oT h3 oZ)))
theorem k0f (h3:¬ i2<48)(h4:i2>57):Lp E 0 D8 0 (U1 s0 i0 i1) .ret (z4t):=by subst e1;exact lpX (oT h1 (oP h2 (oU h3 (oP h2 (oT h4 oZ)))))
end
end
theorem k0g (h1:¬ i1<i0):Lp E 0 D8 0 (U1 s0 i0 i1) (.exit 0) (z8t):=lpX (oU h1 oZ)
theorem q2v (h1:s0=(⟨#[]⟩:BA)):Fn E D8 [.s s0] (.b false):=fnM (oB (seT h1) oZ)
section
variable (e1:((s0.data.toList.getD 0 0).toNat:Int)=i0)(h1:¬ s0=(⟨#[]⟩:BA))(h2:(s0.size:Int)>1)(h3:0≤(0:Int)∧(0:Int)<s0.size)
include e1 h1 h2 h3
theorem q2w (h4:i0=48):Fn E D8 [.s s0] (.b false):=by subst e1;exact fnM (oC (seF h1) (oT h2 (oP h3 (oB (beT h4) oZ))))
theorem q2x (h4:¬ i0=48)(h5:Lp E 0 D8 0 (U1 s0 (s0.size:Int) 0) .ret (z4t)):Fn E D8 [.s s0] (.b false):=by subst e1;exact fnM (oC (seF h1) (oT h2 (oP h3 (oC (beF h4) (oL h5 oZ)))))
theorem q2y (h4:¬ i0=48)(h5:Lp E 0 D8 0 (U1 s0 (s0.size:Int) 0) (.exit 0) (z8t)):Fn E D8 [.s s0] (.b true):=by subst e1;exact fnM (oC (seF h1) (oT h2 (oP h3 (oC (beF h4) (oL h5 oZ)))))
end
section
variable (h1:¬ s0=(⟨#[]⟩:BA))(h2:¬ (s0.size:Int)>1)
include h1 h2
theorem q2z (h3:Lp E 0 D8 0 (U1 s0 (s0.size:Int) 0) .ret (z4t)):Fn E D8 [.s s0] (.b false):=fnM (oC (seF h1) (oU h2 (oL h3 oZ)))
theorem q3a (h3:Lp E 0 D8 0 (U1 s0 (s0.size:Int) 0) (.exit 0) (z8t)):Fn E D8 [.s s0] (.b true):=fnM (oC (seF h1) (oU h2 (oL h3 oZ)))
end
def z9s (s0:BA) (n0:Nat) (r0:RW):St:=stOf 31 [(0,.s s0),(3,.vec 0 n0)] [sV A4 r0]
def y6d (n1:Nat) (r1:RW):St:=stOf 31 [(3,.vec 0 n1)] [sV A4 r1]
theorem j1h (e1:IntKind.i64.wrap ((s0.size:Int)-9)=i0)(e2:(if 0>i0 then 0 else i0)=i1)(e3:s0.extract (Int.toNat i1) (Int.toNat (s0.size:Int))=s1)(e4:IntKind.u32.wrap i2=i3)(e5:(r0.take n0)++[[.w i3]]=r2)(e6:n0+1=n2)(e7:s0.extract 0 (Int.toNat i1)=s2)(h1:(s0.size:Int)>0)(h2:0≤i1∧i1≤(s0.size:Int)∧(s0.size:Int)≤s0.size)(h3:Fn E y3g [.s s1,.i 10,.i 32] (.tup [.c (.u64 i2),.undef]))(h4:(n0+1)*4≤140737488355328∧n0+1≤140737488355328)(h5:0≤(0:Int)∧(0:Int)≤i1∧i1≤s0.size)(ih:Lp E 0 z0w 0 (z9s s2 n2 r2) o t):Lp E 0 z0w 0 (z9s s0 n0 r0) o t:=by subst e1 e2 e3 e4 e5 e6 e7;exact lpM (oT h1 (oP h2 (oF h3 (oP (show ∀ y∈([[.w (IntKind.u32.wrap i2)]]:RW),y.length=1 from by simp) (oP h4 (oP h5 oZ)))))) ih
theorem k3o (h1:¬ (s0.size:Int)>0):Lp E 0 z0w 0 (z9s s0 n0 r0) (.exit 0) (y6d n0 r0):=lpX (oU h1 oZ)
theorem q8t (e1:(r0.take n1)=r1)(h1:Lp E 0 z0w 0 (z9s s0 0 []) (.exit 0) (y6d n0 r0))(h2:Rn E C4 [.vec 0 n0] [sV A4 r0] (.vec 0 n1) [sV A4 r0]):Fn E z0w [.s s0] (.l r1):=by subst e1;exact fnM (oM [(3,A4)] h1 (oR h2 oZ))
theorem y4m (h1:Fn E D3 [.l r0,.l r1] (.l r2))(h2:Fn E V4 [.l r2] (.s s0)):Fn E z1l [.mv D3 [.l r0],.l r1] (.tup [.s s0,.i 0]):=fnM (oF h1 (oF h2 oZ))
theorem j8t (h1:Fn E z2l [.s s0,.s s1] (.tup [.l r0,.l r1,.i i0]))(h2:i0=0)(h3:¬ (r1.length:Int)=0)(h4:Fn E A8 [.l r0,.l r1] (.tup [.l r2,.l r3]))(h5:Fn E V4 [.l r2] (.s s2))(h6:Fn E V4 [.l r3] (.s s3)):Fn E z4f [.s s0,.s s1] (.tup [.s s2,.s s3,.i 0]):=fnM (oF h1 (oC (bnF h2) (oC (beF h3) (oF h4 (oF h5 (oF h6 oZ))))))
def z1g (n0:Nat) (r0:RW):St:=stOf 21 [(0,.vec 0 n0)] [sV A4 r0]
def z5g (r0:RW) (n1:Nat):St:=stOf 21 [(0,.vec 0 n1)] [sV A4 r0]
section
variable (e1:IntKind.i64.wrap (((n0:Nat):Int)-1)=i0)
include e1
theorem x8a (e2:(Int.toNat i0)=n2)(h1:((n0:Nat):Int)>0)(h2:0≤i0∧i0<((n0:Nat):Int))(h3:r0[(Int.toNat i0)]?=some [.w i1])(h4:i1=0)(h5:0≤i0∧i0≤((n0:Nat):Int))(ih:Lp E 1 C4 0 (z1g n2 r0) o t):Lp E 1 C4 0 (z1g n0 r0) o t:=by subst e1 e2;exact lpM (oT h1 (oP h2 (oD h3 (oB (beT h4) (oP h5 oZ))))) ih
theorem x4x (h1:((n0:Nat):Int)>0)(h2:0≤i0∧i0<((n0:Nat):Int))(h3:r0[(Int.toNat i0)]?=some [.w i1])(h4:¬ i1=0):Lp E 1 C4 0 (z1g n0 r0) (.exit 0) (z5g r0 n0):=by subst e1;exact lpX (oT h1 (oP h2 (oD h3 (oC (beF h4) oZ))))
end
theorem x4y (h1:¬ ((n0:Nat):Int)>0):Lp E 1 C4 0 (z1g n0 r0) (.exit 0) (z5g r0 n0):=lpX (oU h1 oZ)
theorem j1g (h1:Lp E 1 C4 0 (z1g n0 r0) (.exit 0) (z5g r0 n1)):Rn E C4 [.vec 0 n0] [sV A4 r0] (.vec 0 n1) [sV A4 r0]:=rnM (oL h1 oZ)
def z2o (r0:RW) (n0:Nat) (i0 i1 i2:Int) (r1:RW) (i3 i4:Int) (r2:RW) (i5 i6:Int) (r3:RW):St:=stOf 68 [(1,.l r0),(5,.vec 0 n0),(6,.i i0),(7,.w i1),(8,.c (.u64 i2)),(17,.l r1),(18,.i i3),(19,.i i4),(24,.l r2),(25,.i i5),(26,.i i6)] [sV A4 r3]
def z8v (r0:RW) (n0:Nat) (i0:Int) (r1:RW) (i3 i4 i7:Int) (r4:RW):St:=stOf 68 [(1,.l r0),(5,.vec 0 n0),(6,.i i0),(8,.c (.u64 i7)),(17,.l r1),(18,.i i3),(19,.i i4)] [sV A4 r4]
theorem x6p (e1:IntKind.u64.wrap i1=i9)(e2:IntKind.u64.wrap i8=i10)(e3:IntKind.u64.wrap (i9*i10)=i11)(e4:IntKind.i64.wrap (i0+i6)=i12)(e5:IntKind.u64.wrap i13=i14)(e6:IntKind.u64.wrap (i11+i14)=i15)(e7:IntKind.u64.wrap (i2+i15)=i16)(e8:Int.tmod i16 1000000000=i17)(e9:IntKind.u32.wrap i17=i18)(e10:List.set r3 (Int.toNat i12) [.w i18]=r5)(e11:IntKind.u64.wrap (Int.tdiv i16 1000000000)=i19)(e12:IntKind.i64.wrap (i6+1)=i20)(h1:i6<i5)(h2:0≤i6)(h3:r2[(Int.toNat i6)]?=some [.w i8])(h4:0≤i12∧i12<((n0:Nat):Int))(h5:r3[(Int.toNat i12)]?=some [.w i13])(ih:Lp E 1 D3 1 (z2o r0 n0 i0 i1 i19 r1 i3 i4 r2 i5 i20 r5) o t):Lp E 1 D3 1 (z2o r0 n0 i0 i1 i2 r1 i3 i4 r2 i5 i6 r3) o t:=by subst e1 e2 e3 e4 e5 e6 e7 e8 e9 e10 e11 e12;exact lpM (oT h1 (oP h2 (oD h3 (oP h4 (oD h5 (oP (show (1000000000:Int)≠0 from by decide) (oP h4 (oD h5 (oP (show (1000000000:Int)≠0 from by decide) oZ))))))))) ih
theorem x3q (h1:¬ i6<i5):Lp E 1 D3 1 (z2o r0 n0 i0 i1 i2 r1 i3 i4 r2 i5 i6 r3) (.exit 2) (z8v r0 n0 i0 r1 i3 i4 i2 r3):=lpX (oU h1 oZ)
def z2n (r0:RW) (n0:Nat) (r1:RW) (i0 i1:Int) (r2:RW):St:=stOf 68 [(1,.l r0),(5,.vec 0 n0),(17,.l r1),(18,.i i0),(19,.i i1)] [sV A4 r2]
def z8u (n0:Nat) (r3:RW):St:=stOf 68 [(5,.vec 0 n0)] [sV A4 r3]
theorem x6o (e1:IntKind.i64.wrap (i1+(r0.length:Int))=i4)(e2:IntKind.u32.wrap i3=i5)(e3:List.set r4 (Int.toNat i4) [.w i5]=r5)(e4:IntKind.i64.wrap (i1+1)=i7)(h1:i1<i0)(h2:0≤i1)(h3:r1[(Int.toNat i1)]?=some [.w i2])(h4:Lp E 1 D3 1 (z2o r0 n0 i1 i2 0 r1 i0 i1 r0 (r0.length:Int) 0 r2) (.exit 2) (z8v r0 n0 i1 r1 i0 i1 i3 r4))(h5:0≤i4∧i4<((n0:Nat):Int))(h6:r4[(Int.toNat i4)]?=some [.w i6])(ih:Lp E 1 D3 0 (z2n r0 n0 r1 i0 i7 r5) o t):Lp E 1 D3 0 (z2n r0 n0 r1 i0 i1 r2) o t:=by subst e1 e2 e3 e4;exact lpM (oT h1 (oP h2 (oD h3 (oL h4 (oP h5 (oD h6 oZ)))))) ih
theorem x3p (h1:¬ i1<i0):Lp E 1 D3 0 (z2n r0 n0 r1 i0 i1 r2) (.exit 0) (z8u n0 r2):=lpX (oU h1 oZ)
theorem k7j (e1:IntKind.i64.wrap ((r0.length:Int)+(r1.length:Int))=i0)(e2:Int.toNat i0=n0)(e3:List.replicate n0 [.w 0]=r2)(h1:0≤i0∧i0≤i0∧(Int.toNat i0)*4≤140737488355328∧(Int.toNat i0)≤140737488355328)(h2:Lp E 1 D3 0 (z2n r1 n0 r0 (r0.length:Int) 0 r2) (.exit 0) (z8u n0 r3))(h3:Rn E C4 [.vec 0 n0] [sV A4 r3] (.vec 0 n1) [sV A4 r3]):Rn E D3 [.l r0,.l r1] [] (.vec 0 n1) [sV A4 r3]:=by subst e1 e2 e3;exact rnM (oP h1 (oL h2 (oR h3 oZ)))
theorem v2q (h1:Fn E z2l [.s s0,.s s1] (.tup [.l r0,.l r1,.i i0]))(h2:i0=0)(h3:Fn E z1l [.mv D5 [.l r0],.l r1] (.tup [.s s2,.i i1])):Fn E x4o [.s s0,.s s1] (.tup [.s s2,.i i1]):=fnM (oF h1 (oC (bnF h2) (oF h3 oZ)))
def H8 (r0:RW) (n0 n1:Nat) (i0:Int) (n2:Nat) (i1 i2 i3:Int) (r1 r2 r3 r4:RW):St:=stOf 299 [(10,.l r0),(11,.vec 2 n0),(12,.vec 3 n1),(13,.i i0),(14,.vec 4 n2),(15,.i i1),(17,.c (.u64 i2)),(18,.c (.u64 i3))] [some .dead,sV A4 r1,sV A4 r2,sV A4 r3,sV A4 r4]
def O6 (r0:RW) (n0 n1:Nat) (i0:Int) (n2:Nat) (i1:Int) (r1 r2 r3 r4:RW) (i4:Int):St:=stOf 299 [(10,.l r0),(11,.vec 2 n0),(12,.vec 3 n1),(13,.i i0),(14,.vec 4 n2),(15,.i i1),(17,.c (.u64 i4))] [some .dead,sV A4 r1,sV A4 r2,sV A4 r3,sV A4 r4]
theorem x3k (e1:IntKind.u64.wrap (i2-1)=i5)(e2:IntKind.i64.wrap (i0-1)=i6)(e3:IntKind.u64.wrap i7=i8)(e4:IntKind.u64.wrap (i3+i8)=i9)(h1:i2≥1000000000)(h2:0≤i6∧i6<((n1:Nat):Int))(h3:r3[(Int.toNat i6)]?=some [.w i7])(h4:¬ i9≥1000000000)(ih:Lp E 5 A8 1 (H8 r0 n0 n1 i0 n2 i1 i5 i9 r1 r2 r3 r4) o t):Lp E 5 A8 1 (H8 r0 n0 n1 i0 n2 i1 i2 i3 r1 r2 r3 r4) o t:=by subst e1 e2 e3 e4;exact lpM (oT h1 (oP h2 (oD h3 (oU h4 oZ)))) ih
theorem x3l (e1:IntKind.i64.wrap (i0-2)=i5)(e2:IntKind.u64.wrap i6=i7)(e3:IntKind.u64.wrap (i2*i7)=i8)(e4:IntKind.u64.wrap (i3*1000000000)=i9)(e5:IntKind.i64.wrap (i1+i0)=i10)(e6:IntKind.i64.wrap (i10-2)=i11)(e7:IntKind.u64.wrap i12=i13)(e8:IntKind.u64.wrap (i9+i13)=i14)(e9:IntKind.u64.wrap (i2-1)=i15)(e10:IntKind.i64.wrap (i0-1)=i16)(e11:IntKind.u64.wrap i17=i18)(e12:IntKind.u64.wrap (i3+i18)=i19)(h1:¬ i2≥1000000000)(h2:0≤i5∧i5<((n1:Nat):Int))(h3:r3[(Int.toNat i5)]?=some [.w i6])(h4:0≤i11∧i11<((n0:Nat):Int))(h5:r2[(Int.toNat i11)]?=some [.w i12])(h6:i8>i14)(h7:0≤i16∧i16<((n1:Nat):Int))(h8:r3[(Int.toNat i16)]?=some [.w i17])(h9:¬ i19≥1000000000)(ih:Lp E 5 A8 1 (H8 r0 n0 n1 i0 n2 i1 i15 i19 r1 r2 r3 r4) o t):Lp E 5 A8 1 (H8 r0 n0 n1 i0 n2 i1 i2 i3 r1 r2 r3 r4) o t:=by subst e1 e2 e3 e4 e5 e6 e7 e8 e9 e10 e11 e12;exact lpM (oU h1 (oP h2 (oD h3 (oP h4 (oD h5 (oT h6 (oP h7 (oD h8 (oU h9 oZ))))))))) ih
theorem x1m (e1:IntKind.u64.wrap (i2-1)=i5)(e2:IntKind.i64.wrap (i0-1)=i6)(e3:IntKind.u64.wrap i7=i8)(e4:IntKind.u64.wrap (i3+i8)=i9)(h1:i2≥1000000000)(h2:0≤i6∧i6<((n1:Nat):Int))(h3:r3[(Int.toNat i6)]?=some [.w i7])(h4:i9≥1000000000):Lp E 5 A8 1 (H8 r0 n0 n1 i0 n2 i1 i2 i3 r1 r2 r3 r4) (.exit 3) (O6 r0 n0 n1 i0 n2 i1 r1 r2 r3 r4 i5):=by subst e1 e2 e3 e4;exact lpX (oT h1 (oP h2 (oD h3 (oT h4 oZ))))
section
variable (e1:IntKind.i64.wrap (i0-2)=i5)(e2:IntKind.u64.wrap i6=i7)(e3:IntKind.u64.wrap (i2*i7)=i8)(e4:IntKind.u64.wrap (i3*1000000000)=i9)(e5:IntKind.i64.wrap (i1+i0)=i10)(e6:IntKind.i64.wrap (i10-2)=i11)(e7:IntKind.u64.wrap i12=i13)(e8:IntKind.u64.wrap (i9+i13)=i14)
include e1 e2 e3 e4 e5 e6 e7 e8
theorem x1n (e9:IntKind.u64.wrap (i2-1)=i15)(e10:IntKind.i64.wrap (i0-1)=i16)(e11:IntKind.u64.wrap i17=i18)(e12:IntKind.u64.wrap (i3+i18)=i19)(h1:¬ i2≥1000000000)(h2:0≤i5∧i5<((n1:Nat):Int))(h3:r3[(Int.toNat i5)]?=some [.w i6])(h4:0≤i11∧i11<((n0:Nat):Int))(h5:r2[(Int.toNat i11)]?=some [.w i12])(h6:i8>i14)(h7:0≤i16∧i16<((n1:Nat):Int))(h8:r3[(Int.toNat i16)]?=some [.w i17])(h9:i19≥1000000000):Lp E 5 A8 1 (H8 r0 n0 n1 i0 n2 i1 i2 i3 r1 r2 r3 r4) (.exit 3) (O6 r0 n0 n1 i0 n2 i1 r1 r2 r3 r4 i15):=by subst e1 e2 e3 e4 e5 e6 e7 e8 e9 e10 e11 e12;exact lpX (oU h1 (oP h2 (oD h3 (oP h4 (oD h5 (oT h6 (oP h7 (oD h8 (oT h9 oZ)))))))))
theorem x1o (h1:¬ i2≥1000000000)(h2:0≤i5∧i5<((n1:Nat):Int))(h3:r3[(Int.toNat i5)]?=some [.w i6])(h4:0≤i11∧i11<((n0:Nat):Int))(h5:r2[(Int.toNat i11)]?=some [.w i12])(h6:¬ i8>i14):Lp E 5 A8 1 (H8 r0 n0 n1 i0 n2 i1 i2 i3 r1 r2 r3 r4) (.exit 3) (O6 r0 n0 n1 i0 n2 i1 r1 r2 r3 r4 i2):=by subst e1 e2 e3 e4 e5 e6 e7 e8;exact lpX (oU h1 (oP h2 (oD h3 (oP h4 (oD h5 (oU h6 oZ))))))
end
def H9 (r0:RW) (n0 n1:Nat) (i0:Int) (n2:Nat) (i1 i2 i3 i4 i5 i6:Int) (r1 r2 r3 r4:RW):St:=stOf 299 [(10,.l r0),(11,.vec 2 n0),(12,.vec 3 n1),(13,.i i0),(14,.vec 4 n2),(15,.i i1),(17,.c (.u64 i2)),(19,.i i3),(20,.i i4),(180,.i i5),(181,.i i6)] [some .dead,sV A4 r1,sV A4 r2,sV A4 r3,sV A4 r4]
def Z9 (r0:RW) (n0 n1:Nat) (i0:Int) (n2:Nat) (i1 i2:Int) (r1 r3 r4:RW) (i7 i8:Int) (r5:RW):St:=stOf 299 [(10,.l r0),(11,.vec 2 n0),(12,.vec 3 n1),(13,.i i0),(14,.vec 4 n2),(15,.i i1),(17,.c (.u64 i2)),(19,.i i7),(20,.i i8)] [some .dead,sV A4 r1,sV A4 r5,sV A4 r3,sV A4 r4]
section
variable (e1:IntKind.i64.wrap i2=i9)(e2:IntKind.i64.wrap i10=i11)(e3:IntKind.i64.wrap (i9*i11)=i12)(e4:IntKind.i64.wrap (i12+i3)=i13)(e5:IntKind.i64.wrap (Int.tdiv i13 1000000000)=i14)(e6:IntKind.i64.wrap (i6+i1)=i15)(e7:IntKind.i64.wrap i16=i17)(e8:Int.tmod i13 1000000000=i18)(e9:IntKind.i64.wrap (i17-i18)=i19)(e10:IntKind.i64.wrap (i19-i4)=i20)
include e1 e2 e3 e4 e5 e6 e7 e8 e9 e10
theorem x3m (e11:IntKind.i64.wrap (i20+1000000000)=i21)(e12:IntKind.u32.wrap i21=i22)(e13:List.set r2 (Int.toNat i15) [.w i22]=r6)(e14:IntKind.i64.wrap (i6+1)=i23)(h1:i6<i5)(h2:0≤i6∧i6<((n1:Nat):Int))(h3:r3[(Int.toNat i6)]?=some [.w i10])(h4:0≤i15∧i15<((n0:Nat):Int))(h5:r2[(Int.toNat i15)]?=some [.w i16])(h6:i20<0)(ih:Lp E 5 A8 2 (H9 r0 n0 n1 i0 n2 i1 i2 i14 1 i5 i23 r1 r6 r3 r4) o t):Lp E 5 A8 2 (H9 r0 n0 n1 i0 n2 i1 i2 i3 i4 i5 i6 r1 r2 r3 r4) o t:=by subst e1 e2 e3 e4 e5 e6 e7 e8 e9 e10 e11 e12 e13 e14;exact lpM (oT h1 (oP h2 (oD h3 (oP (show (1000000000:Int)≠0 from by decide) (oP h4 (oD h5 (oP (show (1000000000:Int)≠0 from by decide) (oT h6 (oP h4 (oD h5 oZ)))))))))) ih
theorem x3n (e11:IntKind.u32.wrap i20=i21)(e12:List.set r2 (Int.toNat i15) [.w i21]=r7)(e13:IntKind.i64.wrap (i6+1)=i24)(h1:i6<i5)(h2:0≤i6∧i6<((n1:Nat):Int))(h3:r3[(Int.toNat i6)]?=some [.w i10])(h4:0≤i15∧i15<((n0:Nat):Int))(h5:r2[(Int.toNat i15)]?=some [.w i16])(h6:¬ i20<0)(ih:Lp E 5 A8 2 (H9 r0 n0 n1 i0 n2 i1 i2 i14 0 i5 i24 r1 r7 r3 r4) o t):Lp E 5 A8 2 (H9 r0 n0 n1 i0 n2 i1 i2 i3 i4 i5 i6 r1 r2 r3 r4) o t:=by subst e1 e2 e3 e4 e5 e6 e7 e8 e9 e10 e11 e12 e13;exact lpM (oT h1 (oP h2 (oD h3 (oP (show (1000000000:Int)≠0 from by decide) (oP h4 (oD h5 (oP (show (1000000000:Int)≠0 from by decide) (oU h6 (oP h4 (oD h5 oZ)))))))))) ih
end
theorem x1p (h1:¬ i6<i5):Lp E 5 A8 2 (H9 r0 n0 n1 i0 n2 i1 i2 i3 i4 i5 i6 r1 r2 r3 r4) (.exit 5) (Z9 r0 n0 n1 i0 n2 i1 i2 r1 r3 r4 i3 i4 r2):=lpX (oU h1 oZ)
def z1c (r0:RW) (n0 n1:Nat) (i0:Int) (n2:Nat) (i1 i2 i3 i4 i5 i6:Int) (r1 r2 r3 r4:RW):St:=stOf 299 [(10,.l r0),(11,.vec 2 n0),(12,.vec 3 n1),(13,.i i0),(14,.vec 4 n2),(15,.i i1),(17,.c (.u64 i2)),(24,.i i3),(25,.c (.u64 i4)),(235,.i i5),(236,.i i6)] [some .dead,sV A4 r1,sV A4 r2,sV A4 r3,sV A4 r4]
def z6k (r0:RW) (n0 n1:Nat) (i0:Int) (n2:Nat) (i1 i2 i3:Int) (r1 r3 r4:RW) (i7:Int) (r5:RW):St:=stOf 299 [(10,.l r0),(11,.vec 2 n0),(12,.vec 3 n1),(13,.i i0),(14,.vec 4 n2),(15,.i i1),(17,.c (.u64 i2)),(24,.i i3),(25,.c (.u64 i7))] [some .dead,sV A4 r1,sV A4 r5,sV A4 r3,sV A4 r4]
theorem x3o (e1:IntKind.i64.wrap (i6+i1)=i8)(e2:IntKind.u64.wrap i9=i10)(e3:IntKind.u64.wrap i11=i12)(e4:IntKind.u64.wrap (i10+i12)=i13)(e5:IntKind.u64.wrap (i4+i13)=i14)(e6:Int.tmod i14 1000000000=i15)(e7:IntKind.u32.wrap i15=i16)(e8:List.set r2 (Int.toNat i8) [.w i16]=r6)(e9:IntKind.u64.wrap (Int.tdiv i14 1000000000)=i17)(e10:IntKind.i64.wrap (i6+1)=i18)(h1:i6<i5)(h2:0≤i8∧i8<((n0:Nat):Int))(h3:r2[(Int.toNat i8)]?=some [.w i9])(h4:0≤i6∧i6<((n1:Nat):Int))(h5:r3[(Int.toNat i6)]?=some [.w i11])(ih:Lp E 5 A8 3 (z1c r0 n0 n1 i0 n2 i1 i2 i3 i17 i5 i18 r1 r6 r3 r4) o t):Lp E 5 A8 3 (z1c r0 n0 n1 i0 n2 i1 i2 i3 i4 i5 i6 r1 r2 r3 r4) o t:=by subst e1 e2 e3 e4 e5 e6 e7 e8 e9 e10;exact lpM (oT h1 (oP h2 (oD h3 (oP h4 (oD h5 (oP (show (1000000000:Int)≠0 from by decide) (oP h2 (oD h3 (oP (show (1000000000:Int)≠0 from by decide) oZ))))))))) ih
theorem x1q (h1:¬ i6<i5):Lp E 5 A8 3 (z1c r0 n0 n1 i0 n2 i1 i2 i3 i4 i5 i6 r1 r2 r3 r4) (.exit 7) (z6k r0 n0 n1 i0 n2 i1 i2 i3 r1 r3 r4 i4 r2):=lpX (oU h1 oZ)
def J8 (r0:RW) (n0 n1:Nat) (i0:Int) (n2:Nat) (i1:Int) (r1 r2 r3 r4:RW):St:=stOf 299 [(10,.l r0),(11,.vec 2 n0),(12,.vec 3 n1),(13,.i i0),(14,.vec 4 n2),(15,.i i1)] [some .dead,sV A4 r1,sV A4 r2,sV A4 r3,sV A4 r4]
def z6j (r0:RW) (n0:Nat) (i0:Int) (n2:Nat) (r1 r3 r5 r6:RW):St:=stOf 299 [(10,.l r0),(11,.vec 2 n0),(13,.i i0),(14,.vec 4 n2)] [some .dead,sV A4 r1,sV A4 r5,sV A4 r3,sV A4 r6]
section
variable (e1:IntKind.i64.wrap (i1+i0)=i2)(e2:IntKind.u64.wrap i3=i4)(e3:IntKind.u64.wrap (i4*1000000000)=i5)(e4:IntKind.i64.wrap (i2-1)=i6)(e5:IntKind.u64.wrap i7=i8)(e6:IntKind.u64.wrap (i5+i8)=i9)(e7:IntKind.i64.wrap (i0-1)=i10)(e8:IntKind.u64.wrap i11=i12)(e9:IntKind.u64.wrap (Int.tdiv i9 i12)=i13)(e10:Int.tmod i9 i12=i14)(e11:IntKind.i64.wrap i18=i19)(e12:IntKind.i64.wrap (i19-i16)=i20)(e13:IntKind.i64.wrap (i20-i17)=i21)
include e1 e2 e3 e4 e5 e6 e7 e8 e9 e10 e11 e12 e13
theorem x3i (e14:IntKind.u64.wrap (i15-1)=i22)(e15:IntKind.i64.wrap i23=i24)(e16:IntKind.i64.wrap (i21+i24)=i25)(e17:(if 0>i25 then 0 else i25)=i26)(e18:IntKind.u32.wrap i26=i27)(e19:List.set r8 (Int.toNat i2) [.w i27]=r9)(e20:IntKind.u32.wrap i22=i29)(e21:List.set r4 (Int.toNat i1) [.w i29]=r10)(e22:IntKind.i64.wrap (i1-1)=i31)(h1:i1≥0)(h2:0≤i2∧i2<((n0:Nat):Int))(h3:r2[(Int.toNat i2)]?=some [.w i3])(h4:0≤i6∧i6<((n0:Nat):Int))(h5:r2[(Int.toNat i6)]?=some [.w i7])(h6:0≤i10∧i10<((n1:Nat):Int))(h7:r3[(Int.toNat i10)]?=some [.w i11])(h8:i12≠0)(h9:Lp E 5 A8 1 (H8 r0 n0 n1 i0 n2 i1 i13 i14 r1 r2 r3 r4) (.exit 3) (O6 r0 n0 n1 i0 n2 i1 r1 r2 r3 r4 i15))(h10:Lp E 5 A8 2 (H9 r0 n0 n1 i0 n2 i1 i15 0 0 i0 0 r1 r2 r3 r4) (.exit 5) (Z9 r0 n0 n1 i0 n2 i1 i15 r1 r3 r4 i16 i17 r7))(h11:r7[(Int.toNat i2)]?=some [.w i18])(h12:i21<0)(h13:Lp E 5 A8 3 (z1c r0 n0 n1 i0 n2 i1 i22 i21 0 i0 0 r1 r7 r3 r4) (.exit 7) (z6k r0 n0 n1 i0 n2 i1 i22 i21 r1 r3 r4 i23 r8))(h14:r8[(Int.toNat i2)]?=some [.w i28])(h15:0≤i1∧i1<((n2:Nat):Int))(h16:r4[(Int.toNat i1)]?=some [.w i30])(ih:Lp E 5 A8 0 (J8 r0 n0 n1 i0 n2 i31 r1 r9 r3 r10) o t):Lp E 5 A8 0 (J8 r0 n0 n1 i0 n2 i1 r1 r2 r3 r4) o t:=by subst e1 e2 e3 e4 e5 e6 e7 e8 e9 e10 e11 e12 e13 e14 e15 e16 e17 e18 e19 e20 e21 e22;exact lpM (oT h1 (oP h2 (oD h3 (oP h4 (oD h5 (oP h6 (oD h7 (oP h8 (oP h6 (oD h7 (oP h8 (oL h9 (oL h10 (oP h2 (oD h11 (oT h12 (oL h13 (oP h2 (oD h14 (oP h15 (oD h16 oZ))))))))))))))))))))) ih
theorem x3j (e14:(if 0>i21 then 0 else i21)=i22)(e15:IntKind.u32.wrap i22=i23)(e16:List.set r7 (Int.toNat i2) [.w i23]=r8)(e17:IntKind.u32.wrap i15=i24)(e18:List.set r4 (Int.toNat i1) [.w i24]=r11)(e19:IntKind.i64.wrap (i1-1)=i27)(h1:i1≥0)(h2:0≤i2∧i2<((n0:Nat):Int))(h3:r2[(Int.toNat i2)]?=some [.w i3])(h4:0≤i6∧i6<((n0:Nat):Int))(h5:r2[(Int.toNat i6)]?=some [.w i7])(h6:0≤i10∧i10<((n1:Nat):Int))(h7:r3[(Int.toNat i10)]?=some [.w i11])(h8:i12≠0)(h9:Lp E 5 A8 1 (H8 r0 n0 n1 i0 n2 i1 i13 i14 r1 r2 r3 r4) (.exit 3) (O6 r0 n0 n1 i0 n2 i1 r1 r2 r3 r4 i15))(h10:Lp E 5 A8 2 (H9 r0 n0 n1 i0 n2 i1 i15 0 0 i0 0 r1 r2 r3 r4) (.exit 5) (Z9 r0 n0 n1 i0 n2 i1 i15 r1 r3 r4 i16 i17 r7))(h11:r7[(Int.toNat i2)]?=some [.w i18])(h12:¬ i21<0)(h13:0≤i1∧i1<((n2:Nat):Int))(h14:r4[(Int.toNat i1)]?=some [.w i25])(ih:Lp E 5 A8 0 (J8 r0 n0 n1 i0 n2 i27 r1 r8 r3 r11) o t):Lp E 5 A8 0 (J8 r0 n0 n1 i0 n2 i1 r1 r2 r3 r4) o t:=by subst e1 e2 e3 e4 e5 e6 e7 e8 e9 e10 e11 e12 e13 e14 e15 e16 e17 e18 e19;exact lpM (oT h1 (oP h2 (oD h3 (oP h4 (oD h5 (oP h6 (oD h7 (oP h8 (oP h6 (oD h7 (oP h8 (oL h9 (oL h10 (oP h2 (oD h11 (oU h12 (oP h2 (oD h11 (oP h13 (oD h14 oZ)))))))))))))))))))) ih
end
theorem x1l (h1:¬ i1≥0):Lp E 5 A8 0 (J8 r0 n0 n1 i0 n2 i1 r1 r2 r3 r4) (.exit 1) (z6j r0 n0 i0 n2 r1 r3 r2 r4):=lpX (oU h1 oZ)
theorem k3k (h1:Fn E D1 [.l r0,.l r1] (.i i0))(h2:i0<0):Fn E A8 [.l r0,.l r1] (.tup [.l [],.l r0]):=fnM (oF h1 (oT h2 oZ))
theorem k3l (e1:IntKind.u64.wrap (Int.tdiv i1 i2)=i3)(e2:Int.tmod i1 i2=i4)(h1:Fn E D1 [.l r0,.l r1] (.i i0))(h2:¬ i0<0)(h3:Fn E D2 [.l r0] (.tup [.c (.u64 i1),.b true]))(h4:Fn E D2 [.l r1] (.tup [.c (.u64 i2),.b true]))(h5:i2≠0)(h6:Fn E z8j [.c (.u64 i3)] (.l r2))(h7:Fn E z8j [.c (.u64 i4)] (.l r3)):Fn E A8 [.l r0,.l r1] (.tup [.l r2,.l r3]):=by subst e1 e2;exact fnM (oF h1 (oU h2 (oF h3 (oF h4 (oP h5 (oF h6 (oP h5 (oF h7 oZ))))))))
theorem k3m (e1:IntKind.u64.wrap i3=i5)(h1:Fn E D1 [.l r0,.l r1] (.i i0))(h2:¬ i0<0)(h3:Fn E D2 [.l r0] (.tup [.c (.u64 i1),.b false]))(h4:Fn E D2 [.l r1] (.tup [.c (.u64 i2),.b b2]))(h5:(r1.length:Int)=1)(h6:r1[0]?=some [.w i3])(h7:Fn E Y5 [.l r0,.c (.u64 i5)] (.tup [.l r4,.l r3])):Fn E A8 [.l r0,.l r1] (.tup [.l r4,.l r3]):=by subst e1;exact fnM (oF h1 (oU h2 (oF h3 (oF h4 (oB (beT h5) (oP (show (0:Int)≤0 from by decide) (oD h6 (oF h7 oZ))))))))
theorem y9t (e1:IntKind.i64.wrap ((r1.length:Int)-1)=i3)(e2:IntKind.u64.wrap i5=i4)(e3:IntKind.u64.wrap (i4+1)=i6)(e4:IntKind.u64.wrap (Int.tdiv 1000000000 i6)=i7)(e5:(r6.take n0)++[[.w 0]]=r7)(e6:n0+1=n1)(e7:IntKind.i64.wrap (((n1:Nat):Int)-((n2:Nat):Int))=i11)(e8:Int.toNat i11=n3)(e9:List.replicate n3 [.w 0]=r17)(e10:IntKind.i64.wrap (((n3:Nat):Int)-1)=i12)(e11:(Int.toNat ((n2:Nat):Int))=n8)(e12:(r10.take n9)=r19)(e13:(r18.take n10)=r15)(h1:Fn E D1 [.l r0,.l r1] (.i i0))(h2:¬ i0<0)(h3:Fn E D2 [.l r0] (.tup [.c (.u64 i1),.b false]))(h4:Fn E D2 [.l r1] (.tup [.c (.u64 i2),.b b2]))(h5:¬ (r1.length:Int)=1)(h6:0≤i3)(h7:r1[(Int.toNat i3)]?=some [.w i5])(h8:i6≠0)(h9:Fn E z8j [.c (.u64 i7)] (.l r5))(h10:Rn E D3 [.l r0,.l r5] [] (.vec 0 n0) [sV A4 r6])(h11:(n0+1)*4≤140737488355328∧n0+1≤140737488355328)(h12:Rn E D3 [.l r1,.l r5] [] (.vec 0 n2) [sV A4 r8])(h13:¬ ((n1:Nat):Int)=(r0.length:Int))(h14:0≤i11∧i11≤i11∧(Int.toNat i11)*4≤140737488355328∧(Int.toNat i11)≤140737488355328)(h15:Lp E 5 A8 0 (J8 r5 n1 n2 ((n2:Nat):Int) n3 i12 [[.w 0]] r7 r8 r17) (.exit 1) (z6j r5 n1 ((n2:Nat):Int) n3 [[.w 0]] r8 r10 r18))(h16:Fn E D2 [.l r5] (.tup [.c (.u64 i13),.b b1]))(h17:0≤((n2:Nat):Int)∧((n2:Nat):Int)≤((n1:Nat):Int))(h18:Rn E C4 [.vec 2 n8] [some .dead,sV A4 [[.w 0]],sV A4 r10,sV A4 r8,sV A4 r18] (.vec 2 n9) [some .dead,sV A4 [[.w 0]],sV A4 r10,sV A4 r8,sV A4 r18])(h19:Fn E Y5 [.l r19,.c (.u64 i13)] (.tup [.l r20,.l r13]))(h20:Rn E C4 [.vec 4 n3] [some .dead,sV A4 [[.w 0]],sF r10,sV A4 r8,sV A4 r18] (.vec 4 n10) [some .dead,sV A4 [[.w 0]],sF r10,sV A4 r8,sV A4 r18]):Fn E A8 [.l r0,.l r1] (.tup [.l r15,.l r20]):=by subst e1 e2 e3 e4 e5 e6 e7 e8 e9 e10 e11 e12 e13;exact fnM (oF h1 (oU h2 (oF h3 (oF h4 (oC (beF h5) (oP h6 (oD h7 (oP h8 (oF h9 (oN h10 (oP (show ∀ y∈([[.w 0]]:RW),y.length=1 from by simp) (oP h11 (oN h12 (oC (beF h13) (oP h14 (oL h15 (oF h16 (oP h17 (oR h18 (oF h19 (oR h20 oZ)))))))))))))))))))))
theorem v2p (h1:Fn E z2l [.s s0,.s s1] (.tup [.l r0,.l r1,.i i0]))(h2:i0=0)(h3:Fn E z1l [.mv z4o [.l r0],.l r1] (.tup [.s s2,.i i1])):Fn E y9d [.s s0,.s s1] (.tup [.s s2,.i i1]):=fnM (oF h1 (oC (bnF h2) (oF h3 oZ)))
theorem j3w (h1:Fn E z2l [.s s0,.s s1] (.tup [.l r0,.l r1,.i i0]))(h2:i0=0)(h3:Fn E D1 [.l r0,.l r1] (.i i1)):Fn E y5s [.s s0,.s s1] (.tup [.i i1,.i 0]):=fnM (oF h1 (oC (bnF h2) (oF h3 oZ)))
theorem v2s (h1:Fn E z2l [.s s0,.s s1] (.tup [.l r0,.l r1,.i i0]))(h2:i0=0)(h3:Fn E D1 [.l r0,.l r1] (.i i1))(h4:¬ i1<0)(h5:Fn E z1l [.mv z3h [.l r0],.l r1] (.tup [.s s2,.i i2])):Fn E y3q [.s s0,.s s1] (.tup [.s s2,.i i2]):=fnM (oF h1 (oC (bnF h2) (oF h3 (oU h4 (oF h5 oZ)))))
theorem y6c (h1:Fn E D5 [.l r0,.l r1] (.l r2))(h2:Fn E V4 [.l r2] (.s s0)):Fn E z1l [.mv D5 [.l r0],.l r1] (.tup [.s s0,.i 0]):=fnM (oF h1 (oF h2 oZ))
def O3 (r0 r1:RW) (i0:Int):St:=stOf 41 [(0,.l r0),(1,.l r1),(5,.i i0)] []
def z6h (i1:Int):St:=stOf 41 [(4,.i i1)] []
def z6i:St:=stOf 41 [] []
theorem y3d (e1:IntKind.i64.wrap (i0-1)=i4)(h1:i0≥0)(h2:0≤i0)(h3:r0[(Int.toNat i0)]?=some [.w i2])(h4:r1[(Int.toNat i0)]?=some [.w i3])(h5:i2=i3)(ih:Lp E 0 D1 0 (O3 r0 r1 i4) o t):Lp E 0 D1 0 (O3 r0 r1 i0) o t:=by subst e1;exact lpM (oT h1 (oP h2 (oD h3 (oP h2 (oD h4 (oC (bnF h5) oZ)))))) ih
theorem x1j (h1:i0≥0)(h2:0≤i0)(h3:r0[(Int.toNat i0)]?=some [.w i2])(h4:r1[(Int.toNat i0)]?=some [.w i3])(h5:¬ i2=i3)(h6:Fn E z2i [.w i2,.w i3] (.i i4)):Lp E 0 D1 0 (O3 r0 r1 i0) .ret (z6h i4):=lpX (oT h1 (oP h2 (oD h3 (oP h2 (oD h4 (oB (bnT h5) (oP h2 (oD h3 (oP h2 (oD h4 (oF h6 oZ)))))))))))
theorem x1k (h1:¬ i0≥0):Lp E 0 D1 0 (O3 r0 r1 i0) (.exit 0) (z6i):=lpX (oU h1 oZ)
theorem k0h (h1:¬ (r0.length:Int)=(r1.length:Int))(h2:Fn E z0v [.i (r0.length:Int),.i (r1.length:Int)] (.i i0)):Fn E D1 [.l r0,.l r1] (.i i0):=fnM (oB (bnT h1) (oF h2 oZ))
section
variable (e1:IntKind.i64.wrap ((r0.length:Int)-1)=i0)(h1:(r0.length:Int)=(r1.length:Int))
include e1 h1
theorem k0i (h2:Lp E 0 D1 0 (O3 r0 r1 i0) .ret (z6h i1)):Fn E D1 [.l r0,.l r1] (.i i1):=by subst e1;exact fnM (oC (bnF h1) (oL h2 oZ))
theorem k0j (h2:Lp E 0 D1 0 (O3 r0 r1 i0) (.exit 0) (z6i)):Fn E D1 [.l r0,.l r1] (.i 0):=by subst e1;exact fnM (oC (bnF h1) (oL h2 oZ))
end
theorem k7f (h1:(r0.length:Int)=0):Fn E D2 [.l r0] (.tup [.c (.u64 0),.b true]):=fnM (oB (beT h1) oZ)
theorem k7g (e1:IntKind.u64.wrap i0=i1)(h1:¬ (r0.length:Int)=0)(h2:(r0.length:Int)=1)(h3:r0[0]?=some [.w i0]):Fn E D2 [.l r0] (.tup [.c (.u64 i1),.b true]):=by subst e1;exact fnM (oC (beF h1) (oB (beT h2) (oP (show (0:Int)≤0 from by decide) (oD h3 oZ))))
theorem k7h (e1:IntKind.u64.wrap i0=i1)(e2:IntKind.u64.wrap i2=i3)(e3:IntKind.u64.wrap (1000000000*i3)=i4)(e4:IntKind.u64.wrap (i1+i4)=i5)(h1:¬ (r0.length:Int)=0)(h2:¬ (r0.length:Int)=1)(h3:(r0.length:Int)=2)(h4:r0[0]?=some [.w i0])(h5:r0[1]?=some [.w i2]):Fn E D2 [.l r0] (.tup [.c (.u64 i5),.b true]):=by subst e1 e2 e3 e4;exact fnM (oC (beF h1) (oC (beF h2) (oB (beT h3) (oP (show (0:Int)≤0 from by decide) (oD h4 (oP (show (0:Int)≤1 from by decide) (oD h5 oZ)))))))
theorem k7i (h1:¬ (r0.length:Int)=0)(h2:¬ (r0.length:Int)=1)(h3:¬ (r0.length:Int)=2):Fn E D2 [.l r0] (.tup [.c (.u64 0),.b false]):=fnM (oC (beF h1) (oC (beF h2) (oC (beF h3) oZ)))
theorem v8e (e1:Int.tmod i0 1000000000=i1)(e2:IntKind.u32.wrap i1=i2)(e3:IntKind.u64.wrap (Int.tdiv i0 1000000000)=i3)(e4:IntKind.u32.wrap i3=i4)(e5:(([[.w i2],[.w i4]]:RW).take n0)=r0)(h1:Rn E C4 [.vec 0 2] [sV A4 [[.w i2],[.w i4]]] (.vec 0 n0) [sV A4 [[.w i2],[.w i4]]]):Fn E z8j [.c (.u64 i0)] (.l r0):=by subst e1 e2 e3 e4 e5;exact fnM (oP (show (1000000000:Int)≠0 from by decide) (oP (show (1000000000:Int)≠0 from by decide) (oR h1 oZ)))
def z5x (r0:RW) (i0:Int) (n0:Nat) (i1 i2:Int) (r1:RW):St:=stOf 41 [(0,.l r0),(1,.c (.u64 i0)),(6,.vec 0 n0),(7,.c (.u64 i1)),(8,.i i2)] [sV A4 r1]
def y3j (n0:Nat) (i3:Int) (r2:RW):St:=stOf 41 [(6,.vec 0 n0),(7,.c (.u64 i3))] [sV A4 r2]
theorem k3j (e1:IntKind.u64.wrap (i1*1000000000)=i4)(e2:IntKind.u64.wrap i5=i6)(e3:IntKind.u64.wrap (i4+i6)=i7)(e4:IntKind.u64.wrap (Int.tdiv i7 i0)=i8)(e5:IntKind.u32.wrap i8=i9)(e6:List.set r1 (Int.toNat i2) [.w i9]=r3)(e7:Int.tmod i7 i0=i11)(e8:IntKind.i64.wrap (i2-1)=i12)(h1:i2≥0)(h2:0≤i2)(h3:r0[(Int.toNat i2)]?=some [.w i5])(h4:i0≠0)(h5:0≤i2∧i2<((n0:Nat):Int))(h6:r1[(Int.toNat i2)]?=some [.w i10])(ih:Lp E 1 Y5 0 (z5x r0 i0 n0 i11 i12 r3) o t):Lp E 1 Y5 0 (z5x r0 i0 n0 i1 i2 r1) o t:=by subst e1 e2 e3 e4 e5 e6 e7 e8;exact lpM (oT h1 (oP h2 (oD h3 (oP h4 (oP h5 (oD h6 (oP h4 oZ))))))) ih
theorem x7z (h1:¬ i2≥0):Lp E 1 Y5 0 (z5x r0 i0 n0 i1 i2 r1) (.exit 0) (y3j n0 i1 r1):=lpX (oU h1 oZ)
theorem j8u (e1:Int.toNat (r0.length:Int)=n0)(e2:List.replicate n0 [.w 0]=r1)(e3:IntKind.i64.wrap ((r0.length:Int)-1)=i1)(e4:(r2.take n1)=r4)(h1:0≤(r0.length:Int)∧(r0.length:Int)≤(r0.length:Int)∧(Int.toNat (r0.length:Int))*4≤140737488355328∧(Int.toNat (r0.length:Int))≤140737488355328)(h2:Lp E 1 Y5 0 (z5x r0 i0 n0 0 i1 r1) (.exit 0) (y3j n0 i2 r2))(h3:Rn E C4 [.vec 0 n0] [sV A4 r2] (.vec 0 n1) [sV A4 r2])(h4:Fn E z8j [.c (.u64 i2)] (.l r3)):Fn E Y5 [.l r0,.c (.u64 i0)] (.tup [.l r4,.l r3]):=by subst e1 e2 e3 e4;exact fnM (oP h1 (oL h2 (oR h3 (oF h4 oZ))))
theorem y5n (h1:Fn E z4o [.l r0,.l r1] (.l r2))(h2:Fn E V4 [.l r2] (.s s0)):Fn E z1l [.mv z4o [.l r0],.l r1] (.tup [.s s0,.i 0]):=fnM (oF h1 (oF h2 oZ))
theorem y4l (h1:Fn E z3h [.l r0,.l r1] (.l r2))(h2:Fn E V4 [.l r2] (.s s0)):Fn E z1l [.mv z3h [.l r0],.l r1] (.tup [.s s0,.i 0]):=fnM (oF h1 (oF h2 oZ))
def z4u (i0 i1:Int):St:=stOf 45 [(5,.c (.u64 i0)),(7,.c (.u64 i1))] []
def y1r (i2:Int):St:=stOf 45 [(5,.c (.u64 i2))] []
theorem k0k (e1:Int.tmod i0 i1=i3)(h1:i1>0)(h2:i1≠0)(ih:Lp E 0 D5 1 (z4u i1 i3) o t):Lp E 0 D5 1 (z4u i0 i1) o t:=by subst e1;exact lpM (oT h1 (oP h2 oZ)) ih
theorem x6n (h1:¬ i1>0):Lp E 0 D5 1 (z4u i0 i1) (.exit 2) (y1r i0):=lpX (oU h1 oZ)
def O7 (r0 r1:RW):St:=stOf 45 [(0,.l r0),(1,.l r1)] []
def y1p (r2:RW):St:=stOf 45 [(4,.l r2)] []
def y1q (r3:RW):St:=stOf 45 [(0,.l r3)] []
section
variable (h1:(r1.length:Int)>0)
include h1
theorem y7f (h2:Fn E D2 [.l r0] (.tup [.c (.u64 i0),.b true]))(h3:Fn E D2 [.l r1] (.tup [.c (.u64 i1),.b false]))(h4:Fn E A8 [.l r0,.l r1] (.tup [.l r4,.l r5]))(ih:Lp E 0 D5 0 (O7 r1 r5) o t):Lp E 0 D5 0 (O7 r0 r1) o t:=lpM (oT h1 (oF h2 (oF h3 (oF h4 oZ)))) ih
theorem y7g (h2:Fn E D2 [.l r0] (.tup [.c (.u64 i0),.b false]))(h3:Fn E D2 [.l r1] (.tup [.c (.u64 i1),.b b0]))(h4:Fn E A8 [.l r0,.l r1] (.tup [.l r4,.l r5]))(ih:Lp E 0 D5 0 (O7 r1 r5) o t):Lp E 0 D5 0 (O7 r0 r1) o t:=lpM (oT h1 (oF h2 (oF h3 (oF h4 oZ)))) ih
theorem x6l (h2:Fn E D2 [.l r0] (.tup [.c (.u64 i0),.b true]))(h3:Fn E D2 [.l r1] (.tup [.c (.u64 i1),.b true]))(h4:Lp E 0 D5 1 (z4u i0 i1) (.exit 2) (y1r i2))(h5:Fn E z8j [.c (.u64 i2)] (.l r5)):Lp E 0 D5 0 (O7 r0 r1) .ret (y1p r5):=lpX (oT h1 (oF h2 (oF h3 (oL h4 (oF h5 oZ)))))
end
theorem x6m (h1:¬ (r1.length:Int)>0):Lp E 0 D5 0 (O7 r0 r1) (.exit 0) (y1q r0):=lpX (oU h1 oZ)
theorem j3x (h1:Lp E 0 D5 0 (O7 r0 r1) .ret (y1p r2)):Fn E D5 [.l r0,.l r1] (.l r2):=fnM (oL h1 oZ)
theorem j3y (h1:Lp E 0 D5 0 (O7 r0 r1) (.exit 0) (y1q r2)):Fn E D5 [.l r0,.l r1] (.l r2):=fnM (oL h1 oZ)
theorem j1f (h1:Fn E B5 [.l r0,.l r1,.i 1] (.l r2)):Fn E z4o [.l r0,.l r1] (.l r2):=fnM (oF h1 oZ)
theorem k7e (h1:Fn E B5 [.l r0,.l r1,.i (-1)] (.l r2))(h2:Rn E C4 [.l r2] [] (.l r3) []):Fn E z3h [.l r0,.l r1] (.l r3):=fnM (oF h1 (oR h2 oZ))
def C3 (r0 r1:RW) (i0:Int) (n0:Nat) (i1 i2 i3:Int) (r2:RW):St:=stOf 71 [(0,.l r0),(1,.l r1),(2,.i i0),(7,.vec 1 n0),(8,.i i1),(19,.i i2),(20,.i i3)] [some .dead,sV A4 r2]
def z3r (n1:Nat) (i4:Int) (r3:RW):St:=stOf 71 [(7,.vec 1 n1),(8,.i i4)] [some .dead,sV A4 r3]
section
variable (e1:IntKind.i64.wrap i5=i6)
include e1
section
variable (e2:IntKind.i64.wrap (i1+i6)=i7)
include e2
section
variable (e3:IntKind.i64.wrap i8=i9)(e4:IntKind.i64.wrap (i0*i9)=i10)(e5:IntKind.i64.wrap (i7+i10)=i11)(e6:Int.tmod i11 1000000000=i12)(e7:IntKind.i64.wrap (Int.tdiv i11 1000000000)=i13)
include e3 e4 e5 e6 e7
theorem x6d (e8:IntKind.i64.wrap (i12+1000000000)=i14)(e9:IntKind.i64.wrap (i13-1)=i15)(e10:IntKind.u32.wrap i14=i16)(e11:(r2.take n0)++[[.w i16]]=r4)(e12:n0+1=n2)(e13:IntKind.i64.wrap (i3+1)=i17)(h1:i3<i2)(h2:i3<(r0.length:Int))(h3:0≤i3)(h4:r0[(Int.toNat i3)]?=some [.w i5])(h5:i3<(r1.length:Int))(h6:r1[(Int.toNat i3)]?=some [.w i8])(h7:i12<0)(h8:(n0+1)*4≤140737488355328∧n0+1≤140737488355328)(ih:Lp E 1 B5 0 (C3 r0 r1 i0 n2 i15 i2 i17 r4) o t):Lp E 1 B5 0 (C3 r0 r1 i0 n0 i1 i2 i3 r2) o t:=by subst e1 e2 e3 e4 e5 e6 e7 e8 e9 e10 e11 e12 e13;exact lpM (oT h1 (oT h2 (oP h3 (oD h4 (oT h5 (oP h3 (oD h6 (oP (show (1000000000:Int)≠0 from by decide) (oP (show (1000000000:Int)≠0 from by decide) (oT h7 (oP (show ∀ y∈([[.w (IntKind.u32.wrap (IntKind.i64.wrap ((Int.tmod (IntKind.i64.wrap ((IntKind.i64.wrap (i1+(IntKind.i64.wrap i5)))+(IntKind.i64.wrap (i0*(IntKind.i64.wrap i8))))) 1000000000)+1000000000)))]]:RW),y.length=1 from by simp) (oP h8 oZ)))))))))))) ih
theorem x6e (e8:IntKind.u32.wrap i12=i14)(e9:(r2.take n0)++[[.w i14]]=r5)(e10:n0+1=n3)(e11:IntKind.i64.wrap (i3+1)=i18)(h1:i3<i2)(h2:i3<(r0.length:Int))(h3:0≤i3)(h4:r0[(Int.toNat i3)]?=some [.w i5])(h5:i3<(r1.length:Int))(h6:r1[(Int.toNat i3)]?=some [.w i8])(h7:¬ i12<0)(h8:(n0+1)*4≤140737488355328∧n0+1≤140737488355328)(ih:Lp E 1 B5 0 (C3 r0 r1 i0 n3 i13 i2 i18 r5) o t):Lp E 1 B5 0 (C3 r0 r1 i0 n0 i1 i2 i3 r2) o t:=by subst e1 e2 e3 e4 e5 e6 e7 e8 e9 e10 e11;exact lpM (oT h1 (oT h2 (oP h3 (oD h4 (oT h5 (oP h3 (oD h6 (oP (show (1000000000:Int)≠0 from by decide) (oP (show (1000000000:Int)≠0 from by decide) (oU h7 (oP (show ∀ y∈([[.w (IntKind.u32.wrap (Int.tmod (IntKind.i64.wrap ((IntKind.i64.wrap (i1+(IntKind.i64.wrap i5)))+(IntKind.i64.wrap (i0*(IntKind.i64.wrap i8))))) 1000000000))]]:RW),y.length=1 from by simp) (oP h8 oZ)))))))))))) ih
end
section
variable (e3:Int.tmod i7 1000000000=i8)(e4:IntKind.i64.wrap (Int.tdiv i7 1000000000)=i9)
include e3 e4
theorem x6f (e5:IntKind.i64.wrap (i8+1000000000)=i10)(e6:IntKind.i64.wrap (i9-1)=i11)(e7:IntKind.u32.wrap i10=i12)(e8:(r2.take n0)++[[.w i12]]=r6)(e9:n0+1=n4)(e10:IntKind.i64.wrap (i3+1)=i15)(h1:i3<i2)(h2:i3<(r0.length:Int))(h3:0≤i3)(h4:r0[(Int.toNat i3)]?=some [.w i5])(h5:¬ i3<(r1.length:Int))(h6:i8<0)(h7:(n0+1)*4≤140737488355328∧n0+1≤140737488355328)(ih:Lp E 1 B5 0 (C3 r0 r1 i0 n4 i11 i2 i15 r6) o t):Lp E 1 B5 0 (C3 r0 r1 i0 n0 i1 i2 i3 r2) o t:=by subst e1 e2 e3 e4 e5 e6 e7 e8 e9 e10;exact lpM (oT h1 (oT h2 (oP h3 (oD h4 (oU h5 (oP (show (1000000000:Int)≠0 from by decide) (oP (show (1000000000:Int)≠0 from by decide) (oT h6 (oP (show ∀ y∈([[.w (IntKind.u32.wrap (IntKind.i64.wrap ((Int.tmod (IntKind.i64.wrap (i1+(IntKind.i64.wrap i5))) 1000000000)+1000000000)))]]:RW),y.length=1 from by simp) (oP h7 oZ)))))))))) ih
theorem x6g (e5:IntKind.u32.wrap i8=i10)(e6:(r2.take n0)++[[.w i10]]=r7)(e7:n0+1=n5)(e8:IntKind.i64.wrap (i3+1)=i13)(h1:i3<i2)(h2:i3<(r0.length:Int))(h3:0≤i3)(h4:r0[(Int.toNat i3)]?=some [.w i5])(h5:¬ i3<(r1.length:Int))(h6:¬ i8<0)(h7:(n0+1)*4≤140737488355328∧n0+1≤140737488355328)(ih:Lp E 1 B5 0 (C3 r0 r1 i0 n5 i9 i2 i13 r7) o t):Lp E 1 B5 0 (C3 r0 r1 i0 n0 i1 i2 i3 r2) o t:=by subst e1 e2 e3 e4 e5 e6 e7 e8;exact lpM (oT h1 (oT h2 (oP h3 (oD h4 (oU h5 (oP (show (1000000000:Int)≠0 from by decide) (oP (show (1000000000:Int)≠0 from by decide) (oU h6 (oP (show ∀ y∈([[.w (IntKind.u32.wrap (Int.tmod (IntKind.i64.wrap (i1+(IntKind.i64.wrap i5))) 1000000000))]]:RW),y.length=1 from by simp) (oP h7 oZ)))))))))) ih
end
end
section
variable (e2:IntKind.i64.wrap (i0*i6)=i7)(e3:IntKind.i64.wrap (i1+i7)=i8)(e4:Int.tmod i8 1000000000=i9)(e5:IntKind.i64.wrap (Int.tdiv i8 1000000000)=i10)
include e2 e3 e4 e5
theorem x6h (e6:IntKind.i64.wrap (i9+1000000000)=i11)(e7:IntKind.i64.wrap (i10-1)=i12)(e8:IntKind.u32.wrap i11=i13)(e9:(r2.take n0)++[[.w i13]]=r8)(e10:n0+1=n6)(e11:IntKind.i64.wrap (i3+1)=i16)(h1:i3<i2)(h2:¬ i3<(r0.length:Int))(h3:i3<(r1.length:Int))(h4:0≤i3)(h5:r1[(Int.toNat i3)]?=some [.w i5])(h6:i9<0)(h7:(n0+1)*4≤140737488355328∧n0+1≤140737488355328)(ih:Lp E 1 B5 0 (C3 r0 r1 i0 n6 i12 i2 i16 r8) o t):Lp E 1 B5 0 (C3 r0 r1 i0 n0 i1 i2 i3 r2) o t:=by subst e1 e2 e3 e4 e5 e6 e7 e8 e9 e10 e11;exact lpM (oT h1 (oU h2 (oT h3 (oP h4 (oD h5 (oP (show (1000000000:Int)≠0 from by decide) (oP (show (1000000000:Int)≠0 from by decide) (oT h6 (oP (show ∀ y∈([[.w (IntKind.u32.wrap (IntKind.i64.wrap ((Int.tmod (IntKind.i64.wrap (i1+(IntKind.i64.wrap (i0*(IntKind.i64.wrap i5))))) 1000000000)+1000000000)))]]:RW),y.length=1 from by simp) (oP h7 oZ)))))))))) ih
theorem x6i (e6:IntKind.u32.wrap i9=i11)(e7:(r2.take n0)++[[.w i11]]=r9)(e8:n0+1=n7)(e9:IntKind.i64.wrap (i3+1)=i14)(h1:i3<i2)(h2:¬ i3<(r0.length:Int))(h3:i3<(r1.length:Int))(h4:0≤i3)(h5:r1[(Int.toNat i3)]?=some [.w i5])(h6:¬ i9<0)(h7:(n0+1)*4≤140737488355328∧n0+1≤140737488355328)(ih:Lp E 1 B5 0 (C3 r0 r1 i0 n7 i10 i2 i14 r9) o t):Lp E 1 B5 0 (C3 r0 r1 i0 n0 i1 i2 i3 r2) o t:=by subst e1 e2 e3 e4 e5 e6 e7 e8 e9;exact lpM (oT h1 (oU h2 (oT h3 (oP h4 (oD h5 (oP (show (1000000000:Int)≠0 from by decide) (oP (show (1000000000:Int)≠0 from by decide) (oU h6 (oP (show ∀ y∈([[.w (IntKind.u32.wrap (Int.tmod (IntKind.i64.wrap (i1+(IntKind.i64.wrap (i0*(IntKind.i64.wrap i5))))) 1000000000))]]:RW),y.length=1 from by simp) (oP h7 oZ)))))))))) ih
end
end
section
variable (e1:Int.tmod i1 1000000000=i5)(e2:IntKind.i64.wrap (Int.tdiv i1 1000000000)=i6)
include e1 e2
theorem x6j (e3:IntKind.i64.wrap (i5+1000000000)=i7)(e4:IntKind.i64.wrap (i6-1)=i8)(e5:IntKind.u32.wrap i7=i9)(e6:(r2.take n0)++[[.w i9]]=r10)(e7:n0+1=n8)(e8:IntKind.i64.wrap (i3+1)=i12)(h1:i3<i2)(h2:¬ i3<(r0.length:Int))(h3:¬ i3<(r1.length:Int))(h4:i5<0)(h5:(n0+1)*4≤140737488355328∧n0+1≤140737488355328)(ih:Lp E 1 B5 0 (C3 r0 r1 i0 n8 i8 i2 i12 r10) o t):Lp E 1 B5 0 (C3 r0 r1 i0 n0 i1 i2 i3 r2) o t:=by subst e1 e2 e3 e4 e5 e6 e7 e8;exact lpM (oT h1 (oU h2 (oU h3 (oP (show (1000000000:Int)≠0 from by decide) (oP (show (1000000000:Int)≠0 from by decide) (oT h4 (oP (show ∀ y∈([[.w (IntKind.u32.wrap (IntKind.i64.wrap ((Int.tmod i1 1000000000)+1000000000)))]]:RW),y.length=1 from by simp) (oP h5 oZ)))))))) ih
theorem x6k (e3:IntKind.u32.wrap i5=i7)(e4:(r2.take n0)++[[.w i7]]=r11)(e5:n0+1=n9)(e6:IntKind.i64.wrap (i3+1)=i10)(h1:i3<i2)(h2:¬ i3<(r0.length:Int))(h3:¬ i3<(r1.length:Int))(h4:¬ i5<0)(h5:(n0+1)*4≤140737488355328∧n0+1≤140737488355328)(ih:Lp E 1 B5 0 (C3 r0 r1 i0 n9 i6 i2 i10 r11) o t):Lp E 1 B5 0 (C3 r0 r1 i0 n0 i1 i2 i3 r2) o t:=by subst e1 e2 e3 e4 e5 e6;exact lpM (oT h1 (oU h2 (oU h3 (oP (show (1000000000:Int)≠0 from by decide) (oP (show (1000000000:Int)≠0 from by decide) (oU h4 (oP (show ∀ y∈([[.w (IntKind.u32.wrap (Int.tmod i1 1000000000))]]:RW),y.length=1 from by simp) (oP h5 oZ)))))))) ih
end
theorem x3h (h1:¬ i3<i2):Lp E 1 B5 0 (C3 r0 r1 i0 n0 i1 i2 i3 r2) (.exit 0) (z3r n0 i1 r2):=lpX (oU h1 oZ)
section
variable (e1:IntKind.i64.wrap ((r0.length:Int)+1)=i1)(e2:(if (r1.length:Int)>(r0.length:Int) then (r1.length:Int) else (r0.length:Int))=i2)
include e1 e2
theorem k7c (e3:IntKind.u32.wrap i3=i4)(e4:(r2.take n0)++[[.w i4]]=r3)(e5:n0+1=n1)(e6:(r3.take n1)=r4)(h1:0≤(0:Int)∧(0:Int)≤i1∧(Int.toNat i1)*4≤140737488355328∧(Int.toNat i1)≤140737488355328)(h2:Lp E 1 B5 0 (C3 r0 r1 i0 0 0 i2 0 []) (.exit 0) (z3r n0 i3 r2))(h3:i3>0)(h4:(n0+1)*4≤140737488355328∧n0+1≤140737488355328):Fn E B5 [.l r0,.l r1,.i i0] (.l r4):=by subst e1 e2 e3 e4 e5 e6;exact fnM (oP h1 (oM [(7,A4)] h2 (oT h3 (oP (show ∀ y∈([[.w (IntKind.u32.wrap i3)]]:RW),y.length=1 from by simp) (oP h4 oZ)))))
theorem k7d (e3:(r2.take n0)=r5)(h1:0≤(0:Int)∧(0:Int)≤i1∧(Int.toNat i1)*4≤140737488355328∧(Int.toNat i1)≤140737488355328)(h2:Lp E 1 B5 0 (C3 r0 r1 i0 0 0 i2 0 []) (.exit 0) (z3r n0 i3 r2))(h3:¬ i3>0):Fn E B5 [.l r0,.l r1,.i i0] (.l r5):=by subst e1 e2 e3;exact fnM (oP h1 (oM [(7,A4)] h2 (oU h3 oZ)))
end
def z0k (r0:RW):St:=stOf 21 [(0,.l r0)] []
def z3s (r1:RW):St:=stOf 21 [(0,.l r1)] []
section
variable (e1:IntKind.i64.wrap ((r0.length:Int)-1)=i0)
include e1
theorem x6q (e2:List.drop 0 (r0.take (Int.toNat i0))=r2)(h1:(r0.length:Int)>0)(h2:0≤i0)(h3:r0[(Int.toNat i0)]?=some [.w i1])(h4:i1=0)(h5:0≤(0:Int)∧(0:Int)≤i0∧i0≤r0.length∧∀ x∈r0,x.length=1)(ih:Lp E 0 C4 0 (z0k r2) o t):Lp E 0 C4 0 (z0k r0) o t:=by subst e1 e2;exact lpM (oT h1 (oP h2 (oD h3 (oB (beT h4) (oP h5 oZ))))) ih
theorem x3r (h1:(r0.length:Int)>0)(h2:0≤i0)(h3:r0[(Int.toNat i0)]?=some [.w i1])(h4:¬ i1=0):Lp E 0 C4 0 (z0k r0) (.exit 0) (z3s r0):=by subst e1;exact lpX (oT h1 (oP h2 (oD h3 (oC (beF h4) oZ))))
end
theorem x3s (h1:¬ (r0.length:Int)>0):Lp E 0 C4 0 (z0k r0) (.exit 0) (z3s r0):=lpX (oU h1 oZ)
theorem k3n (h1:Lp E 0 C4 0 (z0k r0) (.exit 0) (z3s r1)):Rn E C4 [.l r0] [] (.l r1) []:=rnM (oL h1 oZ)
end Gev
namespace Gev
open Go Go.Proofs
variable {E:Env}
variable {i0 i1 i2:Int} {s0 s1 s2 s3 s4 s5 s6 s7 s8:BA} {b0 b1 b2 b3 b4 b5 b6:Bool}
theorem v2f (h1:Fn E y3o [.s s0] (.tup [.agg [.b b0,.s s1],.i i0]))(h2:i0=0)(h3:Fn E z1n [.agg [.b b0,.s s1]] (.agg [.b b1,.s s2]))(h4:Fn E P2 [.agg [.b b1,.s s2]] (.s s3)):Fn E x4n [.s s0] (.tup [.s s3,.i 0]):=fnM (oF h1 (oC (bnF h2) (oF h3 (oF h4 oZ))))
theorem v2e (h1:Fn E z4n [.s s0,.s s1] (.tup [.agg [.b b0,.s s2],.agg [.b b1,.s s3],.i i0]))(h2:i0=0)(h3:Fn E z8h [.agg [.b b0,.s s2],.agg [.b b1,.s s3]] (.agg [.b b2,.s s4]))(h4:Fn E P2 [.agg [.b b2,.s s4]] (.s s5)):Fn E z0s [.s s0,.s s1] (.tup [.s s5,.i 0]):=fnM (oF h1 (oC (bnF h2) (oF h3 (oF h4 oZ))))
theorem v2d (h1:Fn E z4n [.s s0,.s s1] (.tup [.agg [.b b0,.s s2],.agg [.b b1,.s s3],.i i0]))(h2:i0=0)(h3:Fn E X1 [.agg [.b b0,.s s2],.agg [.b b1,.s s3]] (.agg [.b b2,.s s4]))(h4:Fn E P2 [.agg [.b b2,.s s4]] (.s s5)):Fn E y9b [.s s0,.s s1] (.tup [.s s5,.i 0]):=fnM (oF h1 (oC (bnF h2) (oF h3 (oF h4 oZ))))
theorem v2i (h1:Fn E z4n [.s s0,.s ⟨#[48]⟩] (.tup [.agg [.b b0,.s s1],.agg [.b b1,.s s2],.i i0])):Fn E y3o [.s s0] (.tup [.agg [.b b0,.s s1],.i i0]):=fnM (oF h1 oZ)
theorem x3g (h1:Fn E K8 [.b (!b0),.s s0] (.agg [.b b1,.s s1])):Fn E z1n [.agg [.b b0,.s s0]] (.agg [.b b1,.s s1]):=fnM (oF h1 oZ)
theorem k0b (e1:(⟨#[45]⟩:BA)++s0=s1)(h1:(⟨#[45]⟩:BA).size+s0.size≤9223372036854775807):Fn E P2 [.agg [.b true,.s s0]] (.s s1):=by subst e1;exact fnM (oP h1 oZ)
theorem k0c:Fn E P2 [.agg [.b false,.s s0]] (.s s0):=fnM oZ
theorem q8g (h1:Fn E z2k [.s s0] (.tup [.agg [.b b0,.s s2],.b true]))(h2:Fn E z2k [.s s1] (.tup [.agg [.b b1,.s s3],.b true])):Fn E z4n [.s s0,.s s1] (.tup [.agg [.b b0,.s s2],.agg [.b b1,.s s3],.i 0]):=fnM (oF h1 (oF h2 oZ))
theorem x7u (e1:(!(b0 == b1))=b2)(h1:Fn E z6e [.s s0,.s s1] (.tup [.s s2,.i i0]))(h2:Fn E K8 [.b b2,.s s2] (.agg [.b b3,.s s3])):Fn E z8h [.agg [.b b0,.s s0],.agg [.b b1,.s s1]] (.agg [.b b3,.s s3]):=by subst e1;exact fnM (oF h1 (oK (oF h2 oZ)))
section
variable (h1:Fn E z1x [.b b0] (.i 0))
include h1
theorem x9u (h2:Fn E z1x [.b b1] (.i 0))(h3:Fn E y9c [.agg [.b b0,.s s0],.agg [.b b1,.s s1]] (.agg [.b b2,.s s2])):Fn E X1 [.agg [.b b0,.s s0],.agg [.b b1,.s s1]] (.agg [.b b2,.s s2]):=fnM (oF h1 (oF h2 (oP (show (0:Int)≤0∧(0:Int)<2 from by decide) (oP (show (0:Int)≤0∧(0:Int)<2 from by decide) (oF h3 oZ)))))
theorem x9v (h2:Fn E z1x [.b b1] (.i 1))(h3:Fn E z2j [.agg [.b b0,.s s0],.agg [.b b1,.s s1]] (.agg [.b b2,.s s2])):Fn E X1 [.agg [.b b0,.s s0],.agg [.b b1,.s s1]] (.agg [.b b2,.s s2]):=fnM (oF h1 (oF h2 (oP (show (0:Int)≤0∧(0:Int)<2 from by decide) (oP (show (0:Int)≤1∧(1:Int)<2 from by decide) (oF h3 oZ)))))
end
section
variable (h1:Fn E z1x [.b b0] (.i 1))
include h1
theorem x9w (h2:Fn E z1x [.b b1] (.i 0))(h3:Fn E z2j [.agg [.b b0,.s s0],.agg [.b b1,.s s1]] (.agg [.b b2,.s s2])):Fn E X1 [.agg [.b b0,.s s0],.agg [.b b1,.s s1]] (.agg [.b b2,.s s2]):=fnM (oF h1 (oF h2 (oP (show (0:Int)≤1∧(1:Int)<2 from by decide) (oP (show (0:Int)≤0∧(0:Int)<2 from by decide) (oF h3 oZ)))))
theorem x9x (h2:Fn E z1x [.b b1] (.i 1))(h3:Fn E y9c [.agg [.b b0,.s s0],.agg [.b b1,.s s1]] (.agg [.b b2,.s s2])):Fn E X1 [.agg [.b b0,.s s0],.agg [.b b1,.s s1]] (.agg [.b b2,.s s2]):=fnM (oF h1 (oF h2 (oP (show (0:Int)≤1∧(1:Int)<2 from by decide) (oP (show (0:Int)≤1∧(1:Int)<2 from by decide) (oF h3 oZ)))))
end
theorem j8n (h1:Fn E z4n [.s s0,.s s1] (.tup [.agg [.b b0,.s s2],.agg [.b b1,.s s3],.i i0]))(h2:i0=0)(h3:Fn E y5r [] (.agg [.b b2,.s s4]))(h4:((b1 == b2) && ((s3 == s4) && true))=false)(h5:Fn E z0f [.agg [.b b0,.s s2],.agg [.b b1,.s s3]] (.tup [.agg [.b b3,.s s5],.agg [.b b4,.s s6]]))(h6:Fn E P2 [.agg [.b b3,.s s5]] (.s s7))(h7:Fn E P2 [.agg [.b b4,.s s6]] (.s s8)):Fn E y7i [.s s0,.s s1] (.tup [.s s7,.s s8,.i 0]):=fnM (oF h1 (oC (bnF h2) (oF h3 (oC (id h4) (oF h5 (oF h6 (oF h7 oZ)))))))
theorem q2u (h1:Fn E z2k [.s s0] (.tup [.agg [.b b0,.s s1],.b b1])):Fn E z9p [.s s0] (.b b1):=fnM (oF h1 oZ)
theorem q8i (h1:¬ s0=(⟨#[48]⟩:BA)):Fn E K8 [.b true,.s s0] (.agg [.b true,.s s0]):=fnM (oB (snT h1) oZ)
theorem q8j (h1:s0=(⟨#[48]⟩:BA)):Fn E K8 [.b true,.s s0] (.agg [.b false,.s s0]):=fnM (oC (snF h1) oZ)
theorem q8k:Fn E K8 [.b false,.s s0] (.agg [.b false,.s s0]):=fnM oZ
section
variable (h1:Fn E y3h [.s s0,.s ⟨#[45]⟩] (.tup [.s s1,.b b0]))
include h1
section
variable (h2:Fn E D8 [.s s1] (.b true))
include h2
theorem k3e (h3:(!((b0 == true) && ((s1 == (⟨#[48]⟩:BA)) && true)))=true):Fn E z2k [.s s0] (.tup [.agg [.b b0,.s s1],.b true]):=fnM (oF h1 (oF h2 (oB (id h3) oZ)))
theorem q8h (h3:(!((b0 == true) && ((s1 == (⟨#[48]⟩:BA)) && true)))=false):Fn E z2k [.s s0] (.tup [.agg [.b b0,.s s1],.b false]):=fnM (oF h1 (oF h2 (oC (id h3) oZ)))
end
theorem k3f (h2:Fn E D8 [.s s1] (.b false)):Fn E z2k [.s s0] (.tup [.agg [.b b0,.s s1],.b false]):=fnM (oF h1 (oF h2 oZ))
end
theorem q8l:Fn E y5r [] (.agg [.b false,.s ⟨#[48]⟩]):=fnM oZ
theorem v2g:Fn E z1x [.b true] (.i 1):=fnM oZ
theorem v2h:Fn E z1x [.b false] (.i 0):=fnM oZ
theorem v2j (h1:Fn E y9d [.s s0,.s s1] (.tup [.s s2,.i i0]))(h2:Fn E K8 [.b b0,.s s2] (.agg [.b b2,.s s3])):Fn E y9c [.agg [.b b0,.s s0],.agg [.b b1,.s s1]] (.agg [.b b2,.s s3]):=fnM (oF h1 (oF h2 oZ))
section
variable (h1:Fn E y5s [.s s0,.s s1] (.tup [.i i0,.i i1]))
include h1
theorem k3c (h2:i0<0)(h3:Fn E y3q [.s s1,.s s0] (.tup [.s s2,.i i2]))(h4:Fn E K8 [.b b1,.s s2] (.agg [.b b2,.s s3])):Fn E z2j [.agg [.b b0,.s s0],.agg [.b b1,.s s1]] (.agg [.b b2,.s s3]):=fnM (oF h1 (oT h2 (oF h3 (oF h4 oZ))))
theorem k3d (h2:¬ i0<0)(h3:Fn E y3q [.s s0,.s s1] (.tup [.s s2,.i i2]))(h4:Fn E K8 [.b b0,.s s2] (.agg [.b b2,.s s3])):Fn E z2j [.agg [.b b0,.s s0],.agg [.b b1,.s s1]] (.agg [.b b2,.s s3]):=fnM (oF h1 (oU h2 (oF h3 (oF h4 oZ))))
end
theorem v2c (h1:Fn E y3o [.s s0] (.tup [.agg [.b b0,.s s1],.i i0]))(h2:i0=0):Fn E x4m [.s s0] (.tup [.s s1,.i 0]):=fnM (oF h1 (oC (bnF h2) oZ))
theorem x5y (e1:(!(true == b0))=b1)(h1:Fn E z4f [.s s0,.s s1] (.tup [.s s2,.s s3,.i i0]))(h2:¬ s3=(⟨#[48]⟩:BA))(h3:Fn E y9d [.s s2,.s ⟨#[49]⟩] (.tup [.s s4,.i i1]))(h4:Fn E y3q [.s s1,.s s3] (.tup [.s s5,.i i2]))(h5:Fn E K8 [.b b1,.s s4] (.agg [.b b2,.s s6]))(h6:Fn E K8 [.b false,.s s5] (.agg [.b b3,.s s7])):Fn E z0f [.agg [.b true,.s s0],.agg [.b b0,.s s1]] (.tup [.agg [.b b2,.s s6],.agg [.b b3,.s s7]]):=by subst e1;exact fnM (oF h1 (oB (snT h2) (oF h3 (oF h4 (oK (oF h5 (oF h6 oZ)))))))
theorem x5z (e1:(!(true == b0))=b4)(h1:Fn E z4f [.s s0,.s s1] (.tup [.s s2,.s s3,.i i0]))(h2:s3=(⟨#[48]⟩:BA))(h3:Fn E K8 [.b b4,.s s2] (.agg [.b b5,.s s5]))(h4:Fn E K8 [.b false,.s s3] (.agg [.b b6,.s s8])):Fn E z0f [.agg [.b true,.s s0],.agg [.b b0,.s s1]] (.tup [.agg [.b b5,.s s5],.agg [.b b6,.s s8]]):=by subst e1;exact fnM (oF h1 (oC (snF h2) (oK (oF h3 (oF h4 oZ)))))
theorem x6a (e1:(!(false == b0))=b4)(h1:Fn E z4f [.s s0,.s s1] (.tup [.s s2,.s s3,.i i0]))(h2:Fn E K8 [.b b4,.s s2] (.agg [.b b5,.s s5]))(h3:Fn E K8 [.b false,.s s3] (.agg [.b b6,.s s8])):Fn E z0f [.agg [.b false,.s s0],.agg [.b b0,.s s1]] (.tup [.agg [.b b5,.s s5],.agg [.b b6,.s s8]]):=by subst e1;exact fnM (oF h1 (oK (oF h2 (oF h3 oZ))))
theorem j3p (h1:Fn E z4n [.s s0,.s s1] (.tup [.agg [.b b0,.s s2],.agg [.b b1,.s s3],.i i0]))(h2:Fn E z1n [.agg [.b b1,.s s3]] (.agg [.b b2,.s s4]))(h3:Fn E X1 [.agg [.b b0,.s s2],.agg [.b b2,.s s4]] (.agg [.b b3,.s s5]))(h4:Fn E Z4 [.agg [.b b3,.s s5]] (.i i1)):Fn E y5q [.s s0,.s s1] (.tup [.i i1,.i i0]):=fnM (oF h1 (oF h2 (oF h3 (oF h4 oZ))))
theorem q8f (h1:Fn E y3o [.s s0] (.tup [.agg [.b b0,.s s1],.i i0]))(h2:Fn E Z4 [.agg [.b b0,.s s1]] (.i i1)):Fn E x2g [.s s0] (.tup [.i i1,.i i0]):=fnM (oF h1 (oF h2 oZ))
section
variable (h1:Fn E y5r [] (.agg [.b b1,.s s1]))
include h1
theorem x9y (h2:((b0 == b1) && ((s0 == s1) && true))=true):Fn E Z4 [.agg [.b b0,.s s0]] (.i 0):=fnM (oF h1 (oB (id h2) oZ))
theorem x9z (h2:((true == b1) && ((s0 == s1) && true))=false):Fn E Z4 [.agg [.b true,.s s0]] (.i (-1)):=fnM (oF h1 (oC (id h2) oZ))
theorem k0a (h2:((false == b1) && ((s0 == s1) && true))=false):Fn E Z4 [.agg [.b false,.s s0]] (.i 1):=fnM (oF h1 (oC (id h2) oZ))
end
end Gev
namespace Gev
open Go Go.Proofs
variable {E:Env}
variable {o:Out} {t:St} {i0 i1 i2 i3 i4 i5 i6 i7 i8 i9:Int} {s0 s1 s2 s3 s4 s5 s6 s7 s8 s9 s10:BA} {b0:Bool}
theorem q3d (e1:IntKind.i64.wrap (i0*i3)=i4)(e2:IntKind.i64.wrap (i2*i1)=i5)(e3:IntKind.i64.wrap (i4+i5)=i6)(e4:IntKind.i64.wrap (i1*i3)=i7)(h1:Fn E C5 [.agg [.s s0,.s s1]] (.tup [.i i0,.i i1,.b true]))(h2:Fn E C5 [.agg [.s s2,.s s3]] (.tup [.i i2,.i i3,.b true]))(h3:Fn E z1y [.i i6,.i i7] (.agg [.s s4,.s s5])):Fn E z2z [.agg [.s s0,.s s1],.agg [.s s2,.s s3]] (.agg [.s s4,.s s5]):=by subst e1 e2 e3 e4;exact fnM (oF h1 (oF h2 (oF h3 oZ)))
theorem q3e (h1:Fn E C5 [.agg [.s s0,.s s1]] (.tup [.i i0,.i i1,.b true]))(h2:Fn E C5 [.agg [.s s2,.s s3]] (.tup [.i i2,.i i3,.b false]))(h3:Fn E z0s [.s s0,.s s3] (.tup [.s s6,.i i5]))(h4:Fn E z0s [.s s2,.s s1] (.tup [.s s7,.i i7]))(h5:Fn E y9b [.s s6,.s s7] (.tup [.s s4,.i i8]))(h6:Fn E z6e [.s s1,.s s3] (.tup [.s s8,.i i9]))(h7:Fn E Z2 [.s s4,.s s8] (.agg [.s s9,.s s10])):Fn E z2z [.agg [.s s0,.s s1],.agg [.s s2,.s s3]] (.agg [.s s9,.s s10]):=fnM (oF h1 (oF h2 (oF h3 (oF h4 (oF h5 (oF h6 (oF h7 oZ)))))))
theorem q3f (h1:Fn E C5 [.agg [.s s0,.s s1]] (.tup [.i i0,.i i1,.b false]))(h2:Fn E C5 [.agg [.s s2,.s s3]] (.tup [.i i2,.i i3,.b b0]))(h3:Fn E z0s [.s s0,.s s3] (.tup [.s s6,.i i5]))(h4:Fn E z0s [.s s2,.s s1] (.tup [.s s7,.i i7]))(h5:Fn E y9b [.s s6,.s s7] (.tup [.s s4,.i i8]))(h6:Fn E z6e [.s s1,.s s3] (.tup [.s s8,.i i9]))(h7:Fn E Z2 [.s s4,.s s8] (.agg [.s s9,.s s10])):Fn E z2z [.agg [.s s0,.s s1],.agg [.s s2,.s s3]] (.agg [.s s9,.s s10]):=fnM (oF h1 (oF h2 (oF h3 (oF h4 (oF h5 (oF h6 (oF h7 oZ)))))))
theorem j8z (e1:IntKind.i64.wrap (i0*i2)=i4)(e2:IntKind.i64.wrap (i1*i3)=i5)(h1:Fn E C5 [.agg [.s s0,.s s1]] (.tup [.i i0,.i i1,.b true]))(h2:Fn E C5 [.agg [.s s2,.s s3]] (.tup [.i i2,.i i3,.b true]))(h3:Fn E z1y [.i i4,.i i5] (.agg [.s s4,.s s5])):Fn E z4g [.agg [.s s0,.s s1],.agg [.s s2,.s s3]] (.agg [.s s4,.s s5]):=by subst e1 e2;exact fnM (oF h1 (oF h2 (oF h3 oZ)))
theorem j9a (h1:Fn E C5 [.agg [.s s0,.s s1]] (.tup [.i i0,.i i1,.b true]))(h2:Fn E C5 [.agg [.s s2,.s s3]] (.tup [.i i2,.i i3,.b false]))(h3:Fn E z0s [.s s0,.s s2] (.tup [.s s6,.i i5]))(h4:Fn E z6e [.s s1,.s s3] (.tup [.s s4,.i i6]))(h5:Fn E Z2 [.s s6,.s s4] (.agg [.s s7,.s s8])):Fn E z4g [.agg [.s s0,.s s1],.agg [.s s2,.s s3]] (.agg [.s s7,.s s8]):=fnM (oF h1 (oF h2 (oF h3 (oF h4 (oF h5 oZ)))))
theorem j9b (h1:Fn E C5 [.agg [.s s0,.s s1]] (.tup [.i i0,.i i1,.b false]))(h2:Fn E C5 [.agg [.s s2,.s s3]] (.tup [.i i2,.i i3,.b b0]))(h3:Fn E z0s [.s s0,.s s2] (.tup [.s s6,.i i5]))(h4:Fn E z6e [.s s1,.s s3] (.tup [.s s4,.i i6]))(h5:Fn E Z2 [.s s6,.s s4] (.agg [.s s7,.s s8])):Fn E z4g [.agg [.s s0,.s s1],.agg [.s s2,.s s3]] (.agg [.s s7,.s s8]):=fnM (oF h1 (oF h2 (oF h3 (oF h4 (oF h5 oZ)))))
theorem x6v (h1:Fn E y3f [.agg [.s s2,.s s3]] (.agg [.s s4,.s s5]))(h2:Fn E z2z [.agg [.s s0,.s s1],.agg [.s s4,.s s5]] (.agg [.s s6,.s s7])):Fn E z0h [.agg [.s s0,.s s1],.agg [.s s2,.s s3]] (.agg [.s s6,.s s7]):=fnM (oF h1 (oF h2 oZ))
theorem k4d (h1:s1=(⟨#[49]⟩:BA)):Fn E F_rational_frac_text [.agg [.s s0,.s s1]] (.s s0):=fnM (oB (seT h1) oZ)
theorem k4e (e1:s0++(⟨#[47]⟩:BA)=s2)(e2:s2++s1=s3)(h1:¬ s1=(⟨#[49]⟩:BA))(h2:s0.size+(⟨#[47]⟩:BA).size≤9223372036854775807)(h3:s2.size+s1.size≤9223372036854775807):Fn E F_rational_frac_text [.agg [.s s0,.s s1]] (.s s3):=by subst e1 e2;exact fnM (oC (seF h1) (oP h2 (oP h3 oZ)))
theorem q3c (h1:Fn E N3 [.s s0] (.tup [.agg [.s s2,.s s3],.b true]))(h2:Fn E N3 [.s s1] (.tup [.agg [.s s4,.s s5],.b true])):Fn E F_rational_both [.s s0,.s s1] (.tup [.agg [.s s2,.s s3],.agg [.s s4,.s s5],.i 0]):=fnM (oF h1 (oF h2 oZ))
theorem x8f (h1:(s0.size:Int)>9):Fn E C5 [.agg [.s s0,.s s1]] (.tup [.i 0,.i 0,.b false]):=fnM (oT h1 oZ)
theorem x8g (h1:¬ (s0.size:Int)>9)(h2:(s1.size:Int)>9):Fn E C5 [.agg [.s s0,.s s1]] (.tup [.i 0,.i 0,.b false]):=fnM (oU h1 (oT h2 oZ))
theorem x8h (h1:¬ (s0.size:Int)>9)(h2:¬ (s1.size:Int)>9)(h3:Fn E z8m [.s s0,.i 10,.i 64] (.tup [.i i0,.undef]))(h4:Fn E z8m [.s s1,.i 10,.i 64] (.tup [.i i1,.undef])):Fn E C5 [.agg [.s s0,.s s1]] (.tup [.i i0,.i i1,.b true]):=fnM (oU h1 (oU h2 (oF h3 (oF h4 oZ))))
def y1t (i0 i1 i2 i3:Int) (s0 s1:BA):St:=stOf 28 [(0,.i i0),(1,.i i1),(4,.ptr 0 0),(5,.i i2),(6,.i i3)] [sC [.s s0,.s s1]]
def y7y (i0 i1:Int) (s0 s1:BA) (i4:Int):St:=stOf 28 [(0,.i i0),(1,.i i1),(4,.ptr 0 0),(5,.i i4)] [sC [.s s0,.s s1]]
theorem j4m (e1:Int.tmod i2 i3=i5)(h1:¬ i3=0)(h2:i3≠0)(ih:Lp E 1 z1y 0 (y1t i0 i1 i3 i5 s0 s1) o t):Lp E 1 z1y 0 (y1t i0 i1 i2 i3 s0 s1) o t:=by subst e1;exact lpM (oB (bnT h1) (oP h2 oZ)) ih
theorem k7k (h1:i3=0):Lp E 1 z1y 0 (y1t i0 i1 i2 i3 s0 s1) (.exit 0) (y7y i0 i1 s0 s1 i2):=lpX (oC (bnF h1) oZ)
theorem v2w (e1:IntKind.i64.wrap (0-i2)=i3)(e2:(if i3>i2 then i3 else i2)=i4)(e3:IntKind.i64.wrap (Int.tdiv i0 i4)=i5)(e4:IntKind.i64.wrap (Int.tdiv i1 i4)=i6)(h1:Lp E 1 z1y 0 (y1t i0 i1 i0 i1 ⟨#[]⟩ ⟨#[]⟩) (.exit 0) (y7y i0 i1 ⟨#[]⟩ ⟨#[]⟩ i2))(h2:i4≠0)(h3:Fn E z6v [.i i5,.i 10] (.s s0))(h4:Fn E z6v [.i i6,.i 10] (.s s1)):Fn E z1y [.i i0,.i i1] (.agg [.s s0,.s s1]):=by subst e1 e2 e3 e4;exact fnM (oL h1 (oP h2 (oF h3 (oP h2 (oF h4 oZ)))))
section
variable (h1:Fn E z8k [.s s0,.s s1] (.s s2))
include h1
theorem j4k (h2:¬ s2=(⟨#[49]⟩:BA))(h3:Fn E y7i [.s s0,.s s2] (.tup [.s s3,.s s4,.i i0]))(h4:Fn E z4f [.s s1,.s s2] (.tup [.s s5,.s s6,.i i1])):Fn E Z2 [.s s0,.s s1] (.agg [.s s3,.s s5]):=fnM (oF h1 (oB (snT h2) (oF h3 (oF h4 oZ))))
theorem j4l (h2:s2=(⟨#[49]⟩:BA)):Fn E Z2 [.s s0,.s s1] (.agg [.s s0,.s s1]):=fnM (oF h1 (oC (snF h2) oZ))
end
theorem k7l (h1:Fn E x4n [.s s0] (.tup [.s s2,.i i0])):Fn E y3f [.agg [.s s0,.s s1]] (.agg [.s s2,.s s1]):=fnM (oF h1 oZ)
section
variable (h1:Fn E z9z [.s s0,.s ⟨#[47]⟩] (.tup [.s s1,.s s2,.b true]))
include h1
section
variable (h2:Fn E z9p [.s s1] (.b true))
include h2
section
variable (h3:¬ s1=(⟨#[48]⟩:BA))
include h3
section
variable (h4:Fn E D8 [.s s2] (.b true))
include h4
section
variable (h5:¬ s2=(⟨#[48]⟩:BA))
include h5
section
variable (h6:¬ s2=(⟨#[49]⟩:BA))(h7:Fn E z8k [.s s1,.s s2] (.s s3))
include h6 h7
theorem q3g (h8:s3=(⟨#[49]⟩:BA)):Fn E N3 [.s s0] (.tup [.agg [.s s1,.s s2],.b true]):=fnM (oF h1 (oF h2 (oB (snT h3) (oF h4 (oB (snT h5) (oB (snT h6) (oF h7 (oB (seT h8) oZ))))))))
theorem q3h (h8:¬ s3=(⟨#[49]⟩:BA)):Fn E N3 [.s s0] (.tup [.agg [.s s1,.s s2],.b false]):=fnM (oF h1 (oF h2 (oB (snT h3) (oF h4 (oB (snT h5) (oB (snT h6) (oF h7 (oC (seF h8) oZ))))))))
end
theorem q3i (h6:s2=(⟨#[49]⟩:BA)):Fn E N3 [.s s0] (.tup [.agg [.s s1,.s s2],.b false]):=fnM (oF h1 (oF h2 (oB (snT h3) (oF h4 (oB (snT h5) (oC (snF h6) oZ))))))
end
theorem q3j (h5:s2=(⟨#[48]⟩:BA)):Fn E N3 [.s s0] (.tup [.agg [.s s1,.s s2],.b false]):=fnM (oF h1 (oF h2 (oB (snT h3) (oF h4 (oC (snF h5) oZ)))))
end
theorem q3k (h4:Fn E D8 [.s s2] (.b false)):Fn E N3 [.s s0] (.tup [.agg [.s s1,.s s2],.b false]):=fnM (oF h1 (oF h2 (oB (snT h3) (oF h4 oZ))))
end
theorem q3l (h3:s1=(⟨#[48]⟩:BA)):Fn E N3 [.s s0] (.tup [.agg [.s s1,.s s2],.b false]):=fnM (oF h1 (oF h2 (oC (snF h3) oZ)))
end
theorem q3m (h2:Fn E z9p [.s s1] (.b false)):Fn E N3 [.s s0] (.tup [.agg [.s s1,.s s2],.b false]):=fnM (oF h1 (oF h2 oZ))
end
theorem x9i (h1:Fn E z9z [.s s0,.s ⟨#[47]⟩] (.tup [.s s1,.s s2,.b false]))(h2:Fn E z9p [.s s1] (.b b0)):Fn E N3 [.s s0] (.tup [.agg [.s s1,.s ⟨#[49]⟩],.b b0]):=fnM (oF h1 (oF h2 oZ))
theorem j1m (h1:Fn E x4m [.s s0] (.tup [.s s2,.i i0]))(h2:Fn E x4o [.s s2,.s s1] (.tup [.s s3,.i i1])):Fn E z8k [.s s0,.s s1] (.s s3):=fnM (oF h1 (oF h2 oZ))
theorem q9a (h1:Fn E z7a [.c (.u8 45),.s s0,.s s1] (.tup [.s s2,.i i0])):Fn E x2h [.s s0,.s s1] (.tup [.s s2,.i i0]):=fnM (oF h1 oZ)
theorem x6u (h1:Fn E N3 [.s s0] (.tup [.agg [.s s1,.s s2],.b b0])):Fn E z6z [.s s0] (.b b0):=fnM (oF h1 oZ)
theorem j1j (h1:Fn E F_rational_both [.s s0,.s s1] (.tup [.agg [.s s2,.s s3],.agg [.s s4,.s s5],.i i0]))(h2:i0=0)(h3:s0=s1):Fn E z1q [.s s0,.s s1] (.tup [.i 0,.i i0]):=fnM (oF h1 (oC (bnF h2) (oB (seT h3) oZ)))
theorem j1k (e1:IntKind.i64.wrap (i1-i2)=i3)(e2:(if 1<i3 then 1 else i3)=i4)(e3:(if i4>(-1) then i4 else (-1))=i5)(h1:Fn E F_rational_both [.s s0,.s s1] (.tup [.agg [.s s2,.s s3],.agg [.s s4,.s s5],.i i0]))(h2:i0=0)(h3:¬ s0=s1)(h4:Fn E z0g [.agg [.s s2,.s s3]] (.i i1))(h5:Fn E z0g [.agg [.s s4,.s s5]] (.i i2))(h6:¬ i1=i2):Fn E z1q [.s s0,.s s1] (.tup [.i i5,.i 0]):=by subst e1 e2 e3;exact fnM (oF h1 (oC (bnF h2) (oC (seF h3) (oF h4 (oF h5 (oB (bnT h6) oZ))))))
theorem j1l (h1:Fn E F_rational_both [.s s0,.s s1] (.tup [.agg [.s s2,.s s3],.agg [.s s4,.s s5],.i i0]))(h2:i0=0)(h3:¬ s0=s1)(h4:Fn E z0g [.agg [.s s2,.s s3]] (.i i1))(h5:Fn E z0g [.agg [.s s4,.s s5]] (.i i2))(h6:i1=i2)(h7:Fn E z0s [.s s2,.s s5] (.tup [.s s6,.i i4]))(h8:Fn E z0s [.s s4,.s s3] (.tup [.s s7,.i i6]))(h9:Fn E y5q [.s s6,.s s7] (.tup [.i i7,.i i8])):Fn E z1q [.s s0,.s s1] (.tup [.i i7,.i i8]):=fnM (oF h1 (oC (bnF h2) (oC (seF h3) (oF h4 (oF h5 (oC (bnF h6) (oF h7 (oF h8 (oF h9 oZ)))))))))
theorem k4c (h1:Fn E x2g [.s s0] (.tup [.i i0,.i i1])):Fn E z0g [.agg [.s s0,.s s1]] (.i i0):=fnM (oF h1 oZ)
theorem q8z (h1:Fn E z7a [.c (.u8 42),.s s0,.s s1] (.tup [.s s2,.i i0])):Fn E y5u [.s s0,.s s1] (.tup [.s s2,.i i0]):=fnM (oF h1 oZ)
theorem q8y (h1:Fn E z7a [.c (.u8 43),.s s0,.s s1] (.tup [.s s2,.i i0])):Fn E y5t [.s s0,.s s1] (.tup [.s s2,.i i0]):=fnM (oF h1 oZ)
end Gev
namespace Gev
open Go Go.Proofs
variable {E:Env}
variable {o:Out} {t:St} {r0 r1 r2 r3 r4 r5 r6 r7 r8 r9 r10 r11 r12 r13 r14:RW} {i0 i1 i2 i3 i4 i5 i6 i7 i8 i9 i10 i11 i12 i13 i14 i15 i16 i17 i18 i19 i20 i21 i22 i23:Int} {n0 n1 n2 n3 n4 n5 n6 n7:Nat} {s0:BA}
def z6a (r0:RW) (n0:Nat) (i0 i1 i2:Int) (r1:RW):St:=stOf 72 [(0,.l r0),(3,.vec 1 n0),(4,.i i0),(5,.w i1),(6,.i i2)] [some .dead,sV x3u r1]
def y6l (r0:RW) (i0:Int) (n1:Nat) (r2:RW):St:=stOf 72 [(0,.l r0),(3,.vec 1 n1),(4,.i i0)] [some .dead,sV x3u r2]
section
variable (e1:IntKind.i64.wrap (i0+1)=i3)
include e1
section
variable (e2:Int.tmod i1 10=i4)(e3:IntKind.u32.wrap (48+i4)=i5)(e4:IntKind.u8.wrap i5=i6)(e5:(r1.take n0)++[[.u8 i6]]=r3)(e6:n0+1=n2)(e7:IntKind.u32.wrap (Int.tdiv i1 10)=i7)(e8:IntKind.i64.wrap (i2+1)=i8)(h1:i2<9)
include e2 e3 e4 e5 e6 e7 e8 h1
theorem q3n (h2:i3<(r0.length:Int))(h3:(n0+1)*1≤140737488355328∧n0+1≤140737488355328)(ih:Lp E 1 J5 1 (z6a r0 n2 i0 i7 i8 r3) o t):Lp E 1 J5 1 (z6a r0 n0 i0 i1 i2 r1) o t:=by subst e1 e2 e3 e4 e5 e6 e7 e8;exact lpM (oT h1 (oT h2 (oP (show (10:Int)≠0 from by decide) (oP (show ∀ y∈([[.u8 (IntKind.u8.wrap (IntKind.u32.wrap (48+(Int.tmod i1 10))))]]:RW),y.length=1 from by simp) (oP h3 (oP (show (10:Int)≠0 from by decide) oZ)))))) ih
theorem q3o (h2:¬ i3<(r0.length:Int))(h3:i1>0)(h4:(n0+1)*1≤140737488355328∧n0+1≤140737488355328)(ih:Lp E 1 J5 1 (z6a r0 n2 i0 i7 i8 r3) o t):Lp E 1 J5 1 (z6a r0 n0 i0 i1 i2 r1) o t:=by subst e1 e2 e3 e4 e5 e6 e7 e8;exact lpM (oT h1 (oU h2 (oT h3 (oP (show (10:Int)≠0 from by decide) (oP (show ∀ y∈([[.u8 (IntKind.u8.wrap (IntKind.u32.wrap (48+(Int.tmod i1 10))))]]:RW),y.length=1 from by simp) (oP h4 (oP (show (10:Int)≠0 from by decide) oZ))))))) ih
end
theorem j4y (h1:i2<9)(h2:¬ i3<(r0.length:Int))(h3:¬ i1>0):Lp E 1 J5 1 (z6a r0 n0 i0 i1 i2 r1) (.exit 2) (y6l r0 i0 n0 r1):=by subst e1;exact lpX (oT h1 (oU h2 (oU h3 oZ)))
end
theorem j4z (h1:¬ i2<9):Lp E 1 J5 1 (z6a r0 n0 i0 i1 i2 r1) (.exit 2) (y6l r0 i0 n0 r1):=lpX (oU h1 oZ)
def y9v (r0:RW) (n0:Nat) (i0:Int) (r1:RW):St:=stOf 72 [(0,.l r0),(3,.vec 0 n0),(4,.i i0)] [sV x3u r1]
def x5a (n1:Nat) (r2:RW):St:=stOf 72 [(3,.vec 0 n1)] [sV x3u r2]
theorem q9e (e1:IntKind.i64.wrap (i0+1)=i2)(h1:i0<(r0.length:Int))(h2:0≤i0)(h3:r0[(Int.toNat i0)]?=some [.w i1])(h4:Lp E 1 J5 1 (z6a r0 n0 i0 i1 0 r1) (.exit 2) (y6l r0 i0 n2 r3))(ih:Lp E 0 J5 0 (y9v r0 n2 i2 r3) o t):Lp E 0 J5 0 (y9v r0 n0 i0 r1) o t:=by subst e1;exact lpM (oT h1 (oP h2 (oD h3 (oM [(3,x3u)] h4 oZ)))) ih
theorem j9k (h1:¬ i0<(r0.length:Int)):Lp E 0 J5 0 (y9v r0 n0 i0 r1) (.exit 0) (x5a n0 r1):=lpX (oU h1 oZ)
def y9w (n0:Nat) (i0 i1:Int) (r0:RW):St:=stOf 72 [(3,.vec 0 n0),(7,.i i0),(8,.i i1)] [sV x3u r0]
def x5b (n0:Nat) (r1:RW):St:=stOf 72 [(3,.vec 0 n0)] [sV x3u r1]
theorem q9f (e1:List.set r0 (Int.toNat i0) [.u8 i2]=r2)(e2:List.set r2 (Int.toNat i1) [.u8 i3]=r3)(e3:IntKind.i64.wrap (i0+1)=i5)(e4:IntKind.i64.wrap (i1-1)=i6)(h1:i0<i1)(h2:0≤i1∧i1<((n0:Nat):Int))(h3:r0[(Int.toNat i1)]?=some [.u8 i2])(h4:0≤i0∧i0<((n0:Nat):Int))(h5:r0[(Int.toNat i0)]?=some [.u8 i3])(h6:r2[(Int.toNat i1)]?=some [.u8 i4])(ih:Lp E 1 J5 2 (y9w n0 i5 i6 r3) o t):Lp E 1 J5 2 (y9w n0 i0 i1 r0) o t:=by subst e1 e2 e3 e4;exact lpM (oT h1 (oP h2 (oD h3 (oP h4 (oD h5 (oP h4 (oD h5 (oP h2 (oD h6 oZ))))))))) ih
theorem j9l (h1:¬ i0<i1):Lp E 1 J5 2 (y9w n0 i0 i1 r0) (.exit 4) (x5b n0 r0):=lpX (oU h1 oZ)
theorem w5l (h1:(r0.length:Int)=0):Fn E J5 [.l r0] (.s ⟨#[48]⟩):=fnM (oB (beT h1) oZ)
theorem w5m (e1:IntKind.i64.wrap (((n0:Nat):Int)-1)=i0)(e2:ByteArray.mk (((r2.take n0).map x7q).toArray)=s0)(h1:¬ (r0.length:Int)=0)(h2:Lp E 0 J5 0 (y9v r0 0 0 []) (.exit 0) (x5a n0 r1))(h3:Lp E 1 J5 2 (y9w n0 0 i0 r1) (.exit 4) (x5b n0 r2))(h4:∀ x∈(r2.take n0),k1r x):Fn E J5 [.l r0] (.s s0):=by subst e1 e2;exact fnM (oC (beF h1) (oM [(3,x3u)] h2 (oL h3 (oP h4 oZ))))
theorem v2y (e1:Int.tmod i0 1000000000=i1)(e2:IntKind.u32.wrap (Int.tdiv i0 1000000000)=i2)(e3:(([[.w i1],[.w i2]]:RW).take n0)=r0)(h1:Rn E J7 [.vec 0 2] [sV A4 [[.w i1],[.w i2]]] (.vec 0 n0) [sV A4 [[.w i1],[.w i2]]]):Fn E z4d [.w i0] (.l r0):=by subst e1 e2 e3;exact fnM (oP (show (1000000000:Int)≠0 from by decide) (oP (show (1000000000:Int)≠0 from by decide) (oR h1 oZ)))
def y1w (r0 r1:RW) (n0:Nat) (i0 i1 i2:Int) (r2:RW):St:=stOf 77 [(0,.l r0),(1,.l r1),(5,.vec 0 n0),(6,.i i0),(7,.c (.u64 i1)),(8,.i i2)] [sV A4 r2]
def y8b (r0 r1:RW) (n0:Nat) (i0 i3:Int) (r3:RW):St:=stOf 77 [(0,.l r0),(1,.l r1),(5,.vec 0 n0),(6,.i i0),(7,.c (.u64 i3))] [sV A4 r3]
theorem j4x (e1:IntKind.i64.wrap (i0+i2)=i4)(e2:IntKind.u64.wrap i5=i6)(e3:IntKind.u64.wrap i7=i8)(e4:IntKind.u64.wrap i9=i10)(e5:IntKind.u64.wrap (i8*i10)=i11)(e6:IntKind.u64.wrap (i6+i11)=i12)(e7:IntKind.u64.wrap (i12+i1)=i13)(e8:Int.tmod i13 1000000000=i14)(e9:IntKind.u32.wrap i14=i15)(e10:List.set r2 (Int.toNat i4) [.w i15]=r4)(e11:IntKind.u64.wrap (Int.tdiv i13 1000000000)=i16)(e12:IntKind.i64.wrap (i2+1)=i17)(h1:i2<(r1.length:Int))(h2:0≤i4∧i4<((n0:Nat):Int))(h3:r2[(Int.toNat i4)]?=some [.w i5])(h4:0≤i0)(h5:r0[(Int.toNat i0)]?=some [.w i7])(h6:0≤i2)(h7:r1[(Int.toNat i2)]?=some [.w i9])(ih:Lp E 1 H6 1 (y1w r0 r1 n0 i0 i16 i17 r4) o t):Lp E 1 H6 1 (y1w r0 r1 n0 i0 i1 i2 r2) o t:=by subst e1 e2 e3 e4 e5 e6 e7 e8 e9 e10 e11 e12;exact lpM (oT h1 (oP h2 (oD h3 (oP h4 (oD h5 (oP h6 (oD h7 (oP (show (1000000000:Int)≠0 from by decide) (oP h2 (oD h3 (oP (show (1000000000:Int)≠0 from by decide) oZ))))))))))) ih
theorem k7p (h1:¬ i2<(r1.length:Int)):Lp E 1 H6 1 (y1w r0 r1 n0 i0 i1 i2 r2) (.exit 2) (y8b r0 r1 n0 i0 i1 r2):=lpX (oU h1 oZ)
def y1v (r0 r1:RW) (n0:Nat) (i0:Int) (r2:RW):St:=stOf 77 [(0,.l r0),(1,.l r1),(5,.vec 0 n0),(6,.i i0)] [sV A4 r2]
def y8a (n0:Nat) (r3:RW):St:=stOf 77 [(5,.vec 0 n0)] [sV A4 r3]
theorem j4w (e1:IntKind.i64.wrap (i0+(r1.length:Int))=i2)(e2:IntKind.u32.wrap i1=i3)(e3:List.set r4 (Int.toNat i2) [.w i3]=r5)(e4:IntKind.i64.wrap (i0+1)=i5)(h1:i0<(r0.length:Int))(h2:Lp E 1 H6 1 (y1w r0 r1 n0 i0 0 0 r2) (.exit 2) (y8b r0 r1 n0 i0 i1 r4))(h3:0≤i2∧i2<((n0:Nat):Int))(h4:r4[(Int.toNat i2)]?=some [.w i4])(ih:Lp E 1 H6 0 (y1v r0 r1 n0 i5 r5) o t):Lp E 1 H6 0 (y1v r0 r1 n0 i0 r2) o t:=by subst e1 e2 e3 e4;exact lpM (oT h1 (oL h2 (oP h3 (oD h4 oZ)))) ih
theorem k7o (h1:¬ i0<(r0.length:Int)):Lp E 1 H6 0 (y1v r0 r1 n0 i0 r2) (.exit 0) (y8a n0 r2):=lpX (oU h1 oZ)
theorem v2z (h1:(r0.length:Int)=0):Fn E H6 [.l r0,.l r1] (.l []):=fnM (oB (beT h1) oZ)
theorem v3a (h1:¬ (r0.length:Int)=0)(h2:(r1.length:Int)=0):Fn E H6 [.l r0,.l r1] (.l []):=fnM (oC (beF h1) (oB (beT h2) oZ))
theorem v3b (e1:IntKind.i64.wrap ((r0.length:Int)+(r1.length:Int))=i0)(e2:Int.toNat i0=n0)(e3:List.replicate n0 [.w 0]=r2)(e4:(r3.take n1)=r4)(h1:¬ (r0.length:Int)=0)(h2:¬ (r1.length:Int)=0)(h3:0≤i0∧i0≤i0∧(Int.toNat i0)*4≤140737488355328∧(Int.toNat i0)≤140737488355328)(h4:Lp E 1 H6 0 (y1v r0 r1 n0 0 r2) (.exit 0) (y8a n0 r3))(h5:Rn E J7 [.vec 0 n0] [sV A4 r3] (.vec 0 n1) [sV A4 r3]):Fn E H6 [.l r0,.l r1] (.l r4):=by subst e1 e2 e3 e4;exact fnM (oC (beF h1) (oC (beF h2) (oP h3 (oL h4 (oR h5 oZ)))))
def z3t (r0 r1:RW) (i0:Int):St:=stOf 41 [(0,.l r0),(1,.l r1),(5,.i i0)] []
def y6h (i1:Int):St:=stOf 41 [(4,.i i1)] []
def x2w:St:=stOf 41 [] []
theorem x9j (e1:IntKind.i64.wrap (i0-1)=i4)(h1:i0≥0)(h2:0≤i0)(h3:r0[(Int.toNat i0)]?=some [.w i2])(h4:r1[(Int.toNat i0)]?=some [.w i3])(h5:¬ i2<i3)(h6:¬ i2>i3)(ih:Lp E 0 N8 0 (z3t r0 r1 i4) o t):Lp E 0 N8 0 (z3t r0 r1 i0) o t:=by subst e1;exact lpM (oT h1 (oP h2 (oD h3 (oP h2 (oD h4 (oU h5 (oP h2 (oD h3 (oP h2 (oD h4 (oU h6 oZ))))))))))) ih
section
variable (h1:i0≥0)(h2:0≤i0)(h3:r0[(Int.toNat i0)]?=some [.w i2])(h4:r1[(Int.toNat i0)]?=some [.w i3])
include h1 h2 h3 h4
theorem j4o (h5:i2<i3):Lp E 0 N8 0 (z3t r0 r1 i0) .ret (y6h (-1)):=lpX (oT h1 (oP h2 (oD h3 (oP h2 (oD h4 (oT h5 oZ))))))
theorem j4p (h5:¬ i2<i3)(h6:i2>i3):Lp E 0 N8 0 (z3t r0 r1 i0) .ret (y6h 1):=lpX (oT h1 (oP h2 (oD h3 (oP h2 (oD h4 (oU h5 (oP h2 (oD h3 (oP h2 (oD h4 (oT h6 oZ)))))))))))
end
theorem j4q (h1:¬ i0≥0):Lp E 0 N8 0 (z3t r0 r1 i0) (.exit 0) (x2w):=lpX (oU h1 oZ)
section
variable (h1:¬ (r0.length:Int)=(r1.length:Int))
include h1
theorem w2p (h2:(r0.length:Int)<(r1.length:Int)):Fn E N8 [.l r0,.l r1] (.i (-1)):=fnM (oB (bnT h1) (oT h2 oZ))
theorem w2q (h2:¬ (r0.length:Int)<(r1.length:Int)):Fn E N8 [.l r0,.l r1] (.i 1):=fnM (oB (bnT h1) (oU h2 oZ))
end
section
variable (e1:IntKind.i64.wrap ((r0.length:Int)-1)=i0)(h1:(r0.length:Int)=(r1.length:Int))
include e1 h1
theorem w2r (h2:Lp E 0 N8 0 (z3t r0 r1 i0) .ret (y6h i1)):Fn E N8 [.l r0,.l r1] (.i i1):=by subst e1;exact fnM (oC (bnF h1) (oL h2 oZ))
theorem w2s (h2:Lp E 0 N8 0 (z3t r0 r1 i0) (.exit 0) (x2w)):Fn E N8 [.l r0,.l r1] (.i 0):=by subst e1;exact fnM (oC (bnF h1) (oL h2 oZ))
end
def y0d (n0:Nat) (r0:RW):St:=stOf 21 [(0,.vec 0 n0)] [sV A4 r0]
def y4g (r0:RW) (n1:Nat):St:=stOf 21 [(0,.vec 0 n1)] [sV A4 r0]
section
variable (e1:IntKind.i64.wrap (((n0:Nat):Int)-1)=i0)
include e1
theorem j9m (e2:(Int.toNat i0)=n2)(h1:((n0:Nat):Int)>0)(h2:0≤i0∧i0<((n0:Nat):Int))(h3:r0[(Int.toNat i0)]?=some [.w i1])(h4:i1=0)(h5:0≤i0∧i0≤((n0:Nat):Int))(ih:Lp E 1 J7 0 (y0d n2 r0) o t):Lp E 1 J7 0 (y0d n0 r0) o t:=by subst e1 e2;exact lpM (oT h1 (oP h2 (oD h3 (oB (beT h4) (oP h5 oZ))))) ih
theorem j1w (h1:((n0:Nat):Int)>0)(h2:0≤i0∧i0<((n0:Nat):Int))(h3:r0[(Int.toNat i0)]?=some [.w i1])(h4:¬ i1=0):Lp E 1 J7 0 (y0d n0 r0) (.exit 0) (y4g r0 n0):=by subst e1;exact lpX (oT h1 (oP h2 (oD h3 (oC (beF h4) oZ))))
end
theorem j1x (h1:¬ ((n0:Nat):Int)>0):Lp E 1 J7 0 (y0d n0 r0) (.exit 0) (y4g r0 n0):=lpX (oU h1 oZ)
theorem v8w (h1:Lp E 1 J7 0 (y0d n0 r0) (.exit 0) (y4g r0 n1)):Rn E J7 [.vec 0 n0] [sV A4 r0] (.vec 0 n1) [sV A4 r0]:=rnM (oL h1 oZ)
def Y0 (s0:BA) (i0:Int):St:=stOf 33 [(0,.s s0),(3,.i i0)] []
def y2u:St:=stOf 33 [(2,.b false)] []
def z7i (s0:BA):St:=stOf 33 [(0,.s s0)] []
section
variable (e1:((s0.data.toList.getD (Int.toNat i0) 0).toNat:Int)=i1)
include e1
theorem x4b (e2:IntKind.i64.wrap (i0+1)=i2)(h1:i0<(s0.size:Int))(h2:0≤i0∧i0<s0.size)(h3:¬ i1<48)(h4:¬ i1>57)(ih:Lp E 0 G2 0 (Y0 s0 i2) o t):Lp E 0 G2 0 (Y0 s0 i0) o t:=by subst e1 e2;exact lpM (oT h1 (oP h2 (oU h3 (oP h2 (oU h4 oZ))))) ih
section
variable (h1:i0<(s0.size:Int))(h2:0≤i0∧i0<s0.size)
include h1 h2
theorem k7q (h3:i1<48):Lp E 0 G2 0 (Y0 s0 i0) .ret (y2u):=by subst e1;exact lpX (oT h1 (oP h2 (oT h3 oZ)))
theorem k7r (h3:¬ i1<48)(h4:i1>57):Lp E 0 G2 0 (Y0 s0 i0) .ret (y2u):=by subst e1;exact lpX (oT h1 (oP h2 (oU h3 (oP h2 (oT h4 oZ)))))
end
end
theorem k7s (h1:¬ i0<(s0.size:Int)):Lp E 0 G2 0 (Y0 s0 i0) (.exit 0) (z7i s0):=lpX (oU h1 oZ)
theorem v3c (h1:Lp E 0 G2 0 (Y0 s0 0) .ret (y2u)):Fn E G2 [.s s0] (.b false):=fnM (oL h1 oZ)
theorem v3d (h1:Lp E 0 G2 0 (Y0 s0 0) (.exit 0) (z7i s0))(h2:(s0.size:Int)=1):Fn E G2 [.s s0] (.b true):=fnM (oL h1 (oB (beT h2) oZ))
section
variable (e1:((s0.data.toList.getD 0 0).toNat:Int)=i0)(h1:Lp E 0 G2 0 (Y0 s0 0) (.exit 0) (z7i s0))(h2:¬ (s0.size:Int)=1)(h3:(s0.size:Int)>1)(h4:0≤(0:Int)∧(0:Int)<s0.size)
include e1 h1 h2 h3 h4
theorem v3e (h5:¬ i0=48):Fn E G2 [.s s0] (.b true):=by subst e1;exact fnM (oL h1 (oC (beF h2) (oT h3 (oP h4 (oB (bnT h5) oZ)))))
theorem v3f (h5:i0=48):Fn E G2 [.s s0] (.b false):=by subst e1;exact fnM (oL h1 (oC (beF h2) (oT h3 (oP h4 (oC (bnF h5) oZ)))))
end
theorem v3g (h1:Lp E 0 G2 0 (Y0 s0 0) (.exit 0) (z7i s0))(h2:¬ (s0.size:Int)=1)(h3:¬ (s0.size:Int)>1):Fn E G2 [.s s0] (.b false):=fnM (oL h1 (oC (beF h2) (oU h3 oZ)))
def y1u (s0:BA) (n0:Nat) (i0 i1 i2:Int) (r0:RW):St:=stOf 35 [(0,.s s0),(3,.vec 0 n0),(4,.i i0),(5,.w i1),(6,.i i2)] [sV A4 r0]
def y7z (s0:BA) (n0:Nat) (i0:Int) (r0:RW) (i3:Int):St:=stOf 35 [(0,.s s0),(3,.vec 0 n0),(4,.i i0),(5,.w i3)] [sV A4 r0]
theorem j4r (e1:IntKind.u32.wrap (10*i1)=i4)(e2:((s0.data.toList.getD (Int.toNat i2) 0).toNat:Int)=i5)(e3:IntKind.u8.wrap (i5-48)=i6)(e4:IntKind.u32.wrap i6=i7)(e5:IntKind.u32.wrap (i4+i7)=i8)(e6:IntKind.i64.wrap (i2+1)=i9)(h1:i2<i0)(h2:0≤i2∧i2<s0.size)(ih:Lp E 1 N9 1 (y1u s0 n0 i0 i8 i9 r0) o t):Lp E 1 N9 1 (y1u s0 n0 i0 i1 i2 r0) o t:=by subst e1 e2 e3 e4 e5 e6;exact lpM (oT h1 (oP h2 oZ)) ih
theorem k7m (h1:¬ i2<i0):Lp E 1 N9 1 (y1u s0 n0 i0 i1 i2 r0) (.exit 2) (y7z s0 n0 i0 r0 i1):=lpX (oU h1 oZ)
def y3v (s0:BA) (n0:Nat) (i0:Int) (r0:RW):St:=stOf 35 [(0,.s s0),(3,.vec 0 n0),(4,.i i0)] [sV A4 r0]
def x0k (n1:Nat) (r1:RW):St:=stOf 35 [(3,.vec 0 n1)] [sV A4 r1]
theorem j9c (e1:IntKind.i64.wrap (i0-9)=i1)(e2:(if i1>0 then i1 else 0)=i2)(e3:(r0.take n0)++[[.w i3]]=r2)(e4:n0+1=n2)(h1:i0>0)(h2:Lp E 1 N9 1 (y1u s0 n0 i0 0 i2 r0) (.exit 2) (y7z s0 n0 i0 r0 i3))(h3:(n0+1)*4≤140737488355328∧n0+1≤140737488355328)(ih:Lp E 0 N9 0 (y3v s0 n2 i1 r2) o t):Lp E 0 N9 0 (y3v s0 n0 i0 r0) o t:=by subst e1 e2 e3 e4;exact lpM (oT h1 (oL h2 (oP (show ∀ y∈([[.w i3]]:RW),y.length=1 from by simp) (oP h3 oZ)))) ih
theorem j1o (h1:¬ i0>0):Lp E 0 N9 0 (y3v s0 n0 i0 r0) (.exit 0) (x0k n0 r0):=lpX (oU h1 oZ)
theorem v8r (e1:(r0.take n1)=r1)(h1:Lp E 0 N9 0 (y3v s0 0 (s0.size:Int) []) (.exit 0) (x0k n0 r0))(h2:Rn E J7 [.vec 0 n0] [sV A4 r0] (.vec 0 n1) [sV A4 r0]):Fn E N9 [.s s0] (.l r1):=by subst e1;exact fnM (oM [(3,A4)] h1 (oR h2 oZ))
def z9t (i0 i1:Int):St:=stOf 41 [(5,.c (.u64 i0)),(6,.c (.u64 i1))] []
def y6k (i2:Int):St:=stOf 41 [(5,.c (.u64 i2))] []
theorem j1n (e1:Int.tmod i0 i1=i3)(h1:¬ i1=0)(h2:i1≠0)(ih:Lp E 0 H2 1 (z9t i1 i3) o t):Lp E 0 H2 1 (z9t i0 i1) o t:=by subst e1;exact lpM (oB (bnT h1) (oP h2 oZ)) ih
theorem k4h (h1:i1=0):Lp E 0 H2 1 (z9t i0 i1) (.exit 2) (y6k i0):=lpX (oC (bnF h1) oZ)
def Y4 (r0 r1:RW):St:=stOf 41 [(0,.l r0),(1,.l r1)] []
def y6i (r2:RW):St:=stOf 41 [(4,.l r2)] []
def y6j (r3:RW):St:=stOf 41 [(0,.l r3)] []
section
variable (h1:(r1.length:Int)>0)
include h1
theorem x2x (h2:(r0.length:Int)≤2)(h3:¬ (r1.length:Int)≤2)(h4:Fn E H4 [.l r0,.l r1] (.tup [.l r4,.l r5]))(ih:Lp E 0 H2 0 (Y4 r1 r5) o t):Lp E 0 H2 0 (Y4 r0 r1) o t:=lpM (oT h1 (oT h2 (oU h3 (oF h4 oZ)))) ih
theorem x2y (h2:¬ (r0.length:Int)≤2)(h3:Fn E H4 [.l r0,.l r1] (.tup [.l r4,.l r5]))(ih:Lp E 0 H2 0 (Y4 r1 r5) o t):Lp E 0 H2 0 (Y4 r0 r1) o t:=lpM (oT h1 (oU h2 (oF h3 oZ))) ih
theorem k4f (h2:(r0.length:Int)≤2)(h3:(r1.length:Int)≤2)(h4:Fn E z3o [.l r0] (.c (.u64 i0)))(h5:Fn E z3o [.l r1] (.c (.u64 i1)))(h6:Lp E 0 H2 1 (z9t i0 i1) (.exit 2) (y6k i2))(h7:Fn E x7l [.c (.u64 i2)] (.l r6)):Lp E 0 H2 0 (Y4 r0 r1) .ret (y6i r6):=lpX (oT h1 (oT h2 (oT h3 (oF h4 (oF h5 (oL h6 (oF h7 oZ)))))))
end
theorem k4g (h1:¬ (r1.length:Int)>0):Lp E 0 H2 0 (Y4 r0 r1) (.exit 0) (y6j r0):=lpX (oU h1 oZ)
theorem q9c (h1:Lp E 0 H2 0 (Y4 r0 r1) .ret (y6i r2)):Fn E H2 [.l r0,.l r1] (.l r2):=fnM (oL h1 oZ)
theorem q9d (h1:Lp E 0 H2 0 (Y4 r0 r1) (.exit 0) (y6j r2)):Fn E H2 [.l r0,.l r1] (.l r2):=fnM (oL h1 oZ)
def z2e (i0:Int) (r0 r1:RW) (n0 n1:Nat) (i1 i2 i3:Int) (r2 r3 r4:RW):St:=stOf 176 [(8,.i i0),(9,.l r0),(10,.l r1),(11,.vec 3 n0),(12,.vec 4 n1),(13,.i i1),(15,.c (.u64 i2)),(16,.c (.u64 i3))] [some .dead,some .dead,sV A4 r2,sV A4 r3,sV A4 r4]
def z9u (i0:Int) (r0 r1:RW) (n0 n1:Nat) (i1:Int) (r2 r3 r4:RW) (i4:Int):St:=stOf 176 [(8,.i i0),(9,.l r0),(10,.l r1),(11,.vec 3 n0),(12,.vec 4 n1),(13,.i i1),(15,.c (.u64 i4))] [some .dead,some .dead,sV A4 r2,sV A4 r3,sV A4 r4]
theorem j9e (e1:IntKind.u64.wrap (i2-1)=i5)(e2:IntKind.i64.wrap (i0-1)=i6)(e3:IntKind.u64.wrap i7=i8)(e4:IntKind.u64.wrap (i3+i8)=i9)(h1:i3<1000000000)(h2:i2≥1000000000)(h3:0≤i6)(h4:r1[(Int.toNat i6)]?=some [.w i7])(ih:Lp E 5 H4 1 (z2e i0 r0 r1 n0 n1 i1 i5 i9 r2 r3 r4) o t):Lp E 5 H4 1 (z2e i0 r0 r1 n0 n1 i1 i2 i3 r2 r3 r4) o t:=by subst e1 e2 e3 e4;exact lpM (oT h1 (oT h2 (oP h3 (oD h4 oZ)))) ih
section
variable (e1:IntKind.i64.wrap (i0-2)=i5)(e2:IntKind.u64.wrap i6=i7)(e3:IntKind.u64.wrap (i2*i7)=i8)(e4:IntKind.u64.wrap (i3*1000000000)=i9)(e5:IntKind.i64.wrap (i1+i0)=i10)(e6:IntKind.i64.wrap (i10-2)=i11)(e7:IntKind.u64.wrap i12=i13)(e8:IntKind.u64.wrap (i9+i13)=i14)
include e1 e2 e3 e4 e5 e6 e7 e8
theorem j9f (e9:IntKind.u64.wrap (i2-1)=i15)(e10:IntKind.i64.wrap (i0-1)=i16)(e11:IntKind.u64.wrap i17=i18)(e12:IntKind.u64.wrap (i3+i18)=i19)(h1:i3<1000000000)(h2:¬ i2≥1000000000)(h3:0≤i5)(h4:r1[(Int.toNat i5)]?=some [.w i6])(h5:0≤i11∧i11<((n0:Nat):Int))(h6:r3[(Int.toNat i11)]?=some [.w i12])(h7:i8>i14)(h8:0≤i16)(h9:r1[(Int.toNat i16)]?=some [.w i17])(ih:Lp E 5 H4 1 (z2e i0 r0 r1 n0 n1 i1 i15 i19 r2 r3 r4) o t):Lp E 5 H4 1 (z2e i0 r0 r1 n0 n1 i1 i2 i3 r2 r3 r4) o t:=by subst e1 e2 e3 e4 e5 e6 e7 e8 e9 e10 e11 e12;exact lpM (oT h1 (oU h2 (oP h3 (oD h4 (oP h5 (oD h6 (oT h7 (oP h8 (oD h9 oZ))))))))) ih
theorem j1q (h1:i3<1000000000)(h2:¬ i2≥1000000000)(h3:0≤i5)(h4:r1[(Int.toNat i5)]?=some [.w i6])(h5:0≤i11∧i11<((n0:Nat):Int))(h6:r3[(Int.toNat i11)]?=some [.w i12])(h7:¬ i8>i14):Lp E 5 H4 1 (z2e i0 r0 r1 n0 n1 i1 i2 i3 r2 r3 r4) (.exit 2) (z9u i0 r0 r1 n0 n1 i1 r2 r3 r4 i2):=by subst e1 e2 e3 e4 e5 e6 e7 e8;exact lpX (oT h1 (oU h2 (oP h3 (oD h4 (oP h5 (oD h6 (oU h7 oZ)))))))
end
theorem j1r (h1:¬ i3<1000000000):Lp E 5 H4 1 (z2e i0 r0 r1 n0 n1 i1 i2 i3 r2 r3 r4) (.exit 2) (z9u i0 r0 r1 n0 n1 i1 r2 r3 r4 i2):=lpX (oU h1 oZ)
def y3w (i0:Int) (r0 r1:RW) (n0 n1:Nat) (i1:Int) (r2 r3 r4:RW):St:=stOf 176 [(8,.i i0),(9,.l r0),(10,.l r1),(11,.vec 3 n0),(12,.vec 4 n1),(13,.i i1)] [some .dead,some .dead,sV A4 r2,sV A4 r3,sV A4 r4]
def x0l (i0:Int) (r0:RW) (n0 n1:Nat) (r2 r5 r6:RW):St:=stOf 176 [(8,.i i0),(9,.l r0),(11,.vec 3 n0),(12,.vec 4 n1)] [some .dead,some .dead,sV A4 r2,sV A4 r5,sV A4 r6]
theorem j9d (e1:IntKind.i64.wrap (i1+i0)=i2)(e2:IntKind.u64.wrap i3=i4)(e3:IntKind.u64.wrap (i4*1000000000)=i5)(e4:IntKind.i64.wrap (i2-1)=i6)(e5:IntKind.u64.wrap i7=i8)(e6:IntKind.u64.wrap (i5+i8)=i9)(e7:IntKind.i64.wrap (i0-1)=i10)(e8:IntKind.u64.wrap i11=i12)(e9:IntKind.u64.wrap (Int.tdiv i9 i12)=i13)(e10:Int.tmod i9 i12=i14)(e11:List.set r4 (Int.toNat i1) [.w i16]=r8)(e12:IntKind.i64.wrap (i1-1)=i18)(h1:i1≥0)(h2:0≤i2∧i2<((n0:Nat):Int))(h3:r3[(Int.toNat i2)]?=some [.w i3])(h4:0≤i6∧i6<((n0:Nat):Int))(h5:r3[(Int.toNat i6)]?=some [.w i7])(h6:0≤i10)(h7:r1[(Int.toNat i10)]?=some [.w i11])(h8:i12≠0)(h9:Lp E 5 H4 1 (z2e i0 r0 r1 n0 n1 i1 i13 i14 r2 r3 r4) (.exit 2) (z9u i0 r0 r1 n0 n1 i1 r2 r3 r4 i15))(h10:Rn E F6 [.vec 3 n0,.l r1,.i i1,.c (.u64 i15)] [some .dead,some .dead,sV A4 r2,sV A4 r3,sV A4 r4] (.w i16) [some .dead,some .dead,sV A4 r2,sV A4 r7,sV A4 r4])(h11:0≤i1∧i1<((n1:Nat):Int))(h12:r4[(Int.toNat i1)]?=some [.w i17])(ih:Lp E 5 H4 0 (y3w i0 r0 r1 n0 n1 i18 r2 r7 r8) o t):Lp E 5 H4 0 (y3w i0 r0 r1 n0 n1 i1 r2 r3 r4) o t:=by subst e1 e2 e3 e4 e5 e6 e7 e8 e9 e10 e11 e12;exact lpM (oT h1 (oP h2 (oD h3 (oP h4 (oD h5 (oP h6 (oD h7 (oP h8 (oP h6 (oD h7 (oP h8 (oL h9 (oV h10 (oP h11 (oD h12 oZ))))))))))))))) ih
theorem j1p (h1:¬ i1≥0):Lp E 5 H4 0 (y3w i0 r0 r1 n0 n1 i1 r2 r3 r4) (.exit 0) (x0l i0 r0 n0 n1 r2 r3 r4):=lpX (oU h1 oZ)
section
variable (h1:Fn E N8 [.l r0,.l r1] (.i i0))
include h1
theorem v8s (h2:i0<0):Fn E H4 [.l r0,.l r1] (.tup [.l [],.l r0]):=fnM (oF h1 (oT h2 oZ))
theorem v8t (h2:¬ i0<0)(h3:(r1.length:Int)=1)(h4:r1[0]?=some [.w i1])(h5:Fn E z1z [.l r0,.w i1] (.tup [.l r2,.w i2]))(h6:Fn E z4d [.w i2] (.l r3)):Fn E H4 [.l r0,.l r1] (.tup [.l r2,.l r3]):=fnM (oF h1 (oU h2 (oB (beT h3) (oP (show (0:Int)≤0 from by decide) (oD h4 (oF h5 (oF h6 oZ)))))))
end
theorem v8u (e1:IntKind.i64.wrap ((r1.length:Int)-1)=i1)(e2:IntKind.i64.wrap i3=i2)(e3:IntKind.i64.wrap (i2+1)=i4)(e4:IntKind.i64.wrap (Int.tdiv 1000000000 i4)=i5)(e5:IntKind.u32.wrap i5=i6)(e6:(([]:RW).take 0)++r6=r7)(e7:0+r6.length=n0)(e8:(r7.take n0)++[[.w 0],[.w 0]]=r8)(e9:n0+2=n1)(e10:IntKind.i64.wrap ((r0.length:Int)+1)=i7)(e11:(if ((n2:Nat):Int)>i7 then ((n2:Nat):Int) else i7)=i8)(e12:(Int.toNat i8)=n3)(e13:IntKind.i64.wrap (((n3:Nat):Int)-(r1.length:Int))=i9)(e14:Int.toNat i9=n4)(e15:List.replicate n4 [.w 0]=r9)(e16:IntKind.i64.wrap (i9-1)=i10)(e17:(Int.toNat (r1.length:Int))=n5)(e18:(r10.take n6)=r12)(e19:(r11.take n7)=r14)(h1:Fn E N8 [.l r0,.l r1] (.i i0))(h2:¬ i0<0)(h3:¬ (r1.length:Int)=1)(h4:0≤i1)(h5:r1[(Int.toNat i1)]?=some [.w i3])(h6:i4≠0)(h7:Fn E z4d [.w i6] (.l r4))(h8:Fn E H6 [.l r1,.l r4] (.l r5))(h9:Fn E H6 [.l r0,.l r4] (.l r6))(h10:∀ y∈r6,y.length=1)(h11:(0+r6.length)*4≤140737488355328∧0+r6.length≤140737488355328)(h12:(n0+2)*4≤140737488355328∧n0+2≤140737488355328)(h13:Rn E J7 [.vec 3 n1] [some .dead,some .dead,sV A4 [[.w 0],[.w 0]],sV A4 r8] (.vec 3 n2) [some .dead,some .dead,sV A4 [[.w 0],[.w 0]],sV A4 r8])(h14:0≤i8∧i8≤((n1:Nat):Int))(h15:0≤i9∧i9≤i9∧(Int.toNat i9)*4≤140737488355328∧(Int.toNat i9)≤140737488355328)(h16:Lp E 5 H4 0 (y3w (r1.length:Int) r4 r5 n3 n4 i10 [[.w 0],[.w 0]] r8 r9) (.exit 0) (x0l (r1.length:Int) r4 n3 n4 [[.w 0],[.w 0]] r10 r11))(h17:0≤(r1.length:Int)∧(r1.length:Int)≤((n3:Nat):Int))(h18:Rn E J7 [.vec 3 n5] [some .dead,some .dead,sV A4 [[.w 0],[.w 0]],sV A4 r10,sV A4 r11] (.vec 3 n6) [some .dead,some .dead,sV A4 [[.w 0],[.w 0]],sV A4 r10,sV A4 r11])(h19:r4[0]?=some [.w i11])(h20:Fn E z1z [.l r12,.w i11] (.tup [.l r13,.w i12]))(h21:Rn E J7 [.vec 4 n4] [some .dead,some .dead,sV A4 [[.w 0],[.w 0]],sF r10,sV A4 r11] (.vec 4 n7) [some .dead,some .dead,sV A4 [[.w 0],[.w 0]],sF r10,sV A4 r11]):Fn E H4 [.l r0,.l r1] (.tup [.l r14,.l r13]):=by subst e1 e2 e3 e4 e5 e6 e7 e8 e9 e10 e11 e12 e13 e14 e15 e16 e17 e18 e19;exact fnM (oF h1 (oU h2 (oC (beF h3) (oP h4 (oD h5 (oP h6 (oF h7 (oF h8 (oF h9 (oP h10 (oP h11 (oP (show ∀ y∈([[.w 0],[.w 0]]:RW),y.length=1 from by simp) (oP h12 (oR h13 (oP h14 (oP h15 (oL h16 (oP h17 (oR h18 (oP (show (0:Int)≤0 from by decide) (oD h19 (oF h20 (oR h21 oZ)))))))))))))))))))))))
def z0b (r0 r1:RW) (n0:Nat) (i0 i1:Int) (r2:RW):St:=stOf 55 [(0,.l r0),(1,.l r1),(5,.vec 0 n0),(6,.w i0),(7,.i i1)] [sV A4 r2]
def x0m (n1:Nat) (r3:RW):St:=stOf 55 [(5,.vec 0 n1)] [sV A4 r3]
section
variable (e1:IntKind.u32.wrap (i0+i2)=i3)
include e1
theorem j9g (e2:IntKind.u32.wrap (i3+i4)=i5)(e3:Int.tmod i5 1000000000=i6)(e4:(r2.take n0)++[[.w i6]]=r4)(e5:n0+1=n2)(e6:IntKind.u32.wrap (Int.tdiv i5 1000000000)=i7)(e7:IntKind.i64.wrap (i1+1)=i8)(h1:i1<(r0.length:Int))(h2:0≤i1)(h3:r0[(Int.toNat i1)]?=some [.w i2])(h4:i1<(r1.length:Int))(h5:r1[(Int.toNat i1)]?=some [.w i4])(h6:(n0+1)*4≤140737488355328∧n0+1≤140737488355328)(ih:Lp E 0 X2 0 (z0b r0 r1 n2 i7 i8 r4) o t):Lp E 0 X2 0 (z0b r0 r1 n0 i0 i1 r2) o t:=by subst e1 e2 e3 e4 e5 e6 e7;exact lpM (oT h1 (oT h1 (oP h2 (oD h3 (oT h4 (oP h2 (oD h5 (oP (show (1000000000:Int)≠0 from by decide) (oP (show ∀ y∈([[.w (Int.tmod (IntKind.u32.wrap ((IntKind.u32.wrap (i0+i2))+i4)) 1000000000)]]:RW),y.length=1 from by simp) (oP h6 (oP (show (1000000000:Int)≠0 from by decide) oZ))))))))))) ih
section
variable (e2:Int.tmod i3 1000000000=i4)(e3:(r2.take n0)++[[.w i4]]=r5)(e4:n0+1=n3)(e5:IntKind.u32.wrap (Int.tdiv i3 1000000000)=i9)(e6:IntKind.i64.wrap (i1+1)=i10)
include e2 e3 e4 e5 e6
theorem j9h (h1:i1<(r0.length:Int))(h2:0≤i1)(h3:r0[(Int.toNat i1)]?=some [.w i2])(h4:¬ i1<(r1.length:Int))(h5:(n0+1)*4≤140737488355328∧n0+1≤140737488355328)(ih:Lp E 0 X2 0 (z0b r0 r1 n3 i9 i10 r5) o t):Lp E 0 X2 0 (z0b r0 r1 n0 i0 i1 r2) o t:=by subst e1 e2 e3 e4 e5 e6;exact lpM (oT h1 (oT h1 (oP h2 (oD h3 (oU h4 (oP (show (1000000000:Int)≠0 from by decide) (oP (show ∀ y∈([[.w (Int.tmod (IntKind.u32.wrap (i0+i2)) 1000000000)]]:RW),y.length=1 from by simp) (oP h5 (oP (show (1000000000:Int)≠0 from by decide) oZ))))))))) ih
theorem j9i (h1:¬ i1<(r0.length:Int))(h2:i1<(r1.length:Int))(h3:0≤i1)(h4:r1[(Int.toNat i1)]?=some [.w i2])(h5:(n0+1)*4≤140737488355328∧n0+1≤140737488355328)(ih:Lp E 0 X2 0 (z0b r0 r1 n3 i9 i10 r5) o t):Lp E 0 X2 0 (z0b r0 r1 n0 i0 i1 r2) o t:=by subst e1 e2 e3 e4 e5 e6;exact lpM (oU h1 (oT h2 (oU h1 (oT h2 (oP h3 (oD h4 (oP (show (1000000000:Int)≠0 from by decide) (oP (show ∀ y∈([[.w (Int.tmod (IntKind.u32.wrap (i0+i2)) 1000000000)]]:RW),y.length=1 from by simp) (oP h5 (oP (show (1000000000:Int)≠0 from by decide) oZ)))))))))) ih
end
end
theorem j9j (e1:Int.tmod i0 1000000000=i2)(e2:(r2.take n0)++[[.w i2]]=r6)(e3:n0+1=n4)(e4:IntKind.u32.wrap (Int.tdiv i0 1000000000)=i5)(e5:IntKind.i64.wrap (i1+1)=i6)(h1:¬ i1<(r0.length:Int))(h2:¬ i1<(r1.length:Int))(h3:i0>0)(h4:(n0+1)*4≤140737488355328∧n0+1≤140737488355328)(ih:Lp E 0 X2 0 (z0b r0 r1 n4 i5 i6 r6) o t):Lp E 0 X2 0 (z0b r0 r1 n0 i0 i1 r2) o t:=by subst e1 e2 e3 e4 e5;exact lpM (oU h1 (oU h2 (oT h3 (oU h1 (oU h2 (oP (show (1000000000:Int)≠0 from by decide) (oP (show ∀ y∈([[.w (Int.tmod i0 1000000000)]]:RW),y.length=1 from by simp) (oP h4 (oP (show (1000000000:Int)≠0 from by decide) oZ))))))))) ih
theorem j1s (h1:¬ i1<(r0.length:Int))(h2:¬ i1<(r1.length:Int))(h3:¬ i0>0):Lp E 0 X2 0 (z0b r0 r1 n0 i0 i1 r2) (.exit 0) (x0m n0 r2):=lpX (oU h1 (oU h2 (oU h3 oZ)))
theorem v8v (e1:(r2.take n1)=r3)(h1:Lp E 0 X2 0 (z0b r0 r1 0 0 0 []) (.exit 0) (x0m n0 r2))(h2:Rn E J7 [.vec 0 n0] [sV A4 r2] (.vec 0 n1) [sV A4 r2]):Fn E X2 [.l r0,.l r1] (.l r3):=by subst e1;exact fnM (oM [(5,A4)] h1 (oR h2 oZ))
def O4 (r0 r1:RW) (n0:Nat) (i0 i1:Int) (r2:RW):St:=stOf 44 [(0,.l r0),(1,.l r1),(5,.vec 0 n0),(6,.i i0),(7,.i i1)] [sV A4 r2]
def y2t (n1:Nat) (r3:RW):St:=stOf 44 [(5,.vec 0 n1)] [sV A4 r3]
section
variable (e1:IntKind.i64.wrap i2=i3)(e2:IntKind.i64.wrap (i3-i0)=i4)
include e1 e2
section
variable (e3:IntKind.i64.wrap i5=i6)(e4:IntKind.i64.wrap (i4-i6)=i7)
include e3 e4
theorem j4s (e5:IntKind.i64.wrap (i7+1000000000)=i8)(e6:IntKind.u32.wrap i8=i9)(e7:(r2.take n0)++[[.w i9]]=r4)(e8:n0+1=n2)(e9:IntKind.i64.wrap (i1+1)=i10)(h1:i1<(r0.length:Int))(h2:0≤i1)(h3:r0[(Int.toNat i1)]?=some [.w i2])(h4:i1<(r1.length:Int))(h5:r1[(Int.toNat i1)]?=some [.w i5])(h6:i7<0)(h7:(n0+1)*4≤140737488355328∧n0+1≤140737488355328)(ih:Lp E 0 J4 0 (O4 r0 r1 n2 1 i10 r4) o t):Lp E 0 J4 0 (O4 r0 r1 n0 i0 i1 r2) o t:=by subst e1 e2 e3 e4 e5 e6 e7 e8 e9;exact lpM (oT h1 (oP h2 (oD h3 (oT h4 (oP h2 (oD h5 (oT h6 (oP (show ∀ y∈([[.w (IntKind.u32.wrap (IntKind.i64.wrap ((IntKind.i64.wrap ((IntKind.i64.wrap ((IntKind.i64.wrap i2)-i0))-(IntKind.i64.wrap i5)))+1000000000)))]]:RW),y.length=1 from by simp) (oP h7 oZ))))))))) ih
theorem j4t (e5:IntKind.u32.wrap i7=i8)(e6:(r2.take n0)++[[.w i8]]=r5)(e7:n0+1=n3)(e8:IntKind.i64.wrap (i1+1)=i11)(h1:i1<(r0.length:Int))(h2:0≤i1)(h3:r0[(Int.toNat i1)]?=some [.w i2])(h4:i1<(r1.length:Int))(h5:r1[(Int.toNat i1)]?=some [.w i5])(h6:¬ i7<0)(h7:(n0+1)*4≤140737488355328∧n0+1≤140737488355328)(ih:Lp E 0 J4 0 (O4 r0 r1 n3 0 i11 r5) o t):Lp E 0 J4 0 (O4 r0 r1 n0 i0 i1 r2) o t:=by subst e1 e2 e3 e4 e5 e6 e7 e8;exact lpM (oT h1 (oP h2 (oD h3 (oT h4 (oP h2 (oD h5 (oU h6 (oP (show ∀ y∈([[.w (IntKind.u32.wrap (IntKind.i64.wrap ((IntKind.i64.wrap ((IntKind.i64.wrap i2)-i0))-(IntKind.i64.wrap i5))))]]:RW),y.length=1 from by simp) (oP h7 oZ))))))))) ih
end
theorem j4u (e3:IntKind.i64.wrap (i4+1000000000)=i5)(e4:IntKind.u32.wrap i5=i6)(e5:(r2.take n0)++[[.w i6]]=r6)(e6:n0+1=n4)(e7:IntKind.i64.wrap (i1+1)=i9)(h1:i1<(r0.length:Int))(h2:0≤i1)(h3:r0[(Int.toNat i1)]?=some [.w i2])(h4:¬ i1<(r1.length:Int))(h5:i4<0)(h6:(n0+1)*4≤140737488355328∧n0+1≤140737488355328)(ih:Lp E 0 J4 0 (O4 r0 r1 n4 1 i9 r6) o t):Lp E 0 J4 0 (O4 r0 r1 n0 i0 i1 r2) o t:=by subst e1 e2 e3 e4 e5 e6 e7;exact lpM (oT h1 (oP h2 (oD h3 (oU h4 (oT h5 (oP (show ∀ y∈([[.w (IntKind.u32.wrap (IntKind.i64.wrap ((IntKind.i64.wrap ((IntKind.i64.wrap i2)-i0))+1000000000)))]]:RW),y.length=1 from by simp) (oP h6 oZ))))))) ih
theorem j4v (e3:IntKind.u32.wrap i4=i5)(e4:(r2.take n0)++[[.w i5]]=r7)(e5:n0+1=n5)(e6:IntKind.i64.wrap (i1+1)=i8)(h1:i1<(r0.length:Int))(h2:0≤i1)(h3:r0[(Int.toNat i1)]?=some [.w i2])(h4:¬ i1<(r1.length:Int))(h5:¬ i4<0)(h6:(n0+1)*4≤140737488355328∧n0+1≤140737488355328)(ih:Lp E 0 J4 0 (O4 r0 r1 n5 0 i8 r7) o t):Lp E 0 J4 0 (O4 r0 r1 n0 i0 i1 r2) o t:=by subst e1 e2 e3 e4 e5 e6;exact lpM (oT h1 (oP h2 (oD h3 (oU h4 (oU h5 (oP (show ∀ y∈([[.w (IntKind.u32.wrap (IntKind.i64.wrap ((IntKind.i64.wrap i2)-i0)))]]:RW),y.length=1 from by simp) (oP h6 oZ))))))) ih
end
theorem k7n (h1:¬ i1<(r0.length:Int)):Lp E 0 J4 0 (O4 r0 r1 n0 i0 i1 r2) (.exit 0) (y2t n0 r2):=lpX (oU h1 oZ)
theorem v2x (e1:(r2.take n1)=r3)(h1:Lp E 0 J4 0 (O4 r0 r1 0 0 0 []) (.exit 0) (y2t n0 r2))(h2:Rn E J7 [.vec 0 n0] [sV A4 r2] (.vec 0 n1) [sV A4 r2]):Fn E J4 [.l r0,.l r1] (.l r3):=by subst e1;exact fnM (oM [(5,A4)] h1 (oR h2 oZ))
def y3x (r0:RW) (i0 i1:Int):St:=stOf 21 [(0,.l r0),(3,.c (.u64 i0)),(4,.i i1)] []
def x0n (i2:Int):St:=stOf 21 [(3,.c (.u64 i2))] []
theorem j9n (e1:IntKind.u64.wrap (i0*1000000000)=i3)(e2:IntKind.u64.wrap i4=i5)(e3:IntKind.u64.wrap (i3+i5)=i6)(e4:IntKind.i64.wrap (i1-1)=i7)(h1:i1≥0)(h2:0≤i1)(h3:r0[(Int.toNat i1)]?=some [.w i4])(ih:Lp E 0 z3o 0 (y3x r0 i6 i7) o t):Lp E 0 z3o 0 (y3x r0 i0 i1) o t:=by subst e1 e2 e3 e4;exact lpM (oT h1 (oP h2 (oD h3 oZ))) ih
theorem j1y (h1:¬ i1≥0):Lp E 0 z3o 0 (y3x r0 i0 i1) (.exit 0) (x0n i0):=lpX (oU h1 oZ)
theorem v8y (e1:IntKind.i64.wrap ((r0.length:Int)-1)=i0)(h1:Lp E 0 z3o 0 (y3x r0 0 i0) (.exit 0) (x0n i1)):Fn E z3o [.l r0] (.c (.u64 i1)):=by subst e1;exact fnM (oL h1 oZ)
theorem v8x (e1:Int.tmod i0 1000000000=i1)(e2:IntKind.u32.wrap i1=i2)(e3:IntKind.u64.wrap (Int.tdiv i0 1000000000)=i3)(e4:Int.tmod i3 1000000000=i4)(e5:IntKind.u32.wrap i4=i5)(e6:IntKind.u64.wrap (Int.tdiv i3 1000000000)=i6)(e7:IntKind.u32.wrap i6=i7)(e8:(([[.w i2],[.w i5],[.w i7]]:RW).take n0)=r0)(h1:Rn E J7 [.vec 0 3] [sV A4 [[.w i2],[.w i5],[.w i7]]] (.vec 0 n0) [sV A4 [[.w i2],[.w i5],[.w i7]]]):Fn E x7l [.c (.u64 i0)] (.l r0):=by subst e1 e2 e3 e4 e5 e6 e7 e8;exact fnM (oP (show (1000000000:Int)≠0 from by decide) (oP (show (1000000000:Int)≠0 from by decide) (oP (show (1000000000:Int)≠0 from by decide) (oP (show (1000000000:Int)≠0 from by decide) (oP (show (1000000000:Int)≠0 from by decide) (oR h1 oZ))))))
def y1x (r0:RW) (i0:Int) (n0:Nat) (i1 i2:Int) (r1:RW):St:=stOf 44 [(0,.l r0),(1,.w i0),(6,.vec 0 n0),(7,.c (.u64 i1)),(8,.i i2)] [sV A4 r1]
def y8c (n0:Nat) (i3:Int) (r2:RW):St:=stOf 44 [(6,.vec 0 n0),(7,.c (.u64 i3))] [sV A4 r2]
theorem j5a (e1:IntKind.u64.wrap (i1*1000000000)=i4)(e2:IntKind.u64.wrap i5=i6)(e3:IntKind.u64.wrap (i4+i6)=i7)(e4:IntKind.u64.wrap i0=i8)(e5:IntKind.u64.wrap (Int.tdiv i7 i8)=i9)(e6:IntKind.u32.wrap i9=i10)(e7:List.set r1 (Int.toNat i2) [.w i10]=r3)(e8:Int.tmod i7 i8=i12)(e9:IntKind.i64.wrap (i2-1)=i13)(h1:i2≥0)(h2:0≤i2)(h3:r0[(Int.toNat i2)]?=some [.w i5])(h4:i8≠0)(h5:0≤i2∧i2<((n0:Nat):Int))(h6:r1[(Int.toNat i2)]?=some [.w i11])(ih:Lp E 1 z1z 0 (y1x r0 i0 n0 i12 i13 r3) o t):Lp E 1 z1z 0 (y1x r0 i0 n0 i1 i2 r1) o t:=by subst e1 e2 e3 e4 e5 e6 e7 e8 e9;exact lpM (oT h1 (oP h2 (oD h3 (oP h4 (oP h5 (oD h6 (oP h4 oZ))))))) ih
theorem k7t (h1:¬ i2≥0):Lp E 1 z1z 0 (y1x r0 i0 n0 i1 i2 r1) (.exit 0) (y8c n0 i1 r1):=lpX (oU h1 oZ)
theorem v3h (e1:Int.toNat (r0.length:Int)=n0)(e2:List.replicate n0 [.w 0]=r1)(e3:IntKind.i64.wrap ((r0.length:Int)-1)=i1)(e4:IntKind.u32.wrap i2=i3)(e5:(r2.take n1)=r3)(h1:0≤(r0.length:Int)∧(r0.length:Int)≤(r0.length:Int)∧(Int.toNat (r0.length:Int))*4≤140737488355328∧(Int.toNat (r0.length:Int))≤140737488355328)(h2:Lp E 1 z1z 0 (y1x r0 i0 n0 0 i1 r1) (.exit 0) (y8c n0 i2 r2))(h3:Rn E J7 [.vec 0 n0] [sV A4 r2] (.vec 0 n1) [sV A4 r2]):Fn E z1z [.l r0,.w i0] (.tup [.l r3,.w i3]):=by subst e1 e2 e3 e4 e5;exact fnM (oP h1 (oL h2 (oR h3 oZ)))
def P7 (n0:Nat) (r0:RW) (i0 i1 i2 i3 i4 i5:Int) (r1:RW):St:=stOf 136 [(0,.vec 0 n0),(1,.l r0),(2,.i i0),(3,.c (.u64 i1)),(9,.i i2),(10,.i i3),(11,.c (.u64 i4)),(12,.i i5)] [sV A4 r1]
def z2x (n0:Nat) (r0:RW) (i0 i1 i2 i6 i7:Int) (r2:RW):St:=stOf 136 [(0,.vec 0 n0),(1,.l r0),(2,.i i0),(3,.c (.u64 i1)),(9,.i i2),(10,.i i6),(11,.c (.u64 i7))] [sV A4 r2]
section
variable (e1:IntKind.u64.wrap i8=i9)(e2:IntKind.u64.wrap (i1*i9)=i10)(e3:IntKind.u64.wrap (i10+i4)=i11)(e4:IntKind.u64.wrap (Int.tdiv i11 1000000000)=i12)(e5:IntKind.i64.wrap (i0+i5)=i13)(e6:IntKind.i64.wrap i14=i15)(e7:Int.tmod i11 1000000000=i16)(e8:IntKind.i64.wrap i16=i17)(e9:IntKind.i64.wrap (i15-i17)=i18)(e10:IntKind.i64.wrap (i18-i3)=i19)
include e1 e2 e3 e4 e5 e6 e7 e8 e9 e10
theorem j1t (e11:IntKind.i64.wrap (i19+1000000000)=i20)(e12:IntKind.u32.wrap i20=i21)(e13:List.set r1 (Int.toNat i13) [.w i21]=r3)(e14:IntKind.i64.wrap (i5+1)=i22)(h1:i5<i2)(h2:0≤i5)(h3:r0[(Int.toNat i5)]?=some [.w i8])(h4:0≤i13∧i13<((n0:Nat):Int))(h5:r1[(Int.toNat i13)]?=some [.w i14])(h6:i19<0)(ih:Lp E 1 F6 0 (P7 n0 r0 i0 i1 i2 1 i12 i22 r3) o t):Lp E 1 F6 0 (P7 n0 r0 i0 i1 i2 i3 i4 i5 r1) o t:=by subst e1 e2 e3 e4 e5 e6 e7 e8 e9 e10 e11 e12 e13 e14;exact lpM (oT h1 (oP h2 (oD h3 (oP (show (1000000000:Int)≠0 from by decide) (oP h4 (oD h5 (oP (show (1000000000:Int)≠0 from by decide) (oT h6 (oP h4 (oD h5 oZ)))))))))) ih
theorem j1u (e11:IntKind.u32.wrap i19=i20)(e12:List.set r1 (Int.toNat i13) [.w i20]=r4)(e13:IntKind.i64.wrap (i5+1)=i23)(h1:i5<i2)(h2:0≤i5)(h3:r0[(Int.toNat i5)]?=some [.w i8])(h4:0≤i13∧i13<((n0:Nat):Int))(h5:r1[(Int.toNat i13)]?=some [.w i14])(h6:¬ i19<0)(ih:Lp E 1 F6 0 (P7 n0 r0 i0 i1 i2 0 i12 i23 r4) o t):Lp E 1 F6 0 (P7 n0 r0 i0 i1 i2 i3 i4 i5 r1) o t:=by subst e1 e2 e3 e4 e5 e6 e7 e8 e9 e10 e11 e12 e13;exact lpM (oT h1 (oP h2 (oD h3 (oP (show (1000000000:Int)≠0 from by decide) (oP h4 (oD h5 (oP (show (1000000000:Int)≠0 from by decide) (oU h6 (oP h4 (oD h5 oZ)))))))))) ih
end
theorem k4i (h1:¬ i5<i2):Lp E 1 F6 0 (P7 n0 r0 i0 i1 i2 i3 i4 i5 r1) (.exit 0) (z2x n0 r0 i0 i1 i2 i3 i4 r1):=lpX (oU h1 oZ)
def z5q (n0:Nat) (r0:RW) (i0 i1 i2 i3 i4:Int) (r1:RW):St:=stOf 136 [(0,.vec 0 n0),(1,.l r0),(2,.i i0),(3,.c (.u64 i1)),(9,.i i2),(16,.w i3),(17,.i i4)] [sV A4 r1]
def y0w (n0:Nat) (i0 i1 i2 i5:Int) (r2:RW):St:=stOf 136 [(0,.vec 0 n0),(2,.i i0),(3,.c (.u64 i1)),(9,.i i2),(16,.w i5)] [sV A4 r2]
theorem j1v (e1:IntKind.i64.wrap (i0+i4)=i6)(e2:IntKind.u32.wrap (i7+i8)=i9)(e3:IntKind.u32.wrap (i9+i3)=i10)(e4:Int.tmod i10 1000000000=i11)(e5:List.set r1 (Int.toNat i6) [.w i11]=r3)(e6:IntKind.u32.wrap (Int.tdiv i10 1000000000)=i12)(e7:IntKind.i64.wrap (i4+1)=i13)(h1:i4<i2)(h2:0≤i6∧i6<((n0:Nat):Int))(h3:r1[(Int.toNat i6)]?=some [.w i7])(h4:0≤i4)(h5:r0[(Int.toNat i4)]?=some [.w i8])(ih:Lp E 1 F6 1 (z5q n0 r0 i0 i1 i2 i12 i13 r3) o t):Lp E 1 F6 1 (z5q n0 r0 i0 i1 i2 i3 i4 r1) o t:=by subst e1 e2 e3 e4 e5 e6 e7;exact lpM (oT h1 (oP h2 (oD h3 (oP h4 (oD h5 (oP (show (1000000000:Int)≠0 from by decide) (oP h2 (oD h3 (oP (show (1000000000:Int)≠0 from by decide) oZ))))))))) ih
theorem k4j (h1:¬ i4<i2):Lp E 1 F6 1 (z5q n0 r0 i0 i1 i2 i3 i4 r1) (.exit 2) (y0w n0 i0 i1 i2 i3 r1):=lpX (oU h1 oZ)
section
variable (e1:IntKind.i64.wrap (i0+(r1.length:Int))=i4)(e2:IntKind.i64.wrap i5=i6)(e3:IntKind.i64.wrap i3=i7)(e4:IntKind.i64.wrap (i6-i7)=i8)(e5:IntKind.i64.wrap (i8-i2)=i9)
include e1 e2 e3 e4 e5
theorem q9g (e6:IntKind.u32.wrap i9=i10)(e7:List.set r2 (Int.toNat i4) [.w i10]=r3)(e8:IntKind.u32.wrap i1=i11)(h1:Lp E 1 F6 0 (P7 n0 r1 i0 i1 (r1.length:Int) 0 0 0 r0) (.exit 0) (z2x n0 r1 i0 i1 (r1.length:Int) i2 i3 r2))(h2:0≤i4∧i4<((n0:Nat):Int))(h3:r2[(Int.toNat i4)]?=some [.w i5])(h4:i9≥0):Rn E F6 [.vec 0 n0,.l r1,.i i0,.c (.u64 i1)] [sV A4 r0] (.w i11) [sV A4 r3]:=by subst e1 e2 e3 e4 e5 e6 e7 e8;exact rnM (oL h1 (oP h2 (oD h3 (oT h4 (oP h2 (oD h3 oZ))))))
theorem q9h (e6:IntKind.i64.wrap (i9+1000000000)=i10)(e7:IntKind.u32.wrap i10=i12)(e8:List.set r2 (Int.toNat i4) [.w i12]=r4)(e9:IntKind.u32.wrap (i14+i13)=i15)(e10:Int.tmod i15 1000000000=i16)(e11:List.set r5 (Int.toNat i4) [.w i16]=r6)(e12:IntKind.u64.wrap (i1-1)=i17)(e13:IntKind.u32.wrap i17=i18)(h1:Lp E 1 F6 0 (P7 n0 r1 i0 i1 (r1.length:Int) 0 0 0 r0) (.exit 0) (z2x n0 r1 i0 i1 (r1.length:Int) i2 i3 r2))(h2:0≤i4∧i4<((n0:Nat):Int))(h3:r2[(Int.toNat i4)]?=some [.w i5])(h4:¬ i9≥0)(h5:Lp E 1 F6 1 (z5q n0 r1 i0 i1 (r1.length:Int) 0 0 r4) (.exit 2) (y0w n0 i0 i1 (r1.length:Int) i13 r5))(h6:r5[(Int.toNat i4)]?=some [.w i14]):Rn E F6 [.vec 0 n0,.l r1,.i i0,.c (.u64 i1)] [sV A4 r0] (.w i18) [sV A4 r6]:=by subst e1 e2 e3 e4 e5 e6 e7 e8 e9 e10 e11 e12 e13;exact rnM (oL h1 (oP h2 (oD h3 (oU h4 (oP h2 (oD h3 (oL h5 (oP h2 (oD h6 (oP (show (1000000000:Int)≠0 from by decide) (oP h2 (oD h6 oZ))))))))))))
end
end Gev
namespace Gev
open Go Go.Proofs
variable {E:Env}
variable {r0 r1 r2 r3 r4 r5:RW} {i0 i1 i2:Int} {s0 s1:BA} {b0 b1 b2 b3:Bool}
theorem w5n (e1:(⟨#[45]⟩:BA)++s0=s1)(h1:Fn E J5 [.l r0] (.s s0))(h2:(⟨#[45]⟩:BA).size+s0.size≤9223372036854775807):Fn E x2i [.z true r0] (.s s1):=by subst e1;exact fnM (oF h1 (oP h2 oZ))
theorem w5o (h1:Fn E J5 [.l r0] (.s s0)):Fn E x2i [.z false r0] (.s s0):=fnM (oF h1 oZ)
theorem v3j (e1:IntKind.i64.wrap (0-i0)=i1)(e2:IntKind.u32.wrap i1=i2)(h1:i0<0)(h2:Fn E z4d [.w i2] (.l r0))(h3:Fn E P3 [.b true,.l r0] (.z b0 r1)):Fn E y9e [.i i0] (.z b0 r1):=by subst e1 e2;exact fnM (oT h1 (oF h2 (oF h3 oZ)))
theorem v3k (e1:IntKind.u32.wrap i0=i1)(h1:¬ i0<0)(h2:Fn E z4d [.w i1] (.l r2))(h3:Fn E P3 [.b false,.l r2] (.z b1 r3)):Fn E y9e [.i i0] (.z b1 r3):=by subst e1;exact fnM (oU h1 (oF h2 (oF h3 oZ)))
theorem q9i:Fn E z4p [.z true r0] (.i (-1)):=fnM oZ
theorem q9j (h1:(r0.length:Int)>0):Fn E z4p [.z false r0] (.i 1):=fnM (oT h1 oZ)
theorem q9k (h1:¬ (r0.length:Int)>0):Fn E z4p [.z false r0] (.i 0):=fnM (oU h1 oZ)
theorem v3l (e1:(!(b0 == b1))=b2)(h1:Fn E H6 [.l r0,.l r1] (.l r2))(h2:Fn E P3 [.b b2,.l r2] (.z b3 r3)):Fn E x4q [.z b0 r0,.z b1 r1] (.z b3 r3):=by subst e1;exact fnM (oK (oF h1 (oF h2 oZ)))
theorem v9c (h1:b0=b1)(h2:Fn E X2 [.l r0,.l r1] (.l r2))(h3:Fn E P3 [.b b0,.l r2] (.z b2 r3)):Fn E y5v [.z b0 r0,.z b1 r1] (.z b2 r3):=fnM (oB (beT h1) (oF h2 (oF h3 oZ)))
section
variable (h1:¬ b0=b1)(h2:Fn E N8 [.l r0,.l r1] (.i i0))
include h1 h2
theorem v9d (h3:i0≥0)(h4:Fn E J4 [.l r0,.l r1] (.l r4))(h5:Fn E P3 [.b b0,.l r4] (.z b3 r5)):Fn E y5v [.z b0 r0,.z b1 r1] (.z b3 r5):=fnM (oC (beF h1) (oF h2 (oT h3 (oF h4 (oF h5 oZ)))))
theorem v9e (h3:¬ i0≥0)(h4:Fn E J4 [.l r1,.l r0] (.l r4))(h5:Fn E P3 [.b b1,.l r4] (.z b3 r5)):Fn E y5v [.z b0 r0,.z b1 r1] (.z b3 r5):=fnM (oC (beF h1) (oF h2 (oU h3 (oF h4 (oF h5 oZ)))))
end
theorem v8z (h1:(r0.length:Int)>0):Fn E P3 [.b true,.l r0] (.z true r0):=fnM (oT h1 oZ)
theorem v9a (h1:¬ (r0.length:Int)>0):Fn E P3 [.b true,.l r0] (.z false r0):=fnM (oU h1 oZ)
theorem v9b:Fn E P3 [.b false,.l r0] (.z false r0):=fnM oZ
theorem j9o (h1:Fn E P3 [.b (!b0),.l r0] (.z b1 r1)):Fn E y2j [.z b0 r0] (.z b1 r1):=fnM (oF h1 oZ)
section
variable (e1:((s0.data.toList.getD 0 0).toNat:Int)=i0)
include e1
theorem v3m (e2:s0.extract 1 (Int.toNat (s0.size:Int))=s1)(h1:(s0.size:Int)>1)(h2:0≤(0:Int)∧(0:Int)<s0.size)(h3:i0=45)(h4:¬ s0=(⟨#[45,48]⟩:BA))(h5:0≤(1:Int)∧(1:Int)≤(s0.size:Int)∧(s0.size:Int)≤s0.size)(h6:Fn E G2 [.s s1] (.b b0)):Fn E z2a [.s s0] (.b b0):=by subst e1 e2;exact fnM (oT h1 (oP h2 (oB (beT h3) (oB (snT h4) (oP h5 (oF h6 oZ))))))
section
variable (h1:(s0.size:Int)>1)(h2:0≤(0:Int)∧(0:Int)<s0.size)
include h1 h2
theorem v3n (h3:i0=45)(h4:s0=(⟨#[45,48]⟩:BA)):Fn E z2a [.s s0] (.b false):=by subst e1;exact fnM (oT h1 (oP h2 (oB (beT h3) (oC (snF h4) oZ))))
theorem v3o (h3:¬ i0=45)(h4:Fn E G2 [.s s0] (.b b1)):Fn E z2a [.s s0] (.b b1):=by subst e1;exact fnM (oT h1 (oP h2 (oC (beF h3) (oF h4 oZ))))
end
end
theorem k9w (h1:¬ (s0.size:Int)>1)(h2:Fn E G2 [.s s0] (.b b2)):Fn E z2a [.s s0] (.b b2):=fnM (oU h1 (oF h2 oZ))
section
variable (e1:((s0.data.toList.getD 0 0).toNat:Int)=i0)
include e1
theorem v9f (e2:s0.extract 1 (Int.toNat (s0.size:Int))=s1)(h1:0≤(0:Int)∧(0:Int)<s0.size)(h2:i0=45)(h3:0≤(1:Int)∧(1:Int)≤(s0.size:Int)∧(s0.size:Int)≤s0.size)(h4:Fn E N9 [.s s1] (.l r0)):Fn E y5w [.s s0] (.z true r0):=by subst e1 e2;exact fnM (oP h1 (oB (beT h2) (oP h3 (oF h4 oZ))))
theorem v9g (h1:0≤(0:Int)∧(0:Int)<s0.size)(h2:¬ i0=45)(h3:Fn E N9 [.s s0] (.l r1)):Fn E y5w [.s s0] (.z false r1):=by subst e1;exact fnM (oP h1 (oC (beF h2) (oF h3 oZ)))
end
theorem w2t (h1:Fn E x4p [.z b0 r0,.z b1 r1] (.z b2 r2))(h2:Fn E z4p [.z b2 r2] (.i i0)):Fn E k1n [.z b0 r0,.z b1 r1] (.i i0):=fnM (oF h1 (oF h2 oZ))
theorem v3i (h1:Fn E y2j [.z b1 r1] (.z b2 r2))(h2:Fn E y5v [.z b0 r0,.z b2 r2] (.z b3 r3)):Fn E x4p [.z b0 r0,.z b1 r1] (.z b3 r3):=fnM (oF h1 (oF h2 oZ))
end Gev
namespace Gev
open Go Go.Proofs
variable {E:Env}
variable {o:Out} {t:St} {r0 r1 r2 r3 r4 r5 r6 r7 r8 r9:RW} {i0 i1 i2 i3:Int} {s0 s1 s2 s3 s4:BA} {b0 b1 b2 b3 b4 b5:Bool}
theorem w5p (e1:(⟨#[47]⟩:BA)++s1=s2)(e2:s0++s2=s3)(h1:Fn E x2i [.z b0 r0] (.s s0))(h2:Fn E J5 [.l r1] (.s s1))(h3:¬ s1=(⟨#[49]⟩:BA))(h4:(⟨#[47]⟩:BA).size+s1.size≤9223372036854775807)(h5:s0.size+s2.size≤9223372036854775807):Fn E y7j [.q b0 r0 r1] (.s s3):=by subst e1 e2;exact fnM (oF h1 (oF h2 (oB (snT h3) (oP h4 (oP h5 oZ)))))
theorem w5q (h1:Fn E x2i [.z b0 r0] (.s s0))(h2:Fn E J5 [.l r1] (.s s1))(h3:s1=(⟨#[49]⟩:BA)):Fn E y7j [.q b0 r0 r1] (.s s0):=fnM (oF h1 (oF h2 (oC (snF h3) oZ)))
theorem w2x (h1:Fn E y9e [.i i0] (.z b0 r0))(h2:Fn E z4d [.w 1] (.l r1)):Fn E z8b [.i i0] (.q b0 r0 r1):=fnM (oF h1 (oF h2 oZ))
theorem v9p (h1:Fn E z4p [.z b0 r0] (.i i0)):Fn E X3 [.q b0 r0 r1] (.i i0):=fnM (oF h1 oZ)
theorem w2y (h1:Fn E x4q [.z b0 r0,.z b1 r2] (.z b2 r4))(h2:Fn E H6 [.l r1,.l r3] (.l r5))(h3:Fn E y1k [.z b2 r4,.l r5] (.q b3 r6 r7)):Fn E k1o [.q b0 r0 r1,.q b1 r2 r3] (.q b3 r6 r7):=fnM (oF h1 (oF h2 (oF h3 oZ)))
section
variable (h1:Fn E y9m [.q b0 r0 r1,.q b1 r2 r3] (.i i0))
include h1
theorem v9n (h2:i0<0):Fn E x1e [.q b0 r0 r1,.q b1 r2 r3] (.b true):=fnM (oF h1 (oT h2 oZ))
theorem v9o (h2:¬ i0<0):Fn E x1e [.q b0 r0 r1,.q b1 r2 r3] (.b false):=fnM (oF h1 (oU h2 oZ))
end
theorem w2z (h1:Fn E y2j [.z b0 r0] (.z b1 r2)):Fn E k1p [.q b0 r0 r1] (.q b1 r2 r1):=fnM (oF h1 oZ)
theorem v3p (h1:Fn E z0x [.s s0] (.tup [.q b0 r0 r1,.b b1])):Fn E F8 [.s s0] (.b b1):=fnM (oF h1 oZ)
section
variable (h1:Fn E V9 [.s s0] (.tup [.s s1,.s s2,.b true]))(h2:Fn E z2a [.s s1] (.b true))(h3:Fn E G2 [.s s2] (.b true))(h4:Fn E y5w [.s s1] (.z b0 r0))(h5:Fn E N9 [.s s2] (.l r1))(h6:Fn E z4d [.w 1] (.l r2))(h7:Fn E N8 [.l r1,.l r2] (.i i0))
include h1 h2 h3 h4 h5 h6 h7
section
variable (h8:i0>0)(h9:Fn E z4p [.z b0 r0] (.i i1))
include h8 h9
section
variable (h10:¬ i1=0)(h11:Fn E H2 [.l r0,.l r1] (.l r3))(h12:Fn E N8 [.l r3,.l r2] (.i i2))
include h10 h11 h12
theorem v9h (h13:i2=0):Fn E z0x [.s s0] (.tup [.q b0 r0 r1,.b true]):=fnM (oF h1 (oF h2 (oF h3 (oF h4 (oF h5 (oF h6 (oF h7 (oT h8 (oF h9 (oB (bnT h10) (oF h11 (oF h12 (oB (beT h13) oZ)))))))))))))
theorem v9i (h13:¬ i2=0)(h14:Fn E z8b [.i 0] (.q b1 r4 r5)):Fn E z0x [.s s0] (.tup [.q b1 r4 r5,.b false]):=fnM (oF h1 (oF h2 (oF h3 (oF h4 (oF h5 (oF h6 (oF h7 (oT h8 (oF h9 (oB (bnT h10) (oF h11 (oF h12 (oC (beF h13) (oF h14 oZ))))))))))))))
end
theorem v9j (h10:i1=0)(h11:Fn E z8b [.i 0] (.q b2 r6 r7)):Fn E z0x [.s s0] (.tup [.q b2 r6 r7,.b false]):=fnM (oF h1 (oF h2 (oF h3 (oF h4 (oF h5 (oF h6 (oF h7 (oT h8 (oF h9 (oC (bnF h10) (oF h11 oZ)))))))))))
end
theorem v9k (h8:¬ i0>0)(h9:Fn E z8b [.i 0] (.q b3 r3 r6)):Fn E z0x [.s s0] (.tup [.q b3 r3 r6,.b false]):=fnM (oF h1 (oF h2 (oF h3 (oF h4 (oF h5 (oF h6 (oF h7 (oU h8 (oF h9 oZ)))))))))
end
theorem v9l (h1:Fn E V9 [.s s0] (.tup [.s s1,.s s2,.b false]))(h2:Fn E z2a [.s s1] (.b true))(h3:Fn E G2 [.s s2] (.b true))(h4:Fn E y5w [.s s1] (.z b0 r0))(h5:Fn E N9 [.s s2] (.l r1)):Fn E z0x [.s s0] (.tup [.q b0 r0 r1,.b true]):=fnM (oF h1 (oF h2 (oF h3 (oF h4 (oF h5 oZ)))))
section
variable (h1:Fn E V9 [.s s0] (.tup [.s s1,.s s2,.b b4]))
include h1
theorem v9m (h2:Fn E z2a [.s s1] (.b true))(h3:Fn E G2 [.s s2] (.b false))(h4:Fn E z8b [.i 0] (.q b0 r0 r1)):Fn E z0x [.s s0] (.tup [.q b0 r0 r1,.b false]):=fnM (oF h1 (oF h2 (oF h3 (oF h4 oZ))))
theorem j5b (h2:Fn E z2a [.s s1] (.b false))(h3:Fn E z8b [.i 0] (.q b5 r8 r0)):Fn E z0x [.s s0] (.tup [.q b5 r8 r0,.b false]):=fnM (oF h1 (oF h2 (oF h3 oZ)))
end
section
variable (h1:Fn E H2 [.l r0,.l r1] (.l r2))
include h1
section
variable (h2:(r2.length:Int)=1)(h3:r2[0]?=some [.w i0])
include h2 h3
theorem q9l (h4:i0=1):Fn E y1k [.z b0 r0,.l r1] (.q b0 r0 r1):=fnM (oF h1 (oB (beT h2) (oP (show (0:Int)≤0 from by decide) (oD h3 (oB (beT h4) oZ)))))
theorem q9m (h4:¬ i0=1)(h5:Fn E H4 [.l r0,.l r2] (.tup [.l r3,.l r4]))(h6:Fn E H4 [.l r1,.l r2] (.tup [.l r5,.l r6]))(h7:Fn E P3 [.b b0,.l r3] (.z b1 r7)):Fn E y1k [.z b0 r0,.l r1] (.q b1 r7 r5):=fnM (oF h1 (oB (beT h2) (oP (show (0:Int)≤0 from by decide) (oD h3 (oC (beF h4) (oF h5 (oF h6 (oF h7 oZ))))))))
end
theorem q9n (h2:¬ (r2.length:Int)=1)(h3:Fn E H4 [.l r0,.l r2] (.tup [.l r8,.l r3]))(h4:Fn E H4 [.l r1,.l r2] (.tup [.l r4,.l r5]))(h5:Fn E P3 [.b b0,.l r8] (.z b2 r9)):Fn E y1k [.z b0 r0,.l r1] (.q b2 r9 r4):=fnM (oF h1 (oC (beF h2) (oF h3 (oF h4 (oF h5 oZ)))))
end
section
variable (h1:Fn E X3 [.q b0 r0 r1] (.i i0))(h2:Fn E X3 [.q b1 r2 r3] (.i i1))
include h1 h2
theorem w2u (h3:¬ i0=i1)(h4:i0<i1):Fn E y9m [.q b0 r0 r1,.q b1 r2 r3] (.i (-1)):=fnM (oF h1 (oF h2 (oB (bnT h3) (oT h4 oZ))))
theorem w2v (h3:¬ i0=i1)(h4:¬ i0<i1):Fn E y9m [.q b0 r0 r1,.q b1 r2 r3] (.i 1):=fnM (oF h1 (oF h2 (oB (bnT h3) (oU h4 oZ))))
theorem w2w (h3:i0=i1)(h4:Fn E H6 [.l r0,.l r3] (.l r4))(h5:Fn E P3 [.b b0,.l r4] (.z b2 r5))(h6:Fn E H6 [.l r2,.l r1] (.l r6))(h7:Fn E P3 [.b b1,.l r6] (.z b3 r7))(h8:Fn E k1n [.z b2 r5,.z b3 r7] (.i i2)):Fn E y9m [.q b0 r0 r1,.q b1 r2 r3] (.i i2):=fnM (oF h1 (oF h2 (oC (bnF h3) (oF h4 (oF h5 (oF h6 (oF h7 (oF h8 oZ))))))))
end
def z2q (s0:BA) (i0:Int):St:=stOf 24 [(0,.s s0),(5,.i i0)] []
def y8d (s1 s2:BA):St:=stOf 24 [(2,.s s1),(3,.s s2),(4,.b true)] []
def y8e (s0:BA):St:=stOf 24 [(0,.s s0)] []
section
variable (e1:((s0.data.toList.getD (Int.toNat i0) 0).toNat:Int)=i1)
include e1
theorem x4c (e2:IntKind.i64.wrap (i0+1)=i2)(h1:i0<(s0.size:Int))(h2:0≤i0∧i0<s0.size)(h3:¬ i1=47)(ih:Lp E 0 V9 0 (z2q s0 i2) o t):Lp E 0 V9 0 (z2q s0 i0) o t:=by subst e1 e2;exact lpM (oT h1 (oP h2 (oC (beF h3) oZ))) ih
theorem k7u (e2:s0.extract 0 (Int.toNat i0)=s3)(e3:IntKind.i64.wrap (i0+1)=i3)(e4:s0.extract (Int.toNat i3) (Int.toNat (s0.size:Int))=s4)(h1:i0<(s0.size:Int))(h2:0≤i0∧i0<s0.size)(h3:i1=47)(h4:0≤(0:Int)∧(0:Int)≤i0∧i0≤s0.size)(h5:0≤i3∧i3≤(s0.size:Int)∧(s0.size:Int)≤s0.size):Lp E 0 V9 0 (z2q s0 i0) .ret (y8d s3 s4):=by subst e1 e2 e3 e4;exact lpX (oT h1 (oP h2 (oB (beT h3) (oP h4 (oP h5 oZ)))))
end
theorem k7v (h1:¬ i0<(s0.size:Int)):Lp E 0 V9 0 (z2q s0 i0) (.exit 0) (y8e s0):=lpX (oU h1 oZ)
theorem v3q (h1:Lp E 0 V9 0 (z2q s0 0) .ret (y8d s1 s2)):Fn E V9 [.s s0] (.tup [.s s1,.s s2,.b true]):=fnM (oL h1 oZ)
theorem v3r (h1:Lp E 0 V9 0 (z2q s0 0) (.exit 0) (y8e s0)):Fn E V9 [.s s0] (.tup [.s s0,.s ⟨#[49]⟩,.b false]):=fnM (oL h1 oZ)
end Gev
namespace Gev
open Go Go.Proofs
variable {E:Env}
variable {o:Out} {t:St} {r0 r1 r2 r3 r4 r5 r6 r7:RW} {i0 i1:Int} {s0 s1:BA}
def y3y (i0:Int) (r0 r1 r2 r3 r4 r5:RW):St:=stOf 48 [(2,.ptr 0 0),(3,.ptr 1 0),(5,.i i0)] [sC [.l r0,.l r1,.l r2],sC [.l r3,.l r4,.l r5]]
def x9k (r0 r1 r2 r3 r4 r5:RW):St:=stOf 48 [] [sC [.l r0,.l r1,.l r2],sC [.l r3,.l r4,.l r5]]
theorem j9q (h1:i0<(r0.length:Int))(h2:0≤i0)(h3:r0[(Int.toNat i0)]?=some [.l r6])(h4:r3[(Int.toNat i0)]?=some [.l r7])(h5:Fn E Y6 [.l r6,.l r7] (.b true))(e1:IntKind.i64.wrap (i0+1)=i1)(ih:Lp E 2 z5s 0 (y3y i1 r0 r1 r2 r3 r4 r5) o t):Lp E 2 z5s 0 (y3y i0 r0 r1 r2 r3 r4 r5) o t:=by subst e1;exact lpM (oT h1 (oP h2 (oD h3 (oP h2 (oD h4 (oF h5 oZ)))))) ih
theorem j1z (h1:¬ i0<(r0.length:Int)):Lp E 2 z5s 0 (y3y i0 r0 r1 r2 r3 r4 r5) (.exit 0) (x9k r0 r1 r2 r3 r4 r5):=lpX (oU h1 oZ)
theorem v9q (h1:Fn E Y6 [.l r1,.l r4] (.b true))(h2:Fn E Y6 [.l r2,.l r5] (.b true))(h3:(r0.length:Int)=(r3.length:Int))(h4:Lp E 2 z5s 0 (y3y 0 r0 r1 r2 r3 r4 r5) (.exit 0) (x9k r0 r1 r2 r3 r4 r5)):Fn E z5s [.agg [.l r0,.l r1,.l r2],.agg [.l r3,.l r4,.l r5]] (.b true):=fnM (oF h1 (oF h2 (oC (bnF h3) (oL h4 oZ))))
def z6b (r0 r1:RW) (i0:Int):St:=stOf 26 [(0,.l r0),(1,.l r1),(5,.i i0)] []
def x1d:St:=stOf 26 [] []
theorem k4k (h1:i0<(r0.length:Int))(h2:0≤i0)(h3:r0[(Int.toNat i0)]?=some [.s s0])(h4:r1[(Int.toNat i0)]?=some [.s s1])(h5:s0=s1)(e1:IntKind.i64.wrap (i0+1)=i1)(ih:Lp E 0 Y6 0 (z6b r0 r1 i1) o t):Lp E 0 Y6 0 (z6b r0 r1 i0) o t:=by subst e1;exact lpM (oT h1 (oP h2 (oD h3 (oP h2 (oD h4 (oC (snF h5) oZ)))))) ih
theorem x8i (h1:¬ i0<(r0.length:Int)):Lp E 0 Y6 0 (z6b r0 r1 i0) (.exit 0) (x1d):=lpX (oU h1 oZ)
theorem j9p (h1:(r0.length:Int)=(r1.length:Int))(h2:Lp E 0 Y6 0 (z6b r0 r1 0) (.exit 0) (x1d)):Fn E Y6 [.l r0,.l r1] (.b true):=fnM (oC (bnF h1) (oL h2 oZ))
end Gev
namespace Gev
open Go Go.Proofs
variable {E:Env}
variable {o:Out} {t:St} {r0 r1 r2 r3 r4 r5 r6 r7:RW} {i0 i1 i2 i3 i4 i5 i6 i7 i8 i9 i10 i11 i12:Int} {n0 n1:Nat} {s0 s1 s2 s3 s4 s5 s6 s7 s8 s9 s10 s11:BA} {b0 b1 b2:Bool}
def z2f (i0:Int) (r0 r1:RW):St:=stOf 100 [(1,.ptr 0 0),(3,.i i0)] [sC [.l r0,.l r1]]
def z7j (r0 r1:RW):St:=stOf 100 [(2,.b false)] [sC [.l r0,.l r1]]
def k4l (r0 r1:RW):St:=stOf 100 [(1,.ptr 0 0)] [sC [.l r0,.l r1]]
section
variable (h1:i0<(r0.length:Int))(h2:0≤i0)(h3:r0[(Int.toNat i0)]?=some [.i i1,.i i2,.i i3,.s s0,.s s1,.s s2,.s s3])
include h1 h2 h3
theorem q3p (h4:¬ (s1.size:Int)>40)(h5:¬ (s2.size:Int)>40)(h6:¬ (s3.size:Int)>40)(h7:¬ (s0.size:Int)>70)(e1:IntKind.i64.wrap (i0+1)=i4)(ih:Lp E 1 G3 0 (z2f i4 r0 r1) o t):Lp E 1 G3 0 (z2f i0 r0 r1) o t:=by subst e1;exact lpM (oT h1 (oP h2 (oD h3 (oU h4 (oU h5 (oU h6 (oU h7 oZ))))))) ih
theorem j5g (h4:(s1.size:Int)>40):Lp E 1 G3 0 (z2f i0 r0 r1) .ret (z7j r0 r1):=lpX (oT h1 (oP h2 (oD h3 (oT h4 oZ))))
section
variable (h4:¬ (s1.size:Int)>40)
include h4
theorem j5h (h5:(s2.size:Int)>40):Lp E 1 G3 0 (z2f i0 r0 r1) .ret (z7j r0 r1):=lpX (oT h1 (oP h2 (oD h3 (oU h4 (oT h5 oZ)))))
theorem j5i (h5:¬ (s2.size:Int)>40)(h6:(s3.size:Int)>40):Lp E 1 G3 0 (z2f i0 r0 r1) .ret (z7j r0 r1):=lpX (oT h1 (oP h2 (oD h3 (oU h4 (oU h5 (oT h6 oZ))))))
theorem j5j (h5:¬ (s2.size:Int)>40)(h6:¬ (s3.size:Int)>40)(h7:(s0.size:Int)>70):Lp E 1 G3 0 (z2f i0 r0 r1) .ret (z7j r0 r1):=lpX (oT h1 (oP h2 (oD h3 (oU h4 (oU h5 (oU h6 (oT h7 oZ)))))))
end
end
theorem j5k (h1:¬ i0<(r0.length:Int)):Lp E 1 G3 0 (z2f i0 r0 r1) (.exit 0) (k4l r0 r1):=lpX (oU h1 oZ)
def z0c (i0:Int) (r0 r1:RW):St:=stOf 100 [(1,.ptr 0 0),(5,.i i0)] [sC [.l r0,.l r1]]
def z2r (r0 r1:RW):St:=stOf 100 [(2,.b false)] [sC [.l r0,.l r1]]
def k4m (r0 r1:RW):St:=stOf 100 [(1,.ptr 0 0)] [sC [.l r0,.l r1]]
section
variable (h1:i0<(r1.length:Int))(h2:0≤i0)(h3:r1[(Int.toNat i0)]?=some [.i i1,.s s0,.s s1,.s s2,.s s3,.s s4,.s s5])
include h1 h2 h3
theorem q3q (h4:¬ (s1.size:Int)>40)(h5:¬ (s2.size:Int)>40)(h6:¬ (s3.size:Int)>40)(h7:¬ (s4.size:Int)>40)(h8:¬ (s5.size:Int)>40)(h9:¬ (s0.size:Int)>70)(e1:IntKind.i64.wrap (i0+1)=i2)(ih:Lp E 1 G3 1 (z0c i2 r0 r1) o t):Lp E 1 G3 1 (z0c i0 r0 r1) o t:=by subst e1;exact lpM (oT h1 (oP h2 (oD h3 (oU h4 (oU h5 (oU h6 (oU h7 (oU h8 (oU h9 oZ))))))))) ih
theorem j5l (h4:(s1.size:Int)>40):Lp E 1 G3 1 (z0c i0 r0 r1) .ret (z2r r0 r1):=lpX (oT h1 (oP h2 (oD h3 (oT h4 oZ))))
section
variable (h4:¬ (s1.size:Int)>40)
include h4
theorem j5m (h5:(s2.size:Int)>40):Lp E 1 G3 1 (z0c i0 r0 r1) .ret (z2r r0 r1):=lpX (oT h1 (oP h2 (oD h3 (oU h4 (oT h5 oZ)))))
section
variable (h5:¬ (s2.size:Int)>40)
include h5
theorem j5n (h6:(s3.size:Int)>40):Lp E 1 G3 1 (z0c i0 r0 r1) .ret (z2r r0 r1):=lpX (oT h1 (oP h2 (oD h3 (oU h4 (oU h5 (oT h6 oZ))))))
section
variable (h6:¬ (s3.size:Int)>40)
include h6
theorem j5o (h7:(s4.size:Int)>40):Lp E 1 G3 1 (z0c i0 r0 r1) .ret (z2r r0 r1):=lpX (oT h1 (oP h2 (oD h3 (oU h4 (oU h5 (oU h6 (oT h7 oZ)))))))
theorem j5p (h7:¬ (s4.size:Int)>40)(h8:(s5.size:Int)>40):Lp E 1 G3 1 (z0c i0 r0 r1) .ret (z2r r0 r1):=lpX (oT h1 (oP h2 (oD h3 (oU h4 (oU h5 (oU h6 (oU h7 (oT h8 oZ))))))))
theorem j5q (h7:¬ (s4.size:Int)>40)(h8:¬ (s5.size:Int)>40)(h9:(s0.size:Int)>70):Lp E 1 G3 1 (z0c i0 r0 r1) .ret (z2r r0 r1):=lpX (oT h1 (oP h2 (oD h3 (oU h4 (oU h5 (oU h6 (oU h7 (oU h8 (oT h9 oZ)))))))))
end
end
end
end
theorem j5r (h1:¬ i0<(r1.length:Int)):Lp E 1 G3 1 (z0c i0 r0 r1) (.exit 2) (k4m r0 r1):=lpX (oU h1 oZ)
theorem w3a (h1:Lp E 1 G3 0 (z2f 0 r0 r1) .ret (z7j r0 r1)):Fn E G3 [.agg [.l r0,.l r1]] (.b false):=fnM (oL h1 oZ)
section
variable (h1:Lp E 1 G3 0 (z2f 0 r0 r1) (.exit 0) (k4l r0 r1))
include h1
theorem w3b (h2:Lp E 1 G3 1 (z0c 0 r0 r1) .ret (z2r r0 r1)):Fn E G3 [.agg [.l r0,.l r1]] (.b false):=fnM (oL h1 (oL h2 oZ))
section
variable (h2:Lp E 1 G3 1 (z0c 0 r0 r1) (.exit 2) (k4m r0 r1))
include h2
theorem w3c (h3:(r0.length:Int)≤7)(h4:(r1.length:Int)≤7):Fn E G3 [.agg [.l r0,.l r1]] (.b true):=fnM (oL h1 (oL h2 (oT h3 (oT h4 oZ))))
theorem w3d (h3:(r0.length:Int)≤7)(h4:¬ (r1.length:Int)≤7):Fn E G3 [.agg [.l r0,.l r1]] (.b false):=fnM (oL h1 (oL h2 (oT h3 (oU h4 oZ))))
theorem w3e (h3:¬ (r0.length:Int)≤7):Fn E G3 [.agg [.l r0,.l r1]] (.b false):=fnM (oL h1 (oL h2 (oU h3 oZ)))
end
end
theorem v9r (h1:∀ y∈r0,y.length=7)(h2:(0+r0.length)*88≤140737488355328∧0+r0.length≤140737488355328)(h3:∀ y∈r1,y.length=7)(h4:(0+r1.length)*104≤140737488355328∧0+r1.length≤140737488355328)(e1:(([]:RW).take 0)++r0=r2)(e2:0+r0.length=n0)(e3:(([]:RW).take 0)++r1=r3)(e4:0+r1.length=n1)(e5:(r2.take n0)=r4)(e6:(r3.take n1)=r5):Fn E x1f [.agg [.l r0,.l r1]] (.agg [.l r4,.l r5]):=by subst e1 e2 e3 e4 e5 e6;exact fnM (oP h1 (oP h2 (oP h3 (oP h4 oZ))))
def H3 (i0:Int) (r0 r1:RW):St:=stOf 143 [(1,.ptr 0 0),(3,.i i0)] [sC [.l r0,.l r1]]
def K2 (r0 r1:RW) (i1:Int):St:=stOf 143 [(2,.i i1)] [sC [.l r0,.l r1]]
def y8f (r0 r1:RW):St:=stOf 143 [(1,.ptr 0 0)] [sC [.l r0,.l r1]]
section
variable (h1:i0<(r0.length:Int))(h2:0≤i0)(h3:r0[(Int.toNat i0)]?=some [.i i2,.i i3,.i i4,.s s0,.s s1,.s s2,.s s3])
include h1 h2 h3
section
variable (h4:Fn E z5t [.i i2] (.b true))
include h4
section
variable (h5:¬ i3<1)(h6:¬ i3>9)(h7:¬ i4<1)(h8:¬ i4>9)(h9:Fn E V3 [.s s1] (.q b0 r2 r3))(h10:Fn E X3 [.q b0 r2 r3] (.i i5))(h11:¬ i5≤0)(h12:Fn E V3 [.s s2] (.q b1 r4 r5))(h13:Fn E X3 [.q b1 r4 r5] (.i i6))(h14:¬ i6≤0)(h15:Fn E V3 [.s s3] (.q b2 r6 r7))(h16:Fn E X3 [.q b2 r6 r7] (.i i7))(h17:¬ i7<0)(h18:Fn E z0t [.s s0] (.b true))
include h5 h6 h7 h8 h9 h10 h11 h12 h13 h14 h15 h16 h17 h18
theorem j5c (h19:i0>0)(h20:0≤i8)(h21:r0[(Int.toNat i8)]?=some [.i i9,.i i10,.i i11,.s s4,.s s5,.s s6,.s s7])(h22:¬ i9≥i2)(e1:IntKind.i64.wrap (i0-1)=i8)(e2:IntKind.i64.wrap (i0+1)=i12)(ih:Lp E 1 B7 0 (H3 i12 r0 r1) o t):Lp E 1 B7 0 (H3 i0 r0 r1) o t:=by subst e1 e2;exact lpM (oT h1 (oP h2 (oD h3 (oF h4 (oU h5 (oU h6 (oU h7 (oU h8 (oF h9 (oF h10 (oU h11 (oF h12 (oF h13 (oU h14 (oF h15 (oF h16 (oU h17 (oF h18 (oT h19 (oP h20 (oD h21 (oU h22 oZ)))))))))))))))))))))) ih
theorem j5d (h19:¬ i0>0)(e1:IntKind.i64.wrap (i0+1)=i8)(ih:Lp E 1 B7 0 (H3 i8 r0 r1) o t):Lp E 1 B7 0 (H3 i0 r0 r1) o t:=by subst e1;exact lpM (oT h1 (oP h2 (oD h3 (oF h4 (oU h5 (oU h6 (oU h7 (oU h8 (oF h9 (oF h10 (oU h11 (oF h12 (oF h13 (oU h14 (oF h15 (oF h16 (oU h17 (oF h18 (oU h19 oZ))))))))))))))))))) ih
end
theorem k7w (h5:i3<1):Lp E 1 B7 0 (H3 i0 r0 r1) .ret (K2 r0 r1 2):=lpX (oT h1 (oP h2 (oD h3 (oF h4 (oT h5 oZ)))))
section
variable (h5:¬ i3<1)
include h5
theorem k7x (h6:i3>9):Lp E 1 B7 0 (H3 i0 r0 r1) .ret (K2 r0 r1 2):=lpX (oT h1 (oP h2 (oD h3 (oF h4 (oU h5 (oT h6 oZ))))))
section
variable (h6:¬ i3>9)
include h6
theorem k7y (h7:i4<1):Lp E 1 B7 0 (H3 i0 r0 r1) .ret (K2 r0 r1 2):=lpX (oT h1 (oP h2 (oD h3 (oF h4 (oU h5 (oU h6 (oT h7 oZ)))))))
section
variable (h7:¬ i4<1)
include h7
theorem k7z (h8:i4>9):Lp E 1 B7 0 (H3 i0 r0 r1) .ret (K2 r0 r1 2):=lpX (oT h1 (oP h2 (oD h3 (oF h4 (oU h5 (oU h6 (oU h7 (oT h8 oZ))))))))
section
variable (h8:¬ i4>9)(h9:Fn E V3 [.s s1] (.q b0 r2 r3))(h10:Fn E X3 [.q b0 r2 r3] (.i i5))
include h8 h9 h10
theorem k8a (h11:i5≤0):Lp E 1 B7 0 (H3 i0 r0 r1) .ret (K2 r0 r1 2):=lpX (oT h1 (oP h2 (oD h3 (oF h4 (oU h5 (oU h6 (oU h7 (oU h8 (oF h9 (oF h10 (oT h11 oZ)))))))))))
section
variable (h11:¬ i5≤0)(h12:Fn E V3 [.s s2] (.q b1 r4 r5))(h13:Fn E X3 [.q b1 r4 r5] (.i i6))
include h11 h12 h13
theorem k8b (h14:i6≤0):Lp E 1 B7 0 (H3 i0 r0 r1) .ret (K2 r0 r1 2):=lpX (oT h1 (oP h2 (oD h3 (oF h4 (oU h5 (oU h6 (oU h7 (oU h8 (oF h9 (oF h10 (oU h11 (oF h12 (oF h13 (oT h14 oZ))))))))))))))
section
variable (h14:¬ i6≤0)(h15:Fn E V3 [.s s3] (.q b2 r6 r7))(h16:Fn E X3 [.q b2 r6 r7] (.i i7))
include h14 h15 h16
theorem k8c (h17:i7<0):Lp E 1 B7 0 (H3 i0 r0 r1) .ret (K2 r0 r1 2):=lpX (oT h1 (oP h2 (oD h3 (oF h4 (oU h5 (oU h6 (oU h7 (oU h8 (oF h9 (oF h10 (oU h11 (oF h12 (oF h13 (oU h14 (oF h15 (oF h16 (oT h17 oZ)))))))))))))))))
theorem k8d (h17:¬ i7<0)(h18:Fn E z0t [.s s0] (.b true))(h19:i0>0)(h20:0≤i8)(h21:r0[(Int.toNat i8)]?=some [.i i9,.i i10,.i i11,.s s4,.s s5,.s s6,.s s7])(h22:i9≥i2)(e1:IntKind.i64.wrap (i0-1)=i8):Lp E 1 B7 0 (H3 i0 r0 r1) .ret (K2 r0 r1 5):=by subst e1;exact lpX (oT h1 (oP h2 (oD h3 (oF h4 (oU h5 (oU h6 (oU h7 (oU h8 (oF h9 (oF h10 (oU h11 (oF h12 (oF h13 (oU h14 (oF h15 (oF h16 (oU h17 (oF h18 (oT h19 (oP h20 (oD h21 (oT h22 oZ))))))))))))))))))))))
theorem k8e (h17:¬ i7<0)(h18:Fn E z0t [.s s0] (.b false)):Lp E 1 B7 0 (H3 i0 r0 r1) .ret (K2 r0 r1 4):=lpX (oT h1 (oP h2 (oD h3 (oF h4 (oU h5 (oU h6 (oU h7 (oU h8 (oF h9 (oF h10 (oU h11 (oF h12 (oF h13 (oU h14 (oF h15 (oF h16 (oU h17 (oF h18 oZ))))))))))))))))))
end
end
end
end
end
end
end
theorem k8f (h4:Fn E z5t [.i i2] (.b false)):Lp E 1 B7 0 (H3 i0 r0 r1) .ret (K2 r0 r1 2):=lpX (oT h1 (oP h2 (oD h3 (oF h4 oZ))))
end
theorem k8g (h1:¬ i0<(r0.length:Int)):Lp E 1 B7 0 (H3 i0 r0 r1) (.exit 0) (y8f r0 r1):=lpX (oU h1 oZ)
def M2 (i0:Int) (r0 r1:RW):St:=stOf 143 [(1,.ptr 0 0),(5,.i i0)] [sC [.l r0,.l r1]]
def z0l (r0 r1:RW) (i1:Int):St:=stOf 143 [(2,.i i1)] [sC [.l r0,.l r1]]
def y8g (r0 r1:RW):St:=stOf 143 [] [sC [.l r0,.l r1]]
section
variable (h1:i0<(r1.length:Int))(h2:0≤i0)(h3:r1[(Int.toNat i0)]?=some [.i i2,.s s0,.s s1,.s s2,.s s3,.s s4,.s s5])
include h1 h2 h3
section
variable (h4:Fn E z5t [.i i2] (.b true))(h5:Fn E V3 [.s s1] (.q b0 r2 r3))(h6:Fn E X3 [.q b0 r2 r3] (.i i3))
include h4 h5 h6
section
variable (h7:¬ i3<0)(h8:Fn E V3 [.s s2] (.q b1 r4 r5))(h9:Fn E X3 [.q b1 r4 r5] (.i i4))(h10:¬ i4<0)(h11:Fn E z0t [.s s0] (.b true))
include h7 h8 h9 h10 h11
theorem j5e (h12:i0>0)(h13:0≤i5)(h14:r1[(Int.toNat i5)]?=some [.i i6,.s s6,.s s7,.s s8,.s s9,.s s10,.s s11])(h15:¬ i6≥i2)(e1:IntKind.i64.wrap (i0-1)=i5)(e2:IntKind.i64.wrap (i0+1)=i7)(ih:Lp E 1 B7 1 (M2 i7 r0 r1) o t):Lp E 1 B7 1 (M2 i0 r0 r1) o t:=by subst e1 e2;exact lpM (oT h1 (oP h2 (oD h3 (oF h4 (oF h5 (oF h6 (oU h7 (oF h8 (oF h9 (oU h10 (oF h11 (oT h12 (oP h13 (oD h14 (oU h15 oZ))))))))))))))) ih
theorem j5f (h12:¬ i0>0)(e1:IntKind.i64.wrap (i0+1)=i5)(ih:Lp E 1 B7 1 (M2 i5 r0 r1) o t):Lp E 1 B7 1 (M2 i0 r0 r1) o t:=by subst e1;exact lpM (oT h1 (oP h2 (oD h3 (oF h4 (oF h5 (oF h6 (oU h7 (oF h8 (oF h9 (oU h10 (oF h11 (oU h12 oZ)))))))))))) ih
end
theorem k8h (h7:i3<0):Lp E 1 B7 1 (M2 i0 r0 r1) .ret (z0l r0 r1 2):=lpX (oT h1 (oP h2 (oD h3 (oF h4 (oF h5 (oF h6 (oT h7 oZ)))))))
section
variable (h7:¬ i3<0)(h8:Fn E V3 [.s s2] (.q b1 r4 r5))(h9:Fn E X3 [.q b1 r4 r5] (.i i4))
include h7 h8 h9
theorem k8i (h10:i4<0):Lp E 1 B7 1 (M2 i0 r0 r1) .ret (z0l r0 r1 2):=lpX (oT h1 (oP h2 (oD h3 (oF h4 (oF h5 (oF h6 (oU h7 (oF h8 (oF h9 (oT h10 oZ))))))))))
theorem k8j (h10:¬ i4<0)(h11:Fn E z0t [.s s0] (.b true))(h12:i0>0)(h13:0≤i5)(h14:r1[(Int.toNat i5)]?=some [.i i6,.s s6,.s s7,.s s8,.s s9,.s s10,.s s11])(h15:i6≥i2)(e1:IntKind.i64.wrap (i0-1)=i5):Lp E 1 B7 1 (M2 i0 r0 r1) .ret (z0l r0 r1 5):=by subst e1;exact lpX (oT h1 (oP h2 (oD h3 (oF h4 (oF h5 (oF h6 (oU h7 (oF h8 (oF h9 (oU h10 (oF h11 (oT h12 (oP h13 (oD h14 (oT h15 oZ)))))))))))))))
theorem k8k (h10:¬ i4<0)(h11:Fn E z0t [.s s0] (.b false)):Lp E 1 B7 1 (M2 i0 r0 r1) .ret (z0l r0 r1 4):=lpX (oT h1 (oP h2 (oD h3 (oF h4 (oF h5 (oF h6 (oU h7 (oF h8 (oF h9 (oU h10 (oF h11 oZ)))))))))))
end
end
theorem k8l (h4:Fn E z5t [.i i2] (.b false)):Lp E 1 B7 1 (M2 i0 r0 r1) .ret (z0l r0 r1 2):=lpX (oT h1 (oP h2 (oD h3 (oF h4 oZ))))
end
theorem k8m (h1:¬ i0<(r1.length:Int)):Lp E 1 B7 1 (M2 i0 r0 r1) (.exit 2) (y8g r0 r1):=lpX (oU h1 oZ)
section
variable (h1:Fn E D9 [.agg [.l r0,.l r1]] (.b true))
include h1
theorem v3s (h2:(r0.length:Int)>6):Fn E B7 [.agg [.l r0,.l r1]] (.i 8):=fnM (oF h1 (oT h2 oZ))
section
variable (h2:¬ (r0.length:Int)>6)
include h2
theorem v3t (h3:(r1.length:Int)>6):Fn E B7 [.agg [.l r0,.l r1]] (.i 8):=fnM (oF h1 (oU h2 (oT h3 oZ)))
section
variable (h3:¬ (r1.length:Int)>6)
include h3
theorem v3u (h4:Lp E 1 B7 0 (H3 0 r0 r1) .ret (K2 r0 r1 i0)):Fn E B7 [.agg [.l r0,.l r1]] (.i i0):=fnM (oF h1 (oU h2 (oU h3 (oL h4 oZ))))
section
variable (h4:Lp E 1 B7 0 (H3 0 r0 r1) (.exit 0) (y8f r0 r1))
include h4
theorem v3v (h5:Lp E 1 B7 1 (M2 0 r0 r1) .ret (z0l r0 r1 i0)):Fn E B7 [.agg [.l r0,.l r1]] (.i i0):=fnM (oF h1 (oU h2 (oU h3 (oL h4 (oL h5 oZ)))))
theorem v3w (h5:Lp E 1 B7 1 (M2 0 r0 r1) (.exit 2) (y8g r0 r1)):Fn E B7 [.agg [.l r0,.l r1]] (.i 0):=fnM (oF h1 (oU h2 (oU h3 (oL h4 (oL h5 oZ)))))
end
end
end
end
theorem v3x (h1:Fn E D9 [.agg [.l r0,.l r1]] (.b false)):Fn E B7 [.agg [.l r0,.l r1]] (.i 1):=fnM (oF h1 oZ)
def Y9 (i0:Int) (r0 r1:RW):St:=stOf 78 [(1,.ptr 0 0),(3,.i i0)] [sC [.l r0,.l r1]]
def z4v (r0 r1:RW):St:=stOf 78 [(2,.b false)] [sC [.l r0,.l r1]]
def x2z (r0 r1:RW):St:=stOf 78 [(1,.ptr 0 0)] [sC [.l r0,.l r1]]
section
variable (h1:i0<(r0.length:Int))(h2:0≤i0)(h3:r0[(Int.toNat i0)]?=some [.i i1,.i i2,.i i3,.s s0,.s s1,.s s2,.s s3])
include h1 h2 h3
section
variable (h4:Fn E F8 [.s s1] (.b true))
include h4
section
variable (h5:Fn E F8 [.s s2] (.b true))
include h5
theorem k8n (h6:Fn E F8 [.s s3] (.b true))(e1:IntKind.i64.wrap (i0+1)=i4)(ih:Lp E 1 D9 0 (Y9 i4 r0 r1) o t):Lp E 1 D9 0 (Y9 i0 r0 r1) o t:=by subst e1;exact lpM (oT h1 (oP h2 (oD h3 (oF h4 (oF h5 (oF h6 oZ)))))) ih
theorem k0l (h6:Fn E F8 [.s s3] (.b false)):Lp E 1 D9 0 (Y9 i0 r0 r1) .ret (z4v r0 r1):=lpX (oT h1 (oP h2 (oD h3 (oF h4 (oF h5 (oF h6 oZ))))))
end
theorem k0m (h5:Fn E F8 [.s s2] (.b false)):Lp E 1 D9 0 (Y9 i0 r0 r1) .ret (z4v r0 r1):=lpX (oT h1 (oP h2 (oD h3 (oF h4 (oF h5 oZ)))))
end
theorem k0n (h4:Fn E F8 [.s s1] (.b false)):Lp E 1 D9 0 (Y9 i0 r0 r1) .ret (z4v r0 r1):=lpX (oT h1 (oP h2 (oD h3 (oF h4 oZ))))
end
theorem k0o (h1:¬ i0<(r0.length:Int)):Lp E 1 D9 0 (Y9 i0 r0 r1) (.exit 0) (x2z r0 r1):=lpX (oU h1 oZ)
def U2 (i0:Int) (r0 r1:RW):St:=stOf 78 [(1,.ptr 0 0),(5,.i i0)] [sC [.l r0,.l r1]]
def z0e (r0 r1:RW):St:=stOf 78 [(2,.b false)] [sC [.l r0,.l r1]]
def x3a (r0 r1:RW):St:=stOf 78 [] [sC [.l r0,.l r1]]
section
variable (h1:i0<(r1.length:Int))(h2:0≤i0)(h3:r1[(Int.toNat i0)]?=some [.i i1,.s s0,.s s1,.s s2,.s s3,.s s4,.s s5])
include h1 h2 h3
section
variable (h4:Fn E F8 [.s s1] (.b true))
include h4
section
variable (h5:Fn E F8 [.s s2] (.b true))
include h5
section
variable (h6:Fn E F8 [.s s3] (.b true))
include h6
section
variable (h7:Fn E F8 [.s s4] (.b true))
include h7
theorem k8o (h8:Fn E F8 [.s s5] (.b true))(e1:IntKind.i64.wrap (i0+1)=i2)(ih:Lp E 1 D9 1 (U2 i2 r0 r1) o t):Lp E 1 D9 1 (U2 i0 r0 r1) o t:=by subst e1;exact lpM (oT h1 (oP h2 (oD h3 (oF h4 (oF h5 (oF h6 (oF h7 (oF h8 oZ)))))))) ih
theorem k0p (h8:Fn E F8 [.s s5] (.b false)):Lp E 1 D9 1 (U2 i0 r0 r1) .ret (z0e r0 r1):=lpX (oT h1 (oP h2 (oD h3 (oF h4 (oF h5 (oF h6 (oF h7 (oF h8 oZ))))))))
end
theorem k0q (h7:Fn E F8 [.s s4] (.b false)):Lp E 1 D9 1 (U2 i0 r0 r1) .ret (z0e r0 r1):=lpX (oT h1 (oP h2 (oD h3 (oF h4 (oF h5 (oF h6 (oF h7 oZ)))))))
end
theorem k0r (h6:Fn E F8 [.s s3] (.b false)):Lp E 1 D9 1 (U2 i0 r0 r1) .ret (z0e r0 r1):=lpX (oT h1 (oP h2 (oD h3 (oF h4 (oF h5 (oF h6 oZ))))))
end
theorem k0s (h5:Fn E F8 [.s s2] (.b false)):Lp E 1 D9 1 (U2 i0 r0 r1) .ret (z0e r0 r1):=lpX (oT h1 (oP h2 (oD h3 (oF h4 (oF h5 oZ)))))
end
theorem k0t (h4:Fn E F8 [.s s1] (.b false)):Lp E 1 D9 1 (U2 i0 r0 r1) .ret (z0e r0 r1):=lpX (oT h1 (oP h2 (oD h3 (oF h4 oZ))))
end
theorem k0u (h1:¬ i0<(r1.length:Int)):Lp E 1 D9 1 (U2 i0 r0 r1) (.exit 2) (x3a r0 r1):=lpX (oU h1 oZ)
theorem q3r (h1:Lp E 1 D9 0 (Y9 0 r0 r1) .ret (z4v r0 r1)):Fn E D9 [.agg [.l r0,.l r1]] (.b false):=fnM (oL h1 oZ)
section
variable (h1:Lp E 1 D9 0 (Y9 0 r0 r1) (.exit 0) (x2z r0 r1))
include h1
theorem q3s (h2:Lp E 1 D9 1 (U2 0 r0 r1) .ret (z0e r0 r1)):Fn E D9 [.agg [.l r0,.l r1]] (.b false):=fnM (oL h1 (oL h2 oZ))
theorem q3t (h2:Lp E 1 D9 1 (U2 0 r0 r1) (.exit 2) (x3a r0 r1)):Fn E D9 [.agg [.l r0,.l r1]] (.b true):=fnM (oL h1 (oL h2 oZ))
end
theorem v9u (h1:i0≥1)(h2:i0≤1073741824):Fn E z5t [.i i0] (.b true):=fnM (oT h1 (oT h2 oZ))
theorem v9v (h1:i0≥1)(h2:¬ i0≤1073741824):Fn E z5t [.i i0] (.b false):=fnM (oT h1 (oU h2 oZ))
theorem v9w (h1:¬ i0≥1):Fn E z5t [.i i0] (.b false):=fnM (oU h1 oZ)
theorem w3f (h1:Fn E z0x [.s s0] (.tup [.q b0 r0 r1,.b b1])):Fn E V3 [.s s0] (.q b0 r0 r1):=fnM (oF h1 oZ)
theorem v3y (h1:(s0.size:Int)≥1)(h2:(s0.size:Int)≤64):Fn E z0t [.s s0] (.b true):=fnM (oT h1 (oT h2 oZ))
theorem v3z (h1:(s0.size:Int)≥1)(h2:¬ (s0.size:Int)≤64):Fn E z0t [.s s0] (.b false):=fnM (oT h1 (oU h2 oZ))
theorem v4a (h1:¬ (s0.size:Int)≥1):Fn E z0t [.s s0] (.b false):=fnM (oU h1 oZ)
def z6l (i0 i1:Int) (r0 r1:RW):St:=stOf 22 [(1,.i i0),(2,.ptr 0 0),(5,.i i1)] [sC [.l r0,.l r1]]
def x0o (r0 r1:RW) (i2:Int):St:=stOf 22 [(4,.i i2)] [sC [.l r0,.l r1]]
def x9l (r0 r1:RW):St:=stOf 22 [] [sC [.l r0,.l r1]]
section
variable (h1:i1<(r1.length:Int))(h2:0≤i1)(h3:r1[(Int.toNat i1)]?=some [.i i3,.s s0,.s s1,.s s2,.s s3,.s s4,.s s5])
include h1 h2 h3
theorem j9r (h4:¬ i3=i0)(e1:IntKind.i64.wrap (i1+1)=i4)(ih:Lp E 1 z2b 0 (z6l i0 i4 r0 r1) o t):Lp E 1 z2b 0 (z6l i0 i1 r0 r1) o t:=by subst e1;exact lpM (oT h1 (oP h2 (oD h3 (oC (beF h4) oZ)))) ih
theorem j2a (h4:i3=i0):Lp E 1 z2b 0 (z6l i0 i1 r0 r1) .ret (x0o r0 r1 i1):=lpX (oT h1 (oP h2 (oD h3 (oB (beT h4) oZ))))
end
theorem j2b (h1:¬ i1<(r1.length:Int)):Lp E 1 z2b 0 (z6l i0 i1 r0 r1) (.exit 0) (x9l r0 r1):=lpX (oU h1 oZ)
theorem v9s (h1:Lp E 1 z2b 0 (z6l i0 0 r0 r1) .ret (x0o r0 r1 i1)):Fn E z2b [.agg [.l r0,.l r1],.i i0] (.i i1):=fnM (oL h1 oZ)
theorem v9t (h1:Lp E 1 z2b 0 (z6l i0 0 r0 r1) (.exit 0) (x9l r0 r1)):Fn E z2b [.agg [.l r0,.l r1],.i i0] (.i (-1)):=fnM (oL h1 oZ)
def z3f (i0 i1:Int) (r0 r1:RW):St:=stOf 22 [(1,.i i0),(2,.ptr 0 0),(5,.i i1)] [sC [.l r0,.l r1]]
def y6m (r0 r1:RW) (i2:Int):St:=stOf 22 [(4,.i i2)] [sC [.l r0,.l r1]]
def x4d (r0 r1:RW):St:=stOf 22 [] [sC [.l r0,.l r1]]
section
variable (h1:i1<(r0.length:Int))(h2:0≤i1)(h3:r0[(Int.toNat i1)]?=some [.i i3,.i i4,.i i5,.s s0,.s s1,.s s2,.s s3])
include h1 h2 h3
theorem j2c (h4:¬ i3=i0)(e1:IntKind.i64.wrap (i1+1)=i6)(ih:Lp E 1 X7 0 (z3f i0 i6 r0 r1) o t):Lp E 1 X7 0 (z3f i0 i1 r0 r1) o t:=by subst e1;exact lpM (oT h1 (oP h2 (oD h3 (oC (beF h4) oZ)))) ih
theorem k4n (h4:i3=i0):Lp E 1 X7 0 (z3f i0 i1 r0 r1) .ret (y6m r0 r1 i1):=lpX (oT h1 (oP h2 (oD h3 (oB (beT h4) oZ))))
end
theorem k4o (h1:¬ i1<(r0.length:Int)):Lp E 1 X7 0 (z3f i0 i1 r0 r1) (.exit 0) (x4d r0 r1):=lpX (oU h1 oZ)
theorem q9o (h1:Lp E 1 X7 0 (z3f i0 0 r0 r1) .ret (y6m r0 r1 i1)):Fn E X7 [.agg [.l r0,.l r1],.i i0] (.i i1):=fnM (oL h1 oZ)
theorem q9p (h1:Lp E 1 X7 0 (z3f i0 0 r0 r1) (.exit 0) (x4d r0 r1)):Fn E X7 [.agg [.l r0,.l r1],.i i0] (.i (-1)):=fnM (oL h1 oZ)
end Gev
namespace Gev
open Go Go.Proofs
variable {E:Env}
variable {o:Out} {t:St} {r0 r1 r2 r3 r4:RW} {i0 i1 i2 i3 i4 i5 i6 i7 i8 i9 i10 i11:Int} {n0 n1:Nat} {s0 s1 s2 s3 s4 s5 s6 s7 s8:BA}
def Z1 (r0 r1:RW) (i0 i1:Int):St:=stOf 26 [(0,.l r0),(1,.l r1),(12,.i i0),(13,.i i1)] []
def y0k:St:=stOf 26 [(4,.b false)] []
def y7h:St:=stOf 26 [] []
section
variable (h1:i1<i0)(h2:0≤i1)(h3:r0[(Int.toNat i1)]?=some [.i i2])(h4:r1[(Int.toNat i1)]?=some [.i i3])
include h1 h2 h3 h4
theorem x8k (h5:i2=i3)(e1:IntKind.i64.wrap (i1+1)=i4)(ih:Lp E 0 K9 0 (Z1 r0 r1 i0 i4) o t):Lp E 0 K9 0 (Z1 r0 r1 i0 i1) o t:=by subst e1;exact lpM (oT h1 (oP h2 (oD h3 (oP h2 (oD h4 (oC (bnF h5) oZ)))))) ih
theorem x5c (h5:¬ i2=i3):Lp E 0 K9 0 (Z1 r0 r1 i0 i1) .ret (y0k):=lpX (oT h1 (oP h2 (oD h3 (oP h2 (oD h4 (oB (bnT h5) oZ))))))
end
theorem x5d (h1:¬ i1<i0):Lp E 0 K9 0 (Z1 r0 r1 i0 i1) (.exit 0) (y7h):=lpX (oU h1 oZ)
theorem j2l (h1:¬ (r0.length:Int)=(r1.length:Int)):Fn E K9 [.l r0,.l r1] (.b false):=fnM (oB (bnT h1) oZ)
section
variable (h1:(r0.length:Int)=(r1.length:Int))
include h1
theorem j2m (h2:Lp E 0 K9 0 (Z1 r0 r1 (r0.length:Int) 0) .ret (y0k)):Fn E K9 [.l r0,.l r1] (.b false):=fnM (oC (bnF h1) (oL h2 oZ))
theorem j2n (h2:Lp E 0 K9 0 (Z1 r0 r1 (r0.length:Int) 0) (.exit 0) (y7h)):Fn E K9 [.l r0,.l r1] (.b true):=fnM (oC (bnF h1) (oL h2 oZ))
end
def M7 (n0:Nat) (i0 i1:Int) (r0:RW) (s0:BA):St:=stOf 42 [(0,.vec 0 n0),(1,.fn G0 [.ptr 1 0]),(5,.i i0),(6,.i i1)] [sV C7 r0,sC [.s s0]]
def z3w (n0:Nat) (s0:BA) (i2:Int) (r1:RW):St:=stOf 42 [(0,.vec 0 n0),(5,.i i2)] [sV C7 r1,sC [.s s0]]
section
variable (h1:i1<((n0:Nat):Int))(h2:0≤i1∧i1<((n0:Nat):Int))(h3:r0[(Int.toNat i1)]?=some [.s s1,.i i3,.l r2,.s s2,.s s3,.i i4,.i i5])
include h1 h2 h3
theorem x0r (h4:Rn E G0 [.agg [.s s1,.i i3,.l r2,.s s2,.s s3,.i i4,.i i5],.ptr 1 0] [sV C7 r0,sC [.s s0],sC [.s s1,.i i3,.l r2,.s s2,.s s3,.i i4,.i i5]] (.b true) [sV C7 r0,sC [.s s0],sC [.s s1,.i i3,.l r2,.s s2,.s s3,.i i4,.i i5]])(e1:IntKind.i64.wrap (i1+1)=i6)(ih:Lp E 2 F2 0 (M7 n0 i0 i6 r0 s0) o t):Lp E 2 F2 0 (M7 n0 i0 i1 r0 s0) o t:=by subst e1;exact lpM (oT h1 (oP h2 (oD h3 (oR h4 oZ)))) ih
theorem x0s (h4:Rn E G0 [.agg [.s s1,.i i3,.l r2,.s s2,.s s3,.i i4,.i i5],.ptr 1 0] [sV C7 r0,sC [.s s0],sC [.s s1,.i i3,.l r2,.s s2,.s s3,.i i4,.i i5]] (.b false) [sV C7 r0,sC [.s s0],sC [.s s1,.i i3,.l r2,.s s2,.s s3,.i i4,.i i5]])(h5:0≤i0∧i0<((n0:Nat):Int))(h6:r0[(Int.toNat i0)]?=some [.s s4,.i i7,.l r3,.s s5,.s s6,.i i8,.i i9])(e1:List.set r0 (Int.toNat i0) [.s s1,.i i3,.l r2,.s s2,.s s3,.i i4,.i i5]=r4)(e2:IntKind.i64.wrap (i0+1)=i10)(e3:IntKind.i64.wrap (i1+1)=i11)(ih:Lp E 2 F2 0 (M7 n0 i10 i11 r4 s0) o t):Lp E 2 F2 0 (M7 n0 i0 i1 r0 s0) o t:=by subst e1 e2 e3;exact lpM (oT h1 (oP h2 (oD h3 (oR h4 (oP h5 (oD h6 oZ)))))) ih
end
theorem y8l (h1:¬ i1<((n0:Nat):Int)):Lp E 2 F2 0 (M7 n0 i0 i1 r0 s0) (.exit 0) (z3w n0 s0 i0 r0):=lpX (oU h1 oZ)
section
variable (h1:Rn E B8 [.vec 0 n0,.fn G0 [.ptr 1 0]] [sV C7 r0,sC [.s s0]] (.i i0) [sV C7 r0,sC [.s s0]])
include h1
theorem y0i (h2:i0=(-1)):Rn E F2 [.vec 0 n0,.fn G0 [.ptr 1 0]] [sV C7 r0,sC [.s s0]] (.vec 0 n0) [sV C7 r0,sC [.s s0]]:=rnM (oR h1 (oB (beT h2) oZ))
theorem y0j (h2:¬ i0=(-1))(h3:Lp E 2 F2 0 (M7 n0 i0 i1 r0 s0) (.exit 0) (z3w n0 s0 i2 r1))(h4:0≤i2∧i2≤((n0:Nat):Int)∧((n0:Nat):Int)≤((n0:Nat):Int))(h5:0≤i2∧i2≤((n0:Nat):Int))(e1:IntKind.i64.wrap (i0+1)=i1)(e2:(r1.take (Int.toNat i2))++List.replicate (n0-(Int.toNat i2)) [.s ⟨#[]⟩,.i 0,.l [],.s ⟨#[]⟩,.s ⟨#[]⟩,.i 0,.i 0]++List.drop n0 r1=r2)(e3:(Int.toNat i2)=n1):Rn E F2 [.vec 0 n0,.fn G0 [.ptr 1 0]] [sV C7 r0,sC [.s s0]] (.vec 0 n1) [sV C7 r2,sC [.s s0]]:=by subst e1 e2 e3;exact rnM (oR h1 (oC (beF h2) (oL h3 (oG (oP h4 (oP h5 oZ))))))
end
section
variable (h1:Fn E C2 [.l r0,.fn H7 []] (.i i0))
include h1
theorem z8x (h2:i0≥0):Fn E I3 [.l r0,.fn H7 []] (.b true):=fnM (oF h1 (oT h2 oZ))
theorem z8y (h2:¬ i0≥0):Fn E I3 [.l r0,.fn H7 []] (.b false):=fnM (oF h1 (oU h2 oZ))
end
section
variable (h1:Rn E B8 [.l r0,.fn G7 [.ptr 0 0]] [sC [.s s0,.i i0,.l r1,.s s1,.s s2,.i i1,.i i2]] (.i i3) [sC [.s s0,.i i0,.l r1,.s s1,.s s2,.i i1,.i i2]])
include h1
theorem z7t (h2:i3≥0):Rn E X9 [.l r0,.fn G7 [.ptr 0 0]] [sC [.s s0,.i i0,.l r1,.s s1,.s s2,.i i1,.i i2]] (.b true) [sC [.s s0,.i i0,.l r1,.s s1,.s s2,.i i1,.i i2]]:=rnM (oR h1 (oT h2 oZ))
theorem z7u (h2:¬ i3≥0):Rn E X9 [.l r0,.fn G7 [.ptr 0 0]] [sC [.s s0,.i i0,.l r1,.s s1,.s s2,.i i1,.i i2]] (.b false) [sC [.s s0,.i i0,.l r1,.s s1,.s s2,.i i1,.i i2]]:=rnM (oR h1 (oU h2 oZ))
end
def O8 (r0:RW) (i0 i1:Int) (r1 r2 r3:RW):St:=stOf 19 [(0,.l r0),(1,.fn I9 [.ptr 0 0,.ptr 1 0]),(7,.i i0),(8,.i i1)] [sC [.l r1,.l r2],sC [.l r3]]
def z4z (r1 r2 r3:RW) (i2:Int):St:=stOf 19 [(4,.i i2)] [sC [.l r1,.l r2],sC [.l r3]]
def y2a (r1 r2 r3:RW):St:=stOf 19 [] [sC [.l r1,.l r2],sC [.l r3]]
section
variable (h1:i1<i0)(h2:0≤i1)(h3:r0[(Int.toNat i1)]?=some [.i i3,.s s0,.s s1,.s s2,.s s3,.s s4,.s s5])
include h1 h2 h3
theorem x1u (h4:Rn E I9 [.agg [.i i3,.s s0,.s s1,.s s2,.s s3,.s s4,.s s5],.ptr 0 0,.ptr 1 0] [sC [.l r1,.l r2],sC [.l r3]] (.b false) [sC [.l r1,.l r2],sC [.l r3]])(e1:IntKind.i64.wrap (i1+1)=i4)(ih:Lp E 2 B1 0 (O8 r0 i0 i4 r1 r2 r3) o t):Lp E 2 B1 0 (O8 r0 i0 i1 r1 r2 r3) o t:=by subst e1;exact lpM (oT h1 (oP h2 (oD h3 (oR h4 oZ)))) ih
theorem y9y (h4:Rn E I9 [.agg [.i i3,.s s0,.s s1,.s s2,.s s3,.s s4,.s s5],.ptr 0 0,.ptr 1 0] [sC [.l r1,.l r2],sC [.l r3]] (.b true) [sC [.l r1,.l r2],sC [.l r3]]):Lp E 2 B1 0 (O8 r0 i0 i1 r1 r2 r3) .ret (z4z r1 r2 r3 i1):=lpX (oT h1 (oP h2 (oD h3 (oR h4 oZ))))
end
theorem y9z (h1:¬ i1<i0):Lp E 2 B1 0 (O8 r0 i0 i1 r1 r2 r3) (.exit 0) (y2a r1 r2 r3):=lpX (oU h1 oZ)
theorem z7x (h1:Lp E 2 B1 0 (O8 r0 (r0.length:Int) 0 r1 r2 r3) .ret (z4z r1 r2 r3 i0)):Rn E B1 [.l r0,.fn I9 [.ptr 0 0,.ptr 1 0]] [sC [.l r1,.l r2],sC [.l r3]] (.i i0) [sC [.l r1,.l r2],sC [.l r3]]:=rnM (oL h1 oZ)
theorem z7y (h1:Lp E 2 B1 0 (O8 r0 (r0.length:Int) 0 r1 r2 r3) (.exit 0) (y2a r1 r2 r3)):Rn E B1 [.l r0,.fn I9 [.ptr 0 0,.ptr 1 0]] [sC [.l r1,.l r2],sC [.l r3]] (.i (-1)) [sC [.l r1,.l r2],sC [.l r3]]:=rnM (oL h1 oZ)
def P0 (n0:Nat) (i0 i1:Int) (r0:RW) (s0:BA):St:=stOf 19 [(0,.vec 0 n0),(1,.fn G0 [.ptr 1 0]),(7,.i i0),(8,.i i1)] [sV C7 r0,sC [.s s0]]
def z5b (r0:RW) (s0:BA) (i2:Int):St:=stOf 19 [(4,.i i2)] [sV C7 r0,sC [.s s0]]
def y2c (r0:RW) (s0:BA):St:=stOf 19 [] [sV C7 r0,sC [.s s0]]
section
variable (h1:i1<i0)(h2:0≤i1∧i1<((n0:Nat):Int))(h3:r0[(Int.toNat i1)]?=some [.s s1,.i i3,.l r1,.s s2,.s s3,.i i4,.i i5])
include h1 h2 h3
theorem x1w (h4:Rn E G0 [.agg [.s s1,.i i3,.l r1,.s s2,.s s3,.i i4,.i i5],.ptr 1 0] [sV C7 r0,sC [.s s0]] (.b false) [sV C7 r0,sC [.s s0]])(e1:IntKind.i64.wrap (i1+1)=i6)(ih:Lp E 2 B8 0 (P0 n0 i0 i6 r0 s0) o t):Lp E 2 B8 0 (P0 n0 i0 i1 r0 s0) o t:=by subst e1;exact lpM (oT h1 (oP h2 (oD h3 (oR h4 oZ)))) ih
theorem x0d (h4:Rn E G0 [.agg [.s s1,.i i3,.l r1,.s s2,.s s3,.i i4,.i i5],.ptr 1 0] [sV C7 r0,sC [.s s0]] (.b true) [sV C7 r0,sC [.s s0]]):Lp E 2 B8 0 (P0 n0 i0 i1 r0 s0) .ret (z5b r0 s0 i1):=lpX (oT h1 (oP h2 (oD h3 (oR h4 oZ))))
end
theorem x0e (h1:¬ i1<i0):Lp E 2 B8 0 (P0 n0 i0 i1 r0 s0) (.exit 0) (y2c r0 s0):=lpX (oU h1 oZ)
theorem y1h (h1:Lp E 2 B8 0 (P0 n0 ((n0:Nat):Int) 0 r0 s0) .ret (z5b r0 s0 i0)):Rn E B8 [.vec 0 n0,.fn G0 [.ptr 1 0]] [sV C7 r0,sC [.s s0]] (.i i0) [sV C7 r0,sC [.s s0]]:=rnM (oL h1 oZ)
theorem y1i (h1:Lp E 2 B8 0 (P0 n0 ((n0:Nat):Int) 0 r0 s0) (.exit 0) (y2c r0 s0)):Rn E B8 [.vec 0 n0,.fn G0 [.ptr 1 0]] [sV C7 r0,sC [.s s0]] (.i (-1)) [sV C7 r0,sC [.s s0]]:=rnM (oL h1 oZ)
section
variable (h1:Fn E C2 [.l r0,.fn K4 []] (.i i0))
include h1
theorem y0g (h2:i0≥0):Fn E I3 [.l r0,.fn K4 []] (.b true):=fnM (oF h1 (oT h2 oZ))
theorem y0h (h2:¬ i0≥0):Fn E I3 [.l r0,.fn K4 []] (.b false):=fnM (oF h1 (oU h2 oZ))
end
def U3 (r0:RW) (i0 i1:Int):St:=stOf 19 [(0,.l r0),(1,.fn H7 []),(7,.i i0),(8,.i i1)] []
def z5o (i2:Int):St:=stOf 19 [(4,.i i2)] []
def y3e:St:=stOf 19 [] []
section
variable (h1:i1<i0)(h2:0≤i1)(h3:r0[(Int.toNat i1)]?=some [.s s0])
include h1 h2 h3
theorem x3c (h4:Fn E H7 [.s s0] (.b false))(e1:IntKind.i64.wrap (i1+1)=i3)(ih:Lp E 0 C2 0 (U3 r0 i0 i3) o t):Lp E 0 C2 0 (U3 r0 i0 i1) o t:=by subst e1;exact lpM (oT h1 (oP h2 (oD h3 (oF h4 oZ)))) ih
theorem x0x (h4:Fn E H7 [.s s0] (.b true)):Lp E 0 C2 0 (U3 r0 i0 i1) .ret (z5o i1):=lpX (oT h1 (oP h2 (oD h3 (oF h4 oZ))))
end
theorem x0y (h1:¬ i1<i0):Lp E 0 C2 0 (U3 r0 i0 i1) (.exit 0) (y3e):=lpX (oU h1 oZ)
theorem y1f (h1:Lp E 0 C2 0 (U3 r0 (r0.length:Int) 0) .ret (z5o i0)):Fn E C2 [.l r0,.fn H7 []] (.i i0):=fnM (oL h1 oZ)
theorem y1g (h1:Lp E 0 C2 0 (U3 r0 (r0.length:Int) 0) (.exit 0) (y3e)):Fn E C2 [.l r0,.fn H7 []] (.i (-1)):=fnM (oL h1 oZ)
def N1 (r0:RW) (i0 i1:Int) (s0:BA) (i2:Int) (r1:RW) (s1 s2:BA) (i3 i4:Int):St:=stOf 19 [(0,.l r0),(1,.fn G7 [.ptr 0 0]),(7,.i i0),(8,.i i1)] [sC [.s s0,.i i2,.l r1,.s s1,.s s2,.i i3,.i i4]]
def z4a (s0:BA) (i2:Int) (r1:RW) (s1 s2:BA) (i3 i4 i5:Int):St:=stOf 19 [(4,.i i5)] [sC [.s s0,.i i2,.l r1,.s s1,.s s2,.i i3,.i i4]]
def y1a (s0:BA) (i2:Int) (r1:RW) (s1 s2:BA) (i3 i4:Int):St:=stOf 19 [] [sC [.s s0,.i i2,.l r1,.s s1,.s s2,.i i3,.i i4]]
section
variable (h1:i1<i0)(h2:0≤i1)(h3:r0[(Int.toNat i1)]?=some [.s s3,.i i6,.l r2,.s s4,.s s5,.i i7,.i i8])
include h1 h2 h3
theorem x0z (h4:Rn E G7 [.agg [.s s3,.i i6,.l r2,.s s4,.s s5,.i i7,.i i8],.ptr 0 0] [sC [.s s0,.i i2,.l r1,.s s1,.s s2,.i i3,.i i4]] (.b false) [sC [.s s0,.i i2,.l r1,.s s1,.s s2,.i i3,.i i4]])(e1:IntKind.i64.wrap (i1+1)=i9)(ih:Lp E 1 B8 0 (N1 r0 i0 i9 s0 i2 r1 s1 s2 i3 i4) o t):Lp E 1 B8 0 (N1 r0 i0 i1 s0 i2 r1 s1 s2 i3 i4) o t:=by subst e1;exact lpM (oT h1 (oP h2 (oD h3 (oR h4 oZ)))) ih
theorem y8u (h4:Rn E G7 [.agg [.s s3,.i i6,.l r2,.s s4,.s s5,.i i7,.i i8],.ptr 0 0] [sC [.s s0,.i i2,.l r1,.s s1,.s s2,.i i3,.i i4]] (.b true) [sC [.s s0,.i i2,.l r1,.s s1,.s s2,.i i3,.i i4]]):Lp E 1 B8 0 (N1 r0 i0 i1 s0 i2 r1 s1 s2 i3 i4) .ret (z4a s0 i2 r1 s1 s2 i3 i4 i1):=lpX (oT h1 (oP h2 (oD h3 (oR h4 oZ))))
end
theorem y8v (h1:¬ i1<i0):Lp E 1 B8 0 (N1 r0 i0 i1 s0 i2 r1 s1 s2 i3 i4) (.exit 0) (y1a s0 i2 r1 s1 s2 i3 i4):=lpX (oU h1 oZ)
theorem y0n (h1:Lp E 1 B8 0 (N1 r0 (r0.length:Int) 0 s0 i0 r1 s1 s2 i1 i2) .ret (z4a s0 i0 r1 s1 s2 i1 i2 i3)):Rn E B8 [.l r0,.fn G7 [.ptr 0 0]] [sC [.s s0,.i i0,.l r1,.s s1,.s s2,.i i1,.i i2]] (.i i3) [sC [.s s0,.i i0,.l r1,.s s1,.s s2,.i i1,.i i2]]:=rnM (oL h1 oZ)
theorem y0o (h1:Lp E 1 B8 0 (N1 r0 (r0.length:Int) 0 s0 i0 r1 s1 s2 i1 i2) (.exit 0) (y1a s0 i0 r1 s1 s2 i1 i2)):Rn E B8 [.l r0,.fn G7 [.ptr 0 0]] [sC [.s s0,.i i0,.l r1,.s s1,.s s2,.i i1,.i i2]] (.i (-1)) [sC [.s s0,.i i0,.l r1,.s s1,.s s2,.i i1,.i i2]]:=rnM (oL h1 oZ)
section
variable (h1:Rn E B1 [.l r0,.fn G9 [.ptr 0 0]] [sC [.s s0,.i i0,.l r1,.s s1,.s s2,.i i1,.i i2]] (.i i3) [sC [.s s0,.i i0,.l r1,.s s1,.s s2,.i i1,.i i2]])
include h1
theorem z7r (h2:i3≥0):Rn E X8 [.l r0,.fn G9 [.ptr 0 0]] [sC [.s s0,.i i0,.l r1,.s s1,.s s2,.i i1,.i i2]] (.b true) [sC [.s s0,.i i0,.l r1,.s s1,.s s2,.i i1,.i i2]]:=rnM (oR h1 (oT h2 oZ))
theorem z7s (h2:¬ i3≥0):Rn E X8 [.l r0,.fn G9 [.ptr 0 0]] [sC [.s s0,.i i0,.l r1,.s s1,.s s2,.i i1,.i i2]] (.b false) [sC [.s s0,.i i0,.l r1,.s s1,.s s2,.i i1,.i i2]]:=rnM (oR h1 (oU h2 oZ))
end
section
variable (h1:Rn E A6 [.l r0,.fn H0 [.ptr 0 0]] [sC [.s s0,.i i0,.l r1,.s s1,.s s2,.i i1,.i i2]] (.i i3) [sC [.s s0,.i i0,.l r1,.s s1,.s s2,.i i1,.i i2]])
include h1
theorem z6q (h2:i3≥0):Rn E V7 [.l r0,.fn H0 [.ptr 0 0]] [sC [.s s0,.i i0,.l r1,.s s1,.s s2,.i i1,.i i2]] (.b true) [sC [.s s0,.i i0,.l r1,.s s1,.s s2,.i i1,.i i2]]:=rnM (oR h1 (oT h2 oZ))
theorem z6r (h2:¬ i3≥0):Rn E V7 [.l r0,.fn H0 [.ptr 0 0]] [sC [.s s0,.i i0,.l r1,.s s1,.s s2,.i i1,.i i2]] (.b false) [sC [.s s0,.i i0,.l r1,.s s1,.s s2,.i i1,.i i2]]:=rnM (oR h1 (oU h2 oZ))
end
section
variable (h1:Rn E B9 [.l r0,.fn G8 [.ptr 0 0,.ptr 1 0]] [sC [.s s0,.i i0,.l r1,.s s1,.s s2,.i i1,.i i2],sC [.l r2,.l r3,.l r4]] (.i i3) [sC [.s s0,.i i0,.l r1,.s s1,.s s2,.i i1,.i i2],sC [.l r2,.l r3,.l r4]])
include h1
theorem z7v (h2:i3≥0):Rn E z0y [.l r0,.fn G8 [.ptr 0 0,.ptr 1 0]] [sC [.s s0,.i i0,.l r1,.s s1,.s s2,.i i1,.i i2],sC [.l r2,.l r3,.l r4]] (.b true) [sC [.s s0,.i i0,.l r1,.s s1,.s s2,.i i1,.i i2],sC [.l r2,.l r3,.l r4]]:=rnM (oR h1 (oT h2 oZ))
theorem z7w (h2:¬ i3≥0):Rn E z0y [.l r0,.fn G8 [.ptr 0 0,.ptr 1 0]] [sC [.s s0,.i i0,.l r1,.s s1,.s s2,.i i1,.i i2],sC [.l r2,.l r3,.l r4]] (.b false) [sC [.s s0,.i i0,.l r1,.s s1,.s s2,.i i1,.i i2],sC [.l r2,.l r3,.l r4]]:=rnM (oR h1 (oU h2 oZ))
end
def M3 (r0:RW) (i0 i1:Int) (s0:BA) (i2:Int) (r1:RW) (s1 s2:BA) (i3 i4:Int):St:=stOf 19 [(0,.l r0),(1,.fn V1 [.ptr 0 0]),(7,.i i0),(8,.i i1)] [sC [.s s0,.i i2,.l r1,.s s1,.s s2,.i i3,.i i4]]
def z3g (s0:BA) (i2:Int) (r1:RW) (s1 s2:BA) (i3 i4 i5:Int):St:=stOf 19 [(4,.i i5)] [sC [.s s0,.i i2,.l r1,.s s1,.s s2,.i i3,.i i4]]
def z9w (s0:BA) (i2:Int) (r1:RW) (s1 s2:BA) (i3 i4:Int):St:=stOf 19 [] [sC [.s s0,.i i2,.l r1,.s s1,.s s2,.i i3,.i i4]]
section
variable (h1:i1<i0)(h2:0≤i1)(h3:r0[(Int.toNat i1)]?=some [.i i6,.i i7,.i i8,.s s3,.s s4,.s s5,.s s6])
include h1 h2 h3
theorem x0a (h4:Rn E V1 [.agg [.i i6,.i i7,.i i8,.s s3,.s s4,.s s5,.s s6],.ptr 0 0] [sC [.s s0,.i i2,.l r1,.s s1,.s s2,.i i3,.i i4]] (.b false) [sC [.s s0,.i i2,.l r1,.s s1,.s s2,.i i3,.i i4]])(e1:IntKind.i64.wrap (i1+1)=i9)(ih:Lp E 1 A6 0 (M3 r0 i0 i9 s0 i2 r1 s1 s2 i3 i4) o t):Lp E 1 A6 0 (M3 r0 i0 i1 s0 i2 r1 s1 s2 i3 i4) o t:=by subst e1;exact lpM (oT h1 (oP h2 (oD h3 (oR h4 oZ)))) ih
theorem y7d (h4:Rn E V1 [.agg [.i i6,.i i7,.i i8,.s s3,.s s4,.s s5,.s s6],.ptr 0 0] [sC [.s s0,.i i2,.l r1,.s s1,.s s2,.i i3,.i i4]] (.b true) [sC [.s s0,.i i2,.l r1,.s s1,.s s2,.i i3,.i i4]]):Lp E 1 A6 0 (M3 r0 i0 i1 s0 i2 r1 s1 s2 i3 i4) .ret (z3g s0 i2 r1 s1 s2 i3 i4 i1):=lpX (oT h1 (oP h2 (oD h3 (oR h4 oZ))))
end
theorem y7e (h1:¬ i1<i0):Lp E 1 A6 0 (M3 r0 i0 i1 s0 i2 r1 s1 s2 i3 i4) (.exit 0) (z9w s0 i2 r1 s1 s2 i3 i4):=lpX (oU h1 oZ)
theorem z9f (h1:Lp E 1 A6 0 (M3 r0 (r0.length:Int) 0 s0 i0 r1 s1 s2 i1 i2) .ret (z3g s0 i0 r1 s1 s2 i1 i2 i3)):Rn E A6 [.l r0,.fn V1 [.ptr 0 0]] [sC [.s s0,.i i0,.l r1,.s s1,.s s2,.i i1,.i i2]] (.i i3) [sC [.s s0,.i i0,.l r1,.s s1,.s s2,.i i1,.i i2]]:=rnM (oL h1 oZ)
theorem z9g (h1:Lp E 1 A6 0 (M3 r0 (r0.length:Int) 0 s0 i0 r1 s1 s2 i1 i2) (.exit 0) (z9w s0 i0 r1 s1 s2 i1 i2)):Rn E A6 [.l r0,.fn V1 [.ptr 0 0]] [sC [.s s0,.i i0,.l r1,.s s1,.s s2,.i i1,.i i2]] (.i (-1)) [sC [.s s0,.i i0,.l r1,.s s1,.s s2,.i i1,.i i2]]:=rnM (oL h1 oZ)
def O9 (r0:RW) (i0 i1:Int):St:=stOf 19 [(0,.l r0),(1,.fn K4 []),(7,.i i0),(8,.i i1)] []
def z5a (i2:Int):St:=stOf 19 [(4,.i i2)] []
def y2b:St:=stOf 19 [] []
section
variable (h1:i1<i0)(h2:0≤i1)(h3:r0[(Int.toNat i1)]?=some [.s s0])
include h1 h2 h3
theorem x1v (h4:Fn E K4 [.s s0] (.b false))(e1:IntKind.i64.wrap (i1+1)=i3)(ih:Lp E 0 C2 0 (O9 r0 i0 i3) o t):Lp E 0 C2 0 (O9 r0 i0 i1) o t:=by subst e1;exact lpM (oT h1 (oP h2 (oD h3 (oF h4 oZ)))) ih
theorem x0b (h4:Fn E K4 [.s s0] (.b true)):Lp E 0 C2 0 (O9 r0 i0 i1) .ret (z5a i1):=lpX (oT h1 (oP h2 (oD h3 (oF h4 oZ))))
end
theorem x0c (h1:¬ i1<i0):Lp E 0 C2 0 (O9 r0 i0 i1) (.exit 0) (y2b):=lpX (oU h1 oZ)
theorem y3a (h1:Lp E 0 C2 0 (O9 r0 (r0.length:Int) 0) .ret (z5a i0)):Fn E C2 [.l r0,.fn K4 []] (.i i0):=fnM (oL h1 oZ)
theorem y3b (h1:Lp E 0 C2 0 (O9 r0 (r0.length:Int) 0) (.exit 0) (y2b)):Fn E C2 [.l r0,.fn K4 []] (.i (-1)):=fnM (oL h1 oZ)
def M9 (r0:RW) (i0 i1:Int) (s0:BA) (i2:Int) (r1:RW) (s1 s2:BA) (i3 i4:Int):St:=stOf 19 [(0,.l r0),(1,.fn G9 [.ptr 0 0]),(7,.i i0),(8,.i i1)] [sC [.s s0,.i i2,.l r1,.s s1,.s s2,.i i3,.i i4]]
def z3y (s0:BA) (i2:Int) (r1:RW) (s1 s2:BA) (i3 i4 i5:Int):St:=stOf 19 [(4,.i i5)] [sC [.s s0,.i i2,.l r1,.s s1,.s s2,.i i3,.i i4]]
def y0y (s0:BA) (i2:Int) (r1:RW) (s1 s2:BA) (i3 i4:Int):St:=stOf 19 [] [sC [.s s0,.i i2,.l r1,.s s1,.s s2,.i i3,.i i4]]
section
variable (h1:i1<i0)(h2:0≤i1)(h3:r0[(Int.toNat i1)]?=some [.i i6,.s s3,.s s4,.s s5,.s s6,.s s7,.s s8])
include h1 h2 h3
theorem x0v (h4:Rn E G9 [.agg [.i i6,.s s3,.s s4,.s s5,.s s6,.s s7,.s s8],.ptr 0 0] [sC [.s s0,.i i2,.l r1,.s s1,.s s2,.i i3,.i i4]] (.b false) [sC [.s s0,.i i2,.l r1,.s s1,.s s2,.i i3,.i i4]])(e1:IntKind.i64.wrap (i1+1)=i7)(ih:Lp E 1 B1 0 (M9 r0 i0 i7 s0 i2 r1 s1 s2 i3 i4) o t):Lp E 1 B1 0 (M9 r0 i0 i1 s0 i2 r1 s1 s2 i3 i4) o t:=by subst e1;exact lpM (oT h1 (oP h2 (oD h3 (oR h4 oZ)))) ih
theorem y8n (h4:Rn E G9 [.agg [.i i6,.s s3,.s s4,.s s5,.s s6,.s s7,.s s8],.ptr 0 0] [sC [.s s0,.i i2,.l r1,.s s1,.s s2,.i i3,.i i4]] (.b true) [sC [.s s0,.i i2,.l r1,.s s1,.s s2,.i i3,.i i4]]):Lp E 1 B1 0 (M9 r0 i0 i1 s0 i2 r1 s1 s2 i3 i4) .ret (z3y s0 i2 r1 s1 s2 i3 i4 i1):=lpX (oT h1 (oP h2 (oD h3 (oR h4 oZ))))
end
theorem y8o (h1:¬ i1<i0):Lp E 1 B1 0 (M9 r0 i0 i1 s0 i2 r1 s1 s2 i3 i4) (.exit 0) (y0y s0 i2 r1 s1 s2 i3 i4):=lpX (oU h1 oZ)
theorem y0l (h1:Lp E 1 B1 0 (M9 r0 (r0.length:Int) 0 s0 i0 r1 s1 s2 i1 i2) .ret (z3y s0 i0 r1 s1 s2 i1 i2 i3)):Rn E B1 [.l r0,.fn G9 [.ptr 0 0]] [sC [.s s0,.i i0,.l r1,.s s1,.s s2,.i i1,.i i2]] (.i i3) [sC [.s s0,.i i0,.l r1,.s s1,.s s2,.i i1,.i i2]]:=rnM (oL h1 oZ)
theorem y0m (h1:Lp E 1 B1 0 (M9 r0 (r0.length:Int) 0 s0 i0 r1 s1 s2 i1 i2) (.exit 0) (y0y s0 i0 r1 s1 s2 i1 i2)):Rn E B1 [.l r0,.fn G9 [.ptr 0 0]] [sC [.s s0,.i i0,.l r1,.s s1,.s s2,.i i1,.i i2]] (.i (-1)) [sC [.s s0,.i i0,.l r1,.s s1,.s s2,.i i1,.i i2]]:=rnM (oL h1 oZ)
def J9 (r0:RW) (i0 i1:Int) (s0:BA) (i2:Int) (r1:RW) (s1 s2:BA) (i3 i4:Int):St:=stOf 19 [(0,.l r0),(1,.fn H0 [.ptr 0 0]),(7,.i i0),(8,.i i1)] [sC [.s s0,.i i2,.l r1,.s s1,.s s2,.i i3,.i i4]]
def z2s (s0:BA) (i2:Int) (r1:RW) (s1 s2:BA) (i3 i4 i5:Int):St:=stOf 19 [(4,.i i5)] [sC [.s s0,.i i2,.l r1,.s s1,.s s2,.i i3,.i i4]]
def z8d (s0:BA) (i2:Int) (r1:RW) (s1 s2:BA) (i3 i4:Int):St:=stOf 19 [] [sC [.s s0,.i i2,.l r1,.s s1,.s s2,.i i3,.i i4]]
section
variable (h1:i1<i0)(h2:0≤i1)(h3:r0[(Int.toNat i1)]?=some [.i i6,.i i7,.i i8,.s s3,.s s4,.s s5,.s s6])
include h1 h2 h3
theorem y8r (h4:Rn E H0 [.agg [.i i6,.i i7,.i i8,.s s3,.s s4,.s s5,.s s6],.ptr 0 0] [sC [.s s0,.i i2,.l r1,.s s1,.s s2,.i i3,.i i4]] (.b false) [sC [.s s0,.i i2,.l r1,.s s1,.s s2,.i i3,.i i4]])(e1:IntKind.i64.wrap (i1+1)=i9)(ih:Lp E 1 A6 0 (J9 r0 i0 i9 s0 i2 r1 s1 s2 i3 i4) o t):Lp E 1 A6 0 (J9 r0 i0 i1 s0 i2 r1 s1 s2 i3 i4) o t:=by subst e1;exact lpM (oT h1 (oP h2 (oD h3 (oR h4 oZ)))) ih
theorem y6q (h4:Rn E H0 [.agg [.i i6,.i i7,.i i8,.s s3,.s s4,.s s5,.s s6],.ptr 0 0] [sC [.s s0,.i i2,.l r1,.s s1,.s s2,.i i3,.i i4]] (.b true) [sC [.s s0,.i i2,.l r1,.s s1,.s s2,.i i3,.i i4]]):Lp E 1 A6 0 (J9 r0 i0 i1 s0 i2 r1 s1 s2 i3 i4) .ret (z2s s0 i2 r1 s1 s2 i3 i4 i1):=lpX (oT h1 (oP h2 (oD h3 (oR h4 oZ))))
end
theorem y6r (h1:¬ i1<i0):Lp E 1 A6 0 (J9 r0 i0 i1 s0 i2 r1 s1 s2 i3 i4) (.exit 0) (z8d s0 i2 r1 s1 s2 i3 i4):=lpX (oU h1 oZ)
theorem z9d (h1:Lp E 1 A6 0 (J9 r0 (r0.length:Int) 0 s0 i0 r1 s1 s2 i1 i2) .ret (z2s s0 i0 r1 s1 s2 i1 i2 i3)):Rn E A6 [.l r0,.fn H0 [.ptr 0 0]] [sC [.s s0,.i i0,.l r1,.s s1,.s s2,.i i1,.i i2]] (.i i3) [sC [.s s0,.i i0,.l r1,.s s1,.s s2,.i i1,.i i2]]:=rnM (oL h1 oZ)
theorem z9e (h1:Lp E 1 A6 0 (J9 r0 (r0.length:Int) 0 s0 i0 r1 s1 s2 i1 i2) (.exit 0) (z8d s0 i0 r1 s1 s2 i1 i2)):Rn E A6 [.l r0,.fn H0 [.ptr 0 0]] [sC [.s s0,.i i0,.l r1,.s s1,.s s2,.i i1,.i i2]] (.i (-1)) [sC [.s s0,.i i0,.l r1,.s s1,.s s2,.i i1,.i i2]]:=rnM (oL h1 oZ)
def K0 (r0:RW) (i0 i1 i2:Int):St:=stOf 19 [(0,.l r0),(1,.fn V0 [.ptr 0 0]),(7,.i i0),(8,.i i1)] [sC [.i i2]]
def z2t (i2 i3:Int):St:=stOf 19 [(4,.i i3)] [sC [.i i2]]
def z8e (i2:Int):St:=stOf 19 [] [sC [.i i2]]
section
variable (h1:i1<i0)(h2:0≤i1)(h3:r0[(Int.toNat i1)]?=some [.i i4,.i i5,.i i6,.s s0,.s s1,.s s2,.s s3])
include h1 h2 h3
theorem y8s (h4:Rn E V0 [.agg [.i i4,.i i5,.i i6,.s s0,.s s1,.s s2,.s s3],.ptr 0 0] [sC [.i i2]] (.b false) [sC [.i i2]])(e1:IntKind.i64.wrap (i1+1)=i7)(ih:Lp E 1 A6 0 (K0 r0 i0 i7 i2) o t):Lp E 1 A6 0 (K0 r0 i0 i1 i2) o t:=by subst e1;exact lpM (oT h1 (oP h2 (oD h3 (oR h4 oZ)))) ih
theorem y6s (h4:Rn E V0 [.agg [.i i4,.i i5,.i i6,.s s0,.s s1,.s s2,.s s3],.ptr 0 0] [sC [.i i2]] (.b true) [sC [.i i2]]):Lp E 1 A6 0 (K0 r0 i0 i1 i2) .ret (z2t i2 i1):=lpX (oT h1 (oP h2 (oD h3 (oR h4 oZ))))
end
theorem y6t (h1:¬ i1<i0):Lp E 1 A6 0 (K0 r0 i0 i1 i2) (.exit 0) (z8e i2):=lpX (oU h1 oZ)
theorem z9b (h1:Lp E 1 A6 0 (K0 r0 (r0.length:Int) 0 i0) .ret (z2t i0 i1)):Rn E A6 [.l r0,.fn V0 [.ptr 0 0]] [sC [.i i0]] (.i i1) [sC [.i i0]]:=rnM (oL h1 oZ)
theorem z9c (h1:Lp E 1 A6 0 (K0 r0 (r0.length:Int) 0 i0) (.exit 0) (z8e i0)):Rn E A6 [.l r0,.fn V0 [.ptr 0 0]] [sC [.i i0]] (.i (-1)) [sC [.i i0]]:=rnM (oL h1 oZ)
def P1 (r0:RW) (i0 i1:Int) (s0:BA) (i2:Int) (r1:RW) (s1 s2:BA) (i3 i4:Int) (r2 r3 r4:RW):St:=stOf 19 [(0,.l r0),(1,.fn G8 [.ptr 0 0,.ptr 1 0]),(7,.i i0),(8,.i i1)] [sC [.s s0,.i i2,.l r1,.s s1,.s s2,.i i3,.i i4],sC [.l r2,.l r3,.l r4]]
def z5c (s0:BA) (i2:Int) (r1:RW) (s1 s2:BA) (i3 i4:Int) (r2 r3 r4:RW) (i5:Int):St:=stOf 19 [(4,.i i5)] [sC [.s s0,.i i2,.l r1,.s s1,.s s2,.i i3,.i i4],sC [.l r2,.l r3,.l r4]]
def y2d (s0:BA) (i2:Int) (r1:RW) (s1 s2:BA) (i3 i4:Int) (r2 r3 r4:RW):St:=stOf 19 [] [sC [.s s0,.i i2,.l r1,.s s1,.s s2,.i i3,.i i4],sC [.l r2,.l r3,.l r4]]
section
variable (h1:i1<i0)(h2:0≤i1)(h3:r0[(Int.toNat i1)]?=some [.i i6,.i i7,.i i8])
include h1 h2 h3
theorem x1x (h4:Rn E G8 [.agg [.i i6,.i i7,.i i8],.ptr 0 0,.ptr 1 0] [sC [.s s0,.i i2,.l r1,.s s1,.s s2,.i i3,.i i4],sC [.l r2,.l r3,.l r4]] (.b false) [sC [.s s0,.i i2,.l r1,.s s1,.s s2,.i i3,.i i4],sC [.l r2,.l r3,.l r4]])(e1:IntKind.i64.wrap (i1+1)=i9)(ih:Lp E 2 B9 0 (P1 r0 i0 i9 s0 i2 r1 s1 s2 i3 i4 r2 r3 r4) o t):Lp E 2 B9 0 (P1 r0 i0 i1 s0 i2 r1 s1 s2 i3 i4 r2 r3 r4) o t:=by subst e1;exact lpM (oT h1 (oP h2 (oD h3 (oR h4 oZ)))) ih
theorem x0f (h4:Rn E G8 [.agg [.i i6,.i i7,.i i8],.ptr 0 0,.ptr 1 0] [sC [.s s0,.i i2,.l r1,.s s1,.s s2,.i i3,.i i4],sC [.l r2,.l r3,.l r4]] (.b true) [sC [.s s0,.i i2,.l r1,.s s1,.s s2,.i i3,.i i4],sC [.l r2,.l r3,.l r4]]):Lp E 2 B9 0 (P1 r0 i0 i1 s0 i2 r1 s1 s2 i3 i4 r2 r3 r4) .ret (z5c s0 i2 r1 s1 s2 i3 i4 r2 r3 r4 i1):=lpX (oT h1 (oP h2 (oD h3 (oR h4 oZ))))
end
theorem x0g (h1:¬ i1<i0):Lp E 2 B9 0 (P1 r0 i0 i1 s0 i2 r1 s1 s2 i3 i4 r2 r3 r4) (.exit 0) (y2d s0 i2 r1 s1 s2 i3 i4 r2 r3 r4):=lpX (oU h1 oZ)
theorem y0p (h1:Lp E 2 B9 0 (P1 r0 (r0.length:Int) 0 s0 i0 r1 s1 s2 i1 i2 r2 r3 r4) .ret (z5c s0 i0 r1 s1 s2 i1 i2 r2 r3 r4 i3)):Rn E B9 [.l r0,.fn G8 [.ptr 0 0,.ptr 1 0]] [sC [.s s0,.i i0,.l r1,.s s1,.s s2,.i i1,.i i2],sC [.l r2,.l r3,.l r4]] (.i i3) [sC [.s s0,.i i0,.l r1,.s s1,.s s2,.i i1,.i i2],sC [.l r2,.l r3,.l r4]]:=rnM (oL h1 oZ)
theorem y0q (h1:Lp E 2 B9 0 (P1 r0 (r0.length:Int) 0 s0 i0 r1 s1 s2 i1 i2 r2 r3 r4) (.exit 0) (y2d s0 i0 r1 s1 s2 i1 i2 r2 r3 r4)):Rn E B9 [.l r0,.fn G8 [.ptr 0 0,.ptr 1 0]] [sC [.s s0,.i i0,.l r1,.s s1,.s s2,.i i1,.i i2],sC [.l r2,.l r3,.l r4]] (.i (-1)) [sC [.s s0,.i i0,.l r1,.s s1,.s s2,.i i1,.i i2],sC [.l r2,.l r3,.l r4]]:=rnM (oL h1 oZ)
def M8 (n0:Nat) (i0 i1:Int) (r0:RW) (i2:Int):St:=stOf 42 [(0,.vec 0 n0),(1,.fn M4 [.ptr 1 0]),(5,.i i0),(6,.i i1)] [sV F7 r0,sC [.i i2]]
def z3x (n0:Nat) (i2 i3:Int) (r1:RW):St:=stOf 42 [(0,.vec 0 n0),(5,.i i3)] [sV F7 r1,sC [.i i2]]
section
variable (h1:i1<((n0:Nat):Int))(h2:0≤i1∧i1<((n0:Nat):Int))(h3:r0[(Int.toNat i1)]?=some [.i i4,.i i5,.i i6])
include h1 h2 h3
theorem x0t (h4:Rn E M4 [.agg [.i i4,.i i5,.i i6],.ptr 1 0] [sV F7 r0,sC [.i i2],sC [.i i4,.i i5,.i i6]] (.b true) [sV F7 r0,sC [.i i2],sC [.i i4,.i i5,.i i6]])(e1:IntKind.i64.wrap (i1+1)=i7)(ih:Lp E 2 F9 0 (M8 n0 i0 i7 r0 i2) o t):Lp E 2 F9 0 (M8 n0 i0 i1 r0 i2) o t:=by subst e1;exact lpM (oT h1 (oP h2 (oD h3 (oR h4 oZ)))) ih
theorem x0u (h4:Rn E M4 [.agg [.i i4,.i i5,.i i6],.ptr 1 0] [sV F7 r0,sC [.i i2],sC [.i i4,.i i5,.i i6]] (.b false) [sV F7 r0,sC [.i i2],sC [.i i4,.i i5,.i i6]])(h5:0≤i0∧i0<((n0:Nat):Int))(h6:r0[(Int.toNat i0)]?=some [.i i7,.i i8,.i i9])(e1:List.set r0 (Int.toNat i0) [.i i4,.i i5,.i i6]=r2)(e2:IntKind.i64.wrap (i0+1)=i10)(e3:IntKind.i64.wrap (i1+1)=i11)(ih:Lp E 2 F9 0 (M8 n0 i10 i11 r2 i2) o t):Lp E 2 F9 0 (M8 n0 i0 i1 r0 i2) o t:=by subst e1 e2 e3;exact lpM (oT h1 (oP h2 (oD h3 (oR h4 (oP h5 (oD h6 oZ)))))) ih
end
theorem y8m (h1:¬ i1<((n0:Nat):Int)):Lp E 2 F9 0 (M8 n0 i0 i1 r0 i2) (.exit 0) (z3x n0 i2 i0 r0):=lpX (oU h1 oZ)
section
variable (h1:Rn E B9 [.vec 0 n0,.fn M4 [.ptr 1 0]] [sV F7 r0,sC [.i i0]] (.i i1) [sV F7 r0,sC [.i i0]])
include h1
theorem y3m (h2:i1=(-1)):Rn E F9 [.vec 0 n0,.fn M4 [.ptr 1 0]] [sV F7 r0,sC [.i i0]] (.vec 0 n0) [sV F7 r0,sC [.i i0]]:=rnM (oR h1 (oB (beT h2) oZ))
theorem y3n (h2:¬ i1=(-1))(h3:Lp E 2 F9 0 (M8 n0 i1 i2 r0 i0) (.exit 0) (z3x n0 i0 i3 r1))(h4:0≤i3∧i3≤((n0:Nat):Int)∧((n0:Nat):Int)≤((n0:Nat):Int))(h5:0≤i3∧i3≤((n0:Nat):Int))(e1:IntKind.i64.wrap (i1+1)=i2)(e2:(r1.take (Int.toNat i3))++List.replicate (n0-(Int.toNat i3)) [.i 0,.i 0,.i 0]++List.drop n0 r1=r2)(e3:(Int.toNat i3)=n1):Rn E F9 [.vec 0 n0,.fn M4 [.ptr 1 0]] [sV F7 r0,sC [.i i0]] (.vec 0 n1) [sV F7 r2,sC [.i i0]]:=by subst e1 e2 e3;exact rnM (oR h1 (oC (beF h2) (oL h3 (oG (oP h4 (oP h5 oZ))))))
end
def K1 (r0:RW) (i0 i1 i2:Int):St:=stOf 19 [(0,.l r0),(1,.fn J3 [.ptr 0 0,.ptr 1 0]),(7,.i i0),(8,.i i1)] [sC [.fn C8 []],sC [.i i2]]
def z2u (i2 i3:Int):St:=stOf 19 [(4,.i i3)] [sC [.fn C8 []],sC [.i i2]]
def z8f (i2:Int):St:=stOf 19 [] [sC [.fn C8 []],sC [.i i2]]
section
variable (h1:i1<i0)(h2:0≤i1)(h3:r0[(Int.toNat i1)]?=some [.i i4,.i i5,.i i6,.s s0,.s s1,.s s2,.s s3])
include h1 h2 h3
theorem y8t (h4:Rn E J3 [.agg [.i i4,.i i5,.i i6,.s s0,.s s1,.s s2,.s s3],.ptr 0 0,.ptr 1 0] [sC [.fn C8 []],sC [.i i2]] (.b false) [sC [.fn C8 []],sC [.i i2]])(e1:IntKind.i64.wrap (i1+1)=i7)(ih:Lp E 2 A6 0 (K1 r0 i0 i7 i2) o t):Lp E 2 A6 0 (K1 r0 i0 i1 i2) o t:=by subst e1;exact lpM (oT h1 (oP h2 (oD h3 (oR h4 oZ)))) ih
theorem y6u (h4:Rn E J3 [.agg [.i i4,.i i5,.i i6,.s s0,.s s1,.s s2,.s s3],.ptr 0 0,.ptr 1 0] [sC [.fn C8 []],sC [.i i2]] (.b true) [sC [.fn C8 []],sC [.i i2]]):Lp E 2 A6 0 (K1 r0 i0 i1 i2) .ret (z2u i2 i1):=lpX (oT h1 (oP h2 (oD h3 (oR h4 oZ))))
end
theorem y6v (h1:¬ i1<i0):Lp E 2 A6 0 (K1 r0 i0 i1 i2) (.exit 0) (z8f i2):=lpX (oU h1 oZ)
theorem z6o (h1:Lp E 2 A6 0 (K1 r0 (r0.length:Int) 0 i0) .ret (z2u i0 i1)):Rn E A6 [.l r0,.fn J3 [.ptr 0 0,.ptr 1 0]] [sC [.fn C8 []],sC [.i i0]] (.i i1) [sC [.fn C8 []],sC [.i i0]]:=rnM (oL h1 oZ)
theorem z6p (h1:Lp E 2 A6 0 (K1 r0 (r0.length:Int) 0 i0) (.exit 0) (z8f i0)):Rn E A6 [.l r0,.fn J3 [.ptr 0 0,.ptr 1 0]] [sC [.fn C8 []],sC [.i i0]] (.i (-1)) [sC [.fn C8 []],sC [.i i0]]:=rnM (oL h1 oZ)
def N0 (r0:RW) (i0 i1 i2:Int):St:=stOf 19 [(0,.l r0),(1,.fn M5 [.ptr 0 0,.ptr 1 0]),(7,.i i0),(8,.i i1)] [sC [.fn F1 []],sC [.i i2]]
def z3z (i2 i3:Int):St:=stOf 19 [(4,.i i3)] [sC [.fn F1 []],sC [.i i2]]
def y0z (i2:Int):St:=stOf 19 [] [sC [.fn F1 []],sC [.i i2]]
section
variable (h1:i1<i0)(h2:0≤i1)(h3:r0[(Int.toNat i1)]?=some [.i i4,.s s0,.s s1,.s s2,.s s3,.s s4,.s s5])
include h1 h2 h3
theorem x0w (h4:Rn E M5 [.agg [.i i4,.s s0,.s s1,.s s2,.s s3,.s s4,.s s5],.ptr 0 0,.ptr 1 0] [sC [.fn F1 []],sC [.i i2]] (.b false) [sC [.fn F1 []],sC [.i i2]])(e1:IntKind.i64.wrap (i1+1)=i5)(ih:Lp E 2 B1 0 (N0 r0 i0 i5 i2) o t):Lp E 2 B1 0 (N0 r0 i0 i1 i2) o t:=by subst e1;exact lpM (oT h1 (oP h2 (oD h3 (oR h4 oZ)))) ih
theorem y8p (h4:Rn E M5 [.agg [.i i4,.s s0,.s s1,.s s2,.s s3,.s s4,.s s5],.ptr 0 0,.ptr 1 0] [sC [.fn F1 []],sC [.i i2]] (.b true) [sC [.fn F1 []],sC [.i i2]]):Lp E 2 B1 0 (N0 r0 i0 i1 i2) .ret (z3z i2 i1):=lpX (oT h1 (oP h2 (oD h3 (oR h4 oZ))))
end
theorem y8q (h1:¬ i1<i0):Lp E 2 B1 0 (N0 r0 i0 i1 i2) (.exit 0) (y0z i2):=lpX (oU h1 oZ)
theorem z8z (h1:Lp E 2 B1 0 (N0 r0 (r0.length:Int) 0 i0) .ret (z3z i0 i1)):Rn E B1 [.l r0,.fn M5 [.ptr 0 0,.ptr 1 0]] [sC [.fn F1 []],sC [.i i0]] (.i i1) [sC [.fn F1 []],sC [.i i0]]:=rnM (oL h1 oZ)
theorem z9a (h1:Lp E 2 B1 0 (N0 r0 (r0.length:Int) 0 i0) (.exit 0) (y0z i0)):Rn E B1 [.l r0,.fn M5 [.ptr 0 0,.ptr 1 0]] [sC [.fn F1 []],sC [.i i0]] (.i (-1)) [sC [.fn F1 []],sC [.i i0]]:=rnM (oL h1 oZ)
def N2 (n0:Nat) (i0 i1:Int) (r0:RW) (i2:Int):St:=stOf 19 [(0,.vec 0 n0),(1,.fn M4 [.ptr 1 0]),(7,.i i0),(8,.i i1)] [sV F7 r0,sC [.i i2]]
def z4b (r0:RW) (i2 i3:Int):St:=stOf 19 [(4,.i i3)] [sV F7 r0,sC [.i i2]]
def y1b (r0:RW) (i2:Int):St:=stOf 19 [] [sV F7 r0,sC [.i i2]]
section
variable (h1:i1<i0)(h2:0≤i1∧i1<((n0:Nat):Int))(h3:r0[(Int.toNat i1)]?=some [.i i4,.i i5,.i i6])
include h1 h2 h3
theorem x1a (h4:Rn E M4 [.agg [.i i4,.i i5,.i i6],.ptr 1 0] [sV F7 r0,sC [.i i2]] (.b false) [sV F7 r0,sC [.i i2]])(e1:IntKind.i64.wrap (i1+1)=i7)(ih:Lp E 2 B9 0 (N2 n0 i0 i7 r0 i2) o t):Lp E 2 B9 0 (N2 n0 i0 i1 r0 i2) o t:=by subst e1;exact lpM (oT h1 (oP h2 (oD h3 (oR h4 oZ)))) ih
theorem y8w (h4:Rn E M4 [.agg [.i i4,.i i5,.i i6],.ptr 1 0] [sV F7 r0,sC [.i i2]] (.b true) [sV F7 r0,sC [.i i2]]):Lp E 2 B9 0 (N2 n0 i0 i1 r0 i2) .ret (z4b r0 i2 i1):=lpX (oT h1 (oP h2 (oD h3 (oR h4 oZ))))
end
theorem y8x (h1:¬ i1<i0):Lp E 2 B9 0 (N2 n0 i0 i1 r0 i2) (.exit 0) (y1b r0 i2):=lpX (oU h1 oZ)
theorem y4d (h1:Lp E 2 B9 0 (N2 n0 ((n0:Nat):Int) 0 r0 i0) .ret (z4b r0 i0 i1)):Rn E B9 [.vec 0 n0,.fn M4 [.ptr 1 0]] [sV F7 r0,sC [.i i0]] (.i i1) [sV F7 r0,sC [.i i0]]:=rnM (oL h1 oZ)
theorem y4e (h1:Lp E 2 B9 0 (N2 n0 ((n0:Nat):Int) 0 r0 i0) (.exit 0) (y1b r0 i0)):Rn E B9 [.vec 0 n0,.fn M4 [.ptr 1 0]] [sV F7 r0,sC [.i i0]] (.i (-1)) [sV F7 r0,sC [.i i0]]:=rnM (oL h1 oZ)
end Gev
namespace Gev
open Go Go.Proofs
variable {E:Env}
variable {o:Out} {t:St} {r0 r1 r2 r3 r4 r5:RW} {i0 i1 i2 i3 i4 i5 i6 i7 i8 i9 i10 i11 i12 i13 i14 i15 i16 i17 i18:Int} {n0 n1:Nat} {s0 s1 s2 s3 s4 s5 s6 s7 s8 s9 s10 s11 s12 s13 s14 s15 s16 s17 s18 s19 s20 s21 s22 s23 s24 s25 s26 s27 s28 s29 s30 s31 s32 s33 s34 s35 s36 s37 s38 s39 s40:BA} {b0:Bool}
def z1a (r0:RW) (i0 i1:Int) (r1 r2:RW):St:=stOf 166 [(1,.ptr 0 0),(12,.l r0),(13,.i i0),(14,.i i1)] [sC [.l r1,.l r2]]
def y2n (r1 r2:RW):St:=stOf 166 [(2,.i 1)] [sC [.l r1,.l r2]]
def y7l (r1 r2:RW):St:=stOf 166 [(1,.ptr 0 0)] [sC [.l r1,.l r2]]
section
variable (h1:i1<i0)(h2:0≤i1)(h3:r0[(Int.toNat i1)]?=some [.i i2,.i i3,.i i4,.s s0,.s s1,.s s2,.s s3])
include h1 h2 h3
theorem j2x (h4:Fn E z4c [.l r3] (.b true))(e1:(([[.s s1],[.s s2],[.s s3]]:RW).take 3)=r3)(e2:IntKind.i64.wrap (i1+1)=i5)(ih:Lp E 1 B2 0 (z1a r0 i0 i5 r1 r2) o t):Lp E 1 B2 0 (z1a r0 i0 i1 r1 r2) o t:=by subst e1 e2;exact lpM (oT h1 (oP h2 (oD h3 (oF h4 oZ)))) ih
theorem k6e (h4:Fn E z4c [.l r3] (.b false))(e1:(([[.s s1],[.s s2],[.s s3]]:RW).take 3)=r3):Lp E 1 B2 0 (z1a r0 i0 i1 r1 r2) .ret (y2n r1 r2):=by subst e1;exact lpX (oT h1 (oP h2 (oD h3 (oF h4 oZ))))
end
theorem k6f (h1:¬ i1<i0):Lp E 1 B2 0 (z1a r0 i0 i1 r1 r2) (.exit 0) (y7l r1 r2):=lpX (oU h1 oZ)
def z1b (r0:RW) (i0 i1:Int) (r1 r2:RW):St:=stOf 166 [(1,.ptr 0 0),(29,.l r0),(30,.i i0),(31,.i i1)] [sC [.l r1,.l r2]]
def y2o (r1 r2:RW):St:=stOf 166 [(2,.i 1)] [sC [.l r1,.l r2]]
def y7m (r1 r2:RW):St:=stOf 166 [(1,.ptr 0 0)] [sC [.l r1,.l r2]]
section
variable (h1:i1<i0)(h2:0≤i1)(h3:r0[(Int.toNat i1)]?=some [.i i2,.s s0,.s s1,.s s2,.s s3,.s s4,.s s5])
include h1 h2 h3
theorem j2y (h4:Fn E z4c [.l r3] (.b true))(e1:(([[.s s1],[.s s2],[.s s3],[.s s4],[.s s5]]:RW).take 5)=r3)(e2:IntKind.i64.wrap (i1+1)=i3)(ih:Lp E 1 B2 1 (z1b r0 i0 i3 r1 r2) o t):Lp E 1 B2 1 (z1b r0 i0 i1 r1 r2) o t:=by subst e1 e2;exact lpM (oT h1 (oP h2 (oD h3 (oF h4 oZ)))) ih
theorem k6g (h4:Fn E z4c [.l r3] (.b false))(e1:(([[.s s1],[.s s2],[.s s3],[.s s4],[.s s5]]:RW).take 5)=r3):Lp E 1 B2 1 (z1b r0 i0 i1 r1 r2) .ret (y2o r1 r2):=by subst e1;exact lpX (oT h1 (oP h2 (oD h3 (oF h4 oZ))))
end
theorem k6h (h1:¬ i1<i0):Lp E 1 B2 1 (z1b r0 i0 i1 r1 r2) (.exit 2) (y7m r1 r2):=lpX (oU h1 oZ)
def I4 (r0:RW) (i0 i1:Int) (r1 r2:RW):St:=stOf 166 [(1,.ptr 0 0),(63,.l r0),(64,.i i0),(65,.i i1)] [sC [.l r1,.l r2]]
def P9 (r1 r2:RW) (i2:Int):St:=stOf 166 [(2,.i i2)] [sC [.l r1,.l r2]]
def y7n (r1 r2:RW):St:=stOf 166 [(1,.ptr 0 0)] [sC [.l r1,.l r2]]
section
variable (h1:i1<i0)(h2:0≤i1)(h3:r0[(Int.toNat i1)]?=some [.i i3,.i i4,.i i5,.s s0,.s s1,.s s2,.s s3])
include h1 h2 h3
section
variable (h4:Fn E N7 [.i i3,.i 1073741824] (.b true))
include h4
section
variable (h5:Fn E N7 [.i i4,.i 9] (.b true))
include h5
section
variable (h6:Fn E N7 [.i i5,.i 9] (.b true))(h7:Fn E z0u [.s s1] (.i i6))
include h6 h7
section
variable (h8:¬ i6≤0)(h9:Fn E z0u [.s s2] (.i i7))(h10:¬ i7≤0)(h11:Fn E z0u [.s s3] (.i i8))(h12:¬ i8<0)(h13:Fn E Z5 [.s s0] (.b true))
include h8 h9 h10 h11 h12 h13
theorem j2z (h14:i1>0)(h15:0≤i9)(h16:r1[(Int.toNat i9)]?=some [.i i10,.i i11,.i i12,.s s4,.s s5,.s s6,.s s7])(h17:¬ i10≥i3)(e1:IntKind.i64.wrap (i1-1)=i9)(e2:IntKind.i64.wrap (i1+1)=i13)(ih:Lp E 1 B2 2 (I4 r0 i0 i13 r1 r2) o t):Lp E 1 B2 2 (I4 r0 i0 i1 r1 r2) o t:=by subst e1 e2;exact lpM (oT h1 (oP h2 (oD h3 (oF h4 (oF h5 (oF h6 (oF h7 (oU h8 (oF h9 (oU h10 (oF h11 (oU h12 (oF h13 (oT h14 (oP h15 (oD h16 (oU h17 oZ))))))))))))))))) ih
theorem j3a (h14:¬ i1>0)(e1:IntKind.i64.wrap (i1+1)=i9)(ih:Lp E 1 B2 2 (I4 r0 i0 i9 r1 r2) o t):Lp E 1 B2 2 (I4 r0 i0 i1 r1 r2) o t:=by subst e1;exact lpM (oT h1 (oP h2 (oD h3 (oF h4 (oF h5 (oF h6 (oF h7 (oU h8 (oF h9 (oU h10 (oF h11 (oU h12 (oF h13 (oU h14 oZ)))))))))))))) ih
end
theorem k6i (h8:i6≤0):Lp E 1 B2 2 (I4 r0 i0 i1 r1 r2) .ret (P9 r1 r2 2):=lpX (oT h1 (oP h2 (oD h3 (oF h4 (oF h5 (oF h6 (oF h7 (oT h8 oZ))))))))
section
variable (h8:¬ i6≤0)(h9:Fn E z0u [.s s2] (.i i7))
include h8 h9
theorem k6j (h10:i7≤0):Lp E 1 B2 2 (I4 r0 i0 i1 r1 r2) .ret (P9 r1 r2 2):=lpX (oT h1 (oP h2 (oD h3 (oF h4 (oF h5 (oF h6 (oF h7 (oU h8 (oF h9 (oT h10 oZ))))))))))
section
variable (h10:¬ i7≤0)(h11:Fn E z0u [.s s3] (.i i8))
include h10 h11
theorem k6k (h12:i8<0):Lp E 1 B2 2 (I4 r0 i0 i1 r1 r2) .ret (P9 r1 r2 2):=lpX (oT h1 (oP h2 (oD h3 (oF h4 (oF h5 (oF h6 (oF h7 (oU h8 (oF h9 (oU h10 (oF h11 (oT h12 oZ))))))))))))
theorem k6l (h12:¬ i8<0)(h13:Fn E Z5 [.s s0] (.b true))(h14:i1>0)(h15:0≤i9)(h16:r1[(Int.toNat i9)]?=some [.i i10,.i i11,.i i12,.s s4,.s s5,.s s6,.s s7])(h17:i10≥i3)(e1:IntKind.i64.wrap (i1-1)=i9):Lp E 1 B2 2 (I4 r0 i0 i1 r1 r2) .ret (P9 r1 r2 5):=by subst e1;exact lpX (oT h1 (oP h2 (oD h3 (oF h4 (oF h5 (oF h6 (oF h7 (oU h8 (oF h9 (oU h10 (oF h11 (oU h12 (oF h13 (oT h14 (oP h15 (oD h16 (oT h17 oZ)))))))))))))))))
theorem k6m (h12:¬ i8<0)(h13:Fn E Z5 [.s s0] (.b false)):Lp E 1 B2 2 (I4 r0 i0 i1 r1 r2) .ret (P9 r1 r2 4):=lpX (oT h1 (oP h2 (oD h3 (oF h4 (oF h5 (oF h6 (oF h7 (oU h8 (oF h9 (oU h10 (oF h11 (oU h12 (oF h13 oZ)))))))))))))
end
end
end
theorem k6n (h6:Fn E N7 [.i i5,.i 9] (.b false)):Lp E 1 B2 2 (I4 r0 i0 i1 r1 r2) .ret (P9 r1 r2 2):=lpX (oT h1 (oP h2 (oD h3 (oF h4 (oF h5 (oF h6 oZ))))))
end
theorem k6o (h5:Fn E N7 [.i i4,.i 9] (.b false)):Lp E 1 B2 2 (I4 r0 i0 i1 r1 r2) .ret (P9 r1 r2 2):=lpX (oT h1 (oP h2 (oD h3 (oF h4 (oF h5 oZ)))))
end
theorem k6p (h4:Fn E N7 [.i i3,.i 1073741824] (.b false)):Lp E 1 B2 2 (I4 r0 i0 i1 r1 r2) .ret (P9 r1 r2 2):=lpX (oT h1 (oP h2 (oD h3 (oF h4 oZ))))
end
theorem k6q (h1:¬ i1<i0):Lp E 1 B2 2 (I4 r0 i0 i1 r1 r2) (.exit 4) (y7n r1 r2):=lpX (oU h1 oZ)
def M1 (r0:RW) (i0 i1:Int) (r1 r2:RW):St:=stOf 166 [(1,.ptr 0 0),(124,.l r0),(125,.i i0),(126,.i i1)] [sC [.l r1,.l r2]]
def z0j (r1 r2:RW) (i2:Int):St:=stOf 166 [(2,.i i2)] [sC [.l r1,.l r2]]
def y7o (r1 r2:RW):St:=stOf 166 [] [sC [.l r1,.l r2]]
section
variable (h1:i1<i0)(h2:0≤i1)(h3:r0[(Int.toNat i1)]?=some [.i i3,.s s0,.s s1,.s s2,.s s3,.s s4,.s s5])
include h1 h2 h3
section
variable (h4:Fn E N7 [.i i3,.i 1073741824] (.b true))(h5:Fn E z0u [.s s1] (.i i4))
include h4 h5
section
variable (h6:¬ i4<0)(h7:Fn E z0u [.s s2] (.i i5))(h8:¬ i5<0)(h9:Fn E Z5 [.s s0] (.b true))
include h6 h7 h8 h9
theorem j3b (h10:i1>0)(h11:0≤i6)(h12:r2[(Int.toNat i6)]?=some [.i i7,.s s6,.s s7,.s s8,.s s9,.s s10,.s s11])(h13:¬ i7≥i3)(e1:IntKind.i64.wrap (i1-1)=i6)(e2:IntKind.i64.wrap (i1+1)=i8)(ih:Lp E 1 B2 3 (M1 r0 i0 i8 r1 r2) o t):Lp E 1 B2 3 (M1 r0 i0 i1 r1 r2) o t:=by subst e1 e2;exact lpM (oT h1 (oP h2 (oD h3 (oF h4 (oF h5 (oU h6 (oF h7 (oU h8 (oF h9 (oT h10 (oP h11 (oD h12 (oU h13 oZ))))))))))))) ih
theorem j3c (h10:¬ i1>0)(e1:IntKind.i64.wrap (i1+1)=i6)(ih:Lp E 1 B2 3 (M1 r0 i0 i6 r1 r2) o t):Lp E 1 B2 3 (M1 r0 i0 i1 r1 r2) o t:=by subst e1;exact lpM (oT h1 (oP h2 (oD h3 (oF h4 (oF h5 (oU h6 (oF h7 (oU h8 (oF h9 (oU h10 oZ)))))))))) ih
end
theorem k6r (h6:i4<0):Lp E 1 B2 3 (M1 r0 i0 i1 r1 r2) .ret (z0j r1 r2 2):=lpX (oT h1 (oP h2 (oD h3 (oF h4 (oF h5 (oT h6 oZ))))))
section
variable (h6:¬ i4<0)(h7:Fn E z0u [.s s2] (.i i5))
include h6 h7
theorem k6s (h8:i5<0):Lp E 1 B2 3 (M1 r0 i0 i1 r1 r2) .ret (z0j r1 r2 2):=lpX (oT h1 (oP h2 (oD h3 (oF h4 (oF h5 (oU h6 (oF h7 (oT h8 oZ))))))))
theorem k6t (h8:¬ i5<0)(h9:Fn E Z5 [.s s0] (.b true))(h10:i1>0)(h11:0≤i6)(h12:r2[(Int.toNat i6)]?=some [.i i7,.s s6,.s s7,.s s8,.s s9,.s s10,.s s11])(h13:i7≥i3)(e1:IntKind.i64.wrap (i1-1)=i6):Lp E 1 B2 3 (M1 r0 i0 i1 r1 r2) .ret (z0j r1 r2 5):=by subst e1;exact lpX (oT h1 (oP h2 (oD h3 (oF h4 (oF h5 (oU h6 (oF h7 (oU h8 (oF h9 (oT h10 (oP h11 (oD h12 (oT h13 oZ)))))))))))))
theorem k6u (h8:¬ i5<0)(h9:Fn E Z5 [.s s0] (.b false)):Lp E 1 B2 3 (M1 r0 i0 i1 r1 r2) .ret (z0j r1 r2 4):=lpX (oT h1 (oP h2 (oD h3 (oF h4 (oF h5 (oU h6 (oF h7 (oU h8 (oF h9 oZ)))))))))
end
end
theorem k6v (h4:Fn E N7 [.i i3,.i 1073741824] (.b false)):Lp E 1 B2 3 (M1 r0 i0 i1 r1 r2) .ret (z0j r1 r2 2):=lpX (oT h1 (oP h2 (oD h3 (oF h4 oZ))))
end
theorem k6w (h1:¬ i1<i0):Lp E 1 B2 3 (M1 r0 i0 i1 r1 r2) (.exit 6) (y7o r1 r2):=lpX (oU h1 oZ)
theorem v1k (h1:Lp E 1 B2 0 (z1a r0 (r0.length:Int) 0 r0 r1) .ret (y2n r0 r1)):Fn E B2 [.agg [.l r0,.l r1]] (.i 1):=fnM (oL h1 oZ)
section
variable (h1:Lp E 1 B2 0 (z1a r0 (r0.length:Int) 0 r0 r1) (.exit 0) (y7l r0 r1))
include h1
theorem v1l (h2:Lp E 1 B2 1 (z1b r1 (r1.length:Int) 0 r0 r1) .ret (y2o r0 r1)):Fn E B2 [.agg [.l r0,.l r1]] (.i 1):=fnM (oL h1 (oL h2 oZ))
section
variable (h2:Lp E 1 B2 1 (z1b r1 (r1.length:Int) 0 r0 r1) (.exit 2) (y7m r0 r1))
include h2
theorem v1m (h3:(r0.length:Int)>6):Fn E B2 [.agg [.l r0,.l r1]] (.i 8):=fnM (oL h1 (oL h2 (oT h3 oZ)))
section
variable (h3:¬ (r0.length:Int)>6)
include h3
theorem v1n (h4:(r1.length:Int)>6):Fn E B2 [.agg [.l r0,.l r1]] (.i 8):=fnM (oL h1 (oL h2 (oU h3 (oT h4 oZ))))
section
variable (h4:¬ (r1.length:Int)>6)
include h4
theorem v1o (h5:Lp E 1 B2 2 (I4 r0 (r0.length:Int) 0 r0 r1) .ret (P9 r0 r1 i0)):Fn E B2 [.agg [.l r0,.l r1]] (.i i0):=fnM (oL h1 (oL h2 (oU h3 (oU h4 (oL h5 oZ)))))
section
variable (h5:Lp E 1 B2 2 (I4 r0 (r0.length:Int) 0 r0 r1) (.exit 4) (y7n r0 r1))
include h5
theorem v1p (h6:Lp E 1 B2 3 (M1 r1 (r1.length:Int) 0 r0 r1) .ret (z0j r0 r1 i0)):Fn E B2 [.agg [.l r0,.l r1]] (.i i0):=fnM (oL h1 (oL h2 (oU h3 (oU h4 (oL h5 (oL h6 oZ))))))
theorem v1q (h6:Lp E 1 B2 3 (M1 r1 (r1.length:Int) 0 r0 r1) (.exit 6) (y7o r0 r1)):Fn E B2 [.agg [.l r0,.l r1]] (.i 0):=fnM (oL h1 (oL h2 (oU h3 (oU h4 (oL h5 (oL h6 oZ))))))
end
end
end
end
end
section
variable (h1:Fn E F5 [.agg [.l r0,.l r1],.l r2] (.i i0))
include h1
theorem j0e (h2:¬ i0=0):Fn E z8g [.agg [.l r0,.l r1],.l r2] (.tup [.i 0,.i 1]):=fnM (oF h1 (oB (bnT h2) oZ))
theorem j0f (h2:i0=0)(h3:Rn E B1 [.l r1,.fn I9 [.ptr 0 0,.ptr 1 0]] [sC [.l r0,.l r1],sC [.l r2]] (.i i1) [sC [.l r0,.l r1],sC [.l r2]]):Fn E z8g [.agg [.l r0,.l r1],.l r2] (.tup [.i i1,.i 0]):=fnM (oF h1 (oC (bnF h2) (oR h3 oZ)))
end
theorem v1z (h1:Fn E I3 [.l r0,.fn K4 []] (.b b0)):Fn E z4c [.l r0] (.b (!b0)):=fnM (oF h1 oZ)
theorem q6z (h1:i0≥1)(h2:i0≤i1):Fn E N7 [.i i0,.i i1] (.b true):=fnM (oT h1 (oT h2 oZ))
theorem q7a (h1:i0≥1)(h2:¬ i0≤i1):Fn E N7 [.i i0,.i i1] (.b false):=fnM (oT h1 (oU h2 oZ))
theorem q7b (h1:¬ i0≥1):Fn E N7 [.i i0,.i i1] (.b false):=fnM (oU h1 oZ)
theorem v7f (h1:Fn E z9o [.s s0,.s ⟨#[48]⟩] (.i i0)):Fn E z0u [.s s0] (.i i0):=fnM (oF h1 oZ)
theorem v1t (h1:(s0.size:Int)≥1)(h2:(s0.size:Int)≤64):Fn E Z5 [.s s0] (.b true):=fnM (oT h1 (oT h2 oZ))
theorem v1u (h1:(s0.size:Int)≥1)(h2:¬ (s0.size:Int)≤64):Fn E Z5 [.s s0] (.b false):=fnM (oT h1 (oU h2 oZ))
theorem v1v (h1:¬ (s0.size:Int)≥1):Fn E Z5 [.s s0] (.b false):=fnM (oU h1 oZ)
def I8 (r0 r1:RW) (i0 i1:Int) (r2 r3:RW):St:=stOf 72 [(1,.l r0),(2,.ptr 0 0),(11,.l r1),(12,.i i0),(13,.i i1)] [sC [.l r2,.l r3]]
def V2 (r2 r3:RW) (i2:Int):St:=stOf 72 [(4,.i i2)] [sC [.l r2,.l r3]]
def y5y (r2 r3:RW):St:=stOf 72 [] [sC [.l r2,.l r3]]
section
variable (h1:i1<i0)(h2:0≤i1)(h3:r1[(Int.toNat i1)]?=some [.i i3,.i i4,.i i5])(h4:Fn E y5p [.agg [.l r2,.l r3],.i i4] (.i i6))
include h1 h2 h3 h4
section
variable (h5:¬ i6<0)(h6:Fn E y2i [.agg [.l r2,.l r3],.i i3] (.i i7))(h7:¬ i7<0)(h8:¬ i5<1)
include h5 h6 h7 h8
theorem j0g (h9:i1>0)(h10:0≤i8)(h11:r0[(Int.toNat i8)]?=some [.i i9,.i i10,.i i11])(h12:Fn E y9a [.agg [.i i9,.i i10,.i i11],.agg [.i i3,.i i4,.i i5]] (.i i12))(h13:¬ i12≥0)(h14:0≤i6)(h15:r2[(Int.toNat i6)]?=some [.i i13,.i i14,.i i15,.s s0,.s s1,.s s2,.s s3])(h16:¬ i5>i14)(h17:0≤(0:Int)∧(0:Int)≤i16∧i16≤r0.length∧∀ x∈r0,x.length=3)(h18:Fn E U5 [.l r4,.i i4] (.i i17))(h19:¬ i17>i14)(e1:IntKind.i64.wrap (i1-1)=i8)(e2:IntKind.i64.wrap (i1+1)=i16)(e3:List.drop 0 (r0.take (Int.toNat i16))=r4)(ih:Lp E 1 F5 0 (I8 r0 r1 i0 i16 r2 r3) o t):Lp E 1 F5 0 (I8 r0 r1 i0 i1 r2 r3) o t:=by subst e1 e2 e3;exact lpM (oT h1 (oP h2 (oD h3 (oF h4 (oU h5 (oF h6 (oU h7 (oU h8 (oT h9 (oP h10 (oD h11 (oF h12 (oU h13 (oP h14 (oD h15 (oU h16 (oP h17 (oF h18 (oP h14 (oD h15 (oU h19 oZ))))))))))))))))))))) ih
theorem j0h (h9:¬ i1>0)(h10:0≤i6)(h11:r2[(Int.toNat i6)]?=some [.i i8,.i i9,.i i10,.s s4,.s s5,.s s6,.s s7])(h12:¬ i5>i9)(h13:0≤(0:Int)∧(0:Int)≤i15∧i15≤r0.length∧∀ x∈r0,x.length=3)(h14:Fn E U5 [.l r5,.i i4] (.i i18))(h15:¬ i18>i9)(e1:IntKind.i64.wrap (i1+1)=i15)(e2:List.drop 0 (r0.take (Int.toNat i15))=r5)(ih:Lp E 1 F5 0 (I8 r0 r1 i0 i15 r2 r3) o t):Lp E 1 F5 0 (I8 r0 r1 i0 i1 r2 r3) o t:=by subst e1 e2;exact lpM (oT h1 (oP h2 (oD h3 (oF h4 (oU h5 (oF h6 (oU h7 (oU h8 (oU h9 (oP h10 (oD h11 (oU h12 (oP h13 (oF h14 (oP h10 (oD h11 (oU h15 oZ))))))))))))))))) ih
end
theorem k1z (h5:i6<0):Lp E 1 F5 0 (I8 r0 r1 i0 i1 r2 r3) .ret (V2 r2 r3 7):=lpX (oT h1 (oP h2 (oD h3 (oF h4 (oT h5 oZ)))))
section
variable (h5:¬ i6<0)(h6:Fn E y2i [.agg [.l r2,.l r3],.i i3] (.i i7))
include h5 h6
theorem k2a (h7:i7<0):Lp E 1 F5 0 (I8 r0 r1 i0 i1 r2 r3) .ret (V2 r2 r3 7):=lpX (oT h1 (oP h2 (oD h3 (oF h4 (oU h5 (oF h6 (oT h7 oZ)))))))
section
variable (h7:¬ i7<0)
include h7
theorem k2b (h8:i5<1):Lp E 1 F5 0 (I8 r0 r1 i0 i1 r2 r3) .ret (V2 r2 r3 2):=lpX (oT h1 (oP h2 (oD h3 (oF h4 (oU h5 (oF h6 (oU h7 (oT h8 oZ))))))))
section
variable (h8:¬ i5<1)
include h8
section
variable (h9:i1>0)(h10:0≤i8)(h11:r0[(Int.toNat i8)]?=some [.i i9,.i i10,.i i11])(h12:Fn E y9a [.agg [.i i9,.i i10,.i i11],.agg [.i i3,.i i4,.i i5]] (.i i12))
include h9 h10 h11 h12
theorem k2c (h13:i12≥0)(e1:IntKind.i64.wrap (i1-1)=i8):Lp E 1 F5 0 (I8 r0 r1 i0 i1 r2 r3) .ret (V2 r2 r3 5):=by subst e1;exact lpX (oT h1 (oP h2 (oD h3 (oF h4 (oU h5 (oF h6 (oU h7 (oU h8 (oT h9 (oP h10 (oD h11 (oF h12 (oT h13 oZ)))))))))))))
section
variable (h13:¬ i12≥0)(h14:0≤i6)(h15:r2[(Int.toNat i6)]?=some [.i i13,.i i14,.i i15,.s s0,.s s1,.s s2,.s s3])
include h13 h14 h15
theorem k2d (h16:i5>i14)(e1:IntKind.i64.wrap (i1-1)=i8):Lp E 1 F5 0 (I8 r0 r1 i0 i1 r2 r3) .ret (V2 r2 r3 12):=by subst e1;exact lpX (oT h1 (oP h2 (oD h3 (oF h4 (oU h5 (oF h6 (oU h7 (oU h8 (oT h9 (oP h10 (oD h11 (oF h12 (oU h13 (oP h14 (oD h15 (oT h16 oZ))))))))))))))))
theorem k2e (h16:¬ i5>i14)(h17:0≤(0:Int)∧(0:Int)≤i16∧i16≤r0.length∧∀ x∈r0,x.length=3)(h18:Fn E U5 [.l r4,.i i4] (.i i17))(h19:i17>i14)(e1:IntKind.i64.wrap (i1-1)=i8)(e2:IntKind.i64.wrap (i1+1)=i16)(e3:List.drop 0 (r0.take (Int.toNat i16))=r4):Lp E 1 F5 0 (I8 r0 r1 i0 i1 r2 r3) .ret (V2 r2 r3 12):=by subst e1 e2 e3;exact lpX (oT h1 (oP h2 (oD h3 (oF h4 (oU h5 (oF h6 (oU h7 (oU h8 (oT h9 (oP h10 (oD h11 (oF h12 (oU h13 (oP h14 (oD h15 (oU h16 (oP h17 (oF h18 (oP h14 (oD h15 (oT h19 oZ)))))))))))))))))))))
end
end
section
variable (h9:¬ i1>0)(h10:0≤i6)(h11:r2[(Int.toNat i6)]?=some [.i i8,.i i9,.i i10,.s s4,.s s5,.s s6,.s s7])
include h9 h10 h11
theorem k2f (h12:i5>i9):Lp E 1 F5 0 (I8 r0 r1 i0 i1 r2 r3) .ret (V2 r2 r3 12):=lpX (oT h1 (oP h2 (oD h3 (oF h4 (oU h5 (oF h6 (oU h7 (oU h8 (oU h9 (oP h10 (oD h11 (oT h12 oZ))))))))))))
theorem k2g (h12:¬ i5>i9)(h13:0≤(0:Int)∧(0:Int)≤i15∧i15≤r0.length∧∀ x∈r0,x.length=3)(h14:Fn E U5 [.l r5,.i i4] (.i i18))(h15:i18>i9)(e1:IntKind.i64.wrap (i1+1)=i15)(e2:List.drop 0 (r0.take (Int.toNat i15))=r5):Lp E 1 F5 0 (I8 r0 r1 i0 i1 r2 r3) .ret (V2 r2 r3 12):=by subst e1 e2;exact lpX (oT h1 (oP h2 (oD h3 (oF h4 (oU h5 (oF h6 (oU h7 (oU h8 (oU h9 (oP h10 (oD h11 (oU h12 (oP h13 (oF h14 (oP h10 (oD h11 (oT h15 oZ)))))))))))))))))
end
end
end
end
end
theorem k2h (h1:¬ i1<i0):Lp E 1 F5 0 (I8 r0 r1 i0 i1 r2 r3) (.exit 0) (y5y r2 r3):=lpX (oU h1 oZ)
section
variable (h1:Fn E B2 [.agg [.l r0,.l r1]] (.i i0))
include h1
theorem q6r (h2:¬ i0=0):Fn E F5 [.agg [.l r0,.l r1],.l r2] (.i 1):=fnM (oF h1 (oB (bnT h2) oZ))
theorem q6s (h2:i0=0)(h3:Lp E 1 F5 0 (I8 r2 r2 (r2.length:Int) 0 r0 r1) .ret (V2 r0 r1 i1)):Fn E F5 [.agg [.l r0,.l r1],.l r2] (.i i1):=fnM (oF h1 (oC (bnF h2) (oL h3 oZ)))
theorem q6t (h2:i0=0)(h3:Lp E 1 F5 0 (I8 r2 r2 (r2.length:Int) 0 r0 r1) (.exit 0) (y5y r0 r1)):Fn E F5 [.agg [.l r0,.l r1],.l r2] (.i 0):=fnM (oF h1 (oC (bnF h2) (oL h3 oZ)))
end
theorem q2q (h1:Fn E z1q [.s s0,.s s1] (.tup [.i i0,.i i1])):Fn E z9o [.s s0,.s s1] (.i i0):=fnM (oF h1 oZ)
theorem v7b (h1:Fn E F5 [.agg [.l r0,.l r1],.l r2] (.i i1))(h2:i1=0)(h3:Fn E y2i [.agg [.l r0,.l r1],.i i0] (.i i2))(h4:¬ i2<0)(h5:Fn E x7k [.l r2,.i i0] (.l r3))(h6:Fn E z0r [.agg [.l r0,.l r1],.l r3] (.agg [.s s0,.s s1,.s s2,.s s3,.s s4,.s s5])):Fn E x7j [.agg [.l r0,.l r1],.l r2,.i i0] (.tup [.agg [.s s0,.s s1,.s s2,.s s3,.s s4,.s s5],.i 0]):=fnM (oF h1 (oC (bnF h2) (oF h3 (oU h4 (oF h5 (oF h6 oZ))))))
theorem q6x (h1:Fn E x1b [.l r0,.i i0,.fn C8 []] (.i i1)):Fn E y5p [.agg [.l r0,.l r1],.i i0] (.i i1):=fnM (oF h1 oZ)
theorem v7c (h1:Fn E x3t [.l r1,.i i0,.fn F1 []] (.i i1)):Fn E y2i [.agg [.l r0,.l r1],.i i0] (.i i1):=fnM (oF h1 oZ)
theorem v1w (h1:Fn E z0v [.i i0,.i i3] (.i i6))(h2:Fn E z0v [.i i1,.i i4] (.i i7))(h3:Fn E z1w [.l r0] (.i i8))(e1:(([[.i i6],[.i i7]]:RW).take 2)=r0):Fn E y9a [.agg [.i i0,.i i1,.i i2],.agg [.i i3,.i i4,.i i5]] (.i i8):=by subst e1;exact fnM (oF h1 (oF h2 (oF h3 oZ)))
def z4r (i0 i1:Int) (r0:RW) (i2 i3:Int):St:=stOf 24 [(1,.i i0),(5,.i i1),(8,.l r0),(9,.i i2),(10,.i i3)] []
def y7r (i4:Int):St:=stOf 24 [(5,.i i4)] []
section
variable (h1:i3<i2)(h2:0≤i3)(h3:r0[(Int.toNat i3)]?=some [.i i5,.i i6,.i i7])
include h1 h2 h3
theorem j3e (h4:i6=i0)(e1:IntKind.i64.wrap (i1+i7)=i8)(e2:IntKind.i64.wrap (i3+1)=i9)(ih:Lp E 0 U5 0 (z4r i0 i8 r0 i2 i9) o t):Lp E 0 U5 0 (z4r i0 i1 r0 i2 i3) o t:=by subst e1 e2;exact lpM (oT h1 (oP h2 (oD h3 (oB (beT h4) oZ)))) ih
theorem j3f (h4:¬ i6=i0)(e1:IntKind.i64.wrap (i3+1)=i8)(ih:Lp E 0 U5 0 (z4r i0 i1 r0 i2 i8) o t):Lp E 0 U5 0 (z4r i0 i1 r0 i2 i3) o t:=by subst e1;exact lpM (oT h1 (oP h2 (oD h3 (oC (beF h4) oZ)))) ih
end
theorem k7b (h1:¬ i3<i2):Lp E 0 U5 0 (z4r i0 i1 r0 i2 i3) (.exit 0) (y7r i1):=lpX (oU h1 oZ)
theorem v1y (h1:Lp E 0 U5 0 (z4r i0 0 r0 (r0.length:Int) 0) (.exit 0) (y7r i1)):Fn E U5 [.l r0,.i i0] (.i i1):=fnM (oL h1 oZ)
section
variable (h1:Fn E x7k [.l r2,.i i0] (.l r3))(h2:Fn E z0r [.agg [.l r0,.l r1],.l r3] (.agg [.s s6,.s s7,.s s8,.s s9,.s s10,.s s11]))(h3:Fn E z9o [.s s6,.s s2] (.i i1))
include h1 h2 h3
theorem k1w (h4:i1>0):Rn E I9 [.agg [.i i0,.s s0,.s s1,.s s2,.s s3,.s s4,.s s5],.ptr 0 0,.ptr 1 0] [sC [.l r0,.l r1],sC [.l r2]] (.b true) [sC [.l r0,.l r1],sC [.l r2]]:=rnM (oF h1 (oF h2 (oF h3 (oT h4 oZ))))
section
variable (h4:¬ i1>0)(h5:Fn E z9o [.s s7,.s s1] (.i i2))
include h4 h5
theorem k1x (h6:i2>0):Rn E I9 [.agg [.i i0,.s s0,.s s1,.s s2,.s s3,.s s4,.s s5],.ptr 0 0,.ptr 1 0] [sC [.l r0,.l r1],sC [.l r2]] (.b true) [sC [.l r0,.l r1],sC [.l r2]]:=rnM (oF h1 (oF h2 (oF h3 (oU h4 (oF h5 (oT h6 oZ))))))
theorem k1y (h6:¬ i2>0):Rn E I9 [.agg [.i i0,.s s0,.s s1,.s s2,.s s3,.s s4,.s s5],.ptr 0 0,.ptr 1 0] [sC [.l r0,.l r1],sC [.l r2]] (.b false) [sC [.l r0,.l r1],sC [.l r2]]:=rnM (oF h1 (oF h2 (oF h3 (oU h4 (oF h5 (oU h6 oZ))))))
end
end
theorem w4n (h1:Rn E z6u [.l r0] [] (.vec 0 n0) [sV F7 r1])(h2:Rn E F9 [.vec 1 n0,.fn M4 [.ptr 0 0]] [sC [.i i0],sV F7 r1] (.vec 1 n1) [sC [.i i0],sV F7 r2])(e1:(r2.take n1)=r3):Fn E x7k [.l r0,.i i0] (.l r3):=by subst e1;exact fnM (oN h1 (oV h2 oZ))
def z2m (r0:RW) (i0 i1:Int) (r1 r2:RW) (s0 s1 s2 s3 s4 s5 s6 s7 s8 s9 s10 s11:BA):St:=stOf 93 [(2,.ptr 0 0),(4,.ptr 1 0),(5,.ptr 2 0),(14,.l r0),(15,.i i0),(16,.i i1)] [sC [.l r1,.l r2],sC [.s s0,.s s1,.s s2,.s s3,.s s4,.s s5],sC [.s s6,.s s7,.s s8,.s s9,.s s10,.s s11]]
def y7q (r1 r2:RW) (s0 s1 s2 s3 s4 s5 s12 s13 s14 s15 s16 s17:BA):St:=stOf 93 [(4,.ptr 1 0),(5,.ptr 2 0)] [sC [.l r1,.l r2],sC [.s s0,.s s1,.s s2,.s s3,.s s4,.s s5],sC [.s s12,.s s13,.s s14,.s s15,.s s16,.s s17]]
theorem j3d (h1:i1<i0)(h2:0≤i1)(h3:r0[(Int.toNat i1)]?=some [.i i2,.i i3,.i i4])(h4:Fn E y5p [.agg [.l r1,.l r2],.i i3] (.i i5))(h5:0≤i5)(h6:r1[(Int.toNat i5)]?=some [.i i6,.i i7,.i i8,.s s18,.s s19,.s s20,.s s21])(h7:Fn E y2i [.agg [.l r1,.l r2],.i i2] (.i i9))(h8:0≤i9)(h9:r2[(Int.toNat i9)]?=some [.i i10,.s s22,.s s23,.s s24,.s s25,.s s26,.s s27])(h10:Fn E x2f [.i i4] (.s s28))(h11:Fn E z8a [.s s28,.s s19] (.s s29))(h12:Fn E z7z [.s s6,.s s29] (.s s30))(h13:Fn E z8a [.s s28,.s s20] (.s s31))(h14:Fn E z7z [.s s7,.s s31] (.s s32))(h15:Fn E z8a [.s s28,.s s21] (.s s33))(h16:Fn E z7z [.s s8,.s s33] (.s s34))(h17:Fn E z8a [.s s29,.s s25] (.s s35))(h18:Fn E z7z [.s s9,.s s35] (.s s36))(h19:Fn E z8a [.s s29,.s s26] (.s s37))(h20:Fn E z7z [.s s10,.s s37] (.s s38))(h21:Fn E z8a [.s s29,.s s27] (.s s39))(h22:Fn E z7z [.s s11,.s s39] (.s s40))(e1:IntKind.i64.wrap (i1+1)=i11)(ih:Lp E 3 z0r 0 (z2m r0 i0 i11 r1 r2 s0 s1 s2 s3 s4 s5 s30 s32 s34 s36 s38 s40) o t):Lp E 3 z0r 0 (z2m r0 i0 i1 r1 r2 s0 s1 s2 s3 s4 s5 s6 s7 s8 s9 s10 s11) o t:=by subst e1;exact lpM (oT h1 (oP h2 (oD h3 (oF h4 (oP h5 (oD h6 (oF h7 (oP h8 (oD h9 (oF h10 (oF h11 (oF h12 (oF h13 (oF h14 (oF h15 (oF h16 (oF h17 (oF h18 (oF h19 (oF h20 (oF h21 (oF h22 oZ)))))))))))))))))))))) ih
theorem k7a (h1:¬ i1<i0):Lp E 3 z0r 0 (z2m r0 i0 i1 r1 r2 s0 s1 s2 s3 s4 s5 s6 s7 s8 s9 s10 s11) (.exit 0) (y7q r1 r2 s0 s1 s2 s3 s4 s5 s6 s7 s8 s9 s10 s11):=lpX (oU h1 oZ)
theorem v1s (h1:Lp E 3 z0r 0 (z2m r2 (r2.length:Int) 0 r0 r1 ⟨#[]⟩ ⟨#[]⟩ ⟨#[]⟩ ⟨#[]⟩ ⟨#[]⟩ ⟨#[]⟩ ⟨#[48]⟩ ⟨#[48]⟩ ⟨#[48]⟩ ⟨#[48]⟩ ⟨#[48]⟩ ⟨#[48]⟩) (.exit 0) (y7q r0 r1 ⟨#[]⟩ ⟨#[]⟩ ⟨#[]⟩ ⟨#[]⟩ ⟨#[]⟩ ⟨#[]⟩ s0 s1 s2 s3 s4 s5)):Fn E z0r [.agg [.l r0,.l r1],.l r2] (.agg [.s s0,.s s1,.s s2,.s s3,.s s4,.s s5]):=fnM (oL h1 oZ)
theorem y3s (h1:Rn E A6 [.l r0,.fn J3 [.ptr 1 0,.ptr 0 0]] [sC [.i i0],sC [.fn C8 []]] (.i i1) [sC [.i i0],sC [.fn C8 []]]):Fn E x1b [.l r0,.i i0,.fn C8 []] (.i i1):=fnM (oR h1 oZ)
theorem y7c (h1:Rn E B1 [.l r0,.fn M5 [.ptr 1 0,.ptr 0 0]] [sC [.i i0],sC [.fn F1 []]] (.i i1) [sC [.i i0],sC [.fn F1 []]]):Fn E x3t [.l r0,.i i0,.fn F1 []] (.i i1):=fnM (oR h1 oZ)
theorem q2s (h1:Fn E z6z [.s s0] (.b b0)):Fn E K4 [.s s0] (.b (!b0)):=fnM (oF h1 oZ)
theorem q6v (h1:Fn E y5x [.i i0] (.s s0)):Fn E x2f [.i i0] (.s s0):=fnM (oF h1 oZ)
theorem w0t (h1:Fn E y5u [.s s0,.s s1] (.tup [.s s2,.i i0])):Fn E z8a [.s s0,.s s1] (.s s2):=fnM (oF h1 oZ)
theorem w0s (h1:Fn E y5t [.s s0,.s s1] (.tup [.s s2,.i i0])):Fn E z7z [.s s0,.s s1] (.s s2):=fnM (oF h1 oZ)
theorem v7d (h1:¬ i0=i3):Rn E M4 [.agg [.i i0,.i i1,.i i2],.ptr 0 0] [sC [.i i3]] (.b true) [sC [.i i3]]:=rnM (oB (bnT h1) oZ)
theorem v7e (h1:i0=i3):Rn E M4 [.agg [.i i0,.i i1,.i i2],.ptr 0 0] [sC [.i i3]] (.b false) [sC [.i i3]]:=rnM (oC (bnF h1) oZ)
section
variable (h1:Fn E C8 [.agg [.i i0,.i i1,.i i2,.s s0,.s s1,.s s2,.s s3]] (.i i4))
include h1
theorem x9s (h2:i4=i3):Rn E J3 [.agg [.i i0,.i i1,.i i2,.s s0,.s s1,.s s2,.s s3],.ptr 0 0,.ptr 1 0] [sC [.fn C8 []],sC [.i i3]] (.b true) [sC [.fn C8 []],sC [.i i3]]:=rnM (oF h1 (oB (beT h2) oZ))
theorem x9t (h2:¬ i4=i3):Rn E J3 [.agg [.i i0,.i i1,.i i2,.s s0,.s s1,.s s2,.s s3],.ptr 0 0,.ptr 1 0] [sC [.fn C8 []],sC [.i i3]] (.b false) [sC [.fn C8 []],sC [.i i3]]:=rnM (oF h1 (oC (beF h2) oZ))
end
section
variable (h1:Fn E F1 [.agg [.i i0,.s s0,.s s1,.s s2,.s s3,.s s4,.s s5]] (.i i2))
include h1
theorem k6y (h2:i2=i1):Rn E M5 [.agg [.i i0,.s s0,.s s1,.s s2,.s s3,.s s4,.s s5],.ptr 0 0,.ptr 1 0] [sC [.fn F1 []],sC [.i i1]] (.b true) [sC [.fn F1 []],sC [.i i1]]:=rnM (oF h1 (oB (beT h2) oZ))
theorem k6z (h2:¬ i2=i1):Rn E M5 [.agg [.i i0,.s s0,.s s1,.s s2,.s s3,.s s4,.s s5],.ptr 0 0,.ptr 1 0] [sC [.fn F1 []],sC [.i i1]] (.b false) [sC [.fn F1 []],sC [.i i1]]:=rnM (oF h1 (oC (beF h2) oZ))
end
theorem x5p:Fn E C8 [.agg [.i i0,.i i1,.i i2,.s s0,.s s1,.s s2,.s s3]] (.i i0):=fnM oZ
theorem k2i:Fn E F1 [.agg [.i i0,.s s0,.s s1,.s s2,.s s3,.s s4,.s s5]] (.i i0):=fnM oZ
end Gev
namespace Gev
open Go Go.Proofs
variable {E:Env}
variable {o:Out} {t:St} {r0 r1 r2 r3 r4 r5 r6 r7 r8 r9 r10 r11 r12 r13 r14 r15:RW} {i0 i1 i2 i3 i4 i5 i6 i7 i8 i9 i10 i11 i12 i13 i14 i15:Int} {n0 n1 n2 n3 n4 n5 n6 n7 n8:Nat} {s0 s1 s2 s3 s4 s5 s6 s7 s8 s9 s10 s11 s12 s13 s14 s15 s16 s17 s18 s19:BA} {b0:Bool}
def z1s (i0 i1:Int) (r0 r1 r2:RW):St:=stOf 31 [(1,.ptr 0 0),(19,.i i0),(20,.i i1)] [sC [.l r0,.l r1,.l r2]]
def y4q (r0 r1 r2:RW) (i2 i3:Int):St:=stOf 31 [(2,.i i2),(3,.i i3)] [sC [.l r0,.l r1,.l r2]]
def y4r (r0 r1 r2:RW):St:=stOf 31 [] [sC [.l r0,.l r1,.l r2]]
section
variable (h1:i1<i0)(h2:Fn E F3 [.agg [.l r0,.l r1,.l r2],.i i1] (.i i4))
include h1 h2
theorem k8z (h3:i4=0)(e1:IntKind.i64.wrap (i1+1)=i5)(ih:Lp E 1 I7 0 (z1s i0 i5 r0 r1 r2) o t):Lp E 1 I7 0 (z1s i0 i1 r0 r1 r2) o t:=by subst e1;exact lpM (oT h1 (oF h2 (oC (bnF h3) oZ))) ih
theorem k0x (h3:¬ i4=0):Lp E 1 I7 0 (z1s i0 i1 r0 r1 r2) .ret (y4q r0 r1 r2 i1 i4):=lpX (oT h1 (oF h2 (oB (bnT h3) oZ)))
end
theorem k0y (h1:¬ i1<i0):Lp E 1 I7 0 (z1s i0 i1 r0 r1 r2) (.exit 0) (y4r r0 r1 r2):=lpX (oU h1 oZ)
section
variable (h1:Fn E B2 [.agg [.l r0,.l r1]] (.i i0))
include h1
theorem q4e (h2:¬ i0=0):Fn E I7 [.agg [.l r0,.l r1,.l r2]] (.tup [.i (-1),.i i0]):=fnM (oF h1 (oB (bnT h2) oZ))
theorem q4f (h2:i0=0)(h3:(r2.length:Int)>16):Fn E I7 [.agg [.l r0,.l r1,.l r2]] (.tup [.i (-1),.i 8]):=fnM (oF h1 (oC (bnF h2) (oT h3 oZ)))
theorem q4g (h2:i0=0)(h3:¬ (r2.length:Int)>16)(h4:Lp E 1 I7 0 (z1s (r2.length:Int) 0 r0 r1 r2) .ret (y4q r0 r1 r2 i1 i2)):Fn E I7 [.agg [.l r0,.l r1,.l r2]] (.tup [.i i1,.i i2]):=fnM (oF h1 (oC (bnF h2) (oU h3 (oL h4 oZ))))
theorem q4h (h2:i0=0)(h3:¬ (r2.length:Int)>16)(h4:Lp E 1 I7 0 (z1s (r2.length:Int) 0 r0 r1 r2) (.exit 0) (y4r r0 r1 r2)):Fn E I7 [.agg [.l r0,.l r1,.l r2]] (.tup [.i (-1),.i 0]):=fnM (oF h1 (oC (bnF h2) (oU h3 (oL h4 oZ))))
end
theorem v4u (h1:Fn E z0i [.agg [.l r0,.l r1,.l r2],.i i0,.l r3] (.tup [.s s0,.i i1])):Fn E x4r [.agg [.l r0,.l r1,.l r2],.i i0,.l r3] (.tup [.s s0,.i i1]):=fnM (oF h1 oZ)
section
variable (h1:Fn E z0i [.agg [.l r0,.l r1,.l r2],.i i0,.l r3] (.tup [.s s0,.i i1]))
include h1
theorem q0k (h2:¬ i1=0):Fn E y2l [.agg [.l r0,.l r1,.l r2],.i i0,.l r3] (.tup [.s ⟨#[]⟩,.i i1]):=fnM (oF h1 (oB (bnT h2) oZ))
theorem q0l (h2:i1=0)(h3:0≤i0)(h4:r2[(Int.toNat i0)]?=some [.s s1,.i i2,.l r4,.s s2,.s s3,.i i3,.i i4])(h5:Fn E X0 [.agg [.s s1,.i i2,.l r4,.s s2,.s s3,.i i3,.i i4],.s s0] (.s s4)):Fn E y2l [.agg [.l r0,.l r1,.l r2],.i i0,.l r3] (.tup [.s s4,.i 0]):=fnM (oF h1 (oC (bnF h2) (oP h3 (oD h4 (oF h5 oZ)))))
end
theorem q0f (h1:Fn E Y3 [.agg [.l r0,.l r1,.l r2],.l r3] (.b true))(h2:Fn E D0 [.agg [.l r0,.l r1,.l r2],.l r3] (.l r4)):Fn E z7b [.agg [.l r0,.l r1,.l r2],.l r3] (.tup [.l r4,.i 0]):=fnM (oF h1 (oF h2 oZ))
theorem q0g (h1:Fn E Y3 [.agg [.l r0,.l r1,.l r2],.l r3] (.b false)):Fn E z7b [.agg [.l r0,.l r1,.l r2],.l r3] (.tup [.l [],.i 1]):=fnM (oF h1 oZ)
section
variable (h1:Fn E Y3 [.agg [.l r0,.l r1,.l r2],.l r3] (.b true))(h2:Fn E D0 [.agg [.l r0,.l r1,.l r2],.l r3] (.l r4))
include h1 h2
theorem q4i (h3:(r4.length:Int)>0):Fn E z3a [.agg [.l r0,.l r1,.l r2],.l r3] (.b false):=fnM (oF h1 (oF h2 (oT h3 oZ)))
section
variable (h3:¬ (r4.length:Int)>0)(h4:Fn E z8g [.agg [.l r0,.l r1],.l r3] (.tup [.i i0,.i i1]))
include h3 h4
theorem q4j (h5:i0<0):Fn E z3a [.agg [.l r0,.l r1,.l r2],.l r3] (.b true):=fnM (oF h1 (oF h2 (oU h3 (oF h4 (oT h5 oZ)))))
theorem q4k (h5:¬ i0<0):Fn E z3a [.agg [.l r0,.l r1,.l r2],.l r3] (.b false):=fnM (oF h1 (oF h2 (oU h3 (oF h4 (oU h5 oZ)))))
end
end
theorem q4l (h1:Fn E Y3 [.agg [.l r0,.l r1,.l r2],.l r3] (.b false)):Fn E z3a [.agg [.l r0,.l r1,.l r2],.l r3] (.b false):=fnM (oF h1 oZ)
def z4j (i0:Int) (r0:RW) (i1 i2:Int) (r1 r2 r3 r4 r5:RW) (n0 n1:Nat) (r6 r7:RW):St:=stOf 139 [(1,.ptr 0 0),(2,.ptr 1 0),(6,.ptr 2 0),(7,.ptr 3 0),(8,.i i0),(9,.ptr 4 0),(10,.fn A2 [.ptr 2 0,.ptr 3 0,.ptr 4 0]),(11,.ptr 5 0),(42,.l r0),(43,.i i1),(44,.i i2)] [sC [.l r1,.l r2,.l r3],sC [.nils,.nils,.nils],sC [.l r4],sC [.l r5],sC [.vec 6 n0,.vec 7 n1,.nils],sC [.fn A1 []],sV A3 r6,sV A0 r7]
def z9h (i0:Int) (r1 r2 r3 r4 r5:RW) (n2 n3:Nat) (r8 r9:RW):St:=stOf 139 [(1,.ptr 0 0),(2,.ptr 1 0),(6,.ptr 2 0),(7,.ptr 3 0),(8,.i i0),(9,.ptr 4 0),(10,.fn A2 [.ptr 2 0,.ptr 3 0,.ptr 4 0]),(11,.ptr 5 0)] [sC [.l r1,.l r2,.l r3],sC [.nils,.nils,.nils],sC [.l r4],sC [.l r5],sC [.vec 6 n2,.vec 7 n3,.nils],sC [.fn A1 []],sV A3 r8,sV A0 r9]
theorem k9a (h1:i2<i1)(h2:0≤i2)(h3:r0[(Int.toNat i2)]?=some [.i i3,.i i4,.i i5,.s s0,.s s1,.s s2,.s s3])(h4:Fn E y7k [.i i4] (.s s4))(h5:Rn E A2 [.s s4,.fn U7 [.ptr 5 0,.ptr 8 0],.ptr 2 0,.ptr 3 0,.ptr 4 0] [sC [.l r1,.l r2,.l r3],sC [.nils,.nils,.nils],sC [.l r4],sC [.l r5],sC [.vec 6 n0,.vec 7 n1,.nils],sC [.fn A1 []],sV A3 r6,sV A0 r7,sC [.i i2],sC [.i i3,.i i4,.i i5,.s s0,.s s1,.s s2,.s s3]] (.tup []) [sC [.l r1,.l r2,.l r3],sC [.nils,.nils,.nils],sC [.l r4],sC [.l r5],sC [.vec 10 n4,.vec 11 n5,.nils],sC [.fn A1 []],some .dead,some .dead,sC [.i i2],sC [.i i3,.i i4,.i i5,.s s0,.s s1,.s s2,.s s3],sV A3 r10,sV A0 r11])(e1:IntKind.i64.wrap (i2+1)=i6)(ih:Lp E 6 A9 0 (z4j i0 r0 i1 i6 r1 r2 r3 r4 r5 n4 n5 r10 r11) o t):Lp E 6 A9 0 (z4j i0 r0 i1 i2 r1 r2 r3 r4 r5 n0 n1 r6 r7) o t:=by subst e1;exact lpM (oT h1 (oP h2 (oD h3 (oF h4 (oV h5 oZ))))) ih
theorem k1b (h1:¬ i2<i1):Lp E 6 A9 0 (z4j i0 r0 i1 i2 r1 r2 r3 r4 r5 n0 n1 r6 r7) (.exit 0) (z9h i0 r1 r2 r3 r4 r5 n0 n1 r6 r7):=lpX (oU h1 oZ)
def z4k (i0:Int) (r0:RW) (i1 i2:Int) (r1 r2 r3 r4 r5:RW) (n0 n1:Nat) (r6 r7:RW):St:=stOf 139 [(1,.ptr 0 0),(2,.ptr 1 0),(6,.ptr 2 0),(7,.ptr 3 0),(8,.i i0),(9,.ptr 4 0),(10,.fn A2 [.ptr 2 0,.ptr 3 0,.ptr 4 0]),(11,.ptr 5 0),(56,.l r0),(57,.i i1),(58,.i i2)] [sC [.l r1,.l r2,.l r3],sC [.nils,.nils,.nils],sC [.l r4],sC [.l r5],sC [.vec 8 n0,.vec 9 n1,.nils],sC [.fn A1 []],some .dead,some .dead,sV A3 r6,sV A0 r7]
def z9i (i0:Int) (r1 r2 r3 r4 r5:RW) (n2 n3:Nat) (r8 r9:RW):St:=stOf 139 [(1,.ptr 0 0),(2,.ptr 1 0),(6,.ptr 2 0),(7,.ptr 3 0),(8,.i i0),(9,.ptr 4 0),(10,.fn A2 [.ptr 2 0,.ptr 3 0,.ptr 4 0]),(11,.ptr 5 0)] [sC [.l r1,.l r2,.l r3],sC [.nils,.nils,.nils],sC [.l r4],sC [.l r5],sC [.vec 8 n2,.vec 9 n3,.nils],sC [.fn A1 []],some .dead,some .dead,sV A3 r8,sV A0 r9]
theorem k9b (h1:i2<i1)(h2:0≤i2)(h3:r0[(Int.toNat i2)]?=some [.i i3,.s s0,.s s1,.s s2,.s s3,.s s4,.s s5])(h4:Rn E A2 [.s s2,.fn U8 [.ptr 5 0,.ptr 10 0,.ptr 2 0],.ptr 2 0,.ptr 3 0,.ptr 4 0] [sC [.l r1,.l r2,.l r3],sC [.nils,.nils,.nils],sC [.l r4],sC [.l r5],sC [.vec 8 n0,.vec 9 n1,.nils],sC [.fn A1 []],some .dead,some .dead,sV A3 r6,sV A0 r7,sC [.i i2],sC [.i i3,.s s0,.s s1,.s s2,.s s3,.s s4,.s s5]] (.tup []) [sC [.l r1,.l r2,.l r3],sC [.nils,.nils,.nils],sC [.l r4],sC [.l r5],sC [.vec 12 n4,.vec 13 n5,.nils],sC [.fn A1 []],some .dead,some .dead,some .dead,some .dead,sC [.i i2],sC [.i i3,.s s0,.s s1,.s s2,.s s3,.s s4,.s s5],sV A3 r10,sV A0 r11])(e1:IntKind.i64.wrap (i2+1)=i4)(ih:Lp E 8 A9 1 (z4k i0 r0 i1 i4 r1 r2 r3 r4 r5 n4 n5 r10 r11) o t):Lp E 8 A9 1 (z4k i0 r0 i1 i2 r1 r2 r3 r4 r5 n0 n1 r6 r7) o t:=by subst e1;exact lpM (oT h1 (oP h2 (oD h3 (oV h4 oZ)))) ih
theorem k1c (h1:¬ i2<i1):Lp E 8 A9 1 (z4k i0 r0 i1 i2 r1 r2 r3 r4 r5 n0 n1 r6 r7) (.exit 2) (z9i i0 r1 r2 r3 r4 r5 n0 n1 r6 r7):=lpX (oU h1 oZ)
def z4l (i0:Int) (r0:RW) (i1 i2:Int) (r1 r2 r3 r4 r5:RW) (n0 n1:Nat) (r6 r7:RW):St:=stOf 139 [(1,.ptr 0 0),(2,.ptr 1 0),(6,.ptr 2 0),(7,.ptr 3 0),(8,.i i0),(9,.ptr 4 0),(10,.fn A2 [.ptr 2 0,.ptr 3 0,.ptr 4 0]),(11,.ptr 5 0),(69,.l r0),(70,.i i1),(71,.i i2)] [sC [.l r1,.l r2,.l r3],sC [.nils,.nils,.nils],sC [.l r4],sC [.l r5],sC [.vec 10 n0,.vec 11 n1,.nils],sC [.fn A1 []],some .dead,some .dead,some .dead,some .dead,sV A3 r6,sV A0 r7]
def z9j (i0:Int) (r1 r2 r3 r4 r5:RW) (n2 n3:Nat) (r8 r9:RW):St:=stOf 139 [(1,.ptr 0 0),(2,.ptr 1 0),(6,.ptr 2 0),(7,.ptr 3 0),(8,.i i0),(9,.ptr 4 0),(10,.fn A2 [.ptr 2 0,.ptr 3 0,.ptr 4 0])] [sC [.l r1,.l r2,.l r3],sC [.nils,.nils,.nils],sC [.l r4],sC [.l r5],sC [.vec 10 n2,.vec 11 n3,.nils],sC [.fn A1 []],some .dead,some .dead,some .dead,some .dead,sV A3 r8,sV A0 r9]
theorem k9c (h1:i2<i1)(h2:0≤i2)(h3:r0[(Int.toNat i2)]?=some [.i i3,.s s0,.s s1,.s s2,.s s3,.s s4,.s s5])(h4:Rn E A2 [.s s1,.fn U9 [.ptr 5 0,.ptr 12 0,.ptr 2 0],.ptr 2 0,.ptr 3 0,.ptr 4 0] [sC [.l r1,.l r2,.l r3],sC [.nils,.nils,.nils],sC [.l r4],sC [.l r5],sC [.vec 10 n0,.vec 11 n1,.nils],sC [.fn A1 []],some .dead,some .dead,some .dead,some .dead,sV A3 r6,sV A0 r7,sC [.i i2],sC [.i i3,.s s0,.s s1,.s s2,.s s3,.s s4,.s s5]] (.tup []) [sC [.l r1,.l r2,.l r3],sC [.nils,.nils,.nils],sC [.l r4],sC [.l r5],sC [.vec 14 n4,.vec 15 n5,.nils],sC [.fn A1 []],some .dead,some .dead,some .dead,some .dead,some .dead,some .dead,sC [.i i2],sC [.i i3,.s s0,.s s1,.s s2,.s s3,.s s4,.s s5],sV A3 r10,sV A0 r11])(e1:IntKind.i64.wrap (i2+1)=i4)(ih:Lp E 10 A9 2 (z4l i0 r0 i1 i4 r1 r2 r3 r4 r5 n4 n5 r10 r11) o t):Lp E 10 A9 2 (z4l i0 r0 i1 i2 r1 r2 r3 r4 r5 n0 n1 r6 r7) o t:=by subst e1;exact lpM (oT h1 (oP h2 (oD h3 (oV h4 oZ)))) ih
theorem k1d (h1:¬ i2<i1):Lp E 10 A9 2 (z4l i0 r0 i1 i2 r1 r2 r3 r4 r5 n0 n1 r6 r7) (.exit 4) (z9j i0 r1 r2 r3 r4 r5 n0 n1 r6 r7):=lpX (oU h1 oZ)
def J2 (i0:Int) (r0:RW) (i1 i2:Int) (r1 r2 r3 r4 r5:RW) (n0 n1:Nat) (r6 r7:RW):St:=stOf 139 [(2,.ptr 1 0),(6,.ptr 2 0),(7,.ptr 3 0),(8,.i i0),(9,.ptr 4 0),(10,.fn A2 [.ptr 2 0,.ptr 3 0,.ptr 4 0]),(83,.l r0),(84,.i i1),(85,.i i2)] [sC [.l r1,.l r2,.l r3],sC [.nils,.nils,.nils],sC [.l r4],sC [.l r5],sC [.vec 12 n0,.vec 13 n1,.nils],sC [.fn A1 []],some .dead,some .dead,some .dead,some .dead,some .dead,some .dead,sV A3 r6,sV A0 r7]
def z9k (i0:Int) (r1 r2 r3 r4 r5:RW) (n2 n3:Nat) (r8 r9:RW):St:=stOf 139 [(2,.ptr 1 0),(6,.ptr 2 0),(7,.ptr 3 0),(8,.i i0),(9,.ptr 4 0)] [sC [.l r1,.l r2,.l r3],sC [.nils,.nils,.nils],sC [.l r4],sC [.l r5],sC [.vec 12 n2,.vec 13 n3,.nils],sC [.fn A1 []],some .dead,some .dead,some .dead,some .dead,some .dead,some .dead,sV A3 r8,sV A0 r9]
section
variable (h1:i2<i1)(h2:0≤i2)(h3:r0[(Int.toNat i2)]?=some [.s s0,.i i3,.l r10,.s s1,.s s2,.i i4,.i i5])
include h1 h2 h3
theorem k9d (h4:¬ i3=1)(e1:IntKind.i64.wrap (i2+1)=i6)(ih:Lp E 12 A9 3 (J2 i0 r0 i1 i6 r1 r2 r3 r4 r5 n0 n1 r6 r7) o t):Lp E 12 A9 3 (J2 i0 r0 i1 i2 r1 r2 r3 r4 r5 n0 n1 r6 r7) o t:=by subst e1;exact lpM (oT h1 (oP h2 (oD h3 (oB (bnT h4) oZ)))) ih
theorem k9e (h4:i3=1)(h5:¬ s2=(⟨#[]⟩:BA))(h6:Rn E A2 [.s s2,.fn K5 [.ptr 2 0,.ptr 14 0],.ptr 2 0,.ptr 3 0,.ptr 4 0] [sC [.l r1,.l r2,.l r3],sC [.nils,.nils,.nils],sC [.l r4],sC [.l r5],sC [.vec 12 n0,.vec 13 n1,.nils],sC [.fn A1 []],some .dead,some .dead,some .dead,some .dead,some .dead,some .dead,sV A3 r6,sV A0 r7,sC [.s s0,.i i3,.l r10,.s s1,.s s2,.i i4,.i i5]] (.tup []) [sC [.l r1,.l r2,.l r3],sC [.nils,.nils,.nils],sC [.l r4],sC [.l r5],sC [.vec 15 n4,.vec 16 n5,.nils],sC [.fn A1 []],some .dead,some .dead,some .dead,some .dead,some .dead,some .dead,some .dead,some .dead,sC [.s s0,.i i3,.l r10,.s s1,.s s2,.i i4,.i i5],sV A3 r11,sV A0 r12])(h7:¬ s1=(⟨#[]⟩:BA))(h8:Fn E Z6 [.s ⟨#[48]⟩,.s s1] (.s s3))(h9:Rn E A2 [.s s3,.fn J0 [.ptr 2 0,.ptr 14 0],.ptr 2 0,.ptr 3 0,.ptr 4 0] [sC [.l r1,.l r2,.l r3],sC [.nils,.nils,.nils],sC [.l r4],sC [.l r5],sC [.vec 15 n4,.vec 16 n5,.nils],sC [.fn A1 []],some .dead,some .dead,some .dead,some .dead,some .dead,some .dead,some .dead,some .dead,sC [.s s0,.i i3,.l r10,.s s1,.s s2,.i i4,.i i5],sV A3 r11,sV A0 r12] (.tup []) [sC [.l r1,.l r2,.l r3],sC [.nils,.nils,.nils],sC [.l r4],sC [.l r5],sC [.vec 17 n6,.vec 18 n7,.nils],sC [.fn A1 []],some .dead,some .dead,some .dead,some .dead,some .dead,some .dead,some .dead,some .dead,sC [.s s0,.i i3,.l r10,.s s1,.s s2,.i i4,.i i5],some .dead,some .dead,sV A3 r13,sV A0 r14])(e1:IntKind.i64.wrap (i2+1)=i7)(ih:Lp E 12 A9 3 (J2 i0 r0 i1 i7 r1 r2 r3 r4 r5 n6 n7 r13 r14) o t):Lp E 12 A9 3 (J2 i0 r0 i1 i2 r1 r2 r3 r4 r5 n0 n1 r6 r7) o t:=by subst e1;exact lpM (oT h1 (oP h2 (oD h3 (oC (bnF h4) (oB (snT h5) (oV h6 (oB (snT h7) (oF h8 (oV h9 oZ))))))))) ih
theorem k9f (h4:i3=1)(h5:¬ s2=(⟨#[]⟩:BA))(h6:Rn E A2 [.s s2,.fn K5 [.ptr 2 0,.ptr 14 0],.ptr 2 0,.ptr 3 0,.ptr 4 0] [sC [.l r1,.l r2,.l r3],sC [.nils,.nils,.nils],sC [.l r4],sC [.l r5],sC [.vec 12 n0,.vec 13 n1,.nils],sC [.fn A1 []],some .dead,some .dead,some .dead,some .dead,some .dead,some .dead,sV A3 r6,sV A0 r7,sC [.s s0,.i i3,.l r10,.s s1,.s s2,.i i4,.i i5]] (.tup []) [sC [.l r1,.l r2,.l r3],sC [.nils,.nils,.nils],sC [.l r4],sC [.l r5],sC [.vec 15 n4,.vec 16 n5,.nils],sC [.fn A1 []],some .dead,some .dead,some .dead,some .dead,some .dead,some .dead,some .dead,some .dead,sC [.s s0,.i i3,.l r10,.s s1,.s s2,.i i4,.i i5],sV A3 r11,sV A0 r12])(h7:s1=(⟨#[]⟩:BA))(e1:IntKind.i64.wrap (i2+1)=i8)(ih:Lp E 12 A9 3 (J2 i0 r0 i1 i8 r1 r2 r3 r4 r5 n4 n5 r11 r12) o t):Lp E 12 A9 3 (J2 i0 r0 i1 i2 r1 r2 r3 r4 r5 n0 n1 r6 r7) o t:=by subst e1;exact lpM (oT h1 (oP h2 (oD h3 (oC (bnF h4) (oB (snT h5) (oV h6 (oC (snF h7) oZ))))))) ih
theorem k9g (h4:i3=1)(h5:s2=(⟨#[]⟩:BA))(h6:¬ s1=(⟨#[]⟩:BA))(h7:Fn E Z6 [.s ⟨#[48]⟩,.s s1] (.s s4))(h8:Rn E A2 [.s s4,.fn J0 [.ptr 2 0,.ptr 14 0],.ptr 2 0,.ptr 3 0,.ptr 4 0] [sC [.l r1,.l r2,.l r3],sC [.nils,.nils,.nils],sC [.l r4],sC [.l r5],sC [.vec 12 n0,.vec 13 n1,.nils],sC [.fn A1 []],some .dead,some .dead,some .dead,some .dead,some .dead,some .dead,sV A3 r6,sV A0 r7,sC [.s s0,.i i3,.l r10,.s s1,.s s2,.i i4,.i i5]] (.tup []) [sC [.l r1,.l r2,.l r3],sC [.nils,.nils,.nils],sC [.l r4],sC [.l r5],sC [.vec 15 n5,.vec 16 n8,.nils],sC [.fn A1 []],some .dead,some .dead,some .dead,some .dead,some .dead,some .dead,some .dead,some .dead,sC [.s s0,.i i3,.l r10,.s s1,.s s2,.i i4,.i i5],sV A3 r12,sV A0 r15])(e1:IntKind.i64.wrap (i2+1)=i9)(ih:Lp E 12 A9 3 (J2 i0 r0 i1 i9 r1 r2 r3 r4 r5 n5 n8 r12 r15) o t):Lp E 12 A9 3 (J2 i0 r0 i1 i2 r1 r2 r3 r4 r5 n0 n1 r6 r7) o t:=by subst e1;exact lpM (oT h1 (oP h2 (oD h3 (oC (bnF h4) (oC (snF h5) (oB (snT h6) (oF h7 (oV h8 oZ)))))))) ih
theorem k9h (h4:i3=1)(h5:s2=(⟨#[]⟩:BA))(h6:s1=(⟨#[]⟩:BA))(e1:IntKind.i64.wrap (i2+1)=i6)(ih:Lp E 12 A9 3 (J2 i0 r0 i1 i6 r1 r2 r3 r4 r5 n0 n1 r6 r7) o t):Lp E 12 A9 3 (J2 i0 r0 i1 i2 r1 r2 r3 r4 r5 n0 n1 r6 r7) o t:=by subst e1;exact lpM (oT h1 (oP h2 (oD h3 (oC (bnF h4) (oC (snF h5) (oC (snF h6) oZ)))))) ih
end
theorem k1e (h1:¬ i2<i1):Lp E 12 A9 3 (J2 i0 r0 i1 i2 r1 r2 r3 r4 r5 n0 n1 r6 r7) (.exit 6) (z9k i0 r1 r2 r3 r4 r5 n0 n1 r6 r7):=lpX (oU h1 oZ)
def z2y (r0:RW) (i0 i1 i2 i3:Int) (r1 r2 r3 r4 r5:RW) (n0 n1 n2:Nat) (r6 r7:RW) (i4 i5 i6:Int) (s0 s1 s2 s3:BA) (r8:RW):St:=stOf 139 [(2,.ptr 1 0),(7,.ptr 3 0),(9,.ptr 4 0),(21,.ptr 15 0),(119,.l r0),(120,.i i0),(121,.i i1),(126,.i i2),(127,.i i3)] [sC [.l r1,.l r2,.l r3],sC [.nils,.nils,.nils],sC [.l r4],sC [.l r5],sC [.vec 12 n0,.vec 13 n1,.vec 16 n2],sC [.fn A1 []],some .dead,some .dead,some .dead,some .dead,some .dead,some .dead,sV A3 r6,sV A0 r7,some .dead,sC [.i i4,.i i5,.i i6,.s s0,.s s1,.s s2,.s s3],sV A0 r8]
def z6x (r0:RW) (i0 i1:Int) (r1 r2 r3 r4 r5:RW) (n0 n1:Nat) (r6 r7:RW) (i4 i5 i6:Int) (s0 s1 s2 s3:BA) (n3:Nat) (r9:RW):St:=stOf 139 [(2,.ptr 1 0),(7,.ptr 3 0),(9,.ptr 4 0),(119,.l r0),(120,.i i0),(121,.i i1)] [sC [.l r1,.l r2,.l r3],sC [.nils,.nils,.nils],sC [.l r4],sC [.l r5],sC [.vec 12 n0,.vec 13 n1,.vec 16 n3],sC [.fn A1 []],some .dead,some .dead,some .dead,some .dead,some .dead,some .dead,sV A3 r6,sV A0 r7,some .dead,sC [.i i4,.i i5,.i i6,.s s0,.s s1,.s s2,.s s3],sV A0 r9]
theorem k4v (h1:i3<i2)(h2:(n2+1)*16≤140737488355328∧n2+1≤140737488355328)(e1:(r8.take n2)++[[.s s3]]=r10)(e2:n2+1=n4)(e3:IntKind.i64.wrap (i3+1)=i7)(ih:Lp E 16 A9 5 (z2y r0 i0 i1 i2 i7 r1 r2 r3 r4 r5 n0 n1 n4 r6 r7 i4 i5 i6 s0 s1 s2 s3 r10) o t):Lp E 16 A9 5 (z2y r0 i0 i1 i2 i3 r1 r2 r3 r4 r5 n0 n1 n2 r6 r7 i4 i5 i6 s0 s1 s2 s3 r8) o t:=by subst e1 e2 e3;exact lpM (oT h1 (oP (show ∀ y∈([[.s s3]]:RW),y.length=1 from by simp) (oP h2 oZ))) ih
theorem x8t (h1:¬ i3<i2):Lp E 16 A9 5 (z2y r0 i0 i1 i2 i3 r1 r2 r3 r4 r5 n0 n1 n2 r6 r7 i4 i5 i6 s0 s1 s2 s3 r8) (.exit 10) (z6x r0 i0 i1 r1 r2 r3 r4 r5 n0 n1 r6 r7 i4 i5 i6 s0 s1 s2 s3 n2 r8):=lpX (oU h1 oZ)
def z4m (r0:RW) (i0 i1:Int) (r1 r2 r3 r4 r5:RW) (n0 n1 n2:Nat) (r6 r7 r8:RW):St:=stOf 139 [(2,.ptr 1 0),(7,.ptr 3 0),(9,.ptr 4 0),(119,.l r0),(120,.i i0),(121,.i i1)] [sC [.l r1,.l r2,.l r3],sC [.nils,.nils,.nils],sC [.l r4],sC [.l r5],sC [.vec 12 n0,.vec 13 n1,.vec 14 n2],sC [.fn A1 []],some .dead,some .dead,some .dead,some .dead,some .dead,some .dead,sV A3 r6,sV A0 r7,sV A0 r8]
def z9l (r1 r2 r3 r4 r5:RW) (n0 n1:Nat) (r6 r7:RW) (n3:Nat) (r9:RW):St:=stOf 139 [(2,.ptr 1 0),(9,.ptr 4 0)] [sC [.l r1,.l r2,.l r3],sC [.nils,.nils,.nils],sC [.l r4],sC [.l r5],sC [.vec 12 n0,.vec 13 n1,.vec 14 n3],sC [.fn A1 []],some .dead,some .dead,some .dead,some .dead,some .dead,some .dead,sV A3 r6,sV A0 r7,sV A0 r9]
theorem k9i (h1:i1<i0)(h2:0≤i1)(h3:r0[(Int.toNat i1)]?=some [.i i2,.i i3,.i i4,.s s0,.s s1,.s s2,.s s3])(h4:Lp E 16 A9 5 (z2y r0 i0 i1 (r5.length:Int) 0 r1 r2 r3 r4 r5 n0 n1 n2 r6 r7 i2 i3 i4 s0 s1 s2 s3 r8) (.exit 10) (z6x r0 i0 i1 r1 r2 r3 r4 r5 n0 n1 r6 r7 i2 i3 i4 s0 s1 s2 s3 n4 r10))(e1:IntKind.i64.wrap (i1+1)=i5)(ih:Lp E 14 A9 4 (z4m r0 i0 i5 r1 r2 r3 r4 r5 n0 n1 n4 r6 r7 r10) o t):Lp E 14 A9 4 (z4m r0 i0 i1 r1 r2 r3 r4 r5 n0 n1 n2 r6 r7 r8) o t:=by subst e1;exact lpM (oT h1 (oP h2 (oD h3 (oM [(397,A0)] h4 oZ)))) ih
theorem k1f (h1:¬ i1<i0):Lp E 14 A9 4 (z4m r0 i0 i1 r1 r2 r3 r4 r5 n0 n1 n2 r6 r7 r8) (.exit 8) (z9l r1 r2 r3 r4 r5 n0 n1 r6 r7 n2 r8):=lpX (oU h1 oZ)
section
variable (h1:Fn E I7 [.agg [.l r0,.l r1,.l r2]] (.tup [.i i0,.i i1]))
include h1
theorem q4m (h2:¬ i1=0):Fn E A9 [.agg [.l r0,.l r1,.l r2]] (.tup [.agg [.l [],.l [],.l []],.i 1]):=fnM (oF h1 (oB (bnT h2) oZ))
section
variable (h2:i1=0)(h3:Lp E 6 A9 0 (z4j i2 r0 (r0.length:Int) 0 r0 r1 r2 r0 r1 0 0 [] []) (.exit 0) (z9h i2 r0 r1 r2 r0 r1 n0 n1 r3 r4))(h4:Lp E 8 A9 1 (z4k i2 r1 (r1.length:Int) 0 r0 r1 r2 r0 r1 n0 n1 r3 r4) (.exit 2) (z9i i2 r0 r1 r2 r0 r1 n2 n3 r5 r6))(h5:Lp E 10 A9 2 (z4l i2 r1 (r1.length:Int) 0 r0 r1 r2 r0 r1 n2 n3 r5 r6) (.exit 4) (z9j i2 r0 r1 r2 r0 r1 n4 n5 r7 r8))(h6:Lp E 12 A9 3 (J2 i2 r2 (r2.length:Int) 0 r0 r1 r2 r0 r1 n4 n5 r7 r8) (.exit 6) (z9k i2 r0 r1 r2 r0 r1 n6 n7 r9 r10))
include h2 h3 h4 h5 h6
theorem q4n (h7:i2>12)(e1:IntKind.i64.wrap ((r0.length:Int)*(r1.length:Int))=i2):Fn E A9 [.agg [.l r0,.l r1,.l r2]] (.tup [.agg [.l [],.l [],.l []],.i 8]):=by subst e1;exact fnM (oF h1 (oC (bnF h2) (oM [(395,A3),(396,A0)] h3 (oM [(395,A3),(396,A0)] h4 (oM [(395,A3),(396,A0)] h5 (oM [(395,A3),(396,A0)] h6 (oT h7 oZ)))))))
theorem q4o (h7:¬ i2>12)(h8:((n7:Nat):Int)>12)(e1:IntKind.i64.wrap ((r0.length:Int)*(r1.length:Int))=i2):Fn E A9 [.agg [.l r0,.l r1,.l r2]] (.tup [.agg [.l [],.l [],.l []],.i 8]):=by subst e1;exact fnM (oF h1 (oC (bnF h2) (oM [(395,A3),(396,A0)] h3 (oM [(395,A3),(396,A0)] h4 (oM [(395,A3),(396,A0)] h5 (oM [(395,A3),(396,A0)] h6 (oU h7 (oT h8 oZ))))))))
theorem q4p (h7:¬ i2>12)(h8:¬ ((n7:Nat):Int)>12)(h9:Lp E 14 A9 4 (z4m r0 (r0.length:Int) 0 r0 r1 r2 r0 r1 n6 n7 0 r9 r10 []) (.exit 8) (z9l r0 r1 r2 r0 r1 n6 n7 r9 r10 n8 r11))(e1:IntKind.i64.wrap ((r0.length:Int)*(r1.length:Int))=i2)(e2:(r9.take n6)=r12)(e3:(r10.take n7)=r13)(e4:(r11.take n8)=r14):Fn E A9 [.agg [.l r0,.l r1,.l r2]] (.tup [.agg [.l r12,.l r13,.l r14],.i 0]):=by subst e1 e2 e3 e4;exact fnM (oF h1 (oC (bnF h2) (oM [(395,A3),(396,A0)] h3 (oM [(395,A3),(396,A0)] h4 (oM [(395,A3),(396,A0)] h5 (oM [(395,A3),(396,A0)] h6 (oU h7 (oU h8 (oM [(397,A0)] h9 oZ)))))))))
end
end
def z9x (i0 i1:Int) (r0 r1 r2:RW) (s0:BA) (r3 r4 r5 r6:RW) (n0:Nat) (r7:RW):St:=stOf 71 [(4,.ptr 1 0),(9,.ptr 5 0),(53,.i i0),(54,.i i1)] [sC [.l r0,.l r1,.l r2],sC [.nils,.nils,.nils],sC [.s s0],sF r3,sF r4,sC [.l r5,.l r6,.vec 6 n0],sV C7 r7]
def y6x (r0 r1 r2:RW) (s0:BA) (r3 r4 r5 r6:RW) (n0:Nat) (r8:RW):St:=stOf 71 [(4,.ptr 1 0),(9,.ptr 5 0)] [sC [.l r0,.l r1,.l r2],sC [.nils,.nils,.nils],sC [.s s0],sF r3,sF r4,sC [.l r5,.l r6,.vec 6 n0],sV C7 r8]
theorem j2o (h1:i1<i0)(h2:0≤i1∧i1<((n0:Nat):Int))(h3:r7[(Int.toNat i1)]?=some [.s s1,.i i2,.l r9,.s s2,.s s3,.i i3,.i i4])(h4:Rn E z8l [.l r9] [] (.vec 0 n1) [sV A0 r10])(e1:(r10.take n1)=r11)(e2:List.set r7 (Int.toNat i1) [.s s1,.i i2,.l r11,.s s2,.s s3,.i i3,.i i4]=r12)(e3:IntKind.i64.wrap (i1+1)=i5)(ih:Lp E 7 P8 0 (z9x i0 i5 r0 r1 r2 s0 r3 r4 r5 r6 n0 r12) o t):Lp E 7 P8 0 (z9x i0 i1 r0 r1 r2 s0 r3 r4 r5 r6 n0 r7) o t:=by subst e1 e2 e3;exact lpM (oT h1 (oP h2 (oD h3 (oN h4 (oP h2 (oD h3 oZ)))))) ih
theorem k4u (h1:¬ i1<i0):Lp E 7 P8 0 (z9x i0 i1 r0 r1 r2 s0 r3 r4 r5 r6 n0 r7) (.exit 0) (y6x r0 r1 r2 s0 r3 r4 r5 r6 n0 r7):=lpX (oU h1 oZ)
section
variable (h1:Fn E I7 [.agg [.l r0,.l r1,.l r2]] (.tup [.i i1,.i i2]))
include h1
theorem v0t (h2:¬ i2=0):Fn E P8 [.agg [.l r0,.l r1,.l r2],.i i0] (.tup [.agg [.l [],.l [],.l []],.i 1]):=fnM (oF h1 (oB (bnT h2) oZ))
theorem v0u (h2:i2=0)(h3:i0<0):Fn E P8 [.agg [.l r0,.l r1,.l r2],.i i0] (.tup [.agg [.l [],.l [],.l []],.i 7]):=fnM (oF h1 (oC (bnF h2) (oT h3 oZ)))
theorem v0v (h2:i2=0)(h3:¬ i0<0)(h4:i0≥(r2.length:Int)):Fn E P8 [.agg [.l r0,.l r1,.l r2],.i i0] (.tup [.agg [.l [],.l [],.l []],.i 7]):=fnM (oF h1 (oC (bnF h2) (oU h3 (oT h4 oZ))))
theorem v0w (h2:i2=0)(h3:¬ i0<0)(h4:¬ i0≥(r2.length:Int))(h5:0≤i0)(h6:r2[(Int.toNat i0)]?=some [.s s0,.i i3,.l r3,.s s1,.s s2,.i i4,.i i5])(h7:Rn E z5f [.l r0] [] (.vec 0 n0) [sV x7m r4])(h8:Rn E z6s [.l r1] [] (.vec 0 n1) [sV j0d r5])(h9:Rn E z6t [.l r2] [] (.vec 0 n2) [sV C7 r8])(h10:Rn E F2 [.vec 6 n2,.fn G0 [.ptr 2 0]] [sC [.l r0,.l r1,.l r2],sC [.nils,.nils,.nils],sC [.s s0],sF r4,sF r5,sC [.l r6,.l r7,.l []],sV C7 r8] (.vec 6 n3) [sC [.l r0,.l r1,.l r2],sC [.nils,.nils,.nils],sC [.s s0],sF r4,sF r5,sC [.l r6,.l r7,.l []],sV C7 r9])(h11:Lp E 7 P8 0 (z9x ((n3:Nat):Int) 0 r0 r1 r2 s0 r4 r5 r6 r7 n3 r9) (.exit 0) (y6x r0 r1 r2 s0 r4 r5 r6 r7 n3 r10))(e1:(r4.take n0)=r6)(e2:(r5.take n1)=r7)(e3:(r10.take n3)=r11):Fn E P8 [.agg [.l r0,.l r1,.l r2],.i i0] (.tup [.agg [.l r6,.l r7,.l r11],.i 0]):=by subst e1 e2 e3;exact fnM (oF h1 (oC (bnF h2) (oU h3 (oU h4 (oP h5 (oD h6 (oN h7 (oN h8 (oN h9 (oV h10 (oL h11 oZ)))))))))))
end
section
variable (h1:0≤i0)(h2:r2[(Int.toNat i0)]?=some [.s s0,.i i1,.l r3,.s s1,.s s2,.i i2,.i i3])
include h1 h2
theorem q4v (h3:Fn E I3 [.l r3,.fn H7 []] (.b true)):Fn E F3 [.agg [.l r0,.l r1,.l r2],.i i0] (.i 1):=fnM (oP h1 (oD h2 (oF h3 oZ)))
section
variable (h3:Fn E I3 [.l r3,.fn H7 []] (.b false))
include h3
section
variable (h4:Fn E z3c [.s s1] (.b true))
include h4
section
variable (h5:Fn E z3c [.s s2] (.b true))
include h5
theorem q4w (h6:(s0.size:Int)<1):Fn E F3 [.agg [.l r0,.l r1,.l r2],.i i0] (.i 4):=fnM (oP h1 (oD h2 (oF h3 (oF h4 (oF h5 (oT h6 oZ))))))
section
variable (h6:¬ (s0.size:Int)<1)
include h6
theorem q4x (h7:(s0.size:Int)>64):Fn E F3 [.agg [.l r0,.l r1,.l r2],.i i0] (.i 4):=fnM (oP h1 (oD h2 (oF h3 (oF h4 (oF h5 (oU h6 (oT h7 oZ)))))))
section
variable (h7:¬ (s0.size:Int)>64)(h8:0≤(0:Int)∧(0:Int)≤i0∧i0≤r2.length∧∀ x∈r2,x.length=7)
include h7 h8
theorem q4y (h9:Rn E X9 [.l r4,.fn G7 [.ptr 1 0]] [sC [.l r0,.l r1,.l r2],sC [.s s0,.i i1,.l r3,.s s1,.s s2,.i i2,.i i3]] (.b true) [sC [.l r0,.l r1,.l r2],sC [.s s0,.i i1,.l r3,.s s1,.s s2,.i i2,.i i3]])(e1:List.drop 0 (r2.take (Int.toNat i0))=r4):Fn E F3 [.agg [.l r0,.l r1,.l r2],.i i0] (.i 6):=by subst e1;exact fnM (oP h1 (oD h2 (oF h3 (oF h4 (oF h5 (oU h6 (oU h7 (oP h8 (oR h9 oZ)))))))))
section
variable (h9:Rn E X9 [.l r4,.fn G7 [.ptr 1 0]] [sC [.l r0,.l r1,.l r2],sC [.s s0,.i i1,.l r3,.s s1,.s s2,.i i2,.i i3]] (.b false) [sC [.l r0,.l r1,.l r2],sC [.s s0,.i i1,.l r3,.s s1,.s s2,.i i2,.i i3]])
include h9
theorem q4z (h10:i1<1)(e1:List.drop 0 (r2.take (Int.toNat i0))=r4):Fn E F3 [.agg [.l r0,.l r1,.l r2],.i i0] (.i 2):=by subst e1;exact fnM (oP h1 (oD h2 (oF h3 (oF h4 (oF h5 (oU h6 (oU h7 (oP h8 (oR h9 (oT h10 oZ))))))))))
section
variable (h10:¬ i1<1)
include h10
theorem q5a (h11:i1>4)(e1:List.drop 0 (r2.take (Int.toNat i0))=r4):Fn E F3 [.agg [.l r0,.l r1,.l r2],.i i0] (.i 2):=by subst e1;exact fnM (oP h1 (oD h2 (oF h3 (oF h4 (oF h5 (oU h6 (oU h7 (oP h8 (oR h9 (oU h10 (oT h11 oZ)))))))))))
section
variable (h11:¬ i1>4)
include h11
section
variable (h12:i1=1)
include h12
theorem q5b (h13:¬ (r3.length:Int)=(r1.length:Int))(e1:List.drop 0 (r2.take (Int.toNat i0))=r4):Fn E F3 [.agg [.l r0,.l r1,.l r2],.i i0] (.i 10):=by subst e1;exact fnM (oP h1 (oD h2 (oF h3 (oF h4 (oF h5 (oU h6 (oU h7 (oP h8 (oR h9 (oU h10 (oU h11 (oB (beT h12) (oB (bnT h13) oZ)))))))))))))
section
variable (h13:(r3.length:Int)=(r1.length:Int))
include h13
theorem q5c (h14:¬ i2=0)(e1:List.drop 0 (r2.take (Int.toNat i0))=r4):Fn E F3 [.agg [.l r0,.l r1,.l r2],.i i0] (.i 10):=by subst e1;exact fnM (oP h1 (oD h2 (oF h3 (oF h4 (oF h5 (oU h6 (oU h7 (oP h8 (oR h9 (oU h10 (oU h11 (oB (beT h12) (oC (bnF h13) (oB (bnT h14) oZ))))))))))))))
section
variable (h14:i2=0)
include h14
theorem q5d (h15:¬ i3=0)(e1:List.drop 0 (r2.take (Int.toNat i0))=r4):Fn E F3 [.agg [.l r0,.l r1,.l r2],.i i0] (.i 10):=by subst e1;exact fnM (oP h1 (oD h2 (oF h3 (oF h4 (oF h5 (oU h6 (oU h7 (oP h8 (oR h9 (oU h10 (oU h11 (oB (beT h12) (oC (bnF h13) (oC (bnF h14) (oB (bnT h15) oZ)))))))))))))))
section
variable (h15:i3=0)
include h15
section
variable (h16:s1=(⟨#[]⟩:BA))
include h16
theorem q5e (h17:s2=(⟨#[]⟩:BA))(e1:List.drop 0 (r2.take (Int.toNat i0))=r4):Fn E F3 [.agg [.l r0,.l r1,.l r2],.i i0] (.i 2):=by subst e1;exact fnM (oP h1 (oD h2 (oF h3 (oF h4 (oF h5 (oU h6 (oU h7 (oP h8 (oR h9 (oU h10 (oU h11 (oB (beT h12) (oC (bnF h13) (oC (bnF h14) (oC (bnF h15) (oB (seT h16) (oB (seT h17) oZ)))))))))))))))))
theorem q0v (h17:¬ s2=(⟨#[]⟩:BA))(e1:List.drop 0 (r2.take (Int.toNat i0))=r4):Fn E F3 [.agg [.l r0,.l r1,.l r2],.i i0] (.i 0):=by subst e1;exact fnM (oP h1 (oD h2 (oF h3 (oF h4 (oF h5 (oU h6 (oU h7 (oP h8 (oR h9 (oU h10 (oU h11 (oB (beT h12) (oC (bnF h13) (oC (bnF h14) (oC (bnF h15) (oB (seT h16) (oC (seF h17) (oC (snF h16) oZ))))))))))))))))))
end
section
variable (h16:¬ s1=(⟨#[]⟩:BA))
include h16
section
variable (h17:¬ s2=(⟨#[]⟩:BA))(h18:Fn E O1 [.s s1,.s s2] (.i i4))
include h17 h18
theorem q0w (h19:i4>0)(e1:List.drop 0 (r2.take (Int.toNat i0))=r4):Fn E F3 [.agg [.l r0,.l r1,.l r2],.i i0] (.i 2):=by subst e1;exact fnM (oP h1 (oD h2 (oF h3 (oF h4 (oF h5 (oU h6 (oU h7 (oP h8 (oR h9 (oU h10 (oU h11 (oB (beT h12) (oC (bnF h13) (oC (bnF h14) (oC (bnF h15) (oC (seF h16) (oB (snT h16) (oB (snT h17) (oF h18 (oT h19 oZ))))))))))))))))))))
theorem q0x (h19:¬ i4>0)(e1:List.drop 0 (r2.take (Int.toNat i0))=r4):Fn E F3 [.agg [.l r0,.l r1,.l r2],.i i0] (.i 0):=by subst e1;exact fnM (oP h1 (oD h2 (oF h3 (oF h4 (oF h5 (oU h6 (oU h7 (oP h8 (oR h9 (oU h10 (oU h11 (oB (beT h12) (oC (bnF h13) (oC (bnF h14) (oC (bnF h15) (oC (seF h16) (oB (snT h16) (oB (snT h17) (oF h18 (oU h19 oZ))))))))))))))))))))
end
theorem q0y (h17:s2=(⟨#[]⟩:BA))(e1:List.drop 0 (r2.take (Int.toNat i0))=r4):Fn E F3 [.agg [.l r0,.l r1,.l r2],.i i0] (.i 0):=by subst e1;exact fnM (oP h1 (oD h2 (oF h3 (oF h4 (oF h5 (oU h6 (oU h7 (oP h8 (oR h9 (oU h10 (oU h11 (oB (beT h12) (oC (bnF h13) (oC (bnF h14) (oC (bnF h15) (oC (seF h16) (oB (snT h16) (oC (snF h17) oZ))))))))))))))))))
end
end
end
end
end
section
variable (h12:¬ i1=1)
include h12
theorem q0z (h13:(r3.length:Int)>0)(e1:List.drop 0 (r2.take (Int.toNat i0))=r4):Fn E F3 [.agg [.l r0,.l r1,.l r2],.i i0] (.i 10):=by subst e1;exact fnM (oP h1 (oD h2 (oF h3 (oF h4 (oF h5 (oU h6 (oU h7 (oP h8 (oR h9 (oU h10 (oU h11 (oC (beF h12) (oT h13 oZ)))))))))))))
section
variable (h13:¬ (r3.length:Int)>0)
include h13
theorem q1a (h14:¬ s1=(⟨#[]⟩:BA))(e1:List.drop 0 (r2.take (Int.toNat i0))=r4):Fn E F3 [.agg [.l r0,.l r1,.l r2],.i i0] (.i 10):=by subst e1;exact fnM (oP h1 (oD h2 (oF h3 (oF h4 (oF h5 (oU h6 (oU h7 (oP h8 (oR h9 (oU h10 (oU h11 (oC (beF h12) (oU h13 (oB (snT h14) oZ))))))))))))))
theorem q1b (h14:s1=(⟨#[]⟩:BA))(h15:¬ s2=(⟨#[]⟩:BA))(e1:List.drop 0 (r2.take (Int.toNat i0))=r4):Fn E F3 [.agg [.l r0,.l r1,.l r2],.i i0] (.i 10):=by subst e1;exact fnM (oP h1 (oD h2 (oF h3 (oF h4 (oF h5 (oU h6 (oU h7 (oP h8 (oR h9 (oU h10 (oU h11 (oC (beF h12) (oU h13 (oC (snF h14) (oB (snT h15) oZ)))))))))))))))
theorem q1c (h14:s1=(⟨#[]⟩:BA))(h15:s2=(⟨#[]⟩:BA))(h16:Fn E P6 [.agg [.l r0,.l r1,.l r2],.agg [.s s0,.i i1,.l r3,.s s1,.s s2,.i i2,.i i3]] (.i i4))(e1:List.drop 0 (r2.take (Int.toNat i0))=r4):Fn E F3 [.agg [.l r0,.l r1,.l r2],.i i0] (.i i4):=by subst e1;exact fnM (oP h1 (oD h2 (oF h3 (oF h4 (oF h5 (oU h6 (oU h7 (oP h8 (oR h9 (oU h10 (oU h11 (oC (beF h12) (oU h13 (oC (snF h14) (oC (snF h15) (oF h16 oZ))))))))))))))))
end
end
end
end
end
end
end
end
theorem q1d (h5:Fn E z3c [.s s2] (.b false)):Fn E F3 [.agg [.l r0,.l r1,.l r2],.i i0] (.i 1):=fnM (oP h1 (oD h2 (oF h3 (oF h4 (oF h5 oZ)))))
end
theorem q1e (h4:Fn E z3c [.s s1] (.b false)):Fn E F3 [.agg [.l r0,.l r1,.l r2],.i i0] (.i 1):=fnM (oP h1 (oD h2 (oF h3 (oF h4 oZ))))
end
end
section
variable (h1:Fn E Y3 [.agg [.l r0,.l r1,.l r2],.l r3] (.b true))
include h1
theorem q1j (h2:i0<0):Fn E z0i [.agg [.l r0,.l r1,.l r2],.i i0,.l r3] (.tup [.s ⟨#[]⟩,.i 7]):=fnM (oF h1 (oT h2 oZ))
theorem q1k (h2:¬ i0<0)(h3:i0≥(r2.length:Int)):Fn E z0i [.agg [.l r0,.l r1,.l r2],.i i0,.l r3] (.tup [.s ⟨#[]⟩,.i 7]):=fnM (oF h1 (oU h2 (oT h3 oZ)))
theorem q1l (h2:¬ i0<0)(h3:¬ i0≥(r2.length:Int))(h4:0≤i0)(h5:r2[(Int.toNat i0)]?=some [.s s0,.i i1,.l r4,.s s1,.s s2,.i i2,.i i3])(h6:¬ i1=1):Fn E z0i [.agg [.l r0,.l r1,.l r2],.i i0,.l r3] (.tup [.s ⟨#[]⟩,.i 10]):=fnM (oF h1 (oU h2 (oU h3 (oP h4 (oD h5 (oB (bnT h6) oZ))))))
theorem q1m (h2:¬ i0<0)(h3:¬ i0≥(r2.length:Int))(h4:0≤i0)(h5:r2[(Int.toNat i0)]?=some [.s s0,.i i1,.l r4,.s s1,.s s2,.i i2,.i i3])(h6:i1=1)(h7:Fn E z2c [.agg [.l r0,.l r1,.l r2],.agg [.s s0,.i i1,.l r4,.s s1,.s s2,.i i2,.i i3],.l r3] (.s s3)):Fn E z0i [.agg [.l r0,.l r1,.l r2],.i i0,.l r3] (.tup [.s s3,.i 0]):=fnM (oF h1 (oU h2 (oU h3 (oP h4 (oD h5 (oC (bnF h6) (oP h4 (oD h5 (oF h7 oZ)))))))))
end
theorem q1n (h1:Fn E Y3 [.agg [.l r0,.l r1,.l r2],.l r3] (.b false)):Fn E z0i [.agg [.l r0,.l r1,.l r2],.i i0,.l r3] (.tup [.s ⟨#[]⟩,.i 1]):=fnM (oF h1 oZ)
section
variable (h1:¬ s2=(⟨#[]⟩:BA))(h2:Fn E O1 [.s s3,.s s2] (.i i3))
include h1 h2
theorem q0o (h3:i3>0)(h4:Fn E Z6 [.s s3,.s s2] (.s s4)):Fn E X0 [.agg [.s s0,.i i0,.l r0,.s s1,.s s2,.i i1,.i i2],.s s3] (.s s4):=fnM (oB (snT h1) (oF h2 (oT h3 (oF h4 oZ))))
theorem q0p (h3:¬ i3>0)(h4:¬ s1=(⟨#[]⟩:BA))(h5:Fn E O1 [.s s3,.s s1] (.i i4))(h6:i4<0)(h7:Fn E Z6 [.s s3,.s s1] (.s s5)):Fn E X0 [.agg [.s s0,.i i0,.l r0,.s s1,.s s2,.i i1,.i i2],.s s3] (.s s5):=fnM (oB (snT h1) (oF h2 (oU h3 (oB (snT h4) (oF h5 (oT h6 (oF h7 oZ)))))))
theorem q0q (h3:¬ i3>0)(h4:¬ s1=(⟨#[]⟩:BA))(h5:Fn E O1 [.s s3,.s s1] (.i i4))(h6:¬ i4<0):Fn E X0 [.agg [.s s0,.i i0,.l r0,.s s1,.s s2,.i i1,.i i2],.s s3] (.s ⟨#[48]⟩):=fnM (oB (snT h1) (oF h2 (oU h3 (oB (snT h4) (oF h5 (oU h6 oZ))))))
theorem q0r (h3:¬ i3>0)(h4:s1=(⟨#[]⟩:BA)):Fn E X0 [.agg [.s s0,.i i0,.l r0,.s s1,.s s2,.i i1,.i i2],.s s3] (.s ⟨#[48]⟩):=fnM (oB (snT h1) (oF h2 (oU h3 (oC (snF h4) oZ))))
end
section
variable (h1:s2=(⟨#[]⟩:BA))
include h1
section
variable (h2:¬ s1=(⟨#[]⟩:BA))(h3:Fn E O1 [.s s3,.s s1] (.i i3))
include h2 h3
theorem q0s (h4:i3<0)(h5:Fn E Z6 [.s s3,.s s1] (.s s4)):Fn E X0 [.agg [.s s0,.i i0,.l r0,.s s1,.s s2,.i i1,.i i2],.s s3] (.s s4):=fnM (oC (snF h1) (oB (snT h2) (oF h3 (oT h4 (oF h5 oZ)))))
theorem q0t (h4:¬ i3<0):Fn E X0 [.agg [.s s0,.i i0,.l r0,.s s1,.s s2,.i i1,.i i2],.s s3] (.s ⟨#[48]⟩):=fnM (oC (snF h1) (oB (snT h2) (oF h3 (oU h4 oZ))))
end
theorem q0u (h2:s1=(⟨#[]⟩:BA)):Fn E X0 [.agg [.s s0,.i i0,.l r0,.s s1,.s s2,.i i1,.i i2],.s s3] (.s ⟨#[48]⟩):=fnM (oC (snF h1) (oC (snF h2) oZ))
end
section
variable (h1:Fn E I7 [.agg [.l r0,.l r1,.l r2]] (.tup [.i i0,.i i1]))
include h1
section
variable (h2:i1=0)(h3:Fn E F5 [.agg [.l r0,.l r1],.l r3] (.i i2))
include h2 h3
theorem q5q (h4:i2=0):Fn E Y3 [.agg [.l r0,.l r1,.l r2],.l r3] (.b true):=fnM (oF h1 (oB (beT h2) (oF h3 (oB (beT h4) oZ))))
theorem q5r (h4:¬ i2=0):Fn E Y3 [.agg [.l r0,.l r1,.l r2],.l r3] (.b false):=fnM (oF h1 (oB (beT h2) (oF h3 (oC (beF h4) oZ))))
end
theorem q5s (h2:¬ i1=0):Fn E Y3 [.agg [.l r0,.l r1,.l r2],.l r3] (.b false):=fnM (oF h1 (oC (beF h2) oZ))
end
def F0 (r0:RW) (n0:Nat) (r1:RW) (i0 i1:Int) (r2 r3 r4 r5:RW):St:=stOf 32 [(1,.l r0),(2,.ptr 0 0),(5,.ptr 1 0),(6,.vec 2 n0),(11,.l r1),(12,.i i0),(13,.i i1)] [sC [.l r2,.l r3,.l r4],sC [.c (.nof),.c (.fn z0d),.c (.fn C9),.c (.fn z5p),.c (.fn K7)],sV w9n r5]
def z6y (r2 r3 r4:RW) (n1:Nat) (r6:RW):St:=stOf 32 [(6,.vec 2 n1)] [sC [.l r2,.l r3,.l r4],sC [.c (.nof),.c (.fn z0d),.c (.fn C9),.c (.fn z5p),.c (.fn K7)],sV w9n r6]
section
variable (h1:i1<i0)(h2:0≤i1)
include h1 h2
section
variable (h3:r1[(Int.toNat i1)]?=some [.s s0,.i 1,.l r7,.s s1,.s s2,.i i2,.i i3])
include h3
theorem k4w (h4:Fn E z0d [.agg [.l r2,.l r3,.l r4],.agg [.s s0,.i 1,.l r7,.s s1,.s s2,.i i2,.i i3],.l r0] (.b true))(h5:(n0+1)*8≤140737488355328∧n0+1≤140737488355328)(e1:(r5.take n0)++[[.i i1]]=r8)(e2:n0+1=n2)(e3:IntKind.i64.wrap (i1+1)=i4)(ih:Lp E 2 D0 0 (F0 r0 n2 r1 i0 i4 r2 r3 r4 r8) o t):Lp E 2 D0 0 (F0 r0 n0 r1 i0 i1 r2 r3 r4 r5) o t:=by subst e1 e2 e3;exact lpM (oT h1 (oP h2 (oD h3 (oP (show (0:Int)≤1∧(1:Int)<5 from by decide) (oF h4 (oP (show ∀ y∈([[.i i1]]:RW),y.length=1 from by simp) (oP h5 oZ))))))) ih
theorem k4x (h4:Fn E z0d [.agg [.l r2,.l r3,.l r4],.agg [.s s0,.i 1,.l r7,.s s1,.s s2,.i i2,.i i3],.l r0] (.b false))(e1:IntKind.i64.wrap (i1+1)=i5)(ih:Lp E 2 D0 0 (F0 r0 n0 r1 i0 i5 r2 r3 r4 r5) o t):Lp E 2 D0 0 (F0 r0 n0 r1 i0 i1 r2 r3 r4 r5) o t:=by subst e1;exact lpM (oT h1 (oP h2 (oD h3 (oP (show (0:Int)≤1∧(1:Int)<5 from by decide) (oF h4 oZ))))) ih
end
section
variable (h3:r1[(Int.toNat i1)]?=some [.s s0,.i 2,.l r7,.s s1,.s s2,.i i2,.i i3])
include h3
theorem k4y (h4:Fn E C9 [.agg [.l r2,.l r3,.l r4],.agg [.s s0,.i 2,.l r7,.s s1,.s s2,.i i2,.i i3],.l r0] (.b true))(h5:(n0+1)*8≤140737488355328∧n0+1≤140737488355328)(e1:(r5.take n0)++[[.i i1]]=r8)(e2:n0+1=n2)(e3:IntKind.i64.wrap (i1+1)=i4)(ih:Lp E 2 D0 0 (F0 r0 n2 r1 i0 i4 r2 r3 r4 r8) o t):Lp E 2 D0 0 (F0 r0 n0 r1 i0 i1 r2 r3 r4 r5) o t:=by subst e1 e2 e3;exact lpM (oT h1 (oP h2 (oD h3 (oP (show (0:Int)≤2∧(2:Int)<5 from by decide) (oF h4 (oP (show ∀ y∈([[.i i1]]:RW),y.length=1 from by simp) (oP h5 oZ))))))) ih
theorem k4z (h4:Fn E C9 [.agg [.l r2,.l r3,.l r4],.agg [.s s0,.i 2,.l r7,.s s1,.s s2,.i i2,.i i3],.l r0] (.b false))(e1:IntKind.i64.wrap (i1+1)=i5)(ih:Lp E 2 D0 0 (F0 r0 n0 r1 i0 i5 r2 r3 r4 r5) o t):Lp E 2 D0 0 (F0 r0 n0 r1 i0 i1 r2 r3 r4 r5) o t:=by subst e1;exact lpM (oT h1 (oP h2 (oD h3 (oP (show (0:Int)≤2∧(2:Int)<5 from by decide) (oF h4 oZ))))) ih
end
section
variable (h3:r1[(Int.toNat i1)]?=some [.s s0,.i 3,.l r7,.s s1,.s s2,.i i2,.i i3])
include h3
theorem k5a (h4:Fn E z5p [.agg [.l r2,.l r3,.l r4],.agg [.s s0,.i 3,.l r7,.s s1,.s s2,.i i2,.i i3],.l r0] (.b true))(h5:(n0+1)*8≤140737488355328∧n0+1≤140737488355328)(e1:(r5.take n0)++[[.i i1]]=r8)(e2:n0+1=n2)(e3:IntKind.i64.wrap (i1+1)=i4)(ih:Lp E 2 D0 0 (F0 r0 n2 r1 i0 i4 r2 r3 r4 r8) o t):Lp E 2 D0 0 (F0 r0 n0 r1 i0 i1 r2 r3 r4 r5) o t:=by subst e1 e2 e3;exact lpM (oT h1 (oP h2 (oD h3 (oP (show (0:Int)≤3∧(3:Int)<5 from by decide) (oF h4 (oP (show ∀ y∈([[.i i1]]:RW),y.length=1 from by simp) (oP h5 oZ))))))) ih
theorem k5b (h4:Fn E z5p [.agg [.l r2,.l r3,.l r4],.agg [.s s0,.i 3,.l r7,.s s1,.s s2,.i i2,.i i3],.l r0] (.b false))(e1:IntKind.i64.wrap (i1+1)=i5)(ih:Lp E 2 D0 0 (F0 r0 n0 r1 i0 i5 r2 r3 r4 r5) o t):Lp E 2 D0 0 (F0 r0 n0 r1 i0 i1 r2 r3 r4 r5) o t:=by subst e1;exact lpM (oT h1 (oP h2 (oD h3 (oP (show (0:Int)≤3∧(3:Int)<5 from by decide) (oF h4 oZ))))) ih
end
section
variable (h3:r1[(Int.toNat i1)]?=some [.s s0,.i 4,.l r7,.s s1,.s s2,.i i2,.i i3])
include h3
theorem k5c (h4:Fn E K7 [.agg [.l r2,.l r3,.l r4],.agg [.s s0,.i 4,.l r7,.s s1,.s s2,.i i2,.i i3],.l r0] (.b true))(h5:(n0+1)*8≤140737488355328∧n0+1≤140737488355328)(e1:(r5.take n0)++[[.i i1]]=r8)(e2:n0+1=n2)(e3:IntKind.i64.wrap (i1+1)=i4)(ih:Lp E 2 D0 0 (F0 r0 n2 r1 i0 i4 r2 r3 r4 r8) o t):Lp E 2 D0 0 (F0 r0 n0 r1 i0 i1 r2 r3 r4 r5) o t:=by subst e1 e2 e3;exact lpM (oT h1 (oP h2 (oD h3 (oP (show (0:Int)≤4∧(4:Int)<5 from by decide) (oF h4 (oP (show ∀ y∈([[.i i1]]:RW),y.length=1 from by simp) (oP h5 oZ))))))) ih
theorem k5d (h4:Fn E K7 [.agg [.l r2,.l r3,.l r4],.agg [.s s0,.i 4,.l r7,.s s1,.s s2,.i i2,.i i3],.l r0] (.b false))(e1:IntKind.i64.wrap (i1+1)=i5)(ih:Lp E 2 D0 0 (F0 r0 n0 r1 i0 i5 r2 r3 r4 r5) o t):Lp E 2 D0 0 (F0 r0 n0 r1 i0 i1 r2 r3 r4 r5) o t:=by subst e1;exact lpM (oT h1 (oP h2 (oD h3 (oP (show (0:Int)≤4∧(4:Int)<5 from by decide) (oF h4 oZ))))) ih
end
end
theorem x8u (h1:¬ i1<i0):Lp E 2 D0 0 (F0 r0 n0 r1 i0 i1 r2 r3 r4 r5) (.exit 0) (z6y r2 r3 r4 n0 r5):=lpX (oU h1 oZ)
theorem q0n (h1:Lp E 2 D0 0 (F0 r3 0 r2 (r2.length:Int) 0 r0 r1 r2 []) (.exit 0) (z6y r0 r1 r2 n0 r4))(e1:(r4.take n0)=r5):Fn E D0 [.agg [.l r0,.l r1,.l r2],.l r3] (.l r5):=by subst e1;exact fnM (oM [(6,w9n)] h1 oZ)
theorem q1h (h1:Fn E y5x [.i i0] (.s s0)):Fn E y7k [.i i0] (.s s0):=fnM (oF h1 oZ)
def z1t (s0:BA) (n0:Nat) (i0 i1 i2 i3 i4 i5:Int) (r0 r1:RW) (n1 n2:Nat) (r2 r3 r4:RW):St:=stOf 41 [(0,.s s0),(1,.fn U7 [.ptr 0 0,.ptr 1 0]),(3,.ptr 3 0),(4,.ptr 4 0),(7,.vec 8 n0),(8,.i i0),(11,.i i1),(12,.i i2),(16,.i i3),(17,.i i4)] [sC [.fn A1 []],sC [.i i5],sC [.l r0],sC [.l r1],sC [.vec 5 n1,.vec 6 n2,.nils],sV A3 r2,sV A0 r3,some .dead,sV A0 r4]
def z6d (s0:BA) (i1 i2 i5:Int) (r0 r1:RW) (n1 n2:Nat) (r2 r3:RW) (n3:Nat) (r5:RW):St:=stOf 41 [(0,.s s0),(1,.fn U7 [.ptr 0 0,.ptr 1 0]),(3,.ptr 3 0),(4,.ptr 4 0),(7,.vec 8 n3),(11,.i i1),(12,.i i2)] [sC [.fn A1 []],sC [.i i5],sC [.l r0],sC [.l r1],sC [.vec 5 n1,.vec 6 n2,.nils],sV A3 r2,sV A0 r3,some .dead,sV A0 r5]
theorem k1a (h1:i4<i3)(h2:Rn E U7 [.i i0,.i i4,.ptr 0 0,.ptr 1 0] [sC [.fn A1 []],sC [.i i5],sC [.l r0],sC [.l r1],sC [.vec 5 n1,.vec 6 n2,.nils],sV A3 r2,sV A0 r3,some .dead,sV A0 r4,none,none] (.s s1) [sC [.fn A1 []],sC [.i i5],sC [.l r0],sC [.l r1],sC [.vec 5 n1,.vec 6 n2,.nils],sV A3 r2,sV A0 r3,some .dead,sV A0 r4,none,none])(h3:(n0+1)*16≤140737488355328∧n0+1≤140737488355328)(e1:(r4.take n0)++[[.s s1]]=r6)(e2:n0+1=n4)(e3:IntKind.i64.wrap (i4+1)=i6)(ih:Lp E 8 A2 1 (z1t s0 n4 i0 i1 i2 i3 i6 i5 r0 r1 n1 n2 r2 r3 r6) o t):Lp E 8 A2 1 (z1t s0 n0 i0 i1 i2 i3 i4 i5 r0 r1 n1 n2 r2 r3 r4) o t:=by subst e1 e2 e3;exact lpM (oT h1 (oR h2 (oP (show ∀ y∈([[.s s1]]:RW),y.length=1 from by simp) (oP h3 oZ)))) ih
theorem x7d (h1:¬ i4<i3):Lp E 8 A2 1 (z1t s0 n0 i0 i1 i2 i3 i4 i5 r0 r1 n1 n2 r2 r3 r4) (.exit 2) (z6d s0 i1 i2 i5 r0 r1 n1 n2 r2 r3 n0 r4):=lpX (oU h1 oZ)
def z5e (s0:BA) (n0:Nat) (i0 i1 i2:Int) (r0 r1:RW) (n1 n2:Nat) (r2 r3 r4:RW):St:=stOf 41 [(0,.s s0),(1,.fn U7 [.ptr 0 0,.ptr 1 0]),(3,.ptr 3 0),(4,.ptr 4 0),(7,.vec 7 n0),(11,.i i0),(12,.i i1)] [sC [.fn A1 []],sC [.i i2],sC [.l r0],sC [.l r1],sC [.vec 5 n1,.vec 6 n2,.nils],sV A3 r2,sV A0 r3,sV A0 r4]
def y2e (s0:BA) (i2:Int) (r0 r1:RW) (n1 n2:Nat) (r2 r3:RW) (n3:Nat) (r5:RW):St:=stOf 41 [(0,.s s0),(4,.ptr 4 0),(7,.vec 7 n3)] [sC [.fn A1 []],sC [.i i2],sC [.l r0],sC [.l r1],sC [.vec 5 n1,.vec 6 n2,.nils],sV A3 r2,sV A0 r3,sV A0 r5]
theorem k0z (h1:i1<i0)(h2:Lp E 8 A2 1 (z1t s0 n0 i1 i0 i1 (r1.length:Int) 0 i2 r0 r1 n1 n2 r2 r3 r4) (.exit 2) (z6d s0 i0 i1 i2 r0 r1 n1 n2 r2 r3 n4 r6))(e1:IntKind.i64.wrap (i1+1)=i3)(ih:Lp E 7 A2 0 (z5e s0 n4 i0 i3 i2 r0 r1 n1 n2 r2 r3 r6) o t):Lp E 7 A2 0 (z5e s0 n0 i0 i1 i2 r0 r1 n1 n2 r2 r3 r4) o t:=by subst e1;exact lpM (oT h1 (oM [(7,A0)] h2 oZ)) ih
theorem x7c (h1:¬ i1<i0):Lp E 7 A2 0 (z5e s0 n0 i0 i1 i2 r0 r1 n1 n2 r2 r3 r4) (.exit 0) (y2e s0 i2 r0 r1 n1 n2 r2 r3 n0 r4):=lpX (oU h1 oZ)
theorem y4s (h1:Lp E 7 A2 0 (z5e s0 0 (r0.length:Int) 0 i0 r0 r1 n0 n1 r2 r3 []) (.exit 0) (y2e s0 i0 r0 r1 n0 n1 r2 r3 n2 r4))(h2:(n0+1)*24≤140737488355328∧n0+1≤140737488355328)(h3:(n1+1)*16≤140737488355328∧n1+1≤140737488355328)(e1:(r4.take n2)=r5)(e2:(r2.take n0)++[[.l r5]]=r6)(e3:n0+1=n3)(e4:(r3.take n1)++[[.s s0]]=r7)(e5:n1+1=n4):Rn E A2 [.s s0,.fn U7 [.ptr 0 0,.ptr 1 0],.ptr 2 0,.ptr 3 0,.ptr 4 0] [sC [.fn A1 []],sC [.i i0],sC [.l r0],sC [.l r1],sC [.vec 5 n0,.vec 6 n1,.nils],sV A3 r2,sV A0 r3] (.tup []) [sC [.fn A1 []],sC [.i i0],sC [.l r0],sC [.l r1],sC [.vec 7 n3,.vec 8 n4,.nils],some .dead,some .dead,sV A3 r6,sV A0 r7]:=by subst e1 e2 e3 e4 e5;exact rnM (oM [(7,A0)] h1 (oP (show ∀ y∈([[.l (r4.take n2)]]:RW),y.length=1 from by simp) (oP h2 (oP (show ∀ y∈([[.s s0]]:RW),y.length=1 from by simp) (oP h3 oZ)))))
def z1h (s0:BA) (n0:Nat) (i0 i1 i2 i3 i4 i5:Int) (r0 r1:RW) (n1 n2:Nat) (r2 r3 r4:RW):St:=stOf 41 [(0,.s s0),(1,.fn U8 [.ptr 0 0,.ptr 1 0,.ptr 2 0]),(3,.ptr 3 0),(4,.ptr 4 0),(7,.vec 8 n0),(8,.i i0),(11,.i i1),(12,.i i2),(16,.i i3),(17,.i i4)] [sC [.fn A1 []],sC [.i i5],sC [.l r0],sC [.l r1],sC [.vec 5 n1,.vec 6 n2,.nils],sV A3 r2,sV A0 r3,some .dead,sV A0 r4]
def z5h (s0:BA) (i1 i2 i5:Int) (r0 r1:RW) (n1 n2:Nat) (r2 r3:RW) (n3:Nat) (r5:RW):St:=stOf 41 [(0,.s s0),(1,.fn U8 [.ptr 0 0,.ptr 1 0,.ptr 2 0]),(3,.ptr 3 0),(4,.ptr 4 0),(7,.vec 8 n3),(11,.i i1),(12,.i i2)] [sC [.fn A1 []],sC [.i i5],sC [.l r0],sC [.l r1],sC [.vec 5 n1,.vec 6 n2,.nils],sV A3 r2,sV A0 r3,some .dead,sV A0 r5]
theorem x8p (h1:i4<i3)(h2:Rn E U8 [.i i0,.i i4,.ptr 0 0,.ptr 1 0,.ptr 2 0] [sC [.fn A1 []],sC [.i i5],sC [.l r0],sC [.l r1],sC [.vec 5 n1,.vec 6 n2,.nils],sV A3 r2,sV A0 r3,some .dead,sV A0 r4,none,none] (.s s1) [sC [.fn A1 []],sC [.i i5],sC [.l r0],sC [.l r1],sC [.vec 5 n1,.vec 6 n2,.nils],sV A3 r2,sV A0 r3,some .dead,sV A0 r4,none,none])(h3:(n0+1)*16≤140737488355328∧n0+1≤140737488355328)(e1:(r4.take n0)++[[.s s1]]=r6)(e2:n0+1=n4)(e3:IntKind.i64.wrap (i4+1)=i6)(ih:Lp E 8 A2 1 (z1h s0 n4 i0 i1 i2 i3 i6 i5 r0 r1 n1 n2 r2 r3 r6) o t):Lp E 8 A2 1 (z1h s0 n0 i0 i1 i2 i3 i4 i5 r0 r1 n1 n2 r2 r3 r4) o t:=by subst e1 e2 e3;exact lpM (oT h1 (oR h2 (oP (show ∀ y∈([[.s s1]]:RW),y.length=1 from by simp) (oP h3 oZ)))) ih
theorem x5i (h1:¬ i4<i3):Lp E 8 A2 1 (z1h s0 n0 i0 i1 i2 i3 i4 i5 r0 r1 n1 n2 r2 r3 r4) (.exit 2) (z5h s0 i1 i2 i5 r0 r1 n1 n2 r2 r3 n0 r4):=lpX (oU h1 oZ)
def z3k (s0:BA) (n0:Nat) (i0 i1 i2:Int) (r0 r1:RW) (n1 n2:Nat) (r2 r3 r4:RW):St:=stOf 41 [(0,.s s0),(1,.fn U8 [.ptr 0 0,.ptr 1 0,.ptr 2 0]),(3,.ptr 3 0),(4,.ptr 4 0),(7,.vec 7 n0),(11,.i i0),(12,.i i1)] [sC [.fn A1 []],sC [.i i2],sC [.l r0],sC [.l r1],sC [.vec 5 n1,.vec 6 n2,.nils],sV A3 r2,sV A0 r3,sV A0 r4]
def y0r (s0:BA) (i2:Int) (r0 r1:RW) (n1 n2:Nat) (r2 r3:RW) (n3:Nat) (r5:RW):St:=stOf 41 [(0,.s s0),(4,.ptr 4 0),(7,.vec 7 n3)] [sC [.fn A1 []],sC [.i i2],sC [.l r0],sC [.l r1],sC [.vec 5 n1,.vec 6 n2,.nils],sV A3 r2,sV A0 r3,sV A0 r5]
theorem x8l (h1:i1<i0)(h2:Lp E 8 A2 1 (z1h s0 n0 i1 i0 i1 (r1.length:Int) 0 i2 r0 r1 n1 n2 r2 r3 r4) (.exit 2) (z5h s0 i0 i1 i2 r0 r1 n1 n2 r2 r3 n4 r6))(e1:IntKind.i64.wrap (i1+1)=i3)(ih:Lp E 7 A2 0 (z3k s0 n4 i0 i3 i2 r0 r1 n1 n2 r2 r3 r6) o t):Lp E 7 A2 0 (z3k s0 n0 i0 i1 i2 r0 r1 n1 n2 r2 r3 r4) o t:=by subst e1;exact lpM (oT h1 (oM [(7,A0)] h2 oZ)) ih
theorem x5e (h1:¬ i1<i0):Lp E 7 A2 0 (z3k s0 n0 i0 i1 i2 r0 r1 n1 n2 r2 r3 r4) (.exit 0) (y0r s0 i2 r0 r1 n1 n2 r2 r3 n0 r4):=lpX (oU h1 oZ)
theorem y4t (h1:Lp E 7 A2 0 (z3k s0 0 (r0.length:Int) 0 i0 r0 r1 n0 n1 r2 r3 []) (.exit 0) (y0r s0 i0 r0 r1 n0 n1 r2 r3 n2 r4))(h2:(n0+1)*24≤140737488355328∧n0+1≤140737488355328)(h3:(n1+1)*16≤140737488355328∧n1+1≤140737488355328)(e1:(r4.take n2)=r5)(e2:(r2.take n0)++[[.l r5]]=r6)(e3:n0+1=n3)(e4:(r3.take n1)++[[.s s0]]=r7)(e5:n1+1=n4):Rn E A2 [.s s0,.fn U8 [.ptr 0 0,.ptr 1 0,.ptr 2 0],.ptr 2 0,.ptr 3 0,.ptr 4 0] [sC [.fn A1 []],sC [.i i0],sC [.l r0],sC [.l r1],sC [.vec 5 n0,.vec 6 n1,.nils],sV A3 r2,sV A0 r3] (.tup []) [sC [.fn A1 []],sC [.i i0],sC [.l r0],sC [.l r1],sC [.vec 7 n3,.vec 8 n4,.nils],some .dead,some .dead,sV A3 r6,sV A0 r7]:=by subst e1 e2 e3 e4 e5;exact rnM (oM [(7,A0)] h1 (oP (show ∀ y∈([[.l (r4.take n2)]]:RW),y.length=1 from by simp) (oP h2 (oP (show ∀ y∈([[.s s0]]:RW),y.length=1 from by simp) (oP h3 oZ)))))
def z1i (s0:BA) (n0:Nat) (i0 i1 i2 i3 i4 i5:Int) (r0 r1:RW) (n1 n2:Nat) (r2 r3 r4:RW):St:=stOf 41 [(0,.s s0),(1,.fn U9 [.ptr 0 0,.ptr 1 0,.ptr 2 0]),(3,.ptr 3 0),(4,.ptr 4 0),(7,.vec 8 n0),(8,.i i0),(11,.i i1),(12,.i i2),(16,.i i3),(17,.i i4)] [sC [.fn A1 []],sC [.i i5],sC [.l r0],sC [.l r1],sC [.vec 5 n1,.vec 6 n2,.nils],sV A3 r2,sV A0 r3,some .dead,sV A0 r4]
def z5i (s0:BA) (i1 i2 i5:Int) (r0 r1:RW) (n1 n2:Nat) (r2 r3:RW) (n3:Nat) (r5:RW):St:=stOf 41 [(0,.s s0),(1,.fn U9 [.ptr 0 0,.ptr 1 0,.ptr 2 0]),(3,.ptr 3 0),(4,.ptr 4 0),(7,.vec 8 n3),(11,.i i1),(12,.i i2)] [sC [.fn A1 []],sC [.i i5],sC [.l r0],sC [.l r1],sC [.vec 5 n1,.vec 6 n2,.nils],sV A3 r2,sV A0 r3,some .dead,sV A0 r5]
theorem x8q (h1:i4<i3)(h2:Rn E U9 [.i i0,.i i4,.ptr 0 0,.ptr 1 0,.ptr 2 0] [sC [.fn A1 []],sC [.i i5],sC [.l r0],sC [.l r1],sC [.vec 5 n1,.vec 6 n2,.nils],sV A3 r2,sV A0 r3,some .dead,sV A0 r4,none,none] (.s s1) [sC [.fn A1 []],sC [.i i5],sC [.l r0],sC [.l r1],sC [.vec 5 n1,.vec 6 n2,.nils],sV A3 r2,sV A0 r3,some .dead,sV A0 r4,none,none])(h3:(n0+1)*16≤140737488355328∧n0+1≤140737488355328)(e1:(r4.take n0)++[[.s s1]]=r6)(e2:n0+1=n4)(e3:IntKind.i64.wrap (i4+1)=i6)(ih:Lp E 8 A2 1 (z1i s0 n4 i0 i1 i2 i3 i6 i5 r0 r1 n1 n2 r2 r3 r6) o t):Lp E 8 A2 1 (z1i s0 n0 i0 i1 i2 i3 i4 i5 r0 r1 n1 n2 r2 r3 r4) o t:=by subst e1 e2 e3;exact lpM (oT h1 (oR h2 (oP (show ∀ y∈([[.s s1]]:RW),y.length=1 from by simp) (oP h3 oZ)))) ih
theorem x5j (h1:¬ i4<i3):Lp E 8 A2 1 (z1i s0 n0 i0 i1 i2 i3 i4 i5 r0 r1 n1 n2 r2 r3 r4) (.exit 2) (z5i s0 i1 i2 i5 r0 r1 n1 n2 r2 r3 n0 r4):=lpX (oU h1 oZ)
def z3l (s0:BA) (n0:Nat) (i0 i1 i2:Int) (r0 r1:RW) (n1 n2:Nat) (r2 r3 r4:RW):St:=stOf 41 [(0,.s s0),(1,.fn U9 [.ptr 0 0,.ptr 1 0,.ptr 2 0]),(3,.ptr 3 0),(4,.ptr 4 0),(7,.vec 7 n0),(11,.i i0),(12,.i i1)] [sC [.fn A1 []],sC [.i i2],sC [.l r0],sC [.l r1],sC [.vec 5 n1,.vec 6 n2,.nils],sV A3 r2,sV A0 r3,sV A0 r4]
def y0s (s0:BA) (i2:Int) (r0 r1:RW) (n1 n2:Nat) (r2 r3:RW) (n3:Nat) (r5:RW):St:=stOf 41 [(0,.s s0),(4,.ptr 4 0),(7,.vec 7 n3)] [sC [.fn A1 []],sC [.i i2],sC [.l r0],sC [.l r1],sC [.vec 5 n1,.vec 6 n2,.nils],sV A3 r2,sV A0 r3,sV A0 r5]
theorem x8m (h1:i1<i0)(h2:Lp E 8 A2 1 (z1i s0 n0 i1 i0 i1 (r1.length:Int) 0 i2 r0 r1 n1 n2 r2 r3 r4) (.exit 2) (z5i s0 i0 i1 i2 r0 r1 n1 n2 r2 r3 n4 r6))(e1:IntKind.i64.wrap (i1+1)=i3)(ih:Lp E 7 A2 0 (z3l s0 n4 i0 i3 i2 r0 r1 n1 n2 r2 r3 r6) o t):Lp E 7 A2 0 (z3l s0 n0 i0 i1 i2 r0 r1 n1 n2 r2 r3 r4) o t:=by subst e1;exact lpM (oT h1 (oM [(7,A0)] h2 oZ)) ih
theorem x5f (h1:¬ i1<i0):Lp E 7 A2 0 (z3l s0 n0 i0 i1 i2 r0 r1 n1 n2 r2 r3 r4) (.exit 0) (y0s s0 i2 r0 r1 n1 n2 r2 r3 n0 r4):=lpX (oU h1 oZ)
theorem y4u (h1:Lp E 7 A2 0 (z3l s0 0 (r0.length:Int) 0 i0 r0 r1 n0 n1 r2 r3 []) (.exit 0) (y0s s0 i0 r0 r1 n0 n1 r2 r3 n2 r4))(h2:(n0+1)*24≤140737488355328∧n0+1≤140737488355328)(h3:(n1+1)*16≤140737488355328∧n1+1≤140737488355328)(e1:(r4.take n2)=r5)(e2:(r2.take n0)++[[.l r5]]=r6)(e3:n0+1=n3)(e4:(r3.take n1)++[[.s s0]]=r7)(e5:n1+1=n4):Rn E A2 [.s s0,.fn U9 [.ptr 0 0,.ptr 1 0,.ptr 2 0],.ptr 2 0,.ptr 3 0,.ptr 4 0] [sC [.fn A1 []],sC [.i i0],sC [.l r0],sC [.l r1],sC [.vec 5 n0,.vec 6 n1,.nils],sV A3 r2,sV A0 r3] (.tup []) [sC [.fn A1 []],sC [.i i0],sC [.l r0],sC [.l r1],sC [.vec 7 n3,.vec 8 n4,.nils],some .dead,some .dead,sV A3 r6,sV A0 r7]:=by subst e1 e2 e3 e4 e5;exact rnM (oM [(7,A0)] h1 (oP (show ∀ y∈([[.l (r4.take n2)]]:RW),y.length=1 from by simp) (oP h2 (oP (show ∀ y∈([[.s s0]]:RW),y.length=1 from by simp) (oP h3 oZ)))))
def z1j (s0:BA) (n0:Nat) (i0 i1 i2 i3 i4:Int) (r0:RW) (s1:BA) (i5:Int) (r1:RW) (s2 s3:BA) (i6 i7:Int) (r2:RW) (n1 n2:Nat) (r3 r4 r5:RW):St:=stOf 41 [(0,.s s0),(1,.fn K5 [.ptr 0 0,.ptr 1 0]),(3,.ptr 2 0),(4,.ptr 3 0),(7,.vec 7 n0),(8,.i i0),(11,.i i1),(12,.i i2),(16,.i i3),(17,.i i4)] [sC [.l r0],sC [.s s1,.i i5,.l r1,.s s2,.s s3,.i i6,.i i7],sC [.l r2],sC [.vec 4 n1,.vec 5 n2,.nils],sV A3 r3,sV A0 r4,some .dead,sV A0 r5]
def z5j (s0:BA) (i1 i2:Int) (r0:RW) (s1:BA) (i5:Int) (r1:RW) (s2 s3:BA) (i6 i7:Int) (r2:RW) (n1 n2:Nat) (r3 r4:RW) (n3:Nat) (r6:RW):St:=stOf 41 [(0,.s s0),(1,.fn K5 [.ptr 0 0,.ptr 1 0]),(3,.ptr 2 0),(4,.ptr 3 0),(7,.vec 7 n3),(11,.i i1),(12,.i i2)] [sC [.l r0],sC [.s s1,.i i5,.l r1,.s s2,.s s3,.i i6,.i i7],sC [.l r2],sC [.vec 4 n1,.vec 5 n2,.nils],sV A3 r3,sV A0 r4,some .dead,sV A0 r6]
theorem x8r (h1:i4<i3)(h2:Rn E K5 [.i i0,.i i4,.ptr 0 0,.ptr 1 0] [sC [.l r0],sC [.s s1,.i i5,.l r1,.s s2,.s s3,.i i6,.i i7],sC [.l r2],sC [.vec 4 n1,.vec 5 n2,.nils],sV A3 r3,sV A0 r4,some .dead,sV A0 r5,none,none] (.s s4) [sC [.l r0],sC [.s s1,.i i5,.l r1,.s s2,.s s3,.i i6,.i i7],sC [.l r2],sC [.vec 4 n1,.vec 5 n2,.nils],sV A3 r3,sV A0 r4,some .dead,sV A0 r5,none,none])(h3:(n0+1)*16≤140737488355328∧n0+1≤140737488355328)(e1:(r5.take n0)++[[.s s4]]=r7)(e2:n0+1=n4)(e3:IntKind.i64.wrap (i4+1)=i8)(ih:Lp E 7 A2 1 (z1j s0 n4 i0 i1 i2 i3 i8 r0 s1 i5 r1 s2 s3 i6 i7 r2 n1 n2 r3 r4 r7) o t):Lp E 7 A2 1 (z1j s0 n0 i0 i1 i2 i3 i4 r0 s1 i5 r1 s2 s3 i6 i7 r2 n1 n2 r3 r4 r5) o t:=by subst e1 e2 e3;exact lpM (oT h1 (oR h2 (oP (show ∀ y∈([[.s s4]]:RW),y.length=1 from by simp) (oP h3 oZ)))) ih
theorem x5k (h1:¬ i4<i3):Lp E 7 A2 1 (z1j s0 n0 i0 i1 i2 i3 i4 r0 s1 i5 r1 s2 s3 i6 i7 r2 n1 n2 r3 r4 r5) (.exit 2) (z5j s0 i1 i2 r0 s1 i5 r1 s2 s3 i6 i7 r2 n1 n2 r3 r4 n0 r5):=lpX (oU h1 oZ)
def z3m (s0:BA) (n0:Nat) (i0 i1:Int) (r0:RW) (s1:BA) (i2:Int) (r1:RW) (s2 s3:BA) (i3 i4:Int) (r2:RW) (n1 n2:Nat) (r3 r4 r5:RW):St:=stOf 41 [(0,.s s0),(1,.fn K5 [.ptr 0 0,.ptr 1 0]),(3,.ptr 2 0),(4,.ptr 3 0),(7,.vec 6 n0),(11,.i i0),(12,.i i1)] [sC [.l r0],sC [.s s1,.i i2,.l r1,.s s2,.s s3,.i i3,.i i4],sC [.l r2],sC [.vec 4 n1,.vec 5 n2,.nils],sV A3 r3,sV A0 r4,sV A0 r5]
def y0t (s0:BA) (r0:RW) (s1:BA) (i2:Int) (r1:RW) (s2 s3:BA) (i3 i4:Int) (r2:RW) (n1 n2:Nat) (r3 r4:RW) (n3:Nat) (r6:RW):St:=stOf 41 [(0,.s s0),(4,.ptr 3 0),(7,.vec 6 n3)] [sC [.l r0],sC [.s s1,.i i2,.l r1,.s s2,.s s3,.i i3,.i i4],sC [.l r2],sC [.vec 4 n1,.vec 5 n2,.nils],sV A3 r3,sV A0 r4,sV A0 r6]
theorem x8n (h1:i1<i0)(h2:Lp E 7 A2 1 (z1j s0 n0 i1 i0 i1 (r2.length:Int) 0 r0 s1 i2 r1 s2 s3 i3 i4 r2 n1 n2 r3 r4 r5) (.exit 2) (z5j s0 i0 i1 r0 s1 i2 r1 s2 s3 i3 i4 r2 n1 n2 r3 r4 n4 r7))(e1:IntKind.i64.wrap (i1+1)=i5)(ih:Lp E 6 A2 0 (z3m s0 n4 i0 i5 r0 s1 i2 r1 s2 s3 i3 i4 r2 n1 n2 r3 r4 r7) o t):Lp E 6 A2 0 (z3m s0 n0 i0 i1 r0 s1 i2 r1 s2 s3 i3 i4 r2 n1 n2 r3 r4 r5) o t:=by subst e1;exact lpM (oT h1 (oM [(7,A0)] h2 oZ)) ih
theorem x5g (h1:¬ i1<i0):Lp E 6 A2 0 (z3m s0 n0 i0 i1 r0 s1 i2 r1 s2 s3 i3 i4 r2 n1 n2 r3 r4 r5) (.exit 0) (y0t s0 r0 s1 i2 r1 s2 s3 i3 i4 r2 n1 n2 r3 r4 n0 r5):=lpX (oU h1 oZ)
theorem y4v (h1:Lp E 6 A2 0 (z3m s0 0 (r0.length:Int) 0 r0 s1 i0 r1 s2 s3 i1 i2 r2 n0 n1 r3 r4 []) (.exit 0) (y0t s0 r0 s1 i0 r1 s2 s3 i1 i2 r2 n0 n1 r3 r4 n2 r5))(h2:(n0+1)*24≤140737488355328∧n0+1≤140737488355328)(h3:(n1+1)*16≤140737488355328∧n1+1≤140737488355328)(e1:(r5.take n2)=r6)(e2:(r3.take n0)++[[.l r6]]=r7)(e3:n0+1=n3)(e4:(r4.take n1)++[[.s s0]]=r8)(e5:n1+1=n4):Rn E A2 [.s s0,.fn K5 [.ptr 0 0,.ptr 1 0],.ptr 0 0,.ptr 2 0,.ptr 3 0] [sC [.l r0],sC [.s s1,.i i0,.l r1,.s s2,.s s3,.i i1,.i i2],sC [.l r2],sC [.vec 4 n0,.vec 5 n1,.nils],sV A3 r3,sV A0 r4] (.tup []) [sC [.l r0],sC [.s s1,.i i0,.l r1,.s s2,.s s3,.i i1,.i i2],sC [.l r2],sC [.vec 6 n3,.vec 7 n4,.nils],some .dead,some .dead,sV A3 r7,sV A0 r8]:=by subst e1 e2 e3 e4 e5;exact rnM (oM [(7,A0)] h1 (oP (show ∀ y∈([[.l (r5.take n2)]]:RW),y.length=1 from by simp) (oP h2 (oP (show ∀ y∈([[.s s0]]:RW),y.length=1 from by simp) (oP h3 oZ)))))
theorem v4x (h1:Fn E x2h [.s s0,.s s1] (.tup [.s s2,.i i0])):Fn E Z6 [.s s0,.s s1] (.s s2):=fnM (oF h1 oZ)
def z1k (s0:BA) (n0:Nat) (i0 i1 i2 i3 i4:Int) (r0:RW) (s1:BA) (i5:Int) (r1:RW) (s2 s3:BA) (i6 i7:Int) (r2:RW) (n1 n2:Nat) (r3 r4 r5:RW):St:=stOf 41 [(0,.s s0),(1,.fn J0 [.ptr 0 0,.ptr 1 0]),(3,.ptr 2 0),(4,.ptr 3 0),(7,.vec 7 n0),(8,.i i0),(11,.i i1),(12,.i i2),(16,.i i3),(17,.i i4)] [sC [.l r0],sC [.s s1,.i i5,.l r1,.s s2,.s s3,.i i6,.i i7],sC [.l r2],sC [.vec 4 n1,.vec 5 n2,.nils],sV A3 r3,sV A0 r4,some .dead,sV A0 r5]
def z5k (s0:BA) (i1 i2:Int) (r0:RW) (s1:BA) (i5:Int) (r1:RW) (s2 s3:BA) (i6 i7:Int) (r2:RW) (n1 n2:Nat) (r3 r4:RW) (n3:Nat) (r6:RW):St:=stOf 41 [(0,.s s0),(1,.fn J0 [.ptr 0 0,.ptr 1 0]),(3,.ptr 2 0),(4,.ptr 3 0),(7,.vec 7 n3),(11,.i i1),(12,.i i2)] [sC [.l r0],sC [.s s1,.i i5,.l r1,.s s2,.s s3,.i i6,.i i7],sC [.l r2],sC [.vec 4 n1,.vec 5 n2,.nils],sV A3 r3,sV A0 r4,some .dead,sV A0 r6]
theorem x8s (h1:i4<i3)(h2:Rn E J0 [.i i0,.i i4,.ptr 0 0,.ptr 1 0] [sC [.l r0],sC [.s s1,.i i5,.l r1,.s s2,.s s3,.i i6,.i i7],sC [.l r2],sC [.vec 4 n1,.vec 5 n2,.nils],sV A3 r3,sV A0 r4,some .dead,sV A0 r5,none,none] (.s s4) [sC [.l r0],sC [.s s1,.i i5,.l r1,.s s2,.s s3,.i i6,.i i7],sC [.l r2],sC [.vec 4 n1,.vec 5 n2,.nils],sV A3 r3,sV A0 r4,some .dead,sV A0 r5,none,none])(h3:(n0+1)*16≤140737488355328∧n0+1≤140737488355328)(e1:(r5.take n0)++[[.s s4]]=r7)(e2:n0+1=n4)(e3:IntKind.i64.wrap (i4+1)=i8)(ih:Lp E 7 A2 1 (z1k s0 n4 i0 i1 i2 i3 i8 r0 s1 i5 r1 s2 s3 i6 i7 r2 n1 n2 r3 r4 r7) o t):Lp E 7 A2 1 (z1k s0 n0 i0 i1 i2 i3 i4 r0 s1 i5 r1 s2 s3 i6 i7 r2 n1 n2 r3 r4 r5) o t:=by subst e1 e2 e3;exact lpM (oT h1 (oR h2 (oP (show ∀ y∈([[.s s4]]:RW),y.length=1 from by simp) (oP h3 oZ)))) ih
theorem x5l (h1:¬ i4<i3):Lp E 7 A2 1 (z1k s0 n0 i0 i1 i2 i3 i4 r0 s1 i5 r1 s2 s3 i6 i7 r2 n1 n2 r3 r4 r5) (.exit 2) (z5k s0 i1 i2 r0 s1 i5 r1 s2 s3 i6 i7 r2 n1 n2 r3 r4 n0 r5):=lpX (oU h1 oZ)
def z3n (s0:BA) (n0:Nat) (i0 i1:Int) (r0:RW) (s1:BA) (i2:Int) (r1:RW) (s2 s3:BA) (i3 i4:Int) (r2:RW) (n1 n2:Nat) (r3 r4 r5:RW):St:=stOf 41 [(0,.s s0),(1,.fn J0 [.ptr 0 0,.ptr 1 0]),(3,.ptr 2 0),(4,.ptr 3 0),(7,.vec 6 n0),(11,.i i0),(12,.i i1)] [sC [.l r0],sC [.s s1,.i i2,.l r1,.s s2,.s s3,.i i3,.i i4],sC [.l r2],sC [.vec 4 n1,.vec 5 n2,.nils],sV A3 r3,sV A0 r4,sV A0 r5]
def y0u (s0:BA) (r0:RW) (s1:BA) (i2:Int) (r1:RW) (s2 s3:BA) (i3 i4:Int) (r2:RW) (n1 n2:Nat) (r3 r4:RW) (n3:Nat) (r6:RW):St:=stOf 41 [(0,.s s0),(4,.ptr 3 0),(7,.vec 6 n3)] [sC [.l r0],sC [.s s1,.i i2,.l r1,.s s2,.s s3,.i i3,.i i4],sC [.l r2],sC [.vec 4 n1,.vec 5 n2,.nils],sV A3 r3,sV A0 r4,sV A0 r6]
theorem x8o (h1:i1<i0)(h2:Lp E 7 A2 1 (z1k s0 n0 i1 i0 i1 (r2.length:Int) 0 r0 s1 i2 r1 s2 s3 i3 i4 r2 n1 n2 r3 r4 r5) (.exit 2) (z5k s0 i0 i1 r0 s1 i2 r1 s2 s3 i3 i4 r2 n1 n2 r3 r4 n4 r7))(e1:IntKind.i64.wrap (i1+1)=i5)(ih:Lp E 6 A2 0 (z3n s0 n4 i0 i5 r0 s1 i2 r1 s2 s3 i3 i4 r2 n1 n2 r3 r4 r7) o t):Lp E 6 A2 0 (z3n s0 n0 i0 i1 r0 s1 i2 r1 s2 s3 i3 i4 r2 n1 n2 r3 r4 r5) o t:=by subst e1;exact lpM (oT h1 (oM [(7,A0)] h2 oZ)) ih
theorem x5h (h1:¬ i1<i0):Lp E 6 A2 0 (z3n s0 n0 i0 i1 r0 s1 i2 r1 s2 s3 i3 i4 r2 n1 n2 r3 r4 r5) (.exit 0) (y0u s0 r0 s1 i2 r1 s2 s3 i3 i4 r2 n1 n2 r3 r4 n0 r5):=lpX (oU h1 oZ)
theorem y4w (h1:Lp E 6 A2 0 (z3n s0 0 (r0.length:Int) 0 r0 s1 i0 r1 s2 s3 i1 i2 r2 n0 n1 r3 r4 []) (.exit 0) (y0u s0 r0 s1 i0 r1 s2 s3 i1 i2 r2 n0 n1 r3 r4 n2 r5))(h2:(n0+1)*24≤140737488355328∧n0+1≤140737488355328)(h3:(n1+1)*16≤140737488355328∧n1+1≤140737488355328)(e1:(r5.take n2)=r6)(e2:(r3.take n0)++[[.l r6]]=r7)(e3:n0+1=n3)(e4:(r4.take n1)++[[.s s0]]=r8)(e5:n1+1=n4):Rn E A2 [.s s0,.fn J0 [.ptr 0 0,.ptr 1 0],.ptr 0 0,.ptr 2 0,.ptr 3 0] [sC [.l r0],sC [.s s1,.i i0,.l r1,.s s2,.s s3,.i i1,.i i2],sC [.l r2],sC [.vec 4 n0,.vec 5 n1,.nils],sV A3 r3,sV A0 r4] (.tup []) [sC [.l r0],sC [.s s1,.i i0,.l r1,.s s2,.s s3,.i i1,.i i2],sC [.l r2],sC [.vec 6 n3,.vec 7 n4,.nils],some .dead,some .dead,sV A3 r7,sV A0 r8]:=by subst e1 e2 e3 e4 e5;exact rnM (oM [(7,A0)] h1 (oP (show ∀ y∈([[.l (r5.take n2)]]:RW),y.length=1 from by simp) (oP h2 (oP (show ∀ y∈([[.s s0]]:RW),y.length=1 from by simp) (oP h3 oZ)))))
theorem q4t (h1:s0=(⟨#[]⟩:BA)):Fn E z3c [.s s0] (.b true):=fnM (oB (seT h1) oZ)
theorem q4u (h1:¬ s0=(⟨#[]⟩:BA))(h2:Fn E z6z [.s s0] (.b b0)):Fn E z3c [.s s0] (.b b0):=fnM (oC (seF h1) (oF h2 oZ))
theorem x4i (h1:Fn E z1q [.s s0,.s s1] (.tup [.i i0,.i i1])):Fn E O1 [.s s0,.s s1] (.i i0):=fnM (oF h1 oZ)
theorem q5g (h1:i0=2)(h2:i1≥i2):Fn E P6 [.agg [.l r0,.l r1,.l r2],.agg [.s s0,.i i0,.l r3,.s s1,.s s2,.i i1,.i i2]] (.i 2):=fnM (oB (beT h1) (oT h2 oZ))
theorem q5h (h1:i0=2)(h2:¬ i1≥i2)(h3:Fn E K6 [.i i1] (.b true))(h4:Fn E K6 [.i i2] (.b true)):Fn E P6 [.agg [.l r0,.l r1,.l r2],.agg [.s s0,.i i0,.l r3,.s s1,.s s2,.i i1,.i i2]] (.i 0):=fnM (oB (beT h1) (oU h2 (oF h3 (oF h4 oZ))))
theorem q5i (h1:i0=2)(h2:¬ i1≥i2)(h3:Fn E K6 [.i i1] (.b true))(h4:Fn E K6 [.i i2] (.b false)):Fn E P6 [.agg [.l r0,.l r1,.l r2],.agg [.s s0,.i i0,.l r3,.s s1,.s s2,.i i1,.i i2]] (.i 2):=fnM (oB (beT h1) (oU h2 (oF h3 (oF h4 oZ))))
theorem q5j (h1:i0=2)(h2:¬ i1≥i2)(h3:Fn E K6 [.i i1] (.b false)):Fn E P6 [.agg [.l r0,.l r1,.l r2],.agg [.s s0,.i i0,.l r3,.s s1,.s s2,.i i1,.i i2]] (.i 2):=fnM (oB (beT h1) (oU h2 (oF h3 oZ)))
section
variable (h1:¬ i0=2)
include h1
theorem q5k (h2:i0=3)(h3:Fn E K6 [.i i1] (.b true))(h4:Rn E X8 [.l r1,.fn G9 [.ptr 1 0]] [sC [.l r0,.l r1,.l r2],sC [.s s0,.i i0,.l r3,.s s1,.s s2,.i i1,.i i2]] (.b true) [sC [.l r0,.l r1,.l r2],sC [.s s0,.i i0,.l r3,.s s1,.s s2,.i i1,.i i2]]):Fn E P6 [.agg [.l r0,.l r1,.l r2],.agg [.s s0,.i i0,.l r3,.s s1,.s s2,.i i1,.i i2]] (.i 0):=fnM (oC (beF h1) (oB (beT h2) (oF h3 (oR h4 oZ))))
theorem q5l (h2:i0=3)(h3:Fn E K6 [.i i1] (.b true))(h4:Rn E X8 [.l r1,.fn G9 [.ptr 1 0]] [sC [.l r0,.l r1,.l r2],sC [.s s0,.i i0,.l r3,.s s1,.s s2,.i i1,.i i2]] (.b false) [sC [.l r0,.l r1,.l r2],sC [.s s0,.i i0,.l r3,.s s1,.s s2,.i i1,.i i2]]):Fn E P6 [.agg [.l r0,.l r1,.l r2],.agg [.s s0,.i i0,.l r3,.s s1,.s s2,.i i1,.i i2]] (.i 7):=fnM (oC (beF h1) (oB (beT h2) (oF h3 (oR h4 oZ))))
theorem q5m (h2:i0=3)(h3:Fn E K6 [.i i1] (.b false)):Fn E P6 [.agg [.l r0,.l r1,.l r2],.agg [.s s0,.i i0,.l r3,.s s1,.s s2,.i i1,.i i2]] (.i 2):=fnM (oC (beF h1) (oB (beT h2) (oF h3 oZ)))
theorem q5n (h2:¬ i0=3)(h3:¬ i2=0):Fn E P6 [.agg [.l r0,.l r1,.l r2],.agg [.s s0,.i i0,.l r3,.s s1,.s s2,.i i1,.i i2]] (.i 2):=fnM (oC (beF h1) (oC (beF h2) (oB (bnT h3) oZ)))
theorem q5o (h2:¬ i0=3)(h3:i2=0)(h4:Rn E V7 [.l r0,.fn H0 [.ptr 1 0]] [sC [.l r0,.l r1,.l r2],sC [.s s0,.i i0,.l r3,.s s1,.s s2,.i i1,.i i2]] (.b true) [sC [.l r0,.l r1,.l r2],sC [.s s0,.i i0,.l r3,.s s1,.s s2,.i i1,.i i2]]):Fn E P6 [.agg [.l r0,.l r1,.l r2],.agg [.s s0,.i i0,.l r3,.s s1,.s s2,.i i1,.i i2]] (.i 0):=fnM (oC (beF h1) (oC (beF h2) (oC (bnF h3) (oR h4 oZ))))
theorem q5p (h2:¬ i0=3)(h3:i2=0)(h4:Rn E V7 [.l r0,.fn H0 [.ptr 1 0]] [sC [.l r0,.l r1,.l r2],sC [.s s0,.i i0,.l r3,.s s1,.s s2,.i i1,.i i2]] (.b false) [sC [.l r0,.l r1,.l r2],sC [.s s0,.i i0,.l r3,.s s1,.s s2,.i i1,.i i2]]):Fn E P6 [.agg [.l r0,.l r1,.l r2],.agg [.s s0,.i i0,.l r3,.s s1,.s s2,.i i1,.i i2]] (.i 7):=fnM (oC (beF h1) (oC (beF h2) (oC (bnF h3) (oR h4 oZ))))
end
def y2f (r0:RW) (s0:BA) (r1:RW) (i0 i1:Int) (r2 r3 r4:RW) (s1:BA) (i2:Int) (r5:RW) (s2 s3:BA) (i3 i4:Int):St:=stOf 42 [(2,.l r0),(3,.ptr 0 0),(4,.ptr 1 0),(7,.s s0),(14,.l r1),(15,.i i0),(16,.i i1)] [sC [.l r2,.l r3,.l r4],sC [.s s1,.i i2,.l r5,.s s2,.s s3,.i i3,.i i4]]
def y8z (r2 r3 r4:RW) (s1:BA) (i2:Int) (r5:RW) (s2 s3:BA) (i3 i4:Int) (s4:BA):St:=stOf 42 [(7,.s s4)] [sC [.l r2,.l r3,.l r4],sC [.s s1,.i i2,.l r5,.s s2,.s s3,.i i3,.i i4]]
theorem j7q (h1:i1<i0)(h2:0≤i1)(h3:r1[(Int.toNat i1)]?=some [.i i5,.s s5,.s s6,.s s7,.s s8,.s s9,.s s10])(h4:Fn E x7j [.agg [.l r2,.l r3],.l r0,.i i5] (.tup [.agg [.s s11,.s s12,.s s13,.s s14,.s s15,.s s16],.i i6]))(h5:r5[(Int.toNat i1)]?=some [.s s17])(h6:Fn E y3r [.s s17,.s s11] (.s s18))(h7:Fn E x4s [.s s0,.s s18] (.s s19))(e1:IntKind.i64.wrap (i1+1)=i7)(ih:Lp E 2 z2c 0 (y2f r0 s19 r1 i0 i7 r2 r3 r4 s1 i2 r5 s2 s3 i3 i4) o t):Lp E 2 z2c 0 (y2f r0 s0 r1 i0 i1 r2 r3 r4 s1 i2 r5 s2 s3 i3 i4) o t:=by subst e1;exact lpM (oT h1 (oP h2 (oD h3 (oF h4 (oP h2 (oD h5 (oF h6 (oF h7 oZ)))))))) ih
theorem k9o (h1:¬ i1<i0):Lp E 2 z2c 0 (y2f r0 s0 r1 i0 i1 r2 r3 r4 s1 i2 r5 s2 s3 i3 i4) (.exit 0) (y8z r2 r3 r4 s1 i2 r5 s2 s3 i3 i4 s0):=lpX (oU h1 oZ)
theorem v4y (h1:Lp E 2 z2c 0 (y2f r4 ⟨#[48]⟩ r1 (r1.length:Int) 0 r0 r1 r2 s0 i0 r3 s1 s2 i1 i2) (.exit 0) (y8z r0 r1 r2 s0 i0 r3 s1 s2 i1 i2 s3)):Fn E z2c [.agg [.l r0,.l r1,.l r2],.agg [.s s0,.i i0,.l r3,.s s1,.s s2,.i i1,.i i2],.l r4] (.s s3):=fnM (oL h1 oZ)
section
variable (h1:Fn E z2c [.agg [.l r0,.l r1,.l r2],.agg [.s s0,.i i0,.l r3,.s s1,.s s2,.i i1,.i i2],.l r4] (.s s3))(h2:Fn E X0 [.agg [.s s0,.i i0,.l r3,.s s1,.s s2,.i i1,.i i2],.s s3] (.s s4))(h3:Fn E x2j [.s s4] (.i i3))
include h1 h2 h3
theorem j2p (h4:¬ i3=0):Fn E z0d [.agg [.l r0,.l r1,.l r2],.agg [.s s0,.i i0,.l r3,.s s1,.s s2,.i i1,.i i2],.l r4] (.b true):=fnM (oF h1 (oF h2 (oF h3 (oB (bnT h4) oZ))))
theorem j2q (h4:i3=0):Fn E z0d [.agg [.l r0,.l r1,.l r2],.agg [.s s0,.i i0,.l r3,.s s1,.s s2,.i i1,.i i2],.l r4] (.b false):=fnM (oF h1 (oF h2 (oF h3 (oC (bnF h4) oZ))))
end
def K3 (r0 r1:RW) (i0 i1:Int) (r2:RW) (i2 i3:Int) (r3 r4 r5:RW) (s0:BA) (i4:Int) (r6:RW) (s1 s2:BA) (i5 i6 i7 i8 i9:Int):St:=stOf 48 [(2,.l r0),(3,.ptr 0 0),(4,.ptr 1 0),(8,.ptr 2 0),(11,.l r1),(12,.i i0),(13,.i i1),(17,.l r2),(18,.i i2),(19,.i i3)] [sC [.l r3,.l r4,.l r5],sC [.s s0,.i i4,.l r6,.s s1,.s s2,.i i5,.i i6],sC [.i i7,.i i8,.i i9]]
def z9m (r3 r4 r5:RW) (s0:BA) (i4:Int) (r6:RW) (s1 s2:BA) (i5 i6 i7 i8 i9:Int):St:=stOf 48 [(6,.b true)] [sC [.l r3,.l r4,.l r5],sC [.s s0,.i i4,.l r6,.s s1,.s s2,.i i5,.i i6],sC [.i i7,.i i8,.i i9]]
def z9n (r0 r1:RW) (i0 i1:Int) (r3 r4 r5:RW) (s0:BA) (i4:Int) (r6:RW) (s1 s2:BA) (i5 i6 i7 i8 i9:Int):St:=stOf 48 [(2,.l r0),(3,.ptr 0 0),(4,.ptr 1 0),(11,.l r1),(12,.i i0),(13,.i i1)] [sC [.l r3,.l r4,.l r5],sC [.s s0,.i i4,.l r6,.s s1,.s s2,.i i5,.i i6],sC [.i i7,.i i8,.i i9]]
section
variable (h1:i3<i2)(h2:0≤i3)(h3:r2[(Int.toNat i3)]?=some [.i i10,.i i11,.i i12])
include h1 h2 h3
section
variable (h4:i7=i10)(h5:Fn E z3b [.agg [.l r3,.l r4,.l r5],.i i8] (.i i13))
include h4 h5
theorem k9k (h6:i13=i5)(h7:Fn E z3b [.agg [.l r3,.l r4,.l r5],.i i11] (.i i14))(h8:¬ i14=i6)(e1:IntKind.i64.wrap (i3+1)=i15)(ih:Lp E 3 C9 1 (K3 r0 r1 i0 i1 r2 i2 i15 r3 r4 r5 s0 i4 r6 s1 s2 i5 i6 i7 i8 i9) o t):Lp E 3 C9 1 (K3 r0 r1 i0 i1 r2 i2 i3 r3 r4 r5 s0 i4 r6 s1 s2 i5 i6 i7 i8 i9) o t:=by subst e1;exact lpM (oT h1 (oP h2 (oD h3 (oB (beT h4) (oF h5 (oB (beT h6) (oF h7 (oC (beF h8) oZ)))))))) ih
theorem k9l (h6:¬ i13=i5)(e1:IntKind.i64.wrap (i3+1)=i14)(ih:Lp E 3 C9 1 (K3 r0 r1 i0 i1 r2 i2 i14 r3 r4 r5 s0 i4 r6 s1 s2 i5 i6 i7 i8 i9) o t):Lp E 3 C9 1 (K3 r0 r1 i0 i1 r2 i2 i3 r3 r4 r5 s0 i4 r6 s1 s2 i5 i6 i7 i8 i9) o t:=by subst e1;exact lpM (oT h1 (oP h2 (oD h3 (oB (beT h4) (oF h5 (oC (beF h6) oZ)))))) ih
end
theorem k9m (h4:¬ i7=i10)(e1:IntKind.i64.wrap (i3+1)=i13)(ih:Lp E 3 C9 1 (K3 r0 r1 i0 i1 r2 i2 i13 r3 r4 r5 s0 i4 r6 s1 s2 i5 i6 i7 i8 i9) o t):Lp E 3 C9 1 (K3 r0 r1 i0 i1 r2 i2 i3 r3 r4 r5 s0 i4 r6 s1 s2 i5 i6 i7 i8 i9) o t:=by subst e1;exact lpM (oT h1 (oP h2 (oD h3 (oC (beF h4) oZ)))) ih
theorem k1i (h4:i7=i10)(h5:Fn E z3b [.agg [.l r3,.l r4,.l r5],.i i8] (.i i13))(h6:i13=i5)(h7:Fn E z3b [.agg [.l r3,.l r4,.l r5],.i i11] (.i i14))(h8:i14=i6):Lp E 3 C9 1 (K3 r0 r1 i0 i1 r2 i2 i3 r3 r4 r5 s0 i4 r6 s1 s2 i5 i6 i7 i8 i9) .ret (z9m r3 r4 r5 s0 i4 r6 s1 s2 i5 i6 i7 i8 i9):=lpX (oT h1 (oP h2 (oD h3 (oB (beT h4) (oF h5 (oB (beT h6) (oF h7 (oB (beT h8) oZ))))))))
end
theorem k1j (h1:¬ i3<i2):Lp E 3 C9 1 (K3 r0 r1 i0 i1 r2 i2 i3 r3 r4 r5 s0 i4 r6 s1 s2 i5 i6 i7 i8 i9) (.exit 2) (z9n r0 r1 i0 i1 r3 r4 r5 s0 i4 r6 s1 s2 i5 i6 i7 i8 i9):=lpX (oU h1 oZ)
def z1u (r0 r1:RW) (i0 i1:Int) (r2 r3 r4:RW) (s0:BA) (i2:Int) (r5:RW) (s1 s2:BA) (i3 i4:Int):St:=stOf 48 [(2,.l r0),(3,.ptr 0 0),(4,.ptr 1 0),(11,.l r1),(12,.i i0),(13,.i i1)] [sC [.l r2,.l r3,.l r4],sC [.s s0,.i i2,.l r5,.s s1,.s s2,.i i3,.i i4]]
def y4x (r2 r3 r4:RW) (s0:BA) (i2:Int) (r5:RW) (s1 s2:BA) (i3 i4:Int):St:=stOf 48 [(6,.b true)] [sC [.l r2,.l r3,.l r4],sC [.s s0,.i i2,.l r5,.s s1,.s s2,.i i3,.i i4]]
def y4y (r2 r3 r4:RW) (s0:BA) (i2:Int) (r5:RW) (s1 s2:BA) (i3 i4:Int):St:=stOf 48 [] [sC [.l r2,.l r3,.l r4],sC [.s s0,.i i2,.l r5,.s s1,.s s2,.i i3,.i i4]]
section
variable (h1:i1<i0)(h2:0≤i1)(h3:r1[(Int.toNat i1)]?=some [.i i5,.i i6,.i i7])
include h1 h2 h3
theorem k9j (h4:Lp E 3 C9 1 (K3 r0 r1 i0 i1 r0 (r0.length:Int) 0 r2 r3 r4 s0 i2 r5 s1 s2 i3 i4 i5 i6 i7) (.exit 2) (z9n r0 r1 i0 i1 r2 r3 r4 s0 i2 r5 s1 s2 i3 i4 i5 i6 i7))(e1:IntKind.i64.wrap (i1+1)=i8)(ih:Lp E 2 C9 0 (z1u r0 r1 i0 i8 r2 r3 r4 s0 i2 r5 s1 s2 i3 i4) o t):Lp E 2 C9 0 (z1u r0 r1 i0 i1 r2 r3 r4 s0 i2 r5 s1 s2 i3 i4) o t:=by subst e1;exact lpM (oT h1 (oP h2 (oD h3 (oL h4 oZ)))) ih
theorem k1g (h4:Lp E 3 C9 1 (K3 r0 r1 i0 i1 r0 (r0.length:Int) 0 r2 r3 r4 s0 i2 r5 s1 s2 i3 i4 i5 i6 i7) .ret (z9m r2 r3 r4 s0 i2 r5 s1 s2 i3 i4 i5 i6 i7)):Lp E 2 C9 0 (z1u r0 r1 i0 i1 r2 r3 r4 s0 i2 r5 s1 s2 i3 i4) .ret (y4x r2 r3 r4 s0 i2 r5 s1 s2 i3 i4):=lpX (oT h1 (oP h2 (oD h3 (oL h4 oZ))))
end
theorem k1h (h1:¬ i1<i0):Lp E 2 C9 0 (z1u r0 r1 i0 i1 r2 r3 r4 s0 i2 r5 s1 s2 i3 i4) (.exit 0) (y4y r2 r3 r4 s0 i2 r5 s1 s2 i3 i4):=lpX (oU h1 oZ)
theorem q4q (h1:Lp E 2 C9 0 (z1u r4 r4 (r4.length:Int) 0 r0 r1 r2 s0 i0 r3 s1 s2 i1 i2) .ret (y4x r0 r1 r2 s0 i0 r3 s1 s2 i1 i2)):Fn E C9 [.agg [.l r0,.l r1,.l r2],.agg [.s s0,.i i0,.l r3,.s s1,.s s2,.i i1,.i i2],.l r4] (.b true):=fnM (oL h1 oZ)
theorem q4r (h1:Lp E 2 C9 0 (z1u r4 r4 (r4.length:Int) 0 r0 r1 r2 s0 i0 r3 s1 s2 i1 i2) (.exit 0) (y4y r0 r1 r2 s0 i0 r3 s1 s2 i1 i2)):Fn E C9 [.agg [.l r0,.l r1,.l r2],.agg [.s s0,.i i0,.l r3,.s s1,.s s2,.i i1,.i i2],.l r4] (.b false):=fnM (oL h1 oZ)
theorem q5f (h1:Rn E z0y [.l r4,.fn G8 [.ptr 1 0,.ptr 0 0]] [sC [.l r0,.l r1,.l r2],sC [.s s0,.i i0,.l r3,.s s1,.s s2,.i i1,.i i2]] (.b b0) [sC [.l r0,.l r1,.l r2],sC [.s s0,.i i0,.l r3,.s s1,.s s2,.i i1,.i i2]]):Fn E z5p [.agg [.l r0,.l r1,.l r2],.agg [.s s0,.i i0,.l r3,.s s1,.s s2,.i i1,.i i2],.l r4] (.b b0):=fnM (oR h1 oZ)
def z1v (i0:Int) (r0:RW) (i1 i2:Int) (r1 r2 r3:RW) (s0:BA) (i3:Int) (r4:RW) (s1 s2:BA) (i4 i5:Int):St:=stOf 41 [(4,.ptr 1 0),(8,.i i0),(23,.l r0),(24,.i i1),(25,.i i2)] [sC [.l r1,.l r2,.l r3],sC [.s s0,.i i3,.l r4,.s s1,.s s2,.i i4,.i i5]]
def y5a (r1 r2 r3:RW) (s0:BA) (i3:Int) (r4:RW) (s1 s2:BA) (i4 i5 i6:Int):St:=stOf 41 [(8,.i i6)] [sC [.l r1,.l r2,.l r3],sC [.s s0,.i i3,.l r4,.s s1,.s s2,.i i4,.i i5]]
section
variable (h1:i2<i1)(h2:0≤i2)(h3:r0[(Int.toNat i2)]?=some [.i i7,.i i8,.i i9])
include h1 h2 h3
theorem k9p (h4:i8=i4)(e1:IntKind.i64.wrap (i0-i9)=i10)(e2:IntKind.i64.wrap (i2+1)=i11)(ih:Lp E 2 K7 0 (z1v i10 r0 i1 i11 r1 r2 r3 s0 i3 r4 s1 s2 i4 i5) o t):Lp E 2 K7 0 (z1v i0 r0 i1 i2 r1 r2 r3 s0 i3 r4 s1 s2 i4 i5) o t:=by subst e1 e2;exact lpM (oT h1 (oP h2 (oD h3 (oB (beT h4) oZ)))) ih
theorem k9q (h4:¬ i8=i4)(e1:IntKind.i64.wrap (i2+1)=i10)(ih:Lp E 2 K7 0 (z1v i0 r0 i1 i10 r1 r2 r3 s0 i3 r4 s1 s2 i4 i5) o t):Lp E 2 K7 0 (z1v i0 r0 i1 i2 r1 r2 r3 s0 i3 r4 s1 s2 i4 i5) o t:=by subst e1;exact lpM (oT h1 (oP h2 (oD h3 (oC (beF h4) oZ)))) ih
end
theorem k1k (h1:¬ i2<i1):Lp E 2 K7 0 (z1v i0 r0 i1 i2 r1 r2 r3 s0 i3 r4 s1 s2 i4 i5) (.exit 0) (y5a r1 r2 r3 s0 i3 r4 s1 s2 i4 i5 i0):=lpX (oU h1 oZ)
section
variable (h1:Rn E A6 [.l r0,.fn V1 [.ptr 1 0]] [sC [.l r0,.l r1,.l r2],sC [.s s0,.i i0,.l r3,.s s1,.s s2,.i i1,.i i2]] (.i i3) [sC [.l r0,.l r1,.l r2],sC [.s s0,.i i0,.l r3,.s s1,.s s2,.i i1,.i i2]])(h2:0≤i3)(h3:r0[(Int.toNat i3)]?=some [.i i4,.i i5,.i i6,.s s3,.s s4,.s s5,.s s6])(h4:Lp E 2 K7 0 (z1v i5 r4 (r4.length:Int) 0 r0 r1 r2 s0 i0 r3 s1 s2 i1 i2) (.exit 0) (y5a r0 r1 r2 s0 i0 r3 s1 s2 i1 i2 i7))
include h1 h2 h3 h4
theorem q5v (h5:i7>0):Fn E K7 [.agg [.l r0,.l r1,.l r2],.agg [.s s0,.i i0,.l r3,.s s1,.s s2,.i i1,.i i2],.l r4] (.b true):=fnM (oR h1 (oP h2 (oD h3 (oL h4 (oT h5 oZ)))))
theorem q5w (h5:¬ i7>0):Fn E K7 [.agg [.l r0,.l r1,.l r2],.agg [.s s0,.i i0,.l r3,.s s1,.s s2,.i i1,.i i2],.l r4] (.b false):=fnM (oR h1 (oP h2 (oD h3 (oL h4 (oU h5 oZ)))))
end
theorem j6v (h1:Fn E A1 [.b b0,.s ⟨#[49]⟩] (.s s0))(e1:(i0 == i2)=b0):Rn E U7 [.i i0,.i i1,.ptr 0 0,.ptr 1 0] [sC [.fn A1 []],sC [.i i2]] (.s s0) [sC [.fn A1 []],sC [.i i2]]:=by subst e1;exact rnM (oK (oF h1 oZ))
theorem j6w (h1:0≤i0)(h2:r0[(Int.toNat i0)]?=some [.i i3,.i i4,.i i5,.s s0,.s s1,.s s2,.s s3])(h3:Fn E A1 [.b b0,.s s1] (.s s4))(e1:(i1 == i2)=b0):Rn E U8 [.i i0,.i i1,.ptr 0 0,.ptr 1 0,.ptr 2 0] [sC [.fn A1 []],sC [.i i2],sC [.l r0]] (.s s4) [sC [.fn A1 []],sC [.i i2],sC [.l r0]]:=by subst e1;exact rnM (oK (oP h1 (oD h2 (oF h3 oZ))))
theorem j6x (h1:0≤i0)(h2:r0[(Int.toNat i0)]?=some [.i i3,.i i4,.i i5,.s s0,.s s1,.s s2,.s s3])(h3:Fn E A1 [.b b0,.s s2] (.s s4))(e1:(i1 == i2)=b0):Rn E U9 [.i i0,.i i1,.ptr 0 0,.ptr 1 0,.ptr 2 0] [sC [.fn A1 []],sC [.i i2],sC [.l r0]] (.s s4) [sC [.fn A1 []],sC [.i i2],sC [.l r0]]:=by subst e1;exact rnM (oK (oP h1 (oD h2 (oF h3 oZ))))
theorem j6y (h1:0≤i0)(h2:r0[(Int.toNat i0)]?=some [.i i5,.i i6,.i i7,.s s3,.s s4,.s s5,.s s6])(h3:0≤i1)(h4:r1[(Int.toNat i1)]?=some [.s s7])(h5:Fn E y3r [.s s4,.s s7] (.s s8)):Rn E K5 [.i i0,.i i1,.ptr 0 0,.ptr 1 0] [sC [.l r0],sC [.s s0,.i i2,.l r1,.s s1,.s s2,.i i3,.i i4]] (.s s8) [sC [.l r0],sC [.s s0,.i i2,.l r1,.s s1,.s s2,.i i3,.i i4]]:=rnM (oP h1 (oD h2 (oP h3 (oD h4 (oF h5 oZ)))))
theorem j6z (h1:0≤i0)(h2:r0[(Int.toNat i0)]?=some [.i i5,.i i6,.i i7,.s s3,.s s4,.s s5,.s s6])(h3:0≤i1)(h4:r1[(Int.toNat i1)]?=some [.s s7])(h5:Fn E y3r [.s s4,.s s7] (.s s8))(h6:Fn E Z6 [.s ⟨#[48]⟩,.s s8] (.s s9)):Rn E J0 [.i i0,.i i1,.ptr 0 0,.ptr 1 0] [sC [.l r0],sC [.s s0,.i i2,.l r1,.s s1,.s s2,.i i3,.i i4]] (.s s9) [sC [.l r0],sC [.s s0,.i i2,.l r1,.s s1,.s s2,.i i3,.i i4]]:=rnM (oP h1 (oD h2 (oP h3 (oD h4 (oF h5 (oF h6 oZ))))))
theorem q0h (h1:s0=s3):Rn E G0 [.agg [.s s0,.i i0,.l r0,.s s1,.s s2,.i i1,.i i2],.ptr 0 0] [sC [.s s3]] (.b true) [sC [.s s3]]:=rnM (oB (seT h1) oZ)
theorem q0i (h1:¬ s0=s3):Rn E G0 [.agg [.s s0,.i i0,.l r0,.s s1,.s s2,.i i1,.i i2],.ptr 0 0] [sC [.s s3]] (.b false) [sC [.s s3]]:=rnM (oC (seF h1) oZ)
theorem j7j (h1:i0≥1)(h2:i0≤9):Fn E K6 [.i i0] (.b true):=fnM (oT h1 (oT h2 oZ))
theorem j7k (h1:i0≥1)(h2:¬ i0≤9):Fn E K6 [.i i0] (.b false):=fnM (oT h1 (oU h2 oZ))
theorem j7l (h1:¬ i0≥1):Fn E K6 [.i i0] (.b false):=fnM (oU h1 oZ)
theorem v4w (h1:Fn E y5u [.s s0,.s s1] (.tup [.s s2,.i i0])):Fn E y3r [.s s0,.s s1] (.s s2):=fnM (oF h1 oZ)
theorem v4v (h1:Fn E y5t [.s s0,.s s1] (.tup [.s s2,.i i0])):Fn E x4s [.s s0,.s s1] (.s s2):=fnM (oF h1 oZ)
theorem v0z (h1:Fn E O1 [.s s0,.s ⟨#[48]⟩] (.i i0)):Fn E x2j [.s s0] (.i i0):=fnM (oF h1 oZ)
theorem q4s (h1:Rn E A6 [.l r0,.fn V0 [.ptr 1 0]] [sC [.l r0,.l r1,.l r2],sC [.i i0]] (.i i1) [sC [.l r0,.l r1,.l r2],sC [.i i0]])(h2:0≤i1)(h3:r0[(Int.toNat i1)]?=some [.i i2,.i i3,.i i4,.s s0,.s s1,.s s2,.s s3]):Fn E z3b [.agg [.l r0,.l r1,.l r2],.i i0] (.i i4):=fnM (oR h1 (oP h2 (oD h3 oZ)))
theorem j6t:Fn E A1 [.b true,.s s0] (.s s0):=fnM oZ
theorem j6u:Fn E A1 [.b false,.s s0] (.s ⟨#[48]⟩):=fnM oZ
theorem j7c (h1:Fn E z6z [.s s0] (.b b0)):Fn E H7 [.s s0] (.b (!b0)):=fnM (oF h1 oZ)
theorem j7d (h1:s0=s3):Rn E G7 [.agg [.s s0,.i i0,.l r0,.s s1,.s s2,.i i1,.i i2],.ptr 0 0] [sC [.s s3,.i i3,.l r1,.s s4,.s s5,.i i4,.i i5]] (.b true) [sC [.s s3,.i i3,.l r1,.s s4,.s s5,.i i4,.i i5]]:=rnM (oB (seT h1) oZ)
theorem j7e (h1:¬ s0=s3):Rn E G7 [.agg [.s s0,.i i0,.l r0,.s s1,.s s2,.i i1,.i i2],.ptr 0 0] [sC [.s s3,.i i3,.l r1,.s s4,.s s5,.i i4,.i i5]] (.b false) [sC [.s s3,.i i3,.l r1,.s s4,.s s5,.i i4,.i i5]]:=rnM (oC (seF h1) oZ)
theorem j7r (h1:i0=i4):Rn E V1 [.agg [.i i0,.i i1,.i i2,.s s0,.s s1,.s s2,.s s3],.ptr 0 0] [sC [.s s4,.i i3,.l r0,.s s5,.s s6,.i i4,.i i5]] (.b true) [sC [.s s4,.i i3,.l r0,.s s5,.s s6,.i i4,.i i5]]:=rnM (oB (beT h1) oZ)
theorem j7s (h1:¬ i0=i4):Rn E V1 [.agg [.i i0,.i i1,.i i2,.s s0,.s s1,.s s2,.s s3],.ptr 0 0] [sC [.s s4,.i i3,.l r0,.s s5,.s s6,.i i4,.i i5]] (.b false) [sC [.s s4,.i i3,.l r0,.s s5,.s s6,.i i4,.i i5]]:=rnM (oC (beF h1) oZ)
theorem j7m (h1:i0=i3):Rn E G9 [.agg [.i i0,.s s0,.s s1,.s s2,.s s3,.s s4,.s s5],.ptr 0 0] [sC [.s s6,.i i1,.l r0,.s s7,.s s8,.i i2,.i i3]] (.b true) [sC [.s s6,.i i1,.l r0,.s s7,.s s8,.i i2,.i i3]]:=rnM (oB (beT h1) oZ)
theorem j7n (h1:¬ i0=i3):Rn E G9 [.agg [.i i0,.s s0,.s s1,.s s2,.s s3,.s s4,.s s5],.ptr 0 0] [sC [.s s6,.i i1,.l r0,.s s7,.s s8,.i i2,.i i3]] (.b false) [sC [.s s6,.i i1,.l r0,.s s7,.s s8,.i i2,.i i3]]:=rnM (oC (beF h1) oZ)
theorem j7o (h1:i0=i4):Rn E H0 [.agg [.i i0,.i i1,.i i2,.s s0,.s s1,.s s2,.s s3],.ptr 0 0] [sC [.s s4,.i i3,.l r0,.s s5,.s s6,.i i4,.i i5]] (.b true) [sC [.s s4,.i i3,.l r0,.s s5,.s s6,.i i4,.i i5]]:=rnM (oB (beT h1) oZ)
theorem j7p (h1:¬ i0=i4):Rn E H0 [.agg [.i i0,.i i1,.i i2,.s s0,.s s1,.s s2,.s s3],.ptr 0 0] [sC [.s s4,.i i3,.l r0,.s s5,.s s6,.i i4,.i i5]] (.b false) [sC [.s s4,.i i3,.l r0,.s s5,.s s6,.i i4,.i i5]]:=rnM (oC (beF h1) oZ)
theorem j7a (h1:i0=i3):Rn E V0 [.agg [.i i0,.i i1,.i i2,.s s0,.s s1,.s s2,.s s3],.ptr 0 0] [sC [.i i3]] (.b true) [sC [.i i3]]:=rnM (oB (beT h1) oZ)
theorem j7b (h1:¬ i0=i3):Rn E V0 [.agg [.i i0,.i i1,.i i2,.s s0,.s s1,.s s2,.s s3],.ptr 0 0] [sC [.i i3]] (.b false) [sC [.i i3]]:=rnM (oC (beF h1) oZ)
section
variable (h1:i0=i5)(h2:Fn E z3b [.agg [.l r1,.l r2,.l r3],.i i1] (.i i6))
include h1 h2
theorem j7f (h3:i6=i4):Rn E G8 [.agg [.i i0,.i i1,.i i2],.ptr 0 0,.ptr 1 0] [sC [.s s0,.i i3,.l r0,.s s1,.s s2,.i i4,.i i5],sC [.l r1,.l r2,.l r3]] (.b true) [sC [.s s0,.i i3,.l r0,.s s1,.s s2,.i i4,.i i5],sC [.l r1,.l r2,.l r3]]:=rnM (oB (beT h1) (oF h2 (oB (beT h3) oZ)))
theorem j7g (h3:¬ i6=i4):Rn E G8 [.agg [.i i0,.i i1,.i i2],.ptr 0 0,.ptr 1 0] [sC [.s s0,.i i3,.l r0,.s s1,.s s2,.i i4,.i i5],sC [.l r1,.l r2,.l r3]] (.b false) [sC [.s s0,.i i3,.l r0,.s s1,.s s2,.i i4,.i i5],sC [.l r1,.l r2,.l r3]]:=rnM (oB (beT h1) (oF h2 (oC (beF h3) oZ)))
end
theorem j7h (h1:¬ i0=i5):Rn E G8 [.agg [.i i0,.i i1,.i i2],.ptr 0 0,.ptr 1 0] [sC [.s s0,.i i3,.l r0,.s s1,.s s2,.i i4,.i i5],sC [.l r1,.l r2,.l r3]] (.b false) [sC [.s s0,.i i3,.l r0,.s s1,.s s2,.i i4,.i i5],sC [.l r1,.l r2,.l r3]]:=rnM (oC (beF h1) oZ)
end Gev
