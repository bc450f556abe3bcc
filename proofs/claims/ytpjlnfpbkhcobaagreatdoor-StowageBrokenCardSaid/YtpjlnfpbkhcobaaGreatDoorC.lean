/- A part of the proof: see the last text of this claim. -/
import Derived.Test.YtpjlnfpbkhcobaaGreatDoorB
set_option linter.unusedSectionVars false
set_option linter.unusedVariables false
set_option linter.unusedSimpArgs false
namespace Gev
open Go Go.Proofs
variable {E:Env}
variable {o:Out} {t:St} {r0 r1 r2 r3 r4 r5 r6 r7 r8 r9 r10 r11 r12 r13 r14:RW} {i0 i1 i2 i3 i4 i5 i6 i7 i8 i9 i10 i11 i12 i13 i14 i15 i16 i17 i18 i19 i20 i21 i22 i23:Int} {n0 n1 n2 n3 n4 n5 n6 n7:Nat} {s0:BA}
def z6t (r0:RW) (n0:Nat) (i0 i1 i2:Int) (r1:RW):St:=stOf 72 [(0,.l r0),(3,.vec 1 n0),(4,.i i0),(5,.w i1),(6,.i i2)] [some .dead,sV x3s r1]
def y6k (r0:RW) (i0:Int) (n1:Nat) (r2:RW):St:=stOf 72 [(0,.l r0),(3,.vec 1 n1),(4,.i i0)] [some .dead,sV x3s r2]
section
variable (e1:IntKind.i64.wrap (i0+1)=i3)
include e1
section
variable (e2:Int.tmod i1 10=i4) (e3:IntKind.u32.wrap (48+i4)=i5) (e4:IntKind.u8.wrap i5=i6) (e5:(r1.take n0)++[[.u8 i6]]=r3) (e6:n0+1=n2) (e7:IntKind.u32.wrap (Int.tdiv i1 10)=i7) (e8:IntKind.i64.wrap (i2+1)=i8) (h1:i2 < 9)
include e2 e3 e4 e5 e6 e7 e8 h1
theorem q3n (h2:i3 < (r0.length:Int)) (h3:(n0+1)*1≤140737488355328∧n0+1≤140737488355328) (ih:Lp E 1 J5 1 (z6t r0 n2 i0 i7 i8 r3) o t):Lp E 1 J5 1 (z6t r0 n0 i0 i1 i2 r1) o t:=by subst e1 e2 e3 e4 e5 e6 e7 e8;exact lpM (oT h1 (oT h2 (oP (show (10:Int)≠0 from by decide) (oP (show ∀ y∈([[.u8 (IntKind.u8.wrap (IntKind.u32.wrap (48+(Int.tmod i1 10))))]]:RW),y.length=1 from by simp) (oP h3 (oP (show (10:Int)≠0 from by decide) oZ)))))) ih
theorem q3o (h2:¬ i3 < (r0.length:Int)) (h3:i1 > 0) (h4:(n0+1)*1≤140737488355328∧n0+1≤140737488355328) (ih:Lp E 1 J5 1 (z6t r0 n2 i0 i7 i8 r3) o t):Lp E 1 J5 1 (z6t r0 n0 i0 i1 i2 r1) o t:=by subst e1 e2 e3 e4 e5 e6 e7 e8;exact lpM (oT h1 (oU h2 (oT h3 (oP (show (10:Int)≠0 from by decide) (oP (show ∀ y∈([[.u8 (IntKind.u8.wrap (IntKind.u32.wrap (48+(Int.tmod i1 10))))]]:RW),y.length=1 from by simp) (oP h4 (oP (show (10:Int)≠0 from by decide) oZ))))))) ih
end
theorem j5o (h1:i2 < 9) (h2:¬ i3 < (r0.length:Int)) (h3:¬ i1 > 0):Lp E 1 J5 1 (z6t r0 n0 i0 i1 i2 r1) (.exit 2) (y6k r0 i0 n0 r1):=by subst e1;exact lpX (oT h1 (oU h2 (oU h3 oZ)))
end
theorem j5p (h1:¬ i2 < 9):Lp E 1 J5 1 (z6t r0 n0 i0 i1 i2 r1) (.exit 2) (y6k r0 i0 n0 r1):=lpX (oU h1 oZ)
def y9x (r0:RW) (n0:Nat) (i0:Int) (r1:RW):St:=stOf 72 [(0,.l r0),(3,.vec 0 n0),(4,.i i0)] [sV x3s r1]
def x4x (n1:Nat) (r2:RW):St:=stOf 72 [(3,.vec 0 n1)] [sV x3s r2]
theorem q9k (e1:IntKind.i64.wrap (i0+1)=i2) (h1:i0 < (r0.length:Int)) (h2:0≤i0) (h3:r0[(Int.toNat i0)]?=some [.w i1]) (h4:Lp E 1 J5 1 (z6t r0 n0 i0 i1 0 r1) (.exit 2) (y6k r0 i0 n2 r3)) (ih:Lp E 0 J5 0 (y9x r0 n2 i2 r3) o t):Lp E 0 J5 0 (y9x r0 n0 i0 r1) o t:=by subst e1;exact lpM (oT h1 (oP h2 (oD h3 (oM [(3,x3s)] h4 oZ)))) ih
theorem j9u (h1:¬ i0 < (r0.length:Int)):Lp E 0 J5 0 (y9x r0 n0 i0 r1) (.exit 0) (x4x n0 r1):=lpX (oU h1 oZ)
def y9y (n0:Nat) (i0 i1:Int) (r0:RW):St:=stOf 72 [(3,.vec 0 n0),(7,.i i0),(8,.i i1)] [sV x3s r0]
def x4y (n0:Nat) (r1:RW):St:=stOf 72 [(3,.vec 0 n0)] [sV x3s r1]
theorem q9l (e1:List.set r0 (Int.toNat i0) [.u8 i2]=r2) (e2:List.set r2 (Int.toNat i1) [.u8 i3]=r3) (e3:IntKind.i64.wrap (i0+1)=i5) (e4:IntKind.i64.wrap (i1 - 1)=i6) (h1:i0 < i1) (h2:0≤i1∧i1 < ((n0:Nat):Int)) (h3:r0[(Int.toNat i1)]?=some [.u8 i2]) (h4:0≤i0∧i0 < ((n0:Nat):Int)) (h5:r0[(Int.toNat i0)]?=some [.u8 i3]) (h6:r2[(Int.toNat i1)]?=some [.u8 i4]) (ih:Lp E 1 J5 2 (y9y n0 i5 i6 r3) o t):Lp E 1 J5 2 (y9y n0 i0 i1 r0) o t:=by subst e1 e2 e3 e4;exact lpM (oT h1 (oP h2 (oD h3 (oP h4 (oD h5 (oP h4 (oD h5 (oP h2 (oD h6 oZ))))))))) ih
theorem j9v (h1:¬ i0 < i1):Lp E 1 J5 2 (y9y n0 i0 i1 r0) (.exit 4) (x4y n0 r0):=lpX (oU h1 oZ)
theorem w6o (h1:(r0.length:Int)=0):Fn E J5 [.l r0] (.s ⟨#[48]⟩):=fnM (oB (beT h1) oZ)
theorem w6p (e1:IntKind.i64.wrap (((n0:Nat):Int) - 1)=i0) (e2:ByteArray.mk (((r2.take n0).map x7p).toArray)=s0) (h1:¬ (r0.length:Int)=0) (h2:Lp E 0 J5 0 (y9x r0 0 0 []) (.exit 0) (x4x n0 r1)) (h3:Lp E 1 J5 2 (y9y n0 0 i0 r1) (.exit 4) (x4y n0 r2)) (h4:∀ x∈(r2.take n0),k1q x):Fn E J5 [.l r0] (.s s0):=by subst e1 e2;exact fnM (oC (beF h1) (oM [(3,x3s)] h2 (oL h3 (oP h4 oZ))))
theorem v4d (e1:Int.tmod i0 1000000000=i1) (e2:IntKind.u32.wrap (Int.tdiv i0 1000000000)=i2) (e3:(([[.w i1],[.w i2]]:RW).take n0)=r0) (h1:Rn E K0 [.vec 0 2] [sV A3 [[.w i1],[.w i2]]] (.vec 0 n0) [sV A3 [[.w i1],[.w i2]]]):Fn E z4r [.w i0] (.l r0):=by subst e1 e2 e3;exact fnM (oP (show (1000000000:Int)≠0 from by decide) (oP (show (1000000000:Int)≠0 from by decide) (oR h1 oZ)))
def y2e (r0 r1:RW) (n0:Nat) (i0 i1 i2:Int) (r2:RW):St:=stOf 77 [(0,.l r0),(1,.l r1),(5,.vec 0 n0),(6,.i i0),(7,.c (.u64 i1)),(8,.i i2)] [sV A3 r2]
def y8e (r0 r1:RW) (n0:Nat) (i0 i3:Int) (r3:RW):St:=stOf 77 [(0,.l r0),(1,.l r1),(5,.vec 0 n0),(6,.i i0),(7,.c (.u64 i3))] [sV A3 r3]
theorem j5n (e1:IntKind.i64.wrap (i0+i2)=i4) (e2:IntKind.u64.wrap i5=i6) (e3:IntKind.u64.wrap i7=i8) (e4:IntKind.u64.wrap i9=i10) (e5:IntKind.u64.wrap (i8*i10)=i11) (e6:IntKind.u64.wrap (i6+i11)=i12) (e7:IntKind.u64.wrap (i12+i1)=i13) (e8:Int.tmod i13 1000000000=i14) (e9:IntKind.u32.wrap i14=i15) (e10:List.set r2 (Int.toNat i4) [.w i15]=r4) (e11:IntKind.u64.wrap (Int.tdiv i13 1000000000)=i16) (e12:IntKind.i64.wrap (i2+1)=i17) (h1:i2 < (r1.length:Int)) (h2:0≤i4∧i4 < ((n0:Nat):Int)) (h3:r2[(Int.toNat i4)]?=some [.w i5]) (h4:0≤i0) (h5:r0[(Int.toNat i0)]?=some [.w i7]) (h6:0≤i2) (h7:r1[(Int.toNat i2)]?=some [.w i9]) (ih:Lp E 1 G4 1 (y2e r0 r1 n0 i0 i16 i17 r4) o t):Lp E 1 G4 1 (y2e r0 r1 n0 i0 i1 i2 r2) o t:=by subst e1 e2 e3 e4 e5 e6 e7 e8 e9 e10 e11 e12;exact lpM (oT h1 (oP h2 (oD h3 (oP h4 (oD h5 (oP h6 (oD h7 (oP (show (1000000000:Int)≠0 from by decide) (oP h2 (oD h3 (oP (show (1000000000:Int)≠0 from by decide) oZ))))))))))) ih
theorem k7u (h1:¬ i2 < (r1.length:Int)):Lp E 1 G4 1 (y2e r0 r1 n0 i0 i1 i2 r2) (.exit 2) (y8e r0 r1 n0 i0 i1 r2):=lpX (oU h1 oZ)
def y2d (r0 r1:RW) (n0:Nat) (i0:Int) (r2:RW):St:=stOf 77 [(0,.l r0),(1,.l r1),(5,.vec 0 n0),(6,.i i0)] [sV A3 r2]
def y8d (n0:Nat) (r3:RW):St:=stOf 77 [(5,.vec 0 n0)] [sV A3 r3]
theorem j5m (e1:IntKind.i64.wrap (i0+(r1.length:Int))=i2) (e2:IntKind.u32.wrap i1=i3) (e3:List.set r4 (Int.toNat i2) [.w i3]=r5) (e4:IntKind.i64.wrap (i0+1)=i5) (h1:i0 < (r0.length:Int)) (h2:Lp E 1 G4 1 (y2e r0 r1 n0 i0 0 0 r2) (.exit 2) (y8e r0 r1 n0 i0 i1 r4)) (h3:0≤i2∧i2 < ((n0:Nat):Int)) (h4:r4[(Int.toNat i2)]?=some [.w i4]) (ih:Lp E 1 G4 0 (y2d r0 r1 n0 i5 r5) o t):Lp E 1 G4 0 (y2d r0 r1 n0 i0 r2) o t:=by subst e1 e2 e3 e4;exact lpM (oT h1 (oL h2 (oP h3 (oD h4 oZ)))) ih
theorem k7t (h1:¬ i0 < (r0.length:Int)):Lp E 1 G4 0 (y2d r0 r1 n0 i0 r2) (.exit 0) (y8d n0 r2):=lpX (oU h1 oZ)
theorem v4e (h1:(r0.length:Int)=0):Fn E G4 [.l r0,.l r1] (.l []):=fnM (oB (beT h1) oZ)
theorem v4f (h1:¬ (r0.length:Int)=0) (h2:(r1.length:Int)=0):Fn E G4 [.l r0,.l r1] (.l []):=fnM (oC (beF h1) (oB (beT h2) oZ))
theorem v4g (e1:IntKind.i64.wrap ((r0.length:Int)+(r1.length:Int))=i0) (e2:Int.toNat i0=n0) (e3:List.replicate n0 [.w 0]=r2) (e4:(r3.take n1)=r4) (h1:¬ (r0.length:Int)=0) (h2:¬ (r1.length:Int)=0) (h3:0≤i0∧i0≤i0∧(Int.toNat i0)*4≤140737488355328∧(Int.toNat i0)≤140737488355328) (h4:Lp E 1 G4 0 (y2d r0 r1 n0 0 r2) (.exit 0) (y8d n0 r3)) (h5:Rn E K0 [.vec 0 n0] [sV A3 r3] (.vec 0 n1) [sV A3 r3]):Fn E G4 [.l r0,.l r1] (.l r4):=by subst e1 e2 e3 e4;exact fnM (oC (beF h1) (oC (beF h2) (oP h3 (oL h4 (oR h5 oZ)))))
def z4h (r0 r1:RW) (i0:Int):St:=stOf 41 [(0,.l r0),(1,.l r1),(5,.i i0)] []
def y6g (i1:Int):St:=stOf 41 [(4,.i i1)] []
def x2p:St:=stOf 41 [] []
theorem x9i (e1:IntKind.i64.wrap (i0 - 1)=i4) (h1:i0≥0) (h2:0≤i0) (h3:r0[(Int.toNat i0)]?=some [.w i2]) (h4:r1[(Int.toNat i0)]?=some [.w i3]) (h5:¬ i2 < i3) (h6:¬ i2 > i3) (ih:Lp E 0 N0 0 (z4h r0 r1 i4) o t):Lp E 0 N0 0 (z4h r0 r1 i0) o t:=by subst e1;exact lpM (oT h1 (oP h2 (oD h3 (oP h2 (oD h4 (oU h5 (oP h2 (oD h3 (oP h2 (oD h4 (oU h6 oZ))))))))))) ih
section
variable (h1:i0≥0) (h2:0≤i0) (h3:r0[(Int.toNat i0)]?=some [.w i2]) (h4:r1[(Int.toNat i0)]?=some [.w i3])
include h1 h2 h3 h4
theorem j5e (h5:i2 < i3):Lp E 0 N0 0 (z4h r0 r1 i0) .ret (y6g (-1)):=lpX (oT h1 (oP h2 (oD h3 (oP h2 (oD h4 (oT h5 oZ))))))
theorem j5f (h5:¬ i2 < i3) (h6:i2 > i3):Lp E 0 N0 0 (z4h r0 r1 i0) .ret (y6g 1):=lpX (oT h1 (oP h2 (oD h3 (oP h2 (oD h4 (oU h5 (oP h2 (oD h3 (oP h2 (oD h4 (oT h6 oZ)))))))))))
end
theorem j5g (h1:¬ i0≥0):Lp E 0 N0 0 (z4h r0 r1 i0) (.exit 0) (x2p):=lpX (oU h1 oZ)
section
variable (h1:¬ (r0.length:Int)=(r1.length:Int))
include h1
theorem w3l (h2:(r0.length:Int) < (r1.length:Int)):Fn E N0 [.l r0,.l r1] (.i (-1)):=fnM (oB (bnT h1) (oT h2 oZ))
theorem w3m (h2:¬ (r0.length:Int) < (r1.length:Int)):Fn E N0 [.l r0,.l r1] (.i 1):=fnM (oB (bnT h1) (oU h2 oZ))
end
section
variable (e1:IntKind.i64.wrap ((r0.length:Int) - 1)=i0) (h1:(r0.length:Int)=(r1.length:Int))
include e1 h1
theorem w3n (h2:Lp E 0 N0 0 (z4h r0 r1 i0) .ret (y6g i1)):Fn E N0 [.l r0,.l r1] (.i i1):=by subst e1;exact fnM (oC (bnF h1) (oL h2 oZ))
theorem w3o (h2:Lp E 0 N0 0 (z4h r0 r1 i0) (.exit 0) (x2p)):Fn E N0 [.l r0,.l r1] (.i 0):=by subst e1;exact fnM (oC (bnF h1) (oL h2 oZ))
end
def Y3 (s0:BA) (i0:Int):St:=stOf 33 [(0,.s s0),(3,.i i0)] []
def y3a:St:=stOf 33 [(2,.b false)] []
def z7x (s0:BA):St:=stOf 33 [(0,.s s0)] []
section
variable (e1:((s0.data.toList.getD (Int.toNat i0) 0).toNat:Int)=i1)
include e1
theorem x4a (e2:IntKind.i64.wrap (i0+1)=i2) (h1:i0 < (s0.size:Int)) (h2:0≤i0∧i0 < s0.size) (h3:¬ i1 < 48) (h4:¬ i1 > 57) (ih:Lp E 0 G7 0 (Y3 s0 i2) o t):Lp E 0 G7 0 (Y3 s0 i0) o t:=by subst e1 e2;exact lpM (oT h1 (oP h2 (oU h3 (oP h2 (oU h4 oZ))))) ih
section
variable (h1:i0 < (s0.size:Int)) (h2:0≤i0∧i0 < s0.size)
include h1 h2
theorem k7v (h3:i1 < 48):Lp E 0 G7 0 (Y3 s0 i0) .ret (y3a):=by subst e1;exact lpX (oT h1 (oP h2 (oT h3 oZ)))
theorem k7w (h3:¬ i1 < 48) (h4:i1 > 57):Lp E 0 G7 0 (Y3 s0 i0) .ret (y3a):=by subst e1;exact lpX (oT h1 (oP h2 (oU h3 (oP h2 (oT h4 oZ)))))
end
end
theorem k7x (h1:¬ i0 < (s0.size:Int)):Lp E 0 G7 0 (Y3 s0 i0) (.exit 0) (z7x s0):=lpX (oU h1 oZ)
theorem v4h (h1:Lp E 0 G7 0 (Y3 s0 0) .ret (y3a)):Fn E G7 [.s s0] (.b false):=fnM (oL h1 oZ)
theorem v4i (h1:Lp E 0 G7 0 (Y3 s0 0) (.exit 0) (z7x s0)) (h2:(s0.size:Int)=1):Fn E G7 [.s s0] (.b true):=fnM (oL h1 (oB (beT h2) oZ))
section
variable (e1:((s0.data.toList.getD 0 0).toNat:Int)=i0) (h1:Lp E 0 G7 0 (Y3 s0 0) (.exit 0) (z7x s0)) (h2:¬ (s0.size:Int)=1) (h3:(s0.size:Int) > 1) (h4:0≤(0:Int)∧(0:Int) < s0.size)
include e1 h1 h2 h3 h4
theorem v4j (h5:¬ i0=48):Fn E G7 [.s s0] (.b true):=by subst e1;exact fnM (oL h1 (oC (beF h2) (oT h3 (oP h4 (oB (bnT h5) oZ)))))
theorem v4k (h5:i0=48):Fn E G7 [.s s0] (.b false):=by subst e1;exact fnM (oL h1 (oC (beF h2) (oT h3 (oP h4 (oC (bnF h5) oZ)))))
end
theorem v4l (h1:Lp E 0 G7 0 (Y3 s0 0) (.exit 0) (z7x s0)) (h2:¬ (s0.size:Int)=1) (h3:¬ (s0.size:Int) > 1):Fn E G7 [.s s0] (.b false):=fnM (oL h1 (oC (beF h2) (oU h3 oZ)))
def y2c (s0:BA) (n0:Nat) (i0 i1 i2:Int) (r0:RW):St:=stOf 35 [(0,.s s0),(3,.vec 0 n0),(4,.i i0),(5,.w i1),(6,.i i2)] [sV A3 r0]
def y8c (s0:BA) (n0:Nat) (i0:Int) (r0:RW) (i3:Int):St:=stOf 35 [(0,.s s0),(3,.vec 0 n0),(4,.i i0),(5,.w i3)] [sV A3 r0]
theorem j5h (e1:IntKind.u32.wrap (10*i1)=i4) (e2:((s0.data.toList.getD (Int.toNat i2) 0).toNat:Int)=i5) (e3:IntKind.u8.wrap (i5 - 48)=i6) (e4:IntKind.u32.wrap i6=i7) (e5:IntKind.u32.wrap (i4+i7)=i8) (e6:IntKind.i64.wrap (i2+1)=i9) (h1:i2 < i0) (h2:0≤i2∧i2 < s0.size) (ih:Lp E 1 O3 1 (y2c s0 n0 i0 i8 i9 r0) o t):Lp E 1 O3 1 (y2c s0 n0 i0 i1 i2 r0) o t:=by subst e1 e2 e3 e4 e5 e6;exact lpM (oT h1 (oP h2 oZ)) ih
theorem k7r (h1:¬ i2 < i0):Lp E 1 O3 1 (y2c s0 n0 i0 i1 i2 r0) (.exit 2) (y8c s0 n0 i0 r0 i1):=lpX (oU h1 oZ)
def y3y (s0:BA) (n0:Nat) (i0:Int) (r0:RW):St:=stOf 35 [(0,.s s0),(3,.vec 0 n0),(4,.i i0)] [sV A3 r0]
def x0n (n1:Nat) (r1:RW):St:=stOf 35 [(3,.vec 0 n1)] [sV A3 r1]
theorem j9m (e1:IntKind.i64.wrap (i0 - 9)=i1) (e2:(if i1 > 0 then i1 else 0)=i2) (e3:(r0.take n0)++[[.w i3]]=r2) (e4:n0+1=n2) (h1:i0 > 0) (h2:Lp E 1 O3 1 (y2c s0 n0 i0 0 i2 r0) (.exit 2) (y8c s0 n0 i0 r0 i3)) (h3:(n0+1)*4≤140737488355328∧n0+1≤140737488355328) (ih:Lp E 0 O3 0 (y3y s0 n2 i1 r2) o t):Lp E 0 O3 0 (y3y s0 n0 i0 r0) o t:=by subst e1 e2 e3 e4;exact lpM (oT h1 (oL h2 (oP (show ∀ y∈([[.w i3]]:RW),y.length=1 from by simp) (oP h3 oZ)))) ih
theorem j1t (h1:¬ i0 > 0):Lp E 0 O3 0 (y3y s0 n0 i0 r0) (.exit 0) (x0n n0 r0):=lpX (oU h1 oZ)
theorem v9y (e1:(r0.take n1)=r1) (h1:Lp E 0 O3 0 (y3y s0 0 (s0.size:Int) []) (.exit 0) (x0n n0 r0)) (h2:Rn E K0 [.vec 0 n0] [sV A3 r0] (.vec 0 n1) [sV A3 r0]):Fn E O3 [.s s0] (.l r1):=by subst e1;exact fnM (oM [(3,A3)] h1 (oR h2 oZ))
def y0b (i0 i1:Int):St:=stOf 41 [(5,.c (.u64 i0)),(6,.c (.u64 i1))] []
def y6j (i2:Int):St:=stOf 41 [(5,.c (.u64 i2))] []
theorem j1s (e1:Int.tmod i0 i1=i3) (h1:¬ i1=0) (h2:i1≠0) (ih:Lp E 0 H4 1 (y0b i1 i3) o t):Lp E 0 H4 1 (y0b i0 i1) o t:=by subst e1;exact lpM (oB (bnT h1) (oP h2 oZ)) ih
theorem k3w (h1:i1=0):Lp E 0 H4 1 (y0b i0 i1) (.exit 2) (y6j i0):=lpX (oC (bnF h1) oZ)
def Y7 (r0 r1:RW):St:=stOf 41 [(0,.l r0),(1,.l r1)] []
def y6h (r2:RW):St:=stOf 41 [(4,.l r2)] []
def y6i (r3:RW):St:=stOf 41 [(0,.l r3)] []
section
variable (h1:(r1.length:Int) > 0)
include h1
theorem x2q (h2:(r0.length:Int)≤2) (h3:¬ (r1.length:Int)≤2) (h4:Fn E H6 [.l r0,.l r1] (.tup [.l r4,.l r5])) (ih:Lp E 0 H4 0 (Y7 r1 r5) o t):Lp E 0 H4 0 (Y7 r0 r1) o t:=lpM (oT h1 (oT h2 (oU h3 (oF h4 oZ)))) ih
theorem x2r (h2:¬ (r0.length:Int)≤2) (h3:Fn E H6 [.l r0,.l r1] (.tup [.l r4,.l r5])) (ih:Lp E 0 H4 0 (Y7 r1 r5) o t):Lp E 0 H4 0 (Y7 r0 r1) o t:=lpM (oT h1 (oU h2 (oF h3 oZ))) ih
theorem k3u (h2:(r0.length:Int)≤2) (h3:(r1.length:Int)≤2) (h4:Fn E z4c [.l r0] (.c (.u64 i0))) (h5:Fn E z4c [.l r1] (.c (.u64 i1))) (h6:Lp E 0 H4 1 (y0b i0 i1) (.exit 2) (y6j i2)) (h7:Fn E x7j [.c (.u64 i2)] (.l r6)):Lp E 0 H4 0 (Y7 r0 r1) .ret (y6h r6):=lpX (oT h1 (oT h2 (oT h3 (oF h4 (oF h5 (oL h6 (oF h7 oZ)))))))
end
theorem k3v (h1:¬ (r1.length:Int) > 0):Lp E 0 H4 0 (Y7 r0 r1) (.exit 0) (y6i r0):=lpX (oU h1 oZ)
theorem q9i (h1:Lp E 0 H4 0 (Y7 r0 r1) .ret (y6h r2)):Fn E H4 [.l r0,.l r1] (.l r2):=fnM (oL h1 oZ)
theorem q9j (h1:Lp E 0 H4 0 (Y7 r0 r1) (.exit 0) (y6i r2)):Fn E H4 [.l r0,.l r1] (.l r2):=fnM (oL h1 oZ)
def y0l (n0:Nat) (r0:RW):St:=stOf 21 [(0,.vec 0 n0)] [sV A3 r0]
def y4i (r0:RW) (n1:Nat):St:=stOf 21 [(0,.vec 0 n1)] [sV A3 r0]
section
variable (e1:IntKind.i64.wrap (((n0:Nat):Int) - 1)=i0)
include e1
theorem j9w (e2:(Int.toNat i0)=n2) (h1:((n0:Nat):Int) > 0) (h2:0≤i0∧i0 < ((n0:Nat):Int)) (h3:r0[(Int.toNat i0)]?=some [.w i1]) (h4:i1=0) (h5:0≤i0∧i0≤((n0:Nat):Int)) (ih:Lp E 1 K0 0 (y0l n2 r0) o t):Lp E 1 K0 0 (y0l n0 r0) o t:=by subst e1 e2;exact lpM (oT h1 (oP h2 (oD h3 (oB (beT h4) (oP h5 oZ))))) ih
theorem j2b (h1:((n0:Nat):Int) > 0) (h2:0≤i0∧i0 < ((n0:Nat):Int)) (h3:r0[(Int.toNat i0)]?=some [.w i1]) (h4:¬ i1=0):Lp E 1 K0 0 (y0l n0 r0) (.exit 0) (y4i r0 n0):=by subst e1;exact lpX (oT h1 (oP h2 (oD h3 (oC (beF h4) oZ))))
end
theorem j2c (h1:¬ ((n0:Nat):Int) > 0):Lp E 1 K0 0 (y0l n0 r0) (.exit 0) (y4i r0 n0):=lpX (oU h1 oZ)
theorem w0d (h1:Lp E 1 K0 0 (y0l n0 r0) (.exit 0) (y4i r0 n1)):Rn E K0 [.vec 0 n0] [sV A3 r0] (.vec 0 n1) [sV A3 r0]:=rnM (oL h1 oZ)
def z2m (i0:Int) (r0 r1:RW) (n0 n1:Nat) (i1 i2 i3:Int) (r2 r3 r4:RW):St:=stOf 176 [(8,.i i0),(9,.l r0),(10,.l r1),(11,.vec 3 n0),(12,.vec 4 n1),(13,.i i1),(15,.c (.u64 i2)),(16,.c (.u64 i3))] [some .dead,some .dead,sV A3 r2,sV A3 r3,sV A3 r4]
def y0c (i0:Int) (r0 r1:RW) (n0 n1:Nat) (i1:Int) (r2 r3 r4:RW) (i4:Int):St:=stOf 176 [(8,.i i0),(9,.l r0),(10,.l r1),(11,.vec 3 n0),(12,.vec 4 n1),(13,.i i1),(15,.c (.u64 i4))] [some .dead,some .dead,sV A3 r2,sV A3 r3,sV A3 r4]
theorem j9o (e1:IntKind.u64.wrap (i2 - 1)=i5) (e2:IntKind.i64.wrap (i0 - 1)=i6) (e3:IntKind.u64.wrap i7=i8) (e4:IntKind.u64.wrap (i3+i8)=i9) (h1:i3 < 1000000000) (h2:i2≥1000000000) (h3:0≤i6) (h4:r1[(Int.toNat i6)]?=some [.w i7]) (ih:Lp E 5 H6 1 (z2m i0 r0 r1 n0 n1 i1 i5 i9 r2 r3 r4) o t):Lp E 5 H6 1 (z2m i0 r0 r1 n0 n1 i1 i2 i3 r2 r3 r4) o t:=by subst e1 e2 e3 e4;exact lpM (oT h1 (oT h2 (oP h3 (oD h4 oZ)))) ih
section
variable (e1:IntKind.i64.wrap (i0 - 2)=i5) (e2:IntKind.u64.wrap i6=i7) (e3:IntKind.u64.wrap (i2*i7)=i8) (e4:IntKind.u64.wrap (i3*1000000000)=i9) (e5:IntKind.i64.wrap (i1+i0)=i10) (e6:IntKind.i64.wrap (i10 - 2)=i11) (e7:IntKind.u64.wrap i12=i13) (e8:IntKind.u64.wrap (i9+i13)=i14)
include e1 e2 e3 e4 e5 e6 e7 e8
theorem j9p (e9:IntKind.u64.wrap (i2 - 1)=i15) (e10:IntKind.i64.wrap (i0 - 1)=i16) (e11:IntKind.u64.wrap i17=i18) (e12:IntKind.u64.wrap (i3+i18)=i19) (h1:i3 < 1000000000) (h2:¬ i2≥1000000000) (h3:0≤i5) (h4:r1[(Int.toNat i5)]?=some [.w i6]) (h5:0≤i11∧i11 < ((n0:Nat):Int)) (h6:r3[(Int.toNat i11)]?=some [.w i12]) (h7:i8 > i14) (h8:0≤i16) (h9:r1[(Int.toNat i16)]?=some [.w i17]) (ih:Lp E 5 H6 1 (z2m i0 r0 r1 n0 n1 i1 i15 i19 r2 r3 r4) o t):Lp E 5 H6 1 (z2m i0 r0 r1 n0 n1 i1 i2 i3 r2 r3 r4) o t:=by subst e1 e2 e3 e4 e5 e6 e7 e8 e9 e10 e11 e12;exact lpM (oT h1 (oU h2 (oP h3 (oD h4 (oP h5 (oD h6 (oT h7 (oP h8 (oD h9 oZ))))))))) ih
theorem j1v (h1:i3 < 1000000000) (h2:¬ i2≥1000000000) (h3:0≤i5) (h4:r1[(Int.toNat i5)]?=some [.w i6]) (h5:0≤i11∧i11 < ((n0:Nat):Int)) (h6:r3[(Int.toNat i11)]?=some [.w i12]) (h7:¬ i8 > i14):Lp E 5 H6 1 (z2m i0 r0 r1 n0 n1 i1 i2 i3 r2 r3 r4) (.exit 2) (y0c i0 r0 r1 n0 n1 i1 r2 r3 r4 i2):=by subst e1 e2 e3 e4 e5 e6 e7 e8;exact lpX (oT h1 (oU h2 (oP h3 (oD h4 (oP h5 (oD h6 (oU h7 oZ)))))))
end
theorem j1w (h1:¬ i3 < 1000000000):Lp E 5 H6 1 (z2m i0 r0 r1 n0 n1 i1 i2 i3 r2 r3 r4) (.exit 2) (y0c i0 r0 r1 n0 n1 i1 r2 r3 r4 i2):=lpX (oU h1 oZ)
def y3z (i0:Int) (r0 r1:RW) (n0 n1:Nat) (i1:Int) (r2 r3 r4:RW):St:=stOf 176 [(8,.i i0),(9,.l r0),(10,.l r1),(11,.vec 3 n0),(12,.vec 4 n1),(13,.i i1)] [some .dead,some .dead,sV A3 r2,sV A3 r3,sV A3 r4]
def x0o (i0:Int) (r0:RW) (n0 n1:Nat) (r2 r5 r6:RW):St:=stOf 176 [(8,.i i0),(9,.l r0),(11,.vec 3 n0),(12,.vec 4 n1)] [some .dead,some .dead,sV A3 r2,sV A3 r5,sV A3 r6]
theorem j9n (e1:IntKind.i64.wrap (i1+i0)=i2) (e2:IntKind.u64.wrap i3=i4) (e3:IntKind.u64.wrap (i4*1000000000)=i5) (e4:IntKind.i64.wrap (i2 - 1)=i6) (e5:IntKind.u64.wrap i7=i8) (e6:IntKind.u64.wrap (i5+i8)=i9) (e7:IntKind.i64.wrap (i0 - 1)=i10) (e8:IntKind.u64.wrap i11=i12) (e9:IntKind.u64.wrap (Int.tdiv i9 i12)=i13) (e10:Int.tmod i9 i12=i14) (e11:List.set r4 (Int.toNat i1) [.w i16]=r8) (e12:IntKind.i64.wrap (i1 - 1)=i18) (h1:i1≥0) (h2:0≤i2∧i2 < ((n0:Nat):Int)) (h3:r3[(Int.toNat i2)]?=some [.w i3]) (h4:0≤i6∧i6 < ((n0:Nat):Int)) (h5:r3[(Int.toNat i6)]?=some [.w i7]) (h6:0≤i10) (h7:r1[(Int.toNat i10)]?=some [.w i11]) (h8:i12≠0) (h9:Lp E 5 H6 1 (z2m i0 r0 r1 n0 n1 i1 i13 i14 r2 r3 r4) (.exit 2) (y0c i0 r0 r1 n0 n1 i1 r2 r3 r4 i15)) (h10:Rn E F9 [.vec 3 n0,.l r1,.i i1,.c (.u64 i15)] [some .dead,some .dead,sV A3 r2,sV A3 r3,sV A3 r4] (.w i16) [some .dead,some .dead,sV A3 r2,sV A3 r7,sV A3 r4]) (h11:0≤i1∧i1 < ((n1:Nat):Int)) (h12:r4[(Int.toNat i1)]?=some [.w i17]) (ih:Lp E 5 H6 0 (y3z i0 r0 r1 n0 n1 i18 r2 r7 r8) o t):Lp E 5 H6 0 (y3z i0 r0 r1 n0 n1 i1 r2 r3 r4) o t:=by subst e1 e2 e3 e4 e5 e6 e7 e8 e9 e10 e11 e12;exact lpM (oT h1 (oP h2 (oD h3 (oP h4 (oD h5 (oP h6 (oD h7 (oP h8 (oP h6 (oD h7 (oP h8 (oL h9 (oV h10 (oP h11 (oD h12 oZ))))))))))))))) ih
theorem j1u (h1:¬ i1≥0):Lp E 5 H6 0 (y3z i0 r0 r1 n0 n1 i1 r2 r3 r4) (.exit 0) (x0o i0 r0 n0 n1 r2 r3 r4):=lpX (oU h1 oZ)
section
variable (h1:Fn E N0 [.l r0,.l r1] (.i i0))
include h1
theorem v9z (h2:i0 < 0):Fn E H6 [.l r0,.l r1] (.tup [.l [],.l r0]):=fnM (oF h1 (oT h2 oZ))
theorem w0a (h2:¬ i0 < 0) (h3:(r1.length:Int)=1) (h4:r1[0]?=some [.w i1]) (h5:Fn E z2i [.l r0,.w i1] (.tup [.l r2,.w i2])) (h6:Fn E z4r [.w i2] (.l r3)):Fn E H6 [.l r0,.l r1] (.tup [.l r2,.l r3]):=fnM (oF h1 (oU h2 (oB (beT h3) (oP (show (0:Int)≤0 from by decide) (oD h4 (oF h5 (oF h6 oZ)))))))
end
theorem w0b (e1:IntKind.i64.wrap ((r1.length:Int) - 1)=i1) (e2:IntKind.i64.wrap i3=i2) (e3:IntKind.i64.wrap (i2+1)=i4) (e4:IntKind.i64.wrap (Int.tdiv 1000000000 i4)=i5) (e5:IntKind.u32.wrap i5=i6) (e6:(([]:RW).take 0)++r6=r7) (e7:0+r6.length=n0) (e8:(r7.take n0)++[[.w 0],[.w 0]]=r8) (e9:n0+2=n1) (e10:IntKind.i64.wrap ((r0.length:Int)+1)=i7) (e11:(if ((n2:Nat):Int) > i7 then ((n2:Nat):Int) else i7)=i8) (e12:(Int.toNat i8)=n3) (e13:IntKind.i64.wrap (((n3:Nat):Int) - (r1.length:Int))=i9) (e14:Int.toNat i9=n4) (e15:List.replicate n4 [.w 0]=r9) (e16:IntKind.i64.wrap (i9 - 1)=i10) (e17:(Int.toNat (r1.length:Int))=n5) (e18:(r10.take n6)=r12) (e19:(r11.take n7)=r14) (h1:Fn E N0 [.l r0,.l r1] (.i i0)) (h2:¬ i0 < 0) (h3:¬ (r1.length:Int)=1) (h4:0≤i1) (h5:r1[(Int.toNat i1)]?=some [.w i3]) (h6:i4≠0) (h7:Fn E z4r [.w i6] (.l r4)) (h8:Fn E G4 [.l r1,.l r4] (.l r5)) (h9:Fn E G4 [.l r0,.l r4] (.l r6)) (h10:∀ y∈r6,y.length=1) (h11:(0+r6.length)*4≤140737488355328∧0+r6.length≤140737488355328) (h12:(n0+2)*4≤140737488355328∧n0+2≤140737488355328) (h13:Rn E K0 [.vec 3 n1] [some .dead,some .dead,sV A3 [[.w 0],[.w 0]],sV A3 r8] (.vec 3 n2) [some .dead,some .dead,sV A3 [[.w 0],[.w 0]],sV A3 r8]) (h14:0≤i8∧i8≤((n1:Nat):Int)) (h15:0≤i9∧i9≤i9∧(Int.toNat i9)*4≤140737488355328∧(Int.toNat i9)≤140737488355328) (h16:Lp E 5 H6 0 (y3z (r1.length:Int) r4 r5 n3 n4 i10 [[.w 0],[.w 0]] r8 r9) (.exit 0) (x0o (r1.length:Int) r4 n3 n4 [[.w 0],[.w 0]] r10 r11)) (h17:0≤(r1.length:Int)∧(r1.length:Int)≤((n3:Nat):Int)) (h18:Rn E K0 [.vec 3 n5] [some .dead,some .dead,sV A3 [[.w 0],[.w 0]],sV A3 r10,sV A3 r11] (.vec 3 n6) [some .dead,some .dead,sV A3 [[.w 0],[.w 0]],sV A3 r10,sV A3 r11]) (h19:r4[0]?=some [.w i11]) (h20:Fn E z2i [.l r12,.w i11] (.tup [.l r13,.w i12])) (h21:Rn E K0 [.vec 4 n4] [some .dead,some .dead,sV A3 [[.w 0],[.w 0]],sF r10,sV A3 r11] (.vec 4 n7) [some .dead,some .dead,sV A3 [[.w 0],[.w 0]],sF r10,sV A3 r11]):Fn E H6 [.l r0,.l r1] (.tup [.l r14,.l r13]):=by subst e1 e2 e3 e4 e5 e6 e7 e8 e9 e10 e11 e12 e13 e14 e15 e16 e17 e18 e19;exact fnM (oF h1 (oU h2 (oC (beF h3) (oP h4 (oD h5 (oP h6 (oF h7 (oF h8 (oF h9 (oP h10 (oP h11 (oP (show ∀ y∈([[.w 0],[.w 0]]:RW),y.length=1 from by simp) (oP h12 (oR h13 (oP h14 (oP h15 (oL h16 (oP h17 (oR h18 (oP (show (0:Int)≤0 from by decide) (oD h19 (oF h20 (oR h21 oZ)))))))))))))))))))))))
def z0g (r0 r1:RW) (n0:Nat) (i0 i1:Int) (r2:RW):St:=stOf 55 [(0,.l r0),(1,.l r1),(5,.vec 0 n0),(6,.w i0),(7,.i i1)] [sV A3 r2]
def x0p (n1:Nat) (r3:RW):St:=stOf 55 [(5,.vec 0 n1)] [sV A3 r3]
section
variable (e1:IntKind.u32.wrap (i0+i2)=i3)
include e1
theorem j9q (e2:IntKind.u32.wrap (i3+i4)=i5) (e3:Int.tmod i5 1000000000=i6) (e4:(r2.take n0)++[[.w i6]]=r4) (e5:n0+1=n2) (e6:IntKind.u32.wrap (Int.tdiv i5 1000000000)=i7) (e7:IntKind.i64.wrap (i1+1)=i8) (h1:i1 < (r0.length:Int)) (h2:0≤i1) (h3:r0[(Int.toNat i1)]?=some [.w i2]) (h4:i1 < (r1.length:Int)) (h5:r1[(Int.toNat i1)]?=some [.w i4]) (h6:(n0+1)*4≤140737488355328∧n0+1≤140737488355328) (ih:Lp E 0 X7 0 (z0g r0 r1 n2 i7 i8 r4) o t):Lp E 0 X7 0 (z0g r0 r1 n0 i0 i1 r2) o t:=by subst e1 e2 e3 e4 e5 e6 e7;exact lpM (oT h1 (oT h1 (oP h2 (oD h3 (oT h4 (oP h2 (oD h5 (oP (show (1000000000:Int)≠0 from by decide) (oP (show ∀ y∈([[.w (Int.tmod (IntKind.u32.wrap ((IntKind.u32.wrap (i0+i2))+i4)) 1000000000)]]:RW),y.length=1 from by simp) (oP h6 (oP (show (1000000000:Int)≠0 from by decide) oZ))))))))))) ih
section
variable (e2:Int.tmod i3 1000000000=i4) (e3:(r2.take n0)++[[.w i4]]=r5) (e4:n0+1=n3) (e5:IntKind.u32.wrap (Int.tdiv i3 1000000000)=i9) (e6:IntKind.i64.wrap (i1+1)=i10)
include e2 e3 e4 e5 e6
theorem j9r (h1:i1 < (r0.length:Int)) (h2:0≤i1) (h3:r0[(Int.toNat i1)]?=some [.w i2]) (h4:¬ i1 < (r1.length:Int)) (h5:(n0+1)*4≤140737488355328∧n0+1≤140737488355328) (ih:Lp E 0 X7 0 (z0g r0 r1 n3 i9 i10 r5) o t):Lp E 0 X7 0 (z0g r0 r1 n0 i0 i1 r2) o t:=by subst e1 e2 e3 e4 e5 e6;exact lpM (oT h1 (oT h1 (oP h2 (oD h3 (oU h4 (oP (show (1000000000:Int)≠0 from by decide) (oP (show ∀ y∈([[.w (Int.tmod (IntKind.u32.wrap (i0+i2)) 1000000000)]]:RW),y.length=1 from by simp) (oP h5 (oP (show (1000000000:Int)≠0 from by decide) oZ))))))))) ih
theorem j9s (h1:¬ i1 < (r0.length:Int)) (h2:i1 < (r1.length:Int)) (h3:0≤i1) (h4:r1[(Int.toNat i1)]?=some [.w i2]) (h5:(n0+1)*4≤140737488355328∧n0+1≤140737488355328) (ih:Lp E 0 X7 0 (z0g r0 r1 n3 i9 i10 r5) o t):Lp E 0 X7 0 (z0g r0 r1 n0 i0 i1 r2) o t:=by subst e1 e2 e3 e4 e5 e6;exact lpM (oU h1 (oT h2 (oU h1 (oT h2 (oP h3 (oD h4 (oP (show (1000000000:Int)≠0 from by decide) (oP (show ∀ y∈([[.w (Int.tmod (IntKind.u32.wrap (i0+i2)) 1000000000)]]:RW),y.length=1 from by simp) (oP h5 (oP (show (1000000000:Int)≠0 from by decide) oZ)))))))))) ih
end
end
theorem j9t (e1:Int.tmod i0 1000000000=i2) (e2:(r2.take n0)++[[.w i2]]=r6) (e3:n0+1=n4) (e4:IntKind.u32.wrap (Int.tdiv i0 1000000000)=i5) (e5:IntKind.i64.wrap (i1+1)=i6) (h1:¬ i1 < (r0.length:Int)) (h2:¬ i1 < (r1.length:Int)) (h3:i0 > 0) (h4:(n0+1)*4≤140737488355328∧n0+1≤140737488355328) (ih:Lp E 0 X7 0 (z0g r0 r1 n4 i5 i6 r6) o t):Lp E 0 X7 0 (z0g r0 r1 n0 i0 i1 r2) o t:=by subst e1 e2 e3 e4 e5;exact lpM (oU h1 (oU h2 (oT h3 (oU h1 (oU h2 (oP (show (1000000000:Int)≠0 from by decide) (oP (show ∀ y∈([[.w (Int.tmod i0 1000000000)]]:RW),y.length=1 from by simp) (oP h4 (oP (show (1000000000:Int)≠0 from by decide) oZ))))))))) ih
theorem j1x (h1:¬ i1 < (r0.length:Int)) (h2:¬ i1 < (r1.length:Int)) (h3:¬ i0 > 0):Lp E 0 X7 0 (z0g r0 r1 n0 i0 i1 r2) (.exit 0) (x0p n0 r2):=lpX (oU h1 (oU h2 (oU h3 oZ)))
theorem w0c (e1:(r2.take n1)=r3) (h1:Lp E 0 X7 0 (z0g r0 r1 0 0 0 []) (.exit 0) (x0p n0 r2)) (h2:Rn E K0 [.vec 0 n0] [sV A3 r2] (.vec 0 n1) [sV A3 r2]):Fn E X7 [.l r0,.l r1] (.l r3):=by subst e1;exact fnM (oM [(5,A3)] h1 (oR h2 oZ))
def O7 (r0 r1:RW) (n0:Nat) (i0 i1:Int) (r2:RW):St:=stOf 44 [(0,.l r0),(1,.l r1),(5,.vec 0 n0),(6,.i i0),(7,.i i1)] [sV A3 r2]
def y2z (n1:Nat) (r3:RW):St:=stOf 44 [(5,.vec 0 n1)] [sV A3 r3]
section
variable (e1:IntKind.i64.wrap i2=i3) (e2:IntKind.i64.wrap (i3 - i0)=i4)
include e1 e2
section
variable (e3:IntKind.i64.wrap i5=i6) (e4:IntKind.i64.wrap (i4 - i6)=i7)
include e3 e4
theorem j5i (e5:IntKind.i64.wrap (i7+1000000000)=i8) (e6:IntKind.u32.wrap i8=i9) (e7:(r2.take n0)++[[.w i9]]=r4) (e8:n0+1=n2) (e9:IntKind.i64.wrap (i1+1)=i10) (h1:i1 < (r0.length:Int)) (h2:0≤i1) (h3:r0[(Int.toNat i1)]?=some [.w i2]) (h4:i1 < (r1.length:Int)) (h5:r1[(Int.toNat i1)]?=some [.w i5]) (h6:i7 < 0) (h7:(n0+1)*4≤140737488355328∧n0+1≤140737488355328) (ih:Lp E 0 J4 0 (O7 r0 r1 n2 1 i10 r4) o t):Lp E 0 J4 0 (O7 r0 r1 n0 i0 i1 r2) o t:=by subst e1 e2 e3 e4 e5 e6 e7 e8 e9;exact lpM (oT h1 (oP h2 (oD h3 (oT h4 (oP h2 (oD h5 (oT h6 (oP (show ∀ y∈([[.w (IntKind.u32.wrap (IntKind.i64.wrap ((IntKind.i64.wrap ((IntKind.i64.wrap ((IntKind.i64.wrap i2) - i0)) - (IntKind.i64.wrap i5)))+1000000000)))]]:RW),y.length=1 from by simp) (oP h7 oZ))))))))) ih
theorem j5j (e5:IntKind.u32.wrap i7=i8) (e6:(r2.take n0)++[[.w i8]]=r5) (e7:n0+1=n3) (e8:IntKind.i64.wrap (i1+1)=i11) (h1:i1 < (r0.length:Int)) (h2:0≤i1) (h3:r0[(Int.toNat i1)]?=some [.w i2]) (h4:i1 < (r1.length:Int)) (h5:r1[(Int.toNat i1)]?=some [.w i5]) (h6:¬ i7 < 0) (h7:(n0+1)*4≤140737488355328∧n0+1≤140737488355328) (ih:Lp E 0 J4 0 (O7 r0 r1 n3 0 i11 r5) o t):Lp E 0 J4 0 (O7 r0 r1 n0 i0 i1 r2) o t:=by subst e1 e2 e3 e4 e5 e6 e7 e8;exact lpM (oT h1 (oP h2 (oD h3 (oT h4 (oP h2 (oD h5 (oU h6 (oP (show ∀ y∈([[.w (IntKind.u32.wrap (IntKind.i64.wrap ((IntKind.i64.wrap ((IntKind.i64.wrap i2) - i0)) - (IntKind.i64.wrap i5))))]]:RW),y.length=1 from by simp) (oP h7 oZ))))))))) ih
end
theorem j5k (e3:IntKind.i64.wrap (i4+1000000000)=i5) (e4:IntKind.u32.wrap i5=i6) (e5:(r2.take n0)++[[.w i6]]=r6) (e6:n0+1=n4) (e7:IntKind.i64.wrap (i1+1)=i9) (h1:i1 < (r0.length:Int)) (h2:0≤i1) (h3:r0[(Int.toNat i1)]?=some [.w i2]) (h4:¬ i1 < (r1.length:Int)) (h5:i4 < 0) (h6:(n0+1)*4≤140737488355328∧n0+1≤140737488355328) (ih:Lp E 0 J4 0 (O7 r0 r1 n4 1 i9 r6) o t):Lp E 0 J4 0 (O7 r0 r1 n0 i0 i1 r2) o t:=by subst e1 e2 e3 e4 e5 e6 e7;exact lpM (oT h1 (oP h2 (oD h3 (oU h4 (oT h5 (oP (show ∀ y∈([[.w (IntKind.u32.wrap (IntKind.i64.wrap ((IntKind.i64.wrap ((IntKind.i64.wrap i2) - i0))+1000000000)))]]:RW),y.length=1 from by simp) (oP h6 oZ))))))) ih
theorem j5l (e3:IntKind.u32.wrap i4=i5) (e4:(r2.take n0)++[[.w i5]]=r7) (e5:n0+1=n5) (e6:IntKind.i64.wrap (i1+1)=i8) (h1:i1 < (r0.length:Int)) (h2:0≤i1) (h3:r0[(Int.toNat i1)]?=some [.w i2]) (h4:¬ i1 < (r1.length:Int)) (h5:¬ i4 < 0) (h6:(n0+1)*4≤140737488355328∧n0+1≤140737488355328) (ih:Lp E 0 J4 0 (O7 r0 r1 n5 0 i8 r7) o t):Lp E 0 J4 0 (O7 r0 r1 n0 i0 i1 r2) o t:=by subst e1 e2 e3 e4 e5 e6;exact lpM (oT h1 (oP h2 (oD h3 (oU h4 (oU h5 (oP (show ∀ y∈([[.w (IntKind.u32.wrap (IntKind.i64.wrap ((IntKind.i64.wrap i2) - i0)))]]:RW),y.length=1 from by simp) (oP h6 oZ))))))) ih
end
theorem k7s (h1:¬ i1 < (r0.length:Int)):Lp E 0 J4 0 (O7 r0 r1 n0 i0 i1 r2) (.exit 0) (y2z n0 r2):=lpX (oU h1 oZ)
theorem v4c (e1:(r2.take n1)=r3) (h1:Lp E 0 J4 0 (O7 r0 r1 0 0 0 []) (.exit 0) (y2z n0 r2)) (h2:Rn E K0 [.vec 0 n0] [sV A3 r2] (.vec 0 n1) [sV A3 r2]):Fn E J4 [.l r0,.l r1] (.l r3):=by subst e1;exact fnM (oM [(5,A3)] h1 (oR h2 oZ))
def y4a (r0:RW) (i0 i1:Int):St:=stOf 21 [(0,.l r0),(3,.c (.u64 i0)),(4,.i i1)] []
def x0q (i2:Int):St:=stOf 21 [(3,.c (.u64 i2))] []
theorem j9x (e1:IntKind.u64.wrap (i0*1000000000)=i3) (e2:IntKind.u64.wrap i4=i5) (e3:IntKind.u64.wrap (i3+i5)=i6) (e4:IntKind.i64.wrap (i1 - 1)=i7) (h1:i1≥0) (h2:0≤i1) (h3:r0[(Int.toNat i1)]?=some [.w i4]) (ih:Lp E 0 z4c 0 (y4a r0 i6 i7) o t):Lp E 0 z4c 0 (y4a r0 i0 i1) o t:=by subst e1 e2 e3 e4;exact lpM (oT h1 (oP h2 (oD h3 oZ))) ih
theorem j2d (h1:¬ i1≥0):Lp E 0 z4c 0 (y4a r0 i0 i1) (.exit 0) (x0q i0):=lpX (oU h1 oZ)
theorem w0f (e1:IntKind.i64.wrap ((r0.length:Int) - 1)=i0) (h1:Lp E 0 z4c 0 (y4a r0 0 i0) (.exit 0) (x0q i1)):Fn E z4c [.l r0] (.c (.u64 i1)):=by subst e1;exact fnM (oL h1 oZ)
theorem w0e (e1:Int.tmod i0 1000000000=i1) (e2:IntKind.u32.wrap i1=i2) (e3:IntKind.u64.wrap (Int.tdiv i0 1000000000)=i3) (e4:Int.tmod i3 1000000000=i4) (e5:IntKind.u32.wrap i4=i5) (e6:IntKind.u64.wrap (Int.tdiv i3 1000000000)=i6) (e7:IntKind.u32.wrap i6=i7) (e8:(([[.w i2],[.w i5],[.w i7]]:RW).take n0)=r0) (h1:Rn E K0 [.vec 0 3] [sV A3 [[.w i2],[.w i5],[.w i7]]] (.vec 0 n0) [sV A3 [[.w i2],[.w i5],[.w i7]]]):Fn E x7j [.c (.u64 i0)] (.l r0):=by subst e1 e2 e3 e4 e5 e6 e7 e8;exact fnM (oP (show (1000000000:Int)≠0 from by decide) (oP (show (1000000000:Int)≠0 from by decide) (oP (show (1000000000:Int)≠0 from by decide) (oP (show (1000000000:Int)≠0 from by decide) (oP (show (1000000000:Int)≠0 from by decide) (oR h1 oZ))))))
def y2f (r0:RW) (i0:Int) (n0:Nat) (i1 i2:Int) (r1:RW):St:=stOf 44 [(0,.l r0),(1,.w i0),(6,.vec 0 n0),(7,.c (.u64 i1)),(8,.i i2)] [sV A3 r1]
def y8f (n0:Nat) (i3:Int) (r2:RW):St:=stOf 44 [(6,.vec 0 n0),(7,.c (.u64 i3))] [sV A3 r2]
theorem j5q (e1:IntKind.u64.wrap (i1*1000000000)=i4) (e2:IntKind.u64.wrap i5=i6) (e3:IntKind.u64.wrap (i4+i6)=i7) (e4:IntKind.u64.wrap i0=i8) (e5:IntKind.u64.wrap (Int.tdiv i7 i8)=i9) (e6:IntKind.u32.wrap i9=i10) (e7:List.set r1 (Int.toNat i2) [.w i10]=r3) (e8:Int.tmod i7 i8=i12) (e9:IntKind.i64.wrap (i2 - 1)=i13) (h1:i2≥0) (h2:0≤i2) (h3:r0[(Int.toNat i2)]?=some [.w i5]) (h4:i8≠0) (h5:0≤i2∧i2 < ((n0:Nat):Int)) (h6:r1[(Int.toNat i2)]?=some [.w i11]) (ih:Lp E 1 z2i 0 (y2f r0 i0 n0 i12 i13 r3) o t):Lp E 1 z2i 0 (y2f r0 i0 n0 i1 i2 r1) o t:=by subst e1 e2 e3 e4 e5 e6 e7 e8 e9;exact lpM (oT h1 (oP h2 (oD h3 (oP h4 (oP h5 (oD h6 (oP h4 oZ))))))) ih
theorem k7y (h1:¬ i2≥0):Lp E 1 z2i 0 (y2f r0 i0 n0 i1 i2 r1) (.exit 0) (y8f n0 i1 r1):=lpX (oU h1 oZ)
theorem v4m (e1:Int.toNat (r0.length:Int)=n0) (e2:List.replicate n0 [.w 0]=r1) (e3:IntKind.i64.wrap ((r0.length:Int) - 1)=i1) (e4:IntKind.u32.wrap i2=i3) (e5:(r2.take n1)=r3) (h1:0≤(r0.length:Int)∧(r0.length:Int)≤(r0.length:Int)∧(Int.toNat (r0.length:Int))*4≤140737488355328∧(Int.toNat (r0.length:Int))≤140737488355328) (h2:Lp E 1 z2i 0 (y2f r0 i0 n0 0 i1 r1) (.exit 0) (y8f n0 i2 r2)) (h3:Rn E K0 [.vec 0 n0] [sV A3 r2] (.vec 0 n1) [sV A3 r2]):Fn E z2i [.l r0,.w i0] (.tup [.l r3,.w i3]):=by subst e1 e2 e3 e4 e5;exact fnM (oP h1 (oL h2 (oR h3 oZ)))
def P8 (n0:Nat) (r0:RW) (i0 i1 i2 i3 i4 i5:Int) (r1:RW):St:=stOf 136 [(0,.vec 0 n0),(1,.l r0),(2,.i i0),(3,.c (.u64 i1)),(9,.i i2),(10,.i i3),(11,.c (.u64 i4)),(12,.i i5)] [sV A3 r1]
def z3l (n0:Nat) (r0:RW) (i0 i1 i2 i6 i7:Int) (r2:RW):St:=stOf 136 [(0,.vec 0 n0),(1,.l r0),(2,.i i0),(3,.c (.u64 i1)),(9,.i i2),(10,.i i6),(11,.c (.u64 i7))] [sV A3 r2]
section
variable (e1:IntKind.u64.wrap i8=i9) (e2:IntKind.u64.wrap (i1*i9)=i10) (e3:IntKind.u64.wrap (i10+i4)=i11) (e4:IntKind.u64.wrap (Int.tdiv i11 1000000000)=i12) (e5:IntKind.i64.wrap (i0+i5)=i13) (e6:IntKind.i64.wrap i14=i15) (e7:Int.tmod i11 1000000000=i16) (e8:IntKind.i64.wrap i16=i17) (e9:IntKind.i64.wrap (i15 - i17)=i18) (e10:IntKind.i64.wrap (i18 - i3)=i19)
include e1 e2 e3 e4 e5 e6 e7 e8 e9 e10
theorem j1y (e11:IntKind.i64.wrap (i19+1000000000)=i20) (e12:IntKind.u32.wrap i20=i21) (e13:List.set r1 (Int.toNat i13) [.w i21]=r3) (e14:IntKind.i64.wrap (i5+1)=i22) (h1:i5 < i2) (h2:0≤i5) (h3:r0[(Int.toNat i5)]?=some [.w i8]) (h4:0≤i13∧i13 < ((n0:Nat):Int)) (h5:r1[(Int.toNat i13)]?=some [.w i14]) (h6:i19 < 0) (ih:Lp E 1 F9 0 (P8 n0 r0 i0 i1 i2 1 i12 i22 r3) o t):Lp E 1 F9 0 (P8 n0 r0 i0 i1 i2 i3 i4 i5 r1) o t:=by subst e1 e2 e3 e4 e5 e6 e7 e8 e9 e10 e11 e12 e13 e14;exact lpM (oT h1 (oP h2 (oD h3 (oP (show (1000000000:Int)≠0 from by decide) (oP h4 (oD h5 (oP (show (1000000000:Int)≠0 from by decide) (oT h6 (oP h4 (oD h5 oZ)))))))))) ih
theorem j1z (e11:IntKind.u32.wrap i19=i20) (e12:List.set r1 (Int.toNat i13) [.w i20]=r4) (e13:IntKind.i64.wrap (i5+1)=i23) (h1:i5 < i2) (h2:0≤i5) (h3:r0[(Int.toNat i5)]?=some [.w i8]) (h4:0≤i13∧i13 < ((n0:Nat):Int)) (h5:r1[(Int.toNat i13)]?=some [.w i14]) (h6:¬ i19 < 0) (ih:Lp E 1 F9 0 (P8 n0 r0 i0 i1 i2 0 i12 i23 r4) o t):Lp E 1 F9 0 (P8 n0 r0 i0 i1 i2 i3 i4 i5 r1) o t:=by subst e1 e2 e3 e4 e5 e6 e7 e8 e9 e10 e11 e12 e13;exact lpM (oT h1 (oP h2 (oD h3 (oP (show (1000000000:Int)≠0 from by decide) (oP h4 (oD h5 (oP (show (1000000000:Int)≠0 from by decide) (oU h6 (oP h4 (oD h5 oZ)))))))))) ih
end
theorem k3x (h1:¬ i5 < i2):Lp E 1 F9 0 (P8 n0 r0 i0 i1 i2 i3 i4 i5 r1) (.exit 0) (z3l n0 r0 i0 i1 i2 i3 i4 r1):=lpX (oU h1 oZ)
def z6j (n0:Nat) (r0:RW) (i0 i1 i2 i3 i4:Int) (r1:RW):St:=stOf 136 [(0,.vec 0 n0),(1,.l r0),(2,.i i0),(3,.c (.u64 i1)),(9,.i i2),(16,.w i3),(17,.i i4)] [sV A3 r1]
def y1f (n0:Nat) (i0 i1 i2 i5:Int) (r2:RW):St:=stOf 136 [(0,.vec 0 n0),(2,.i i0),(3,.c (.u64 i1)),(9,.i i2),(16,.w i5)] [sV A3 r2]
theorem j2a (e1:IntKind.i64.wrap (i0+i4)=i6) (e2:IntKind.u32.wrap (i7+i8)=i9) (e3:IntKind.u32.wrap (i9+i3)=i10) (e4:Int.tmod i10 1000000000=i11) (e5:List.set r1 (Int.toNat i6) [.w i11]=r3) (e6:IntKind.u32.wrap (Int.tdiv i10 1000000000)=i12) (e7:IntKind.i64.wrap (i4+1)=i13) (h1:i4 < i2) (h2:0≤i6∧i6 < ((n0:Nat):Int)) (h3:r1[(Int.toNat i6)]?=some [.w i7]) (h4:0≤i4) (h5:r0[(Int.toNat i4)]?=some [.w i8]) (ih:Lp E 1 F9 1 (z6j n0 r0 i0 i1 i2 i12 i13 r3) o t):Lp E 1 F9 1 (z6j n0 r0 i0 i1 i2 i3 i4 r1) o t:=by subst e1 e2 e3 e4 e5 e6 e7;exact lpM (oT h1 (oP h2 (oD h3 (oP h4 (oD h5 (oP (show (1000000000:Int)≠0 from by decide) (oP h2 (oD h3 (oP (show (1000000000:Int)≠0 from by decide) oZ))))))))) ih
theorem k3y (h1:¬ i4 < i2):Lp E 1 F9 1 (z6j n0 r0 i0 i1 i2 i3 i4 r1) (.exit 2) (y1f n0 i0 i1 i2 i3 r1):=lpX (oU h1 oZ)
section
variable (e1:IntKind.i64.wrap (i0+(r1.length:Int))=i4) (e2:IntKind.i64.wrap i5=i6) (e3:IntKind.i64.wrap i3=i7) (e4:IntKind.i64.wrap (i6 - i7)=i8) (e5:IntKind.i64.wrap (i8 - i2)=i9)
include e1 e2 e3 e4 e5
theorem q9m (e6:IntKind.u32.wrap i9=i10) (e7:List.set r2 (Int.toNat i4) [.w i10]=r3) (e8:IntKind.u32.wrap i1=i11) (h1:Lp E 1 F9 0 (P8 n0 r1 i0 i1 (r1.length:Int) 0 0 0 r0) (.exit 0) (z3l n0 r1 i0 i1 (r1.length:Int) i2 i3 r2)) (h2:0≤i4∧i4 < ((n0:Nat):Int)) (h3:r2[(Int.toNat i4)]?=some [.w i5]) (h4:i9≥0):Rn E F9 [.vec 0 n0,.l r1,.i i0,.c (.u64 i1)] [sV A3 r0] (.w i11) [sV A3 r3]:=by subst e1 e2 e3 e4 e5 e6 e7 e8;exact rnM (oL h1 (oP h2 (oD h3 (oT h4 (oP h2 (oD h3 oZ))))))
theorem q9n (e6:IntKind.i64.wrap (i9+1000000000)=i10) (e7:IntKind.u32.wrap i10=i12) (e8:List.set r2 (Int.toNat i4) [.w i12]=r4) (e9:IntKind.u32.wrap (i14+i13)=i15) (e10:Int.tmod i15 1000000000=i16) (e11:List.set r5 (Int.toNat i4) [.w i16]=r6) (e12:IntKind.u64.wrap (i1 - 1)=i17) (e13:IntKind.u32.wrap i17=i18) (h1:Lp E 1 F9 0 (P8 n0 r1 i0 i1 (r1.length:Int) 0 0 0 r0) (.exit 0) (z3l n0 r1 i0 i1 (r1.length:Int) i2 i3 r2)) (h2:0≤i4∧i4 < ((n0:Nat):Int)) (h3:r2[(Int.toNat i4)]?=some [.w i5]) (h4:¬ i9≥0) (h5:Lp E 1 F9 1 (z6j n0 r1 i0 i1 (r1.length:Int) 0 0 r4) (.exit 2) (y1f n0 i0 i1 (r1.length:Int) i13 r5)) (h6:r5[(Int.toNat i4)]?=some [.w i14]):Rn E F9 [.vec 0 n0,.l r1,.i i0,.c (.u64 i1)] [sV A3 r0] (.w i18) [sV A3 r6]:=by subst e1 e2 e3 e4 e5 e6 e7 e8 e9 e10 e11 e12 e13;exact rnM (oL h1 (oP h2 (oD h3 (oU h4 (oP h2 (oD h3 (oL h5 (oP h2 (oD h6 (oP (show (1000000000:Int)≠0 from by decide) (oP h2 (oD h6 oZ))))))))))))
end
end Gev
namespace Gev
open Go Go.Proofs
variable {E:Env}
variable {r0 r1 r2 r3 r4 r5:RW} {i0 i1 i2:Int} {s0 s1:BA} {b0 b1 b2 b3:Bool}
theorem w6q (e1:(⟨#[45]⟩:BA)++s0=s1) (h1:Fn E J5 [.l r0] (.s s0)) (h2:(⟨#[45]⟩:BA).size+s0.size≤9223372036854775807):Fn E x2d [.z true r0] (.s s1):=by subst e1;exact fnM (oF h1 (oP h2 oZ))
theorem w6r (h1:Fn E J5 [.l r0] (.s s0)):Fn E x2d [.z false r0] (.s s0):=fnM (oF h1 oZ)
theorem q9o:Fn E z5e [.z true r0] (.i (-1)):=fnM oZ
theorem q9p (h1:(r0.length:Int) > 0):Fn E z5e [.z false r0] (.i 1):=fnM (oT h1 oZ)
theorem q9q (h1:¬ (r0.length:Int) > 0):Fn E z5e [.z false r0] (.i 0):=fnM (oU h1 oZ)
theorem v4o (e1:IntKind.i64.wrap (0 - i0)=i1) (e2:IntKind.u32.wrap i1=i2) (h1:i0 < 0) (h2:Fn E z4r [.w i2] (.l r0)) (h3:Fn E M9 [.b true,.l r0] (.z b0 r1)):Fn E y9i [.i i0] (.z b0 r1):=by subst e1 e2;exact fnM (oT h1 (oF h2 (oF h3 oZ)))
theorem v4p (e1:IntKind.u32.wrap i0=i1) (h1:¬ i0 < 0) (h2:Fn E z4r [.w i1] (.l r2)) (h3:Fn E M9 [.b false,.l r2] (.z b1 r3)):Fn E y9i [.i i0] (.z b1 r3):=by subst e1;exact fnM (oU h1 (oF h2 (oF h3 oZ)))
theorem v4q (e1:(!(b0 == b1))=b2) (h1:Fn E G4 [.l r0,.l r1] (.l r2)) (h2:Fn E M9 [.b b2,.l r2] (.z b3 r3)):Fn E x4p [.z b0 r0,.z b1 r1] (.z b3 r3):=by subst e1;exact fnM (oK (oF h1 (oF h2 oZ)))
theorem w0j (h1:b0=b1) (h2:Fn E X7 [.l r0,.l r1] (.l r2)) (h3:Fn E M9 [.b b0,.l r2] (.z b2 r3)):Fn E z8u [.z b0 r0,.z b1 r1] (.z b2 r3):=fnM (oB (beT h1) (oF h2 (oF h3 oZ)))
section
variable (h1:¬ b0=b1) (h2:Fn E N0 [.l r0,.l r1] (.i i0))
include h1 h2
theorem w0k (h3:i0≥0) (h4:Fn E J4 [.l r0,.l r1] (.l r4)) (h5:Fn E M9 [.b b0,.l r4] (.z b3 r5)):Fn E z8u [.z b0 r0,.z b1 r1] (.z b3 r5):=fnM (oC (beF h1) (oF h2 (oT h3 (oF h4 (oF h5 oZ)))))
theorem w0l (h3:¬ i0≥0) (h4:Fn E J4 [.l r1,.l r0] (.l r4)) (h5:Fn E M9 [.b b1,.l r4] (.z b3 r5)):Fn E z8u [.z b0 r0,.z b1 r1] (.z b3 r5):=fnM (oC (beF h1) (oF h2 (oU h3 (oF h4 (oF h5 oZ)))))
end
theorem w0g (h1:(r0.length:Int) > 0):Fn E M9 [.b true,.l r0] (.z true r0):=fnM (oT h1 oZ)
theorem w0h (h1:¬ (r0.length:Int) > 0):Fn E M9 [.b true,.l r0] (.z false r0):=fnM (oU h1 oZ)
theorem w0i:Fn E M9 [.b false,.l r0] (.z false r0):=fnM oZ
section
variable (e1:((s0.data.toList.getD 0 0).toNat:Int)=i0)
include e1
theorem v4r (e2:s0.extract 1 (Int.toNat (s0.size:Int))=s1) (h1:(s0.size:Int) > 1) (h2:0≤(0:Int)∧(0:Int) < s0.size) (h3:i0=45) (h4:¬ s0=(⟨#[45,48]⟩:BA)) (h5:0≤(1:Int)∧(1:Int)≤(s0.size:Int)∧(s0.size:Int)≤s0.size) (h6:Fn E G7 [.s s1] (.b b0)):Fn E z2j [.s s0] (.b b0):=by subst e1 e2;exact fnM (oT h1 (oP h2 (oB (beT h3) (oB (snT h4) (oP h5 (oF h6 oZ))))))
section
variable (h1:(s0.size:Int) > 1) (h2:0≤(0:Int)∧(0:Int) < s0.size)
include h1 h2
theorem v4s (h3:i0=45) (h4:s0=(⟨#[45,48]⟩:BA)):Fn E z2j [.s s0] (.b false):=by subst e1;exact fnM (oT h1 (oP h2 (oB (beT h3) (oC (snF h4) oZ))))
theorem v4t (h3:¬ i0=45) (h4:Fn E G7 [.s s0] (.b b1)):Fn E z2j [.s s0] (.b b1):=by subst e1;exact fnM (oT h1 (oP h2 (oC (beF h3) (oF h4 oZ))))
end
end
theorem k9v (h1:¬ (s0.size:Int) > 1) (h2:Fn E G7 [.s s0] (.b b2)):Fn E z2j [.s s0] (.b b2):=fnM (oU h1 (oF h2 oZ))
section
variable (e1:((s0.data.toList.getD 0 0).toNat:Int)=i0)
include e1
theorem w0m (e2:s0.extract 1 (Int.toNat (s0.size:Int))=s1) (h1:0≤(0:Int)∧(0:Int) < s0.size) (h2:i0=45) (h3:0≤(1:Int)∧(1:Int)≤(s0.size:Int)∧(s0.size:Int)≤s0.size) (h4:Fn E O3 [.s s1] (.l r0)):Fn E y5v [.s s0] (.z true r0):=by subst e1 e2;exact fnM (oP h1 (oB (beT h2) (oP h3 (oF h4 oZ))))
theorem w0n (h1:0≤(0:Int)∧(0:Int) < s0.size) (h2:¬ i0=45) (h3:Fn E O3 [.s s0] (.l r1)):Fn E y5v [.s s0] (.z false r1):=by subst e1;exact fnM (oP h1 (oC (beF h2) (oF h3 oZ)))
end
theorem w3p (h1:Fn E x4o [.z b0 r0,.z b1 r1] (.z b2 r2)) (h2:Fn E z5e [.z b2 r2] (.i i0)):Fn E k1m [.z b0 r0,.z b1 r1] (.i i0):=fnM (oF h1 (oF h2 oZ))
theorem j9y (h1:Fn E M9 [.b (!b0),.l r0] (.z b1 r1)):Fn E y2q [.z b0 r0] (.z b1 r1):=fnM (oF h1 oZ)
theorem v4n (h1:Fn E y2q [.z b1 r1] (.z b2 r2)) (h2:Fn E z8u [.z b0 r0,.z b2 r2] (.z b3 r3)):Fn E x4o [.z b0 r0,.z b1 r1] (.z b3 r3):=fnM (oF h1 (oF h2 oZ))
end Gev
namespace Gev
open Go Go.Proofs
variable {E:Env}
variable {o:Out} {t:St} {r0 r1 r2 r3 r4 r5 r6 r7 r8 r9 r10 r11 r12 r13:RW} {i0 i1 i2 i3:Int} {s0 s1 s2 s3 s4:BA} {b0 b1 b2 b3 b4 b5 b6 b7:Bool}
theorem w6s (e1:(⟨#[47]⟩:BA)++s1=s2) (e2:s0++s2=s3) (h1:Fn E x2d [.z b0 r0] (.s s0)) (h2:Fn E J5 [.l r1] (.s s1)) (h3:¬ s1=(⟨#[49]⟩:BA)) (h4:(⟨#[47]⟩:BA).size+s1.size≤9223372036854775807) (h5:s0.size+s2.size≤9223372036854775807):Fn E z5f [.q b0 r0 r1] (.s s3):=by subst e1 e2;exact fnM (oF h1 (oF h2 (oB (snT h3) (oP h4 (oP h5 oZ)))))
theorem w6t (h1:Fn E x2d [.z b0 r0] (.s s0)) (h2:Fn E J5 [.l r1] (.s s1)) (h3:s1=(⟨#[49]⟩:BA)):Fn E z5f [.q b0 r0 r1] (.s s0):=fnM (oF h1 (oF h2 (oC (snF h3) oZ)))
theorem w0w (h1:Fn E z5e [.z b0 r0] (.i i0)):Fn E V5 [.q b0 r0 r1] (.i i0):=fnM (oF h1 oZ)
theorem w3v (h1:Fn E y9i [.i i0] (.z b0 r0)) (h2:Fn E z4r [.w 1] (.l r1)):Fn E Z4 [.i i0] (.q b0 r0 r1):=fnM (oF h1 (oF h2 oZ))
theorem w3w (h1:Fn E x4p [.z b0 r0,.z b1 r2] (.z b2 r4)) (h2:Fn E G4 [.l r1,.l r3] (.l r5)) (h3:Fn E z5g [.z b2 r4,.l r5] (.q b3 r6 r7)):Fn E z6l [.q b0 r0 r1,.q b1 r2 r3] (.q b3 r6 r7):=fnM (oF h1 (oF h2 (oF h3 oZ)))
section
variable (h1:Fn E N0 [.l r1,.l r3] (.i i0))
include h1
theorem w3q (h2:i0=0) (h3:Fn E z8u [.z b0 r0,.z b1 r2] (.z b2 r4)) (h4:Fn E z5g [.z b2 r4,.l r1] (.q b3 r5 r6)):Fn E z2t [.q b0 r0 r1,.q b1 r2 r3] (.q b3 r5 r6):=fnM (oF h1 (oB (beT h2) (oF h3 (oF h4 oZ))))
theorem w3r (h2:¬ i0=0) (h3:Fn E G4 [.l r0,.l r3] (.l r7)) (h4:Fn E M9 [.b b0,.l r7] (.z b4 r8)) (h5:Fn E G4 [.l r2,.l r1] (.l r5)) (h6:Fn E M9 [.b b1,.l r5] (.z b5 r9)) (h7:Fn E z8u [.z b4 r8,.z b5 r9] (.z b6 r10)) (h8:Fn E G4 [.l r1,.l r3] (.l r11)) (h9:Fn E z5g [.z b6 r10,.l r11] (.q b7 r12 r13)):Fn E z2t [.q b0 r0 r1,.q b1 r2 r3] (.q b7 r12 r13):=fnM (oF h1 (oC (beF h2) (oF h3 (oF h4 (oF h5 (oF h6 (oF h7 (oF h8 (oF h9 oZ)))))))))
end
section
variable (h1:Fn E y9q [.q b0 r0 r1,.q b1 r2 r3] (.i i0))
include h1
theorem w0u (h2:i0 < 0):Fn E K1 [.q b0 r0 r1,.q b1 r2 r3] (.b true):=fnM (oF h1 (oT h2 oZ))
theorem w0v (h2:¬ i0 < 0):Fn E K1 [.q b0 r0 r1,.q b1 r2 r3] (.b false):=fnM (oF h1 (oU h2 oZ))
end
theorem w3y (h1:Fn E k1n [.q b1 r2 r3] (.q b2 r4 r5)) (h2:Fn E z2t [.q b0 r0 r1,.q b2 r4 r5] (.q b3 r6 r7)):Fn E y1t [.q b0 r0 r1,.q b1 r2 r3] (.q b3 r6 r7):=fnM (oF h1 (oF h2 oZ))
theorem v4u (h1:Fn E z1b [.s s0] (.tup [.q b0 r0 r1,.b b1])):Fn E G0 [.s s0] (.b b1):=fnM (oF h1 oZ)
section
variable (h1:Fn E X0 [.s s0] (.tup [.s s1,.s s2,.b true])) (h2:Fn E z2j [.s s1] (.b true)) (h3:Fn E G7 [.s s2] (.b true)) (h4:Fn E y5v [.s s1] (.z b0 r0)) (h5:Fn E O3 [.s s2] (.l r1)) (h6:Fn E z4r [.w 1] (.l r2)) (h7:Fn E N0 [.l r1,.l r2] (.i i0))
include h1 h2 h3 h4 h5 h6 h7
section
variable (h8:i0 > 0) (h9:Fn E z5e [.z b0 r0] (.i i1))
include h8 h9
section
variable (h10:¬ i1=0) (h11:Fn E H4 [.l r0,.l r1] (.l r3)) (h12:Fn E N0 [.l r3,.l r2] (.i i2))
include h10 h11 h12
theorem w0o (h13:i2=0):Fn E z1b [.s s0] (.tup [.q b0 r0 r1,.b true]):=fnM (oF h1 (oF h2 (oF h3 (oF h4 (oF h5 (oF h6 (oF h7 (oT h8 (oF h9 (oB (bnT h10) (oF h11 (oF h12 (oB (beT h13) oZ)))))))))))))
theorem w0p (h13:¬ i2=0) (h14:Fn E Z4 [.i 0] (.q b1 r4 r5)):Fn E z1b [.s s0] (.tup [.q b1 r4 r5,.b false]):=fnM (oF h1 (oF h2 (oF h3 (oF h4 (oF h5 (oF h6 (oF h7 (oT h8 (oF h9 (oB (bnT h10) (oF h11 (oF h12 (oC (beF h13) (oF h14 oZ))))))))))))))
end
theorem w0q (h10:i1=0) (h11:Fn E Z4 [.i 0] (.q b2 r6 r7)):Fn E z1b [.s s0] (.tup [.q b2 r6 r7,.b false]):=fnM (oF h1 (oF h2 (oF h3 (oF h4 (oF h5 (oF h6 (oF h7 (oT h8 (oF h9 (oC (bnF h10) (oF h11 oZ)))))))))))
end
theorem w0r (h8:¬ i0 > 0) (h9:Fn E Z4 [.i 0] (.q b3 r3 r6)):Fn E z1b [.s s0] (.tup [.q b3 r3 r6,.b false]):=fnM (oF h1 (oF h2 (oF h3 (oF h4 (oF h5 (oF h6 (oF h7 (oU h8 (oF h9 oZ)))))))))
end
theorem w0s (h1:Fn E X0 [.s s0] (.tup [.s s1,.s s2,.b false])) (h2:Fn E z2j [.s s1] (.b true)) (h3:Fn E G7 [.s s2] (.b true)) (h4:Fn E y5v [.s s1] (.z b0 r0)) (h5:Fn E O3 [.s s2] (.l r1)):Fn E z1b [.s s0] (.tup [.q b0 r0 r1,.b true]):=fnM (oF h1 (oF h2 (oF h3 (oF h4 (oF h5 oZ)))))
section
variable (h1:Fn E X0 [.s s0] (.tup [.s s1,.s s2,.b b4]))
include h1
theorem w0t (h2:Fn E z2j [.s s1] (.b true)) (h3:Fn E G7 [.s s2] (.b false)) (h4:Fn E Z4 [.i 0] (.q b0 r0 r1)):Fn E z1b [.s s0] (.tup [.q b0 r0 r1,.b false]):=fnM (oF h1 (oF h2 (oF h3 (oF h4 oZ))))
theorem j5r (h2:Fn E z2j [.s s1] (.b false)) (h3:Fn E Z4 [.i 0] (.q b5 r8 r0)):Fn E z1b [.s s0] (.tup [.q b5 r8 r0,.b false]):=fnM (oF h1 (oF h2 (oF h3 oZ)))
end
section
variable (h1:Fn E H4 [.l r0,.l r1] (.l r2))
include h1
section
variable (h2:(r2.length:Int)=1) (h3:r2[0]?=some [.w i0])
include h2 h3
theorem q9r (h4:i0=1):Fn E z5g [.z b0 r0,.l r1] (.q b0 r0 r1):=fnM (oF h1 (oB (beT h2) (oP (show (0:Int)≤0 from by decide) (oD h3 (oB (beT h4) oZ)))))
theorem q9s (h4:¬ i0=1) (h5:Fn E H6 [.l r0,.l r2] (.tup [.l r3,.l r4])) (h6:Fn E H6 [.l r1,.l r2] (.tup [.l r5,.l r6])) (h7:Fn E M9 [.b b0,.l r3] (.z b1 r7)):Fn E z5g [.z b0 r0,.l r1] (.q b1 r7 r5):=fnM (oF h1 (oB (beT h2) (oP (show (0:Int)≤0 from by decide) (oD h3 (oC (beF h4) (oF h5 (oF h6 (oF h7 oZ))))))))
end
theorem q9t (h2:¬ (r2.length:Int)=1) (h3:Fn E H6 [.l r0,.l r2] (.tup [.l r8,.l r3])) (h4:Fn E H6 [.l r1,.l r2] (.tup [.l r4,.l r5])) (h5:Fn E M9 [.b b0,.l r8] (.z b2 r9)):Fn E z5g [.z b0 r0,.l r1] (.q b2 r9 r4):=fnM (oF h1 (oC (beF h2) (oF h3 (oF h4 (oF h5 oZ)))))
end
section
variable (h1:Fn E V5 [.q b0 r0 r1] (.i i0)) (h2:Fn E V5 [.q b1 r2 r3] (.i i1))
include h1 h2
theorem w3s (h3:¬ i0=i1) (h4:i0 < i1):Fn E y9q [.q b0 r0 r1,.q b1 r2 r3] (.i (-1)):=fnM (oF h1 (oF h2 (oB (bnT h3) (oT h4 oZ))))
theorem w3t (h3:¬ i0=i1) (h4:¬ i0 < i1):Fn E y9q [.q b0 r0 r1,.q b1 r2 r3] (.i 1):=fnM (oF h1 (oF h2 (oB (bnT h3) (oU h4 oZ))))
theorem w3u (h3:i0=i1) (h4:Fn E G4 [.l r0,.l r3] (.l r4)) (h5:Fn E M9 [.b b0,.l r4] (.z b2 r5)) (h6:Fn E G4 [.l r2,.l r1] (.l r6)) (h7:Fn E M9 [.b b1,.l r6] (.z b3 r7)) (h8:Fn E k1m [.z b2 r5,.z b3 r7] (.i i2)):Fn E y9q [.q b0 r0 r1,.q b1 r2 r3] (.i i2):=fnM (oF h1 (oF h2 (oC (bnF h3) (oF h4 (oF h5 (oF h6 (oF h7 (oF h8 oZ))))))))
end
theorem w3x (h1:Fn E y2q [.z b0 r0] (.z b1 r2)):Fn E k1n [.q b0 r0 r1] (.q b1 r2 r1):=fnM (oF h1 oZ)
def z3e (s0:BA) (i0:Int):St:=stOf 24 [(0,.s s0),(5,.i i0)] []
def y8g (s1 s2:BA):St:=stOf 24 [(2,.s s1),(3,.s s2),(4,.b true)] []
def y8h (s0:BA):St:=stOf 24 [(0,.s s0)] []
section
variable (e1:((s0.data.toList.getD (Int.toNat i0) 0).toNat:Int)=i1)
include e1
theorem x4b (e2:IntKind.i64.wrap (i0+1)=i2) (h1:i0 < (s0.size:Int)) (h2:0≤i0∧i0 < s0.size) (h3:¬ i1=47) (ih:Lp E 0 X0 0 (z3e s0 i2) o t):Lp E 0 X0 0 (z3e s0 i0) o t:=by subst e1 e2;exact lpM (oT h1 (oP h2 (oC (beF h3) oZ))) ih
theorem k7z (e2:s0.extract 0 (Int.toNat i0)=s3) (e3:IntKind.i64.wrap (i0+1)=i3) (e4:s0.extract (Int.toNat i3) (Int.toNat (s0.size:Int))=s4) (h1:i0 < (s0.size:Int)) (h2:0≤i0∧i0 < s0.size) (h3:i1=47) (h4:0≤(0:Int)∧(0:Int)≤i0∧i0≤s0.size) (h5:0≤i3∧i3≤(s0.size:Int)∧(s0.size:Int)≤s0.size):Lp E 0 X0 0 (z3e s0 i0) .ret (y8g s3 s4):=by subst e1 e2 e3 e4;exact lpX (oT h1 (oP h2 (oB (beT h3) (oP h4 (oP h5 oZ)))))
end
theorem k8a (h1:¬ i0 < (s0.size:Int)):Lp E 0 X0 0 (z3e s0 i0) (.exit 0) (y8h s0):=lpX (oU h1 oZ)
theorem v4v (h1:Lp E 0 X0 0 (z3e s0 0) .ret (y8g s1 s2)):Fn E X0 [.s s0] (.tup [.s s1,.s s2,.b true]):=fnM (oL h1 oZ)
theorem v4w (h1:Lp E 0 X0 0 (z3e s0 0) (.exit 0) (y8h s0)):Fn E X0 [.s s0] (.tup [.s s0,.s ⟨#[49]⟩,.b false]):=fnM (oL h1 oZ)
end Gev
namespace Gev
open Go Go.Proofs
variable {E:Env}
variable {o:Out} {t:St} {r0 r1 r2 r3 r4 r5 r6 r7 r8 r9 r10 r11 r12 r13 r14 r15 r16 r17 r18 r19 r20 r21 r22 r23 r24 r25 r26 r27 r28 r29 r30 r31 r32 r33 r34 r35 r36 r37 r38 r39 r40 r41 r42 r43 r44 r45 r46 r47 r48 r49 r50 r51 r52 r53 r54 r55 r56 r57 r58 r59 r60 r61 r62 r63 r64:RW} {i0 i1 i2 i3 i4 i5 i6 i7 i8 i9 i10 i11 i12 i13 i14:Int} {n0 n1:Nat} {s0 s1 s2 s3 s4 s5 s6 s7 s8 s9 s10 s11 s12 s13 s14 s15:BA} {b0 b1 b2 b3 b4 b5 b6 b7 b8 b9 b10 b11 b12 b13 b14 b15 b16 b17 b18 b19 b20 b21 b22 b23 b24 b25 b26 b27 b28 b29 b30:Bool}
def z2n (i0:Int) (r0 r1:RW):St:=stOf 100 [(1,.ptr 0 0),(3,.i i0)] [sC [.l r0,.l r1]]
def z7y (r0 r1:RW):St:=stOf 100 [(2,.b false)] [sC [.l r0,.l r1]]
def k3z (r0 r1:RW):St:=stOf 100 [(1,.ptr 0 0)] [sC [.l r0,.l r1]]
section
variable (h1:i0 < (r0.length:Int)) (h2:0≤i0) (h3:r0[(Int.toNat i0)]?=some [.i i1,.i i2,.i i3,.s s0,.s s1,.s s2,.s s3])
include h1 h2 h3
theorem q3p (h4:¬ (s1.size:Int) > 40) (h5:¬ (s2.size:Int) > 40) (h6:¬ (s3.size:Int) > 40) (h7:¬ (s0.size:Int) > 70) (e1:IntKind.i64.wrap (i0+1)=i4) (ih:Lp E 1 G8 0 (z2n i4 r0 r1) o t):Lp E 1 G8 0 (z2n i0 r0 r1) o t:=by subst e1;exact lpM (oT h1 (oP h2 (oD h3 (oU h4 (oU h5 (oU h6 (oU h7 oZ))))))) ih
theorem j5w (h4:(s1.size:Int) > 40):Lp E 1 G8 0 (z2n i0 r0 r1) .ret (z7y r0 r1):=lpX (oT h1 (oP h2 (oD h3 (oT h4 oZ))))
section
variable (h4:¬ (s1.size:Int) > 40)
include h4
theorem j5x (h5:(s2.size:Int) > 40):Lp E 1 G8 0 (z2n i0 r0 r1) .ret (z7y r0 r1):=lpX (oT h1 (oP h2 (oD h3 (oU h4 (oT h5 oZ)))))
theorem j5y (h5:¬ (s2.size:Int) > 40) (h6:(s3.size:Int) > 40):Lp E 1 G8 0 (z2n i0 r0 r1) .ret (z7y r0 r1):=lpX (oT h1 (oP h2 (oD h3 (oU h4 (oU h5 (oT h6 oZ))))))
theorem j5z (h5:¬ (s2.size:Int) > 40) (h6:¬ (s3.size:Int) > 40) (h7:(s0.size:Int) > 70):Lp E 1 G8 0 (z2n i0 r0 r1) .ret (z7y r0 r1):=lpX (oT h1 (oP h2 (oD h3 (oU h4 (oU h5 (oU h6 (oT h7 oZ)))))))
end
end
theorem j6a (h1:¬ i0 < (r0.length:Int)):Lp E 1 G8 0 (z2n i0 r0 r1) (.exit 0) (k3z r0 r1):=lpX (oU h1 oZ)
def z0h (i0:Int) (r0 r1:RW):St:=stOf 100 [(1,.ptr 0 0),(5,.i i0)] [sC [.l r0,.l r1]]
def z3f (r0 r1:RW):St:=stOf 100 [(2,.b false)] [sC [.l r0,.l r1]]
def k4a (r0 r1:RW):St:=stOf 100 [(1,.ptr 0 0)] [sC [.l r0,.l r1]]
section
variable (h1:i0 < (r1.length:Int)) (h2:0≤i0) (h3:r1[(Int.toNat i0)]?=some [.i i1,.s s0,.s s1,.s s2,.s s3,.s s4,.s s5])
include h1 h2 h3
theorem q3q (h4:¬ (s1.size:Int) > 40) (h5:¬ (s2.size:Int) > 40) (h6:¬ (s3.size:Int) > 40) (h7:¬ (s4.size:Int) > 40) (h8:¬ (s5.size:Int) > 40) (h9:¬ (s0.size:Int) > 70) (e1:IntKind.i64.wrap (i0+1)=i2) (ih:Lp E 1 G8 1 (z0h i2 r0 r1) o t):Lp E 1 G8 1 (z0h i0 r0 r1) o t:=by subst e1;exact lpM (oT h1 (oP h2 (oD h3 (oU h4 (oU h5 (oU h6 (oU h7 (oU h8 (oU h9 oZ))))))))) ih
theorem j6b (h4:(s1.size:Int) > 40):Lp E 1 G8 1 (z0h i0 r0 r1) .ret (z3f r0 r1):=lpX (oT h1 (oP h2 (oD h3 (oT h4 oZ))))
section
variable (h4:¬ (s1.size:Int) > 40)
include h4
theorem j6c (h5:(s2.size:Int) > 40):Lp E 1 G8 1 (z0h i0 r0 r1) .ret (z3f r0 r1):=lpX (oT h1 (oP h2 (oD h3 (oU h4 (oT h5 oZ)))))
section
variable (h5:¬ (s2.size:Int) > 40)
include h5
theorem j6d (h6:(s3.size:Int) > 40):Lp E 1 G8 1 (z0h i0 r0 r1) .ret (z3f r0 r1):=lpX (oT h1 (oP h2 (oD h3 (oU h4 (oU h5 (oT h6 oZ))))))
section
variable (h6:¬ (s3.size:Int) > 40)
include h6
theorem j6e (h7:(s4.size:Int) > 40):Lp E 1 G8 1 (z0h i0 r0 r1) .ret (z3f r0 r1):=lpX (oT h1 (oP h2 (oD h3 (oU h4 (oU h5 (oU h6 (oT h7 oZ)))))))
theorem j6f (h7:¬ (s4.size:Int) > 40) (h8:(s5.size:Int) > 40):Lp E 1 G8 1 (z0h i0 r0 r1) .ret (z3f r0 r1):=lpX (oT h1 (oP h2 (oD h3 (oU h4 (oU h5 (oU h6 (oU h7 (oT h8 oZ))))))))
theorem j6g (h7:¬ (s4.size:Int) > 40) (h8:¬ (s5.size:Int) > 40) (h9:(s0.size:Int) > 70):Lp E 1 G8 1 (z0h i0 r0 r1) .ret (z3f r0 r1):=lpX (oT h1 (oP h2 (oD h3 (oU h4 (oU h5 (oU h6 (oU h7 (oU h8 (oT h9 oZ)))))))))
end
end
end
end
theorem j6h (h1:¬ i0 < (r1.length:Int)):Lp E 1 G8 1 (z0h i0 r0 r1) (.exit 2) (k4a r0 r1):=lpX (oU h1 oZ)
theorem w3z (h1:Lp E 1 G8 0 (z2n 0 r0 r1) .ret (z7y r0 r1)):Fn E G8 [.agg [.l r0,.l r1]] (.b false):=fnM (oL h1 oZ)
section
variable (h1:Lp E 1 G8 0 (z2n 0 r0 r1) (.exit 0) (k3z r0 r1))
include h1
theorem w4a (h2:Lp E 1 G8 1 (z0h 0 r0 r1) .ret (z3f r0 r1)):Fn E G8 [.agg [.l r0,.l r1]] (.b false):=fnM (oL h1 (oL h2 oZ))
section
variable (h2:Lp E 1 G8 1 (z0h 0 r0 r1) (.exit 2) (k4a r0 r1))
include h2
theorem w4b (h3:(r0.length:Int)≤7) (h4:(r1.length:Int)≤7):Fn E G8 [.agg [.l r0,.l r1]] (.b true):=fnM (oL h1 (oL h2 (oT h3 (oT h4 oZ))))
theorem w4c (h3:(r0.length:Int)≤7) (h4:¬ (r1.length:Int)≤7):Fn E G8 [.agg [.l r0,.l r1]] (.b false):=fnM (oL h1 (oL h2 (oT h3 (oU h4 oZ))))
theorem w4d (h3:¬ (r0.length:Int)≤7):Fn E G8 [.agg [.l r0,.l r1]] (.b false):=fnM (oL h1 (oL h2 (oU h3 oZ)))
end
end
theorem w0x (h1:∀ y∈r0,y.length=7) (h2:(0+r0.length)*88≤140737488355328∧0+r0.length≤140737488355328) (h3:∀ y∈r1,y.length=7) (h4:(0+r1.length)*104≤140737488355328∧0+r1.length≤140737488355328) (e1:(([]:RW).take 0)++r0=r2) (e2:0+r0.length=n0) (e3:(([]:RW).take 0)++r1=r3) (e4:0+r1.length=n1) (e5:(r2.take n0)=r4) (e6:(r3.take n1)=r5):Fn E x7k [.agg [.l r0,.l r1]] (.agg [.l r4,.l r5]):=by subst e1 e2 e3 e4 e5 e6;exact fnM (oP h1 (oP h2 (oP h3 (oP h4 oZ))))
def H5 (i0:Int) (r0 r1:RW):St:=stOf 143 [(1,.ptr 0 0),(3,.i i0)] [sC [.l r0,.l r1]]
def K6 (r0 r1:RW) (i1:Int):St:=stOf 143 [(2,.i i1)] [sC [.l r0,.l r1]]
def y8i (r0 r1:RW):St:=stOf 143 [(1,.ptr 0 0)] [sC [.l r0,.l r1]]
section
variable (h1:i0 < (r0.length:Int)) (h2:0≤i0) (h3:r0[(Int.toNat i0)]?=some [.i i2,.i i3,.i i4,.s s0,.s s1,.s s2,.s s3])
include h1 h2 h3
section
variable (h4:Fn E z6m [.i i2] (.b true))
include h4
section
variable (h5:¬ i3 < 1) (h6:¬ i3 > 9) (h7:¬ i4 < 1) (h8:¬ i4 > 9) (h9:Fn E D9 [.s s1] (.q b0 r2 r3)) (h10:Fn E V5 [.q b0 r2 r3] (.i i5)) (h11:¬ i5≤0) (h12:Fn E D9 [.s s2] (.q b1 r4 r5)) (h13:Fn E V5 [.q b1 r4 r5] (.i i6)) (h14:¬ i6≤0) (h15:Fn E D9 [.s s3] (.q b2 r6 r7)) (h16:Fn E V5 [.q b2 r6 r7] (.i i7)) (h17:¬ i7 < 0) (h18:Fn E z0x [.s s0] (.b true))
include h5 h6 h7 h8 h9 h10 h11 h12 h13 h14 h15 h16 h17 h18
theorem j5s (h19:i0 > 0) (h20:0≤i8) (h21:r0[(Int.toNat i8)]?=some [.i i9,.i i10,.i i11,.s s4,.s s5,.s s6,.s s7]) (h22:¬ i9≥i2) (e1:IntKind.i64.wrap (i0 - 1)=i8) (e2:IntKind.i64.wrap (i0+1)=i12) (ih:Lp E 1 B6 0 (H5 i12 r0 r1) o t):Lp E 1 B6 0 (H5 i0 r0 r1) o t:=by subst e1 e2;exact lpM (oT h1 (oP h2 (oD h3 (oF h4 (oU h5 (oU h6 (oU h7 (oU h8 (oF h9 (oF h10 (oU h11 (oF h12 (oF h13 (oU h14 (oF h15 (oF h16 (oU h17 (oF h18 (oT h19 (oP h20 (oD h21 (oU h22 oZ)))))))))))))))))))))) ih
theorem j5t (h19:¬ i0 > 0) (e1:IntKind.i64.wrap (i0+1)=i8) (ih:Lp E 1 B6 0 (H5 i8 r0 r1) o t):Lp E 1 B6 0 (H5 i0 r0 r1) o t:=by subst e1;exact lpM (oT h1 (oP h2 (oD h3 (oF h4 (oU h5 (oU h6 (oU h7 (oU h8 (oF h9 (oF h10 (oU h11 (oF h12 (oF h13 (oU h14 (oF h15 (oF h16 (oU h17 (oF h18 (oU h19 oZ))))))))))))))))))) ih
end
theorem k8b (h5:i3 < 1):Lp E 1 B6 0 (H5 i0 r0 r1) .ret (K6 r0 r1 2):=lpX (oT h1 (oP h2 (oD h3 (oF h4 (oT h5 oZ)))))
section
variable (h5:¬ i3 < 1)
include h5
theorem k8c (h6:i3 > 9):Lp E 1 B6 0 (H5 i0 r0 r1) .ret (K6 r0 r1 2):=lpX (oT h1 (oP h2 (oD h3 (oF h4 (oU h5 (oT h6 oZ))))))
section
variable (h6:¬ i3 > 9)
include h6
theorem k8d (h7:i4 < 1):Lp E 1 B6 0 (H5 i0 r0 r1) .ret (K6 r0 r1 2):=lpX (oT h1 (oP h2 (oD h3 (oF h4 (oU h5 (oU h6 (oT h7 oZ)))))))
section
variable (h7:¬ i4 < 1)
include h7
theorem k8e (h8:i4 > 9):Lp E 1 B6 0 (H5 i0 r0 r1) .ret (K6 r0 r1 2):=lpX (oT h1 (oP h2 (oD h3 (oF h4 (oU h5 (oU h6 (oU h7 (oT h8 oZ))))))))
section
variable (h8:¬ i4 > 9) (h9:Fn E D9 [.s s1] (.q b0 r2 r3)) (h10:Fn E V5 [.q b0 r2 r3] (.i i5))
include h8 h9 h10
theorem k8f (h11:i5≤0):Lp E 1 B6 0 (H5 i0 r0 r1) .ret (K6 r0 r1 2):=lpX (oT h1 (oP h2 (oD h3 (oF h4 (oU h5 (oU h6 (oU h7 (oU h8 (oF h9 (oF h10 (oT h11 oZ)))))))))))
section
variable (h11:¬ i5≤0) (h12:Fn E D9 [.s s2] (.q b1 r4 r5)) (h13:Fn E V5 [.q b1 r4 r5] (.i i6))
include h11 h12 h13
theorem k8g (h14:i6≤0):Lp E 1 B6 0 (H5 i0 r0 r1) .ret (K6 r0 r1 2):=lpX (oT h1 (oP h2 (oD h3 (oF h4 (oU h5 (oU h6 (oU h7 (oU h8 (oF h9 (oF h10 (oU h11 (oF h12 (oF h13 (oT h14 oZ))))))))))))))
section
variable (h14:¬ i6≤0) (h15:Fn E D9 [.s s3] (.q b2 r6 r7)) (h16:Fn E V5 [.q b2 r6 r7] (.i i7))
include h14 h15 h16
theorem k8h (h17:i7 < 0):Lp E 1 B6 0 (H5 i0 r0 r1) .ret (K6 r0 r1 2):=lpX (oT h1 (oP h2 (oD h3 (oF h4 (oU h5 (oU h6 (oU h7 (oU h8 (oF h9 (oF h10 (oU h11 (oF h12 (oF h13 (oU h14 (oF h15 (oF h16 (oT h17 oZ)))))))))))))))))
theorem k8i (h17:¬ i7 < 0) (h18:Fn E z0x [.s s0] (.b true)) (h19:i0 > 0) (h20:0≤i8) (h21:r0[(Int.toNat i8)]?=some [.i i9,.i i10,.i i11,.s s4,.s s5,.s s6,.s s7]) (h22:i9≥i2) (e1:IntKind.i64.wrap (i0 - 1)=i8):Lp E 1 B6 0 (H5 i0 r0 r1) .ret (K6 r0 r1 5):=by subst e1;exact lpX (oT h1 (oP h2 (oD h3 (oF h4 (oU h5 (oU h6 (oU h7 (oU h8 (oF h9 (oF h10 (oU h11 (oF h12 (oF h13 (oU h14 (oF h15 (oF h16 (oU h17 (oF h18 (oT h19 (oP h20 (oD h21 (oT h22 oZ))))))))))))))))))))))
theorem k8j (h17:¬ i7 < 0) (h18:Fn E z0x [.s s0] (.b false)):Lp E 1 B6 0 (H5 i0 r0 r1) .ret (K6 r0 r1 4):=lpX (oT h1 (oP h2 (oD h3 (oF h4 (oU h5 (oU h6 (oU h7 (oU h8 (oF h9 (oF h10 (oU h11 (oF h12 (oF h13 (oU h14 (oF h15 (oF h16 (oU h17 (oF h18 oZ))))))))))))))))))
end
end
end
end
end
end
end
theorem k8k (h4:Fn E z6m [.i i2] (.b false)):Lp E 1 B6 0 (H5 i0 r0 r1) .ret (K6 r0 r1 2):=lpX (oT h1 (oP h2 (oD h3 (oF h4 oZ))))
end
theorem k8l (h1:¬ i0 < (r0.length:Int)):Lp E 1 B6 0 (H5 i0 r0 r1) (.exit 0) (y8i r0 r1):=lpX (oU h1 oZ)
def M6 (i0:Int) (r0 r1:RW):St:=stOf 143 [(1,.ptr 0 0),(5,.i i0)] [sC [.l r0,.l r1]]
def z0s (r0 r1:RW) (i1:Int):St:=stOf 143 [(2,.i i1)] [sC [.l r0,.l r1]]
def y8j (r0 r1:RW):St:=stOf 143 [] [sC [.l r0,.l r1]]
section
variable (h1:i0 < (r1.length:Int)) (h2:0≤i0) (h3:r1[(Int.toNat i0)]?=some [.i i2,.s s0,.s s1,.s s2,.s s3,.s s4,.s s5])
include h1 h2 h3
section
variable (h4:Fn E z6m [.i i2] (.b true)) (h5:Fn E D9 [.s s1] (.q b0 r2 r3)) (h6:Fn E V5 [.q b0 r2 r3] (.i i3))
include h4 h5 h6
section
variable (h7:¬ i3 < 0) (h8:Fn E D9 [.s s2] (.q b1 r4 r5)) (h9:Fn E V5 [.q b1 r4 r5] (.i i4)) (h10:¬ i4 < 0) (h11:Fn E z0x [.s s0] (.b true))
include h7 h8 h9 h10 h11
theorem j5u (h12:i0 > 0) (h13:0≤i5) (h14:r1[(Int.toNat i5)]?=some [.i i6,.s s6,.s s7,.s s8,.s s9,.s s10,.s s11]) (h15:¬ i6≥i2) (e1:IntKind.i64.wrap (i0 - 1)=i5) (e2:IntKind.i64.wrap (i0+1)=i7) (ih:Lp E 1 B6 1 (M6 i7 r0 r1) o t):Lp E 1 B6 1 (M6 i0 r0 r1) o t:=by subst e1 e2;exact lpM (oT h1 (oP h2 (oD h3 (oF h4 (oF h5 (oF h6 (oU h7 (oF h8 (oF h9 (oU h10 (oF h11 (oT h12 (oP h13 (oD h14 (oU h15 oZ))))))))))))))) ih
theorem j5v (h12:¬ i0 > 0) (e1:IntKind.i64.wrap (i0+1)=i5) (ih:Lp E 1 B6 1 (M6 i5 r0 r1) o t):Lp E 1 B6 1 (M6 i0 r0 r1) o t:=by subst e1;exact lpM (oT h1 (oP h2 (oD h3 (oF h4 (oF h5 (oF h6 (oU h7 (oF h8 (oF h9 (oU h10 (oF h11 (oU h12 oZ)))))))))))) ih
end
theorem k8m (h7:i3 < 0):Lp E 1 B6 1 (M6 i0 r0 r1) .ret (z0s r0 r1 2):=lpX (oT h1 (oP h2 (oD h3 (oF h4 (oF h5 (oF h6 (oT h7 oZ)))))))
section
variable (h7:¬ i3 < 0) (h8:Fn E D9 [.s s2] (.q b1 r4 r5)) (h9:Fn E V5 [.q b1 r4 r5] (.i i4))
include h7 h8 h9
theorem k8n (h10:i4 < 0):Lp E 1 B6 1 (M6 i0 r0 r1) .ret (z0s r0 r1 2):=lpX (oT h1 (oP h2 (oD h3 (oF h4 (oF h5 (oF h6 (oU h7 (oF h8 (oF h9 (oT h10 oZ))))))))))
theorem k8o (h10:¬ i4 < 0) (h11:Fn E z0x [.s s0] (.b true)) (h12:i0 > 0) (h13:0≤i5) (h14:r1[(Int.toNat i5)]?=some [.i i6,.s s6,.s s7,.s s8,.s s9,.s s10,.s s11]) (h15:i6≥i2) (e1:IntKind.i64.wrap (i0 - 1)=i5):Lp E 1 B6 1 (M6 i0 r0 r1) .ret (z0s r0 r1 5):=by subst e1;exact lpX (oT h1 (oP h2 (oD h3 (oF h4 (oF h5 (oF h6 (oU h7 (oF h8 (oF h9 (oU h10 (oF h11 (oT h12 (oP h13 (oD h14 (oT h15 oZ)))))))))))))))
theorem k8p (h10:¬ i4 < 0) (h11:Fn E z0x [.s s0] (.b false)):Lp E 1 B6 1 (M6 i0 r0 r1) .ret (z0s r0 r1 4):=lpX (oT h1 (oP h2 (oD h3 (oF h4 (oF h5 (oF h6 (oU h7 (oF h8 (oF h9 (oU h10 (oF h11 oZ)))))))))))
end
end
theorem k8q (h4:Fn E z6m [.i i2] (.b false)):Lp E 1 B6 1 (M6 i0 r0 r1) .ret (z0s r0 r1 2):=lpX (oT h1 (oP h2 (oD h3 (oF h4 oZ))))
end
theorem k8r (h1:¬ i0 < (r1.length:Int)):Lp E 1 B6 1 (M6 i0 r0 r1) (.exit 2) (y8j r0 r1):=lpX (oU h1 oZ)
section
variable (h1:Fn E D8 [.agg [.l r0,.l r1]] (.b true))
include h1
theorem v4x (h2:(r0.length:Int) > 6):Fn E B6 [.agg [.l r0,.l r1]] (.i 8):=fnM (oF h1 (oT h2 oZ))
section
variable (h2:¬ (r0.length:Int) > 6)
include h2
theorem v4y (h3:(r1.length:Int) > 6):Fn E B6 [.agg [.l r0,.l r1]] (.i 8):=fnM (oF h1 (oU h2 (oT h3 oZ)))
section
variable (h3:¬ (r1.length:Int) > 6)
include h3
theorem v4z (h4:Lp E 1 B6 0 (H5 0 r0 r1) .ret (K6 r0 r1 i0)):Fn E B6 [.agg [.l r0,.l r1]] (.i i0):=fnM (oF h1 (oU h2 (oU h3 (oL h4 oZ))))
section
variable (h4:Lp E 1 B6 0 (H5 0 r0 r1) (.exit 0) (y8i r0 r1))
include h4
theorem v5a (h5:Lp E 1 B6 1 (M6 0 r0 r1) .ret (z0s r0 r1 i0)):Fn E B6 [.agg [.l r0,.l r1]] (.i i0):=fnM (oF h1 (oU h2 (oU h3 (oL h4 (oL h5 oZ)))))
theorem v5b (h5:Lp E 1 B6 1 (M6 0 r0 r1) (.exit 2) (y8j r0 r1)):Fn E B6 [.agg [.l r0,.l r1]] (.i 0):=fnM (oF h1 (oU h2 (oU h3 (oL h4 (oL h5 oZ)))))
end
end
end
end
theorem v5c (h1:Fn E D8 [.agg [.l r0,.l r1]] (.b false)):Fn E B6 [.agg [.l r0,.l r1]] (.i 1):=fnM (oF h1 oZ)
def X3 (r0:RW) (i0:Int) (r1 r2:RW):St:=stOf 53 [(1,.l r0),(2,.ptr 0 0),(6,.i i0)] [sC [.l r1,.l r2]]
def z6b (r1 r2:RW) (i1:Int):St:=stOf 53 [(4,.i i1),(5,.i 0)] [sC [.l r1,.l r2]]
def y0o (r1 r2:RW):St:=stOf 53 [] [sC [.l r1,.l r2]]
section
variable (h1:i0 < (r2.length:Int)) (h2:0≤i0) (h3:r2[(Int.toNat i0)]?=some [.i i2,.s s0,.s s1,.s s2,.s s3,.s s4,.s s5]) (h4:Fn E z1r [.agg [.l r1,.l r2],.l r0,.i i2] (.agg [.s s6,.s s7,.s s8,.s s9,.s s10,.s s11])) (h5:Fn E D9 [.s s2] (.q b0 r3 r4)) (h6:Fn E D9 [.s s6] (.q b1 r5 r6))
include h1 h2 h3 h4 h5 h6
theorem x8h (h7:Fn E K1 [.q b0 r3 r4,.q b1 r5 r6] (.b false)) (h8:Fn E D9 [.s s1] (.q b2 r7 r8)) (h9:Fn E D9 [.s s7] (.q b3 r9 r10)) (h10:Fn E K1 [.q b2 r7 r8,.q b3 r9 r10] (.b false)) (e1:IntKind.i64.wrap (i0+1)=i3) (ih:Lp E 1 H7 0 (X3 r0 i3 r1 r2) o t):Lp E 1 H7 0 (X3 r0 i0 r1 r2) o t:=by subst e1;exact lpM (oT h1 (oP h2 (oD h3 (oF h4 (oP h2 (oD h3 (oF h5 (oF h6 (oF h7 (oP h2 (oD h3 (oF h8 (oF h9 (oF h10 oZ)))))))))))))) ih
theorem x4z (h7:Fn E K1 [.q b0 r3 r4,.q b1 r5 r6] (.b true)):Lp E 1 H7 0 (X3 r0 i0 r1 r2) .ret (z6b r1 r2 i0):=lpX (oT h1 (oP h2 (oD h3 (oF h4 (oP h2 (oD h3 (oF h5 (oF h6 (oF h7 oZ)))))))))
theorem x5a (h7:Fn E K1 [.q b0 r3 r4,.q b1 r5 r6] (.b false)) (h8:Fn E D9 [.s s1] (.q b2 r7 r8)) (h9:Fn E D9 [.s s7] (.q b3 r9 r10)) (h10:Fn E K1 [.q b2 r7 r8,.q b3 r9 r10] (.b true)):Lp E 1 H7 0 (X3 r0 i0 r1 r2) .ret (z6b r1 r2 i0):=lpX (oT h1 (oP h2 (oD h3 (oF h4 (oP h2 (oD h3 (oF h5 (oF h6 (oF h7 (oP h2 (oD h3 (oF h8 (oF h9 (oF h10 oZ))))))))))))))
end
theorem x5b (h1:¬ i0 < (r2.length:Int)):Lp E 1 H7 0 (X3 r0 i0 r1 r2) (.exit 0) (y0o r1 r2):=lpX (oU h1 oZ)
section
variable (h1:Fn E C3 [.agg [.l r0,.l r1],.l r2] (.i i0))
include h1
theorem j2g (h2:¬ i0=0):Fn E H7 [.agg [.l r0,.l r1],.l r2] (.tup [.i 0,.i 1]):=fnM (oF h1 (oB (bnT h2) oZ))
theorem j2h (h2:i0=0) (h3:Lp E 1 H7 0 (X3 r2 0 r0 r1) .ret (z6b r0 r1 i1)):Fn E H7 [.agg [.l r0,.l r1],.l r2] (.tup [.i i1,.i 0]):=fnM (oF h1 (oC (bnF h2) (oL h3 oZ)))
theorem j2i (h2:i0=0) (h3:Lp E 1 H7 0 (X3 r2 0 r0 r1) (.exit 0) (y0o r0 r1)):Fn E H7 [.agg [.l r0,.l r1],.l r2] (.tup [.i (-1),.i 0]):=fnM (oF h1 (oC (bnF h2) (oL h3 oZ)))
end
def Z0 (i0:Int) (r0 r1:RW):St:=stOf 78 [(1,.ptr 0 0),(3,.i i0)] [sC [.l r0,.l r1]]
def z5m (r0 r1:RW):St:=stOf 78 [(2,.b false)] [sC [.l r0,.l r1]]
def x2u (r0 r1:RW):St:=stOf 78 [(1,.ptr 0 0)] [sC [.l r0,.l r1]]
section
variable (h1:i0 < (r0.length:Int)) (h2:0≤i0) (h3:r0[(Int.toNat i0)]?=some [.i i1,.i i2,.i i3,.s s0,.s s1,.s s2,.s s3])
include h1 h2 h3
section
variable (h4:Fn E G0 [.s s1] (.b true))
include h4
section
variable (h5:Fn E G0 [.s s2] (.b true))
include h5
theorem k8s (h6:Fn E G0 [.s s3] (.b true)) (e1:IntKind.i64.wrap (i0+1)=i4) (ih:Lp E 1 D8 0 (Z0 i4 r0 r1) o t):Lp E 1 D8 0 (Z0 i0 r0 r1) o t:=by subst e1;exact lpM (oT h1 (oP h2 (oD h3 (oF h4 (oF h5 (oF h6 oZ)))))) ih
theorem k0k (h6:Fn E G0 [.s s3] (.b false)):Lp E 1 D8 0 (Z0 i0 r0 r1) .ret (z5m r0 r1):=lpX (oT h1 (oP h2 (oD h3 (oF h4 (oF h5 (oF h6 oZ))))))
end
theorem k0l (h5:Fn E G0 [.s s2] (.b false)):Lp E 1 D8 0 (Z0 i0 r0 r1) .ret (z5m r0 r1):=lpX (oT h1 (oP h2 (oD h3 (oF h4 (oF h5 oZ)))))
end
theorem k0m (h4:Fn E G0 [.s s1] (.b false)):Lp E 1 D8 0 (Z0 i0 r0 r1) .ret (z5m r0 r1):=lpX (oT h1 (oP h2 (oD h3 (oF h4 oZ))))
end
theorem k0n (h1:¬ i0 < (r0.length:Int)):Lp E 1 D8 0 (Z0 i0 r0 r1) (.exit 0) (x2u r0 r1):=lpX (oU h1 oZ)
def U3 (i0:Int) (r0 r1:RW):St:=stOf 78 [(1,.ptr 0 0),(5,.i i0)] [sC [.l r0,.l r1]]
def z0l (r0 r1:RW):St:=stOf 78 [(2,.b false)] [sC [.l r0,.l r1]]
def x2v (r0 r1:RW):St:=stOf 78 [] [sC [.l r0,.l r1]]
section
variable (h1:i0 < (r1.length:Int)) (h2:0≤i0) (h3:r1[(Int.toNat i0)]?=some [.i i1,.s s0,.s s1,.s s2,.s s3,.s s4,.s s5])
include h1 h2 h3
section
variable (h4:Fn E G0 [.s s1] (.b true))
include h4
section
variable (h5:Fn E G0 [.s s2] (.b true))
include h5
section
variable (h6:Fn E G0 [.s s3] (.b true))
include h6
section
variable (h7:Fn E G0 [.s s4] (.b true))
include h7
theorem k8t (h8:Fn E G0 [.s s5] (.b true)) (e1:IntKind.i64.wrap (i0+1)=i2) (ih:Lp E 1 D8 1 (U3 i2 r0 r1) o t):Lp E 1 D8 1 (U3 i0 r0 r1) o t:=by subst e1;exact lpM (oT h1 (oP h2 (oD h3 (oF h4 (oF h5 (oF h6 (oF h7 (oF h8 oZ)))))))) ih
theorem k0o (h8:Fn E G0 [.s s5] (.b false)):Lp E 1 D8 1 (U3 i0 r0 r1) .ret (z0l r0 r1):=lpX (oT h1 (oP h2 (oD h3 (oF h4 (oF h5 (oF h6 (oF h7 (oF h8 oZ))))))))
end
theorem k0p (h7:Fn E G0 [.s s4] (.b false)):Lp E 1 D8 1 (U3 i0 r0 r1) .ret (z0l r0 r1):=lpX (oT h1 (oP h2 (oD h3 (oF h4 (oF h5 (oF h6 (oF h7 oZ)))))))
end
theorem k0q (h6:Fn E G0 [.s s3] (.b false)):Lp E 1 D8 1 (U3 i0 r0 r1) .ret (z0l r0 r1):=lpX (oT h1 (oP h2 (oD h3 (oF h4 (oF h5 (oF h6 oZ))))))
end
theorem k0r (h5:Fn E G0 [.s s2] (.b false)):Lp E 1 D8 1 (U3 i0 r0 r1) .ret (z0l r0 r1):=lpX (oT h1 (oP h2 (oD h3 (oF h4 (oF h5 oZ)))))
end
theorem k0s (h4:Fn E G0 [.s s1] (.b false)):Lp E 1 D8 1 (U3 i0 r0 r1) .ret (z0l r0 r1):=lpX (oT h1 (oP h2 (oD h3 (oF h4 oZ))))
end
theorem k0t (h1:¬ i0 < (r1.length:Int)):Lp E 1 D8 1 (U3 i0 r0 r1) (.exit 2) (x2v r0 r1):=lpX (oU h1 oZ)
theorem q3r (h1:Lp E 1 D8 0 (Z0 0 r0 r1) .ret (z5m r0 r1)):Fn E D8 [.agg [.l r0,.l r1]] (.b false):=fnM (oL h1 oZ)
section
variable (h1:Lp E 1 D8 0 (Z0 0 r0 r1) (.exit 0) (x2u r0 r1))
include h1
theorem q3s (h2:Lp E 1 D8 1 (U3 0 r0 r1) .ret (z0l r0 r1)):Fn E D8 [.agg [.l r0,.l r1]] (.b false):=fnM (oL h1 (oL h2 oZ))
theorem q3t (h2:Lp E 1 D8 1 (U3 0 r0 r1) (.exit 2) (x2v r0 r1)):Fn E D8 [.agg [.l r0,.l r1]] (.b true):=fnM (oL h1 (oL h2 oZ))
end
theorem w1b (h1:i0≥1) (h2:i0≤1073741824):Fn E z6m [.i i0] (.b true):=fnM (oT h1 (oT h2 oZ))
theorem w1c (h1:i0≥1) (h2:¬ i0≤1073741824):Fn E z6m [.i i0] (.b false):=fnM (oT h1 (oU h2 oZ))
theorem w1d (h1:¬ i0≥1):Fn E z6m [.i i0] (.b false):=fnM (oU h1 oZ)
theorem w4e (h1:Fn E z1b [.s s0] (.tup [.q b0 r0 r1,.b b1])):Fn E D9 [.s s0] (.q b0 r0 r1):=fnM (oF h1 oZ)
theorem v5d (h1:(s0.size:Int)≥1) (h2:(s0.size:Int)≤64):Fn E z0x [.s s0] (.b true):=fnM (oT h1 (oT h2 oZ))
theorem v5e (h1:(s0.size:Int)≥1) (h2:¬ (s0.size:Int)≤64):Fn E z0x [.s s0] (.b false):=fnM (oT h1 (oU h2 oZ))
theorem v5f (h1:¬ (s0.size:Int)≥1):Fn E z0x [.s s0] (.b false):=fnM (oU h1 oZ)
def z7c (i0 i1:Int) (r0 r1:RW):St:=stOf 22 [(1,.i i0),(2,.ptr 0 0),(5,.i i1)] [sC [.l r0,.l r1]]
def x0r (r0 r1:RW) (i2:Int):St:=stOf 22 [(4,.i i2)] [sC [.l r0,.l r1]]
def x9j (r0 r1:RW):St:=stOf 22 [] [sC [.l r0,.l r1]]
section
variable (h1:i1 < (r1.length:Int)) (h2:0≤i1) (h3:r1[(Int.toNat i1)]?=some [.i i3,.s s0,.s s1,.s s2,.s s3,.s s4,.s s5])
include h1 h2 h3
theorem j9z (h4:¬ i3=i0) (e1:IntKind.i64.wrap (i1+1)=i4) (ih:Lp E 1 X8 0 (z7c i0 i4 r0 r1) o t):Lp E 1 X8 0 (z7c i0 i1 r0 r1) o t:=by subst e1;exact lpM (oT h1 (oP h2 (oD h3 (oC (beF h4) oZ)))) ih
theorem j2e (h4:i3=i0):Lp E 1 X8 0 (z7c i0 i1 r0 r1) .ret (x0r r0 r1 i1):=lpX (oT h1 (oP h2 (oD h3 (oB (beT h4) oZ))))
end
theorem j2f (h1:¬ i1 < (r1.length:Int)):Lp E 1 X8 0 (z7c i0 i1 r0 r1) (.exit 0) (x9j r0 r1):=lpX (oU h1 oZ)
theorem w0z (h1:Lp E 1 X8 0 (z7c i0 0 r0 r1) .ret (x0r r0 r1 i1)):Fn E X8 [.agg [.l r0,.l r1],.i i0] (.i i1):=fnM (oL h1 oZ)
theorem w1a (h1:Lp E 1 X8 0 (z7c i0 0 r0 r1) (.exit 0) (x9j r0 r1)):Fn E X8 [.agg [.l r0,.l r1],.i i0] (.i (-1)):=fnM (oL h1 oZ)
def z3s (i0 i1:Int) (r0 r1:RW):St:=stOf 22 [(1,.i i0),(2,.ptr 0 0),(5,.i i1)] [sC [.l r0,.l r1]]
def y6l (r0 r1:RW) (i2:Int):St:=stOf 22 [(4,.i i2)] [sC [.l r0,.l r1]]
def x4c (r0 r1:RW):St:=stOf 22 [] [sC [.l r0,.l r1]]
section
variable (h1:i1 < (r0.length:Int)) (h2:0≤i1) (h3:r0[(Int.toNat i1)]?=some [.i i3,.i i4,.i i5,.s s0,.s s1,.s s2,.s s3])
include h1 h2 h3
theorem j2j (h4:¬ i3=i0) (e1:IntKind.i64.wrap (i1+1)=i6) (ih:Lp E 1 J7 0 (z3s i0 i6 r0 r1) o t):Lp E 1 J7 0 (z3s i0 i1 r0 r1) o t:=by subst e1;exact lpM (oT h1 (oP h2 (oD h3 (oC (beF h4) oZ)))) ih
theorem k4b (h4:i3=i0):Lp E 1 J7 0 (z3s i0 i1 r0 r1) .ret (y6l r0 r1 i1):=lpX (oT h1 (oP h2 (oD h3 (oB (beT h4) oZ))))
end
theorem k4c (h1:¬ i1 < (r0.length:Int)):Lp E 1 J7 0 (z3s i0 i1 r0 r1) (.exit 0) (x4c r0 r1):=lpX (oU h1 oZ)
theorem q9u (h1:Lp E 1 J7 0 (z3s i0 0 r0 r1) .ret (y6l r0 r1 i1)):Fn E J7 [.agg [.l r0,.l r1],.i i0] (.i i1):=fnM (oL h1 oZ)
theorem q9v (h1:Lp E 1 J7 0 (z3s i0 0 r0 r1) (.exit 0) (x4c r0 r1)):Fn E J7 [.agg [.l r0,.l r1],.i i0] (.i (-1)):=fnM (oL h1 oZ)
theorem w0y (h1:Fn E C3 [.agg [.l r0,.l r1],.l r2] (.i i1)) (h2:i1=0) (h3:Fn E X8 [.agg [.l r0,.l r1],.i i0] (.i i2)) (h4:¬ i2 < 0) (h5:Fn E z1r [.agg [.l r0,.l r1],.l r2,.i i0] (.agg [.s s0,.s s1,.s s2,.s s3,.s s4,.s s5])):Fn E x7l [.agg [.l r0,.l r1],.l r2,.i i0] (.tup [.agg [.s s0,.s s1,.s s2,.s s3,.s s4,.s s5],.i 0]):=fnM (oF h1 (oC (bnF h2) (oF h3 (oU h4 (oF h5 oZ)))))
def P9 (r0:RW) (i0 i1 i2:Int) (r1 r2:RW):St:=stOf 94 [(1,.l r0),(2,.ptr 0 0),(5,.i i0),(7,.i i1),(8,.i i2)] [sC [.l r1,.l r2]]
def y1g (r1 r2:RW):St:=stOf 94 [(4,.i 12)] [sC [.l r1,.l r2]]
def y1h (r0:RW) (i0:Int) (r1 r2:RW):St:=stOf 94 [(1,.l r0),(2,.ptr 0 0),(5,.i i0)] [sC [.l r1,.l r2]]
section
variable (h1:i2≤i0) (h2:0≤i2) (h3:r0[(Int.toNat i2)]?=some [.i i3,.i i4,.i i5]) (h4:0≤i0) (h5:r0[(Int.toNat i0)]?=some [.i i6,.i i7,.i i8])
include h1 h2 h3 h4 h5
theorem x2s (h6:i4=i7) (h7:¬ i5 > i1) (e1:IntKind.i64.wrap (i1 - i5)=i9) (e2:IntKind.i64.wrap (i2+1)=i10) (ih:Lp E 1 C3 1 (P9 r0 i0 i9 i10 r1 r2) o t):Lp E 1 C3 1 (P9 r0 i0 i1 i2 r1 r2) o t:=by subst e1 e2;exact lpM (oT h1 (oP h2 (oD h3 (oP h4 (oD h5 (oB (beT h6) (oP h2 (oD h3 (oU h7 (oP h2 (oD h3 oZ))))))))))) ih
theorem x2t (h6:¬ i4=i7) (e1:IntKind.i64.wrap (i2+1)=i9) (ih:Lp E 1 C3 1 (P9 r0 i0 i1 i9 r1 r2) o t):Lp E 1 C3 1 (P9 r0 i0 i1 i2 r1 r2) o t:=by subst e1;exact lpM (oT h1 (oP h2 (oD h3 (oP h4 (oD h5 (oC (beF h6) oZ)))))) ih
theorem k4k (h6:i4=i7) (h7:i5 > i1):Lp E 1 C3 1 (P9 r0 i0 i1 i2 r1 r2) .ret (y1g r1 r2):=lpX (oT h1 (oP h2 (oD h3 (oP h4 (oD h5 (oB (beT h6) (oP h2 (oD h3 (oT h7 oZ)))))))))
end
theorem k4l (h1:¬ i2≤i0):Lp E 1 C3 1 (P9 r0 i0 i1 i2 r1 r2) (.exit 2) (y1h r0 i0 r1 r2):=lpX (oU h1 oZ)
def M3 (r0:RW) (i0:Int) (r1 r2:RW):St:=stOf 94 [(1,.l r0),(2,.ptr 0 0),(5,.i i0)] [sC [.l r1,.l r2]]
def Z6 (r1 r2:RW) (i1:Int):St:=stOf 94 [(4,.i i1)] [sC [.l r1,.l r2]]
def y6m (r1 r2:RW):St:=stOf 94 [] [sC [.l r1,.l r2]]
section
variable (h1:i0 < (r0.length:Int)) (h2:0≤i0) (h3:r0[(Int.toNat i0)]?=some [.i i2,.i i3,.i i4]) (h4:Fn E J7 [.agg [.l r1,.l r2],.i i3] (.i i5))
include h1 h2 h3 h4
section
variable (h5:¬ i5 < 0) (h6:Fn E X8 [.agg [.l r1,.l r2],.i i2] (.i i6)) (h7:¬ i6 < 0) (h8:¬ i4 < 1)
include h5 h6 h7 h8
theorem j2k (h9:i0 > 0) (h10:0≤i7) (h11:r0[(Int.toNat i7)]?=some [.i i8,.i i9,.i i10]) (h12:Fn E z2u [.agg [.i i8,.i i9,.i i10],.agg [.i i2,.i i3,.i i4]] (.b true)) (h13:0≤i5) (h14:r1[(Int.toNat i5)]?=some [.i i11,.i i12,.i i13,.s s0,.s s1,.s s2,.s s3]) (h15:Lp E 1 C3 1 (P9 r0 i0 i12 0 r1 r2) (.exit 2) (y1h r0 i0 r1 r2)) (e1:IntKind.i64.wrap (i0 - 1)=i7) (e2:IntKind.i64.wrap (i0+1)=i14) (ih:Lp E 1 C3 0 (M3 r0 i14 r1 r2) o t):Lp E 1 C3 0 (M3 r0 i0 r1 r2) o t:=by subst e1 e2;exact lpM (oT h1 (oP h2 (oD h3 (oF h4 (oU h5 (oP h2 (oD h3 (oF h6 (oU h7 (oP h2 (oD h3 (oU h8 (oT h9 (oP h10 (oD h11 (oP h2 (oD h3 (oF h12 (oP h13 (oD h14 (oL h15 oZ))))))))))))))))))))) ih
theorem j2l (h9:¬ i0 > 0) (h10:0≤i5) (h11:r1[(Int.toNat i5)]?=some [.i i7,.i i8,.i i9,.s s4,.s s5,.s s6,.s s7]) (h12:Lp E 1 C3 1 (P9 r0 i0 i8 0 r1 r2) (.exit 2) (y1h r0 i0 r1 r2)) (e1:IntKind.i64.wrap (i0+1)=i13) (ih:Lp E 1 C3 0 (M3 r0 i13 r1 r2) o t):Lp E 1 C3 0 (M3 r0 i0 r1 r2) o t:=by subst e1;exact lpM (oT h1 (oP h2 (oD h3 (oF h4 (oU h5 (oP h2 (oD h3 (oF h6 (oU h7 (oP h2 (oD h3 (oU h8 (oU h9 (oP h10 (oD h11 (oL h12 oZ)))))))))))))))) ih
end
theorem k4d (h5:i5 < 0):Lp E 1 C3 0 (M3 r0 i0 r1 r2) .ret (Z6 r1 r2 7):=lpX (oT h1 (oP h2 (oD h3 (oF h4 (oT h5 oZ)))))
section
variable (h5:¬ i5 < 0) (h6:Fn E X8 [.agg [.l r1,.l r2],.i i2] (.i i6))
include h5 h6
theorem k4e (h7:i6 < 0):Lp E 1 C3 0 (M3 r0 i0 r1 r2) .ret (Z6 r1 r2 7):=lpX (oT h1 (oP h2 (oD h3 (oF h4 (oU h5 (oP h2 (oD h3 (oF h6 (oT h7 oZ)))))))))
section
variable (h7:¬ i6 < 0)
include h7
theorem k4f (h8:i4 < 1):Lp E 1 C3 0 (M3 r0 i0 r1 r2) .ret (Z6 r1 r2 2):=lpX (oT h1 (oP h2 (oD h3 (oF h4 (oU h5 (oP h2 (oD h3 (oF h6 (oU h7 (oP h2 (oD h3 (oT h8 oZ))))))))))))
theorem k4g (h8:¬ i4 < 1) (h9:i0 > 0) (h10:0≤i7) (h11:r0[(Int.toNat i7)]?=some [.i i8,.i i9,.i i10]) (h12:Fn E z2u [.agg [.i i8,.i i9,.i i10],.agg [.i i2,.i i3,.i i4]] (.b true)) (h13:0≤i5) (h14:r1[(Int.toNat i5)]?=some [.i i11,.i i12,.i i13,.s s0,.s s1,.s s2,.s s3]) (h15:Lp E 1 C3 1 (P9 r0 i0 i12 0 r1 r2) .ret (y1g r1 r2)) (e1:IntKind.i64.wrap (i0 - 1)=i7):Lp E 1 C3 0 (M3 r0 i0 r1 r2) .ret (Z6 r1 r2 12):=by subst e1;exact lpX (oT h1 (oP h2 (oD h3 (oF h4 (oU h5 (oP h2 (oD h3 (oF h6 (oU h7 (oP h2 (oD h3 (oU h8 (oT h9 (oP h10 (oD h11 (oP h2 (oD h3 (oF h12 (oP h13 (oD h14 (oL h15 oZ)))))))))))))))))))))
theorem k4h (h8:¬ i4 < 1) (h9:i0 > 0) (h10:0≤i7) (h11:r0[(Int.toNat i7)]?=some [.i i8,.i i9,.i i10]) (h12:Fn E z2u [.agg [.i i8,.i i9,.i i10],.agg [.i i2,.i i3,.i i4]] (.b false)) (e1:IntKind.i64.wrap (i0 - 1)=i7):Lp E 1 C3 0 (M3 r0 i0 r1 r2) .ret (Z6 r1 r2 5):=by subst e1;exact lpX (oT h1 (oP h2 (oD h3 (oF h4 (oU h5 (oP h2 (oD h3 (oF h6 (oU h7 (oP h2 (oD h3 (oU h8 (oT h9 (oP h10 (oD h11 (oP h2 (oD h3 (oF h12 oZ))))))))))))))))))
theorem k4i (h8:¬ i4 < 1) (h9:¬ i0 > 0) (h10:0≤i5) (h11:r1[(Int.toNat i5)]?=some [.i i7,.i i8,.i i9,.s s4,.s s5,.s s6,.s s7]) (h12:Lp E 1 C3 1 (P9 r0 i0 i8 0 r1 r2) .ret (y1g r1 r2)):Lp E 1 C3 0 (M3 r0 i0 r1 r2) .ret (Z6 r1 r2 12):=lpX (oT h1 (oP h2 (oD h3 (oF h4 (oU h5 (oP h2 (oD h3 (oF h6 (oU h7 (oP h2 (oD h3 (oU h8 (oU h9 (oP h10 (oD h11 (oL h12 oZ))))))))))))))))
end
end
end
theorem k4j (h1:¬ i0 < (r0.length:Int)):Lp E 1 C3 0 (M3 r0 i0 r1 r2) (.exit 0) (y6m r1 r2):=lpX (oU h1 oZ)
section
variable (h1:Fn E B6 [.agg [.l r0,.l r1]] (.i i0))
include h1
theorem q9w (h2:¬ i0=0):Fn E C3 [.agg [.l r0,.l r1],.l r2] (.i 1):=fnM (oF h1 (oB (bnT h2) oZ))
theorem q9x (h2:i0=0) (h3:Lp E 1 C3 0 (M3 r2 0 r0 r1) .ret (Z6 r0 r1 i1)):Fn E C3 [.agg [.l r0,.l r1],.l r2] (.i i1):=fnM (oF h1 (oC (bnF h2) (oL h3 oZ)))
theorem q9y (h2:i0=0) (h3:Lp E 1 C3 0 (M3 r2 0 r0 r1) (.exit 0) (y6m r0 r1)):Fn E C3 [.agg [.l r0,.l r1],.l r2] (.i 0):=fnM (oF h1 (oC (bnF h2) (oL h3 oZ)))
end
def z9e (r0:RW) (i0 i1:Int) (r1 r2:RW) (s0 s1 s2 s3 s4 s5:BA) (b0:Bool) (r3 r4:RW) (b1:Bool) (r5 r6:RW) (b2:Bool) (r7 r8:RW) (b3:Bool) (r9 r10:RW) (b4:Bool) (r11 r12:RW) (b5:Bool) (r13 r14:RW):St:=stOf 129 [(1,.l r0),(2,.i i0),(3,.ptr 0 0),(6,.ptr 1 0),(7,.ptr 2 0),(8,.ptr 3 0),(9,.ptr 4 0),(10,.ptr 5 0),(11,.ptr 6 0),(12,.ptr 7 0),(13,.i i1)] [sC [.l r1,.l r2],sC [.s s0,.s s1,.s s2,.s s3,.s s4,.s s5],sC [.b b0,.l r3,.l r4],sC [.b b1,.l r5,.l r6],sC [.b b2,.l r7,.l r8],sC [.b b3,.l r9,.l r10],sC [.b b4,.l r11,.l r12],sC [.b b5,.l r13,.l r14]]
def x2w (r1 r2:RW) (s0 s1 s2 s3 s4 s5:BA) (b6:Bool) (r15 r16:RW) (b7:Bool) (r17 r18:RW) (b8:Bool) (r19 r20:RW) (b9:Bool) (r21 r22:RW) (b10:Bool) (r23 r24:RW) (b11:Bool) (r25 r26:RW):St:=stOf 129 [(6,.ptr 1 0),(7,.ptr 2 0),(8,.ptr 3 0),(9,.ptr 4 0),(10,.ptr 5 0),(11,.ptr 6 0),(12,.ptr 7 0)] [sC [.l r1,.l r2],sC [.s s0,.s s1,.s s2,.s s3,.s s4,.s s5],sC [.b b6,.l r15,.l r16],sC [.b b7,.l r17,.l r18],sC [.b b8,.l r19,.l r20],sC [.b b9,.l r21,.l r22],sC [.b b10,.l r23,.l r24],sC [.b b11,.l r25,.l r26]]
section
variable (h1:i1 < (r0.length:Int))
include h1
section
variable (h2:¬ i0=0) (h3:0≤i1) (h4:r0[(Int.toNat i1)]?=some [.i i2,.i i3,.i i4])
include h2 h3 h4
theorem q3u (h5:¬ i2=i0) (e1:IntKind.i64.wrap (i1+1)=i5) (ih:Lp E 8 z1r 0 (z9e r0 i0 i5 r1 r2 s0 s1 s2 s3 s4 s5 b0 r3 r4 b1 r5 r6 b2 r7 r8 b3 r9 r10 b4 r11 r12 b5 r13 r14) o t):Lp E 8 z1r 0 (z9e r0 i0 i1 r1 r2 s0 s1 s2 s3 s4 s5 b0 r3 r4 b1 r5 r6 b2 r7 r8 b3 r9 r10 b4 r11 r12 b5 r13 r14) o t:=by subst e1;exact lpM (oT h1 (oB (bnT h2) (oP h3 (oD h4 (oB (bnT h5) oZ))))) ih
theorem q3v (h5:i2=i0) (h6:Fn E J7 [.agg [.l r1,.l r2],.i i3] (.i i5)) (h7:0≤i5) (h8:r1[(Int.toNat i5)]?=some [.i i6,.i i7,.i i8,.s s6,.s s7,.s s8,.s s9]) (h9:Fn E X8 [.agg [.l r1,.l r2],.i i2] (.i i9)) (h10:0≤i9) (h11:r2[(Int.toNat i9)]?=some [.i i10,.s s10,.s s11,.s s12,.s s13,.s s14,.s s15]) (h12:Fn E Z4 [.i i4] (.q b12 r27 r28)) (h13:Fn E D9 [.s s7] (.q b13 r29 r30)) (h14:Fn E z6l [.q b12 r27 r28,.q b13 r29 r30] (.q b14 r31 r32)) (h15:Fn E z2t [.q b0 r3 r4,.q b14 r31 r32] (.q b15 r33 r34)) (h16:Fn E D9 [.s s8] (.q b16 r35 r36)) (h17:Fn E z6l [.q b12 r27 r28,.q b16 r35 r36] (.q b17 r37 r38)) (h18:Fn E z2t [.q b1 r5 r6,.q b17 r37 r38] (.q b18 r39 r40)) (h19:Fn E D9 [.s s9] (.q b19 r41 r42)) (h20:Fn E z6l [.q b12 r27 r28,.q b19 r41 r42] (.q b20 r43 r44)) (h21:Fn E z2t [.q b2 r7 r8,.q b20 r43 r44] (.q b21 r45 r46)) (h22:Fn E D9 [.s s13] (.q b22 r47 r48)) (h23:Fn E z6l [.q b14 r31 r32,.q b22 r47 r48] (.q b23 r49 r50)) (h24:Fn E z2t [.q b3 r9 r10,.q b23 r49 r50] (.q b24 r51 r52)) (h25:Fn E D9 [.s s14] (.q b25 r53 r54)) (h26:Fn E z6l [.q b14 r31 r32,.q b25 r53 r54] (.q b26 r55 r56)) (h27:Fn E z2t [.q b4 r11 r12,.q b26 r55 r56] (.q b27 r57 r58)) (h28:Fn E D9 [.s s15] (.q b28 r59 r60)) (h29:Fn E z6l [.q b14 r31 r32,.q b28 r59 r60] (.q b29 r61 r62)) (h30:Fn E z2t [.q b5 r13 r14,.q b29 r61 r62] (.q b30 r63 r64)) (e1:IntKind.i64.wrap (i1+1)=i11) (ih:Lp E 8 z1r 0 (z9e r0 i0 i11 r1 r2 s0 s1 s2 s3 s4 s5 b15 r33 r34 b18 r39 r40 b21 r45 r46 b24 r51 r52 b27 r57 r58 b30 r63 r64) o t):Lp E 8 z1r 0 (z9e r0 i0 i1 r1 r2 s0 s1 s2 s3 s4 s5 b0 r3 r4 b1 r5 r6 b2 r7 r8 b3 r9 r10 b4 r11 r12 b5 r13 r14) o t:=by subst e1;exact lpM (oT h1 (oB (bnT h2) (oP h3 (oD h4 (oC (bnF h5) (oP h3 (oD h4 (oF h6 (oP h7 (oD h8 (oP h3 (oD h4 (oF h9 (oP h10 (oD h11 (oP h3 (oD h4 (oF h12 (oF h13 (oF h14 (oF h15 (oF h16 (oF h17 (oF h18 (oF h19 (oF h20 (oF h21 (oF h22 (oF h23 (oF h24 (oF h25 (oF h26 (oF h27 (oF h28 (oF h29 (oF h30 oZ)))))))))))))))))))))))))))))))))))) ih
end
end
theorem j6i (h1:¬ i1 < (r0.length:Int)):Lp E 8 z1r 0 (z9e r0 i0 i1 r1 r2 s0 s1 s2 s3 s4 s5 b0 r3 r4 b1 r5 r6 b2 r7 r8 b3 r9 r10 b4 r11 r12 b5 r13 r14) (.exit 0) (x2w r1 r2 s0 s1 s2 s3 s4 s5 b0 r3 r4 b1 r5 r6 b2 r7 r8 b3 r9 r10 b4 r11 r12 b5 r13 r14):=lpX (oU h1 oZ)
theorem w4f (h1:Fn E Z4 [.i 0] (.q b0 r3 r4)) (h2:Lp E 8 z1r 0 (z9e r2 i0 0 r0 r1 ⟨#[]⟩ ⟨#[]⟩ ⟨#[]⟩ ⟨#[]⟩ ⟨#[]⟩ ⟨#[]⟩ b0 r3 r4 b0 r3 r4 b0 r3 r4 b0 r3 r4 b0 r3 r4 b0 r3 r4) (.exit 0) (x2w r0 r1 ⟨#[]⟩ ⟨#[]⟩ ⟨#[]⟩ ⟨#[]⟩ ⟨#[]⟩ ⟨#[]⟩ b1 r5 r6 b2 r7 r8 b3 r9 r10 b4 r11 r12 b5 r13 r14 b6 r15 r16)) (h3:Fn E z5f [.q b1 r5 r6] (.s s0)) (h4:Fn E z5f [.q b2 r7 r8] (.s s1)) (h5:Fn E z5f [.q b3 r9 r10] (.s s2)) (h6:Fn E z5f [.q b4 r11 r12] (.s s3)) (h7:Fn E z5f [.q b5 r13 r14] (.s s4)) (h8:Fn E z5f [.q b6 r15 r16] (.s s5)):Fn E z1r [.agg [.l r0,.l r1],.l r2,.i i0] (.agg [.s s0,.s s1,.s s2,.s s3,.s s4,.s s5]):=fnM (oF h1 (oF h1 (oF h1 (oF h1 (oF h1 (oF h1 (oL h2 (oF h3 (oF h4 (oF h5 (oF h6 (oF h7 (oF h8 oZ)))))))))))))
theorem q9z (h1:i0 < i3):Fn E z2u [.agg [.i i0,.i i1,.i i2],.agg [.i i3,.i i4,.i i5]] (.b true):=fnM (oT h1 oZ)
theorem v0a (h1:¬ i0 < i3) (h2:i0=i3) (h3:i1 < i4):Fn E z2u [.agg [.i i0,.i i1,.i i2],.agg [.i i3,.i i4,.i i5]] (.b true):=fnM (oU h1 (oB (beT h2) (oT h3 oZ)))
theorem v0b (h1:¬ i0 < i3) (h2:i0=i3) (h3:¬ i1 < i4):Fn E z2u [.agg [.i i0,.i i1,.i i2],.agg [.i i3,.i i4,.i i5]] (.b false):=fnM (oU h1 (oB (beT h2) (oU h3 oZ)))
theorem v0c (h1:¬ i0 < i3) (h2:¬ i0=i3):Fn E z2u [.agg [.i i0,.i i1,.i i2],.agg [.i i3,.i i4,.i i5]] (.b false):=fnM (oU h1 (oC (beF h2) oZ))
end Gev
namespace Gev
open Go Go.Proofs
variable {E:Env}
variable {o:Out} {t:St} {r0 r1 r2 r3 r4:RW} {i0 i1 i2 i3 i4 i5 i6 i7 i8 i9 i10 i11:Int} {n0 n1:Nat} {s0 s1 s2 s3 s4 s5 s6 s7 s8:BA}
def Z2 (r0 r1:RW) (i0 i1:Int):St:=stOf 26 [(0,.l r0),(1,.l r1),(12,.i i0),(13,.i i1)] []
def y0t:St:=stOf 26 [(4,.b false)] []
def y7m:St:=stOf 26 [] []
section
variable (h1:i1 < i0) (h2:0≤i1) (h3:r0[(Int.toNat i1)]?=some [.i i2]) (h4:r1[(Int.toNat i1)]?=some [.i i3])
include h1 h2 h3 h4
theorem x8j (h5:i2=i3) (e1:IntKind.i64.wrap (i1+1)=i4) (ih:Lp E 0 J6 0 (Z2 r0 r1 i0 i4) o t):Lp E 0 J6 0 (Z2 r0 r1 i0 i1) o t:=by subst e1;exact lpM (oT h1 (oP h2 (oD h3 (oP h2 (oD h4 (oC (bnF h5) oZ)))))) ih
theorem x5e (h5:¬ i2=i3):Lp E 0 J6 0 (Z2 r0 r1 i0 i1) .ret (y0t):=lpX (oT h1 (oP h2 (oD h3 (oP h2 (oD h4 (oB (bnT h5) oZ))))))
end
theorem x5f (h1:¬ i1 < i0):Lp E 0 J6 0 (Z2 r0 r1 i0 i1) (.exit 0) (y7m):=lpX (oU h1 oZ)
theorem j2u (h1:¬ (r0.length:Int)=(r1.length:Int)):Fn E J6 [.l r0,.l r1] (.b false):=fnM (oB (bnT h1) oZ)
section
variable (h1:(r0.length:Int)=(r1.length:Int))
include h1
theorem j2v (h2:Lp E 0 J6 0 (Z2 r0 r1 (r0.length:Int) 0) .ret (y0t)):Fn E J6 [.l r0,.l r1] (.b false):=fnM (oC (bnF h1) (oL h2 oZ))
theorem j2w (h2:Lp E 0 J6 0 (Z2 r0 r1 (r0.length:Int) 0) (.exit 0) (y7m)):Fn E J6 [.l r0,.l r1] (.b true):=fnM (oC (bnF h1) (oL h2 oZ))
end
def N3 (n0:Nat) (i0 i1:Int) (r0:RW) (s0:BA):St:=stOf 42 [(0,.vec 0 n0),(1,.fn G2 [.ptr 1 0]),(5,.i i0),(6,.i i1)] [sV D1 r0,sC [.s s0]]
def z4k (n0:Nat) (s0:BA) (i2:Int) (r1:RW):St:=stOf 42 [(0,.vec 0 n0),(5,.i i2)] [sV D1 r1,sC [.s s0]]
section
variable (h1:i1 < ((n0:Nat):Int)) (h2:0≤i1∧i1 < ((n0:Nat):Int)) (h3:r0[(Int.toNat i1)]?=some [.s s1,.i i3,.l r2,.s s2,.s s3,.i i4,.i i5])
include h1 h2 h3
theorem x0t (h4:Rn E G2 [.agg [.s s1,.i i3,.l r2,.s s2,.s s3,.i i4,.i i5],.ptr 1 0] [sV D1 r0,sC [.s s0],sC [.s s1,.i i3,.l r2,.s s2,.s s3,.i i4,.i i5]] (.b true) [sV D1 r0,sC [.s s0],sC [.s s1,.i i3,.l r2,.s s2,.s s3,.i i4,.i i5]]) (e1:IntKind.i64.wrap (i1+1)=i6) (ih:Lp E 2 F4 0 (N3 n0 i0 i6 r0 s0) o t):Lp E 2 F4 0 (N3 n0 i0 i1 r0 s0) o t:=by subst e1;exact lpM (oT h1 (oP h2 (oD h3 (oR h4 oZ)))) ih
theorem x0u (h4:Rn E G2 [.agg [.s s1,.i i3,.l r2,.s s2,.s s3,.i i4,.i i5],.ptr 1 0] [sV D1 r0,sC [.s s0],sC [.s s1,.i i3,.l r2,.s s2,.s s3,.i i4,.i i5]] (.b false) [sV D1 r0,sC [.s s0],sC [.s s1,.i i3,.l r2,.s s2,.s s3,.i i4,.i i5]]) (h5:0≤i0∧i0 < ((n0:Nat):Int)) (h6:r0[(Int.toNat i0)]?=some [.s s4,.i i7,.l r3,.s s5,.s s6,.i i8,.i i9]) (e1:List.set r0 (Int.toNat i0) [.s s1,.i i3,.l r2,.s s2,.s s3,.i i4,.i i5]=r4) (e2:IntKind.i64.wrap (i0+1)=i10) (e3:IntKind.i64.wrap (i1+1)=i11) (ih:Lp E 2 F4 0 (N3 n0 i10 i11 r4 s0) o t):Lp E 2 F4 0 (N3 n0 i0 i1 r0 s0) o t:=by subst e1 e2 e3;exact lpM (oT h1 (oP h2 (oD h3 (oR h4 (oP h5 (oD h6 oZ)))))) ih
end
theorem y8o (h1:¬ i1 < ((n0:Nat):Int)):Lp E 2 F4 0 (N3 n0 i0 i1 r0 s0) (.exit 0) (z4k n0 s0 i0 r0):=lpX (oU h1 oZ)
section
variable (h1:Rn E B7 [.vec 0 n0,.fn G2 [.ptr 1 0]] [sV D1 r0,sC [.s s0]] (.i i0) [sV D1 r0,sC [.s s0]])
include h1
theorem y0r (h2:i0=(-1)):Rn E F4 [.vec 0 n0,.fn G2 [.ptr 1 0]] [sV D1 r0,sC [.s s0]] (.vec 0 n0) [sV D1 r0,sC [.s s0]]:=rnM (oR h1 (oB (beT h2) oZ))
theorem y0s (h2:¬ i0=(-1)) (h3:Lp E 2 F4 0 (N3 n0 i0 i1 r0 s0) (.exit 0) (z4k n0 s0 i2 r1)) (h4:0≤i2∧i2≤((n0:Nat):Int)∧((n0:Nat):Int)≤((n0:Nat):Int)) (h5:0≤i2∧i2≤((n0:Nat):Int)) (e1:IntKind.i64.wrap (i0+1)=i1) (e2:(r1.take (Int.toNat i2))++List.replicate (n0 - (Int.toNat i2)) [.s ⟨#[]⟩,.i 0,.l [],.s ⟨#[]⟩,.s ⟨#[]⟩,.i 0,.i 0]++List.drop n0 r1=r2) (e3:(Int.toNat i2)=n1):Rn E F4 [.vec 0 n0,.fn G2 [.ptr 1 0]] [sV D1 r0,sC [.s s0]] (.vec 0 n1) [sV D1 r2,sC [.s s0]]:=by subst e1 e2 e3;exact rnM (oR h1 (oC (beF h2) (oL h3 (oG (oP h4 (oP h5 oZ))))))
end
section
variable (h1:Fn E C0 [.l r0,.fn H8 []] (.i i0))
include h1
theorem z9f (h2:i0≥0):Fn E I4 [.l r0,.fn H8 []] (.b true):=fnM (oF h1 (oT h2 oZ))
theorem z9g (h2:¬ i0≥0):Fn E I4 [.l r0,.fn H8 []] (.b false):=fnM (oF h1 (oU h2 oZ))
end
section
variable (h1:Rn E B7 [.l r0,.fn G9 [.ptr 0 0]] [sC [.s s0,.i i0,.l r1,.s s1,.s s2,.i i1,.i i2]] (.i i3) [sC [.s s0,.i i0,.l r1,.s s1,.s s2,.i i1,.i i2]])
include h1
theorem z8e (h2:i3≥0):Rn E Y2 [.l r0,.fn G9 [.ptr 0 0]] [sC [.s s0,.i i0,.l r1,.s s1,.s s2,.i i1,.i i2]] (.b true) [sC [.s s0,.i i0,.l r1,.s s1,.s s2,.i i1,.i i2]]:=rnM (oR h1 (oT h2 oZ))
theorem z8f (h2:¬ i3≥0):Rn E Y2 [.l r0,.fn G9 [.ptr 0 0]] [sC [.s s0,.i i0,.l r1,.s s1,.s s2,.i i1,.i i2]] (.b false) [sC [.s s0,.i i0,.l r1,.s s1,.s s2,.i i1,.i i2]]:=rnM (oR h1 (oU h2 oZ))
end
def P0 (r0:RW) (i0 i1:Int) (r1 r2 r3:RW):St:=stOf 19 [(0,.l r0),(1,.fn J0 [.ptr 0 0,.ptr 1 0]),(7,.i i0),(8,.i i1)] [sC [.l r1,.l r2],sC [.l r3]]
def z5r (r1 r2 r3:RW) (i2:Int):St:=stOf 19 [(4,.i i2)] [sC [.l r1,.l r2],sC [.l r3]]
def y2h (r1 r2 r3:RW):St:=stOf 19 [] [sC [.l r1,.l r2],sC [.l r3]]
section
variable (h1:i1 < i0) (h2:0≤i1) (h3:r0[(Int.toNat i1)]?=some [.i i3,.s s0,.s s1,.s s2,.s s3,.s s4,.s s5])
include h1 h2 h3
theorem x1s (h4:Rn E J0 [.agg [.i i3,.s s0,.s s1,.s s2,.s s3,.s s4,.s s5],.ptr 0 0,.ptr 1 0] [sC [.l r1,.l r2],sC [.l r3]] (.b false) [sC [.l r1,.l r2],sC [.l r3]]) (e1:IntKind.i64.wrap (i1+1)=i4) (ih:Lp E 2 B1 0 (P0 r0 i0 i4 r1 r2 r3) o t):Lp E 2 B1 0 (P0 r0 i0 i1 r1 r2 r3) o t:=by subst e1;exact lpM (oT h1 (oP h2 (oD h3 (oR h4 oZ)))) ih
theorem x0a (h4:Rn E J0 [.agg [.i i3,.s s0,.s s1,.s s2,.s s3,.s s4,.s s5],.ptr 0 0,.ptr 1 0] [sC [.l r1,.l r2],sC [.l r3]] (.b true) [sC [.l r1,.l r2],sC [.l r3]]):Lp E 2 B1 0 (P0 r0 i0 i1 r1 r2 r3) .ret (z5r r1 r2 r3 i1):=lpX (oT h1 (oP h2 (oD h3 (oR h4 oZ))))
end
theorem x0b (h1:¬ i1 < i0):Lp E 2 B1 0 (P0 r0 i0 i1 r1 r2 r3) (.exit 0) (y2h r1 r2 r3):=lpX (oU h1 oZ)
theorem z8i (h1:Lp E 2 B1 0 (P0 r0 (r0.length:Int) 0 r1 r2 r3) .ret (z5r r1 r2 r3 i0)):Rn E B1 [.l r0,.fn J0 [.ptr 0 0,.ptr 1 0]] [sC [.l r1,.l r2],sC [.l r3]] (.i i0) [sC [.l r1,.l r2],sC [.l r3]]:=rnM (oL h1 oZ)
theorem z8j (h1:Lp E 2 B1 0 (P0 r0 (r0.length:Int) 0 r1 r2 r3) (.exit 0) (y2h r1 r2 r3)):Rn E B1 [.l r0,.fn J0 [.ptr 0 0,.ptr 1 0]] [sC [.l r1,.l r2],sC [.l r3]] (.i (-1)) [sC [.l r1,.l r2],sC [.l r3]]:=rnM (oL h1 oZ)
def P2 (n0:Nat) (i0 i1:Int) (r0:RW) (s0:BA):St:=stOf 19 [(0,.vec 0 n0),(1,.fn G2 [.ptr 1 0]),(7,.i i0),(8,.i i1)] [sV D1 r0,sC [.s s0]]
def z5t (r0:RW) (s0:BA) (i2:Int):St:=stOf 19 [(4,.i i2)] [sV D1 r0,sC [.s s0]]
def y2j (r0:RW) (s0:BA):St:=stOf 19 [] [sV D1 r0,sC [.s s0]]
section
variable (h1:i1 < i0) (h2:0≤i1∧i1 < ((n0:Nat):Int)) (h3:r0[(Int.toNat i1)]?=some [.s s1,.i i3,.l r1,.s s2,.s s3,.i i4,.i i5])
include h1 h2 h3
theorem x1u (h4:Rn E G2 [.agg [.s s1,.i i3,.l r1,.s s2,.s s3,.i i4,.i i5],.ptr 1 0] [sV D1 r0,sC [.s s0]] (.b false) [sV D1 r0,sC [.s s0]]) (e1:IntKind.i64.wrap (i1+1)=i6) (ih:Lp E 2 B7 0 (P2 n0 i0 i6 r0 s0) o t):Lp E 2 B7 0 (P2 n0 i0 i1 r0 s0) o t:=by subst e1;exact lpM (oT h1 (oP h2 (oD h3 (oR h4 oZ)))) ih
theorem x0f (h4:Rn E G2 [.agg [.s s1,.i i3,.l r1,.s s2,.s s3,.i i4,.i i5],.ptr 1 0] [sV D1 r0,sC [.s s0]] (.b true) [sV D1 r0,sC [.s s0]]):Lp E 2 B7 0 (P2 n0 i0 i1 r0 s0) .ret (z5t r0 s0 i1):=lpX (oT h1 (oP h2 (oD h3 (oR h4 oZ))))
end
theorem x0g (h1:¬ i1 < i0):Lp E 2 B7 0 (P2 n0 i0 i1 r0 s0) (.exit 0) (y2j r0 s0):=lpX (oU h1 oZ)
theorem y1q (h1:Lp E 2 B7 0 (P2 n0 ((n0:Nat):Int) 0 r0 s0) .ret (z5t r0 s0 i0)):Rn E B7 [.vec 0 n0,.fn G2 [.ptr 1 0]] [sV D1 r0,sC [.s s0]] (.i i0) [sV D1 r0,sC [.s s0]]:=rnM (oL h1 oZ)
theorem y1r (h1:Lp E 2 B7 0 (P2 n0 ((n0:Nat):Int) 0 r0 s0) (.exit 0) (y2j r0 s0)):Rn E B7 [.vec 0 n0,.fn G2 [.ptr 1 0]] [sV D1 r0,sC [.s s0]] (.i (-1)) [sV D1 r0,sC [.s s0]]:=rnM (oL h1 oZ)
section
variable (h1:Fn E C0 [.l r0,.fn K8 []] (.i i0))
include h1
theorem y0p (h2:i0≥0):Fn E I4 [.l r0,.fn K8 []] (.b true):=fnM (oF h1 (oT h2 oZ))
theorem y0q (h2:¬ i0≥0):Fn E I4 [.l r0,.fn K8 []] (.b false):=fnM (oF h1 (oU h2 oZ))
end
def U4 (r0:RW) (i0 i1:Int):St:=stOf 19 [(0,.l r0),(1,.fn H8 []),(7,.i i0),(8,.i i1)] []
def z6h (i2:Int):St:=stOf 19 [(4,.i i2)] []
def y3h:St:=stOf 19 [] []
section
variable (h1:i1 < i0) (h2:0≤i1) (h3:r0[(Int.toNat i1)]?=some [.s s0])
include h1 h2 h3
theorem x2y (h4:Fn E H8 [.s s0] (.b false)) (e1:IntKind.i64.wrap (i1+1)=i3) (ih:Lp E 0 C0 0 (U4 r0 i0 i3) o t):Lp E 0 C0 0 (U4 r0 i0 i1) o t:=by subst e1;exact lpM (oT h1 (oP h2 (oD h3 (oF h4 oZ)))) ih
theorem x0z (h4:Fn E H8 [.s s0] (.b true)):Lp E 0 C0 0 (U4 r0 i0 i1) .ret (z6h i1):=lpX (oT h1 (oP h2 (oD h3 (oF h4 oZ))))
end
theorem x1a (h1:¬ i1 < i0):Lp E 0 C0 0 (U4 r0 i0 i1) (.exit 0) (y3h):=lpX (oU h1 oZ)
theorem y1o (h1:Lp E 0 C0 0 (U4 r0 (r0.length:Int) 0) .ret (z6h i0)):Fn E C0 [.l r0,.fn H8 []] (.i i0):=fnM (oL h1 oZ)
theorem y1p (h1:Lp E 0 C0 0 (U4 r0 (r0.length:Int) 0) (.exit 0) (y3h)):Fn E C0 [.l r0,.fn H8 []] (.i (-1)):=fnM (oL h1 oZ)
def N7 (r0:RW) (i0 i1:Int) (s0:BA) (i2:Int) (r1:RW) (s1 s2:BA) (i3 i4:Int):St:=stOf 19 [(0,.l r0),(1,.fn G9 [.ptr 0 0]),(7,.i i0),(8,.i i1)] [sC [.s s0,.i i2,.l r1,.s s1,.s s2,.i i3,.i i4]]
def z4o (s0:BA) (i2:Int) (r1:RW) (s1 s2:BA) (i3 i4 i5:Int):St:=stOf 19 [(4,.i i5)] [sC [.s s0,.i i2,.l r1,.s s1,.s s2,.i i3,.i i4]]
def y1k (s0:BA) (i2:Int) (r1:RW) (s1 s2:BA) (i3 i4:Int):St:=stOf 19 [] [sC [.s s0,.i i2,.l r1,.s s1,.s s2,.i i3,.i i4]]
section
variable (h1:i1 < i0) (h2:0≤i1) (h3:r0[(Int.toNat i1)]?=some [.s s3,.i i6,.l r2,.s s4,.s s5,.i i7,.i i8])
include h1 h2 h3
theorem x1b (h4:Rn E G9 [.agg [.s s3,.i i6,.l r2,.s s4,.s s5,.i i7,.i i8],.ptr 0 0] [sC [.s s0,.i i2,.l r1,.s s1,.s s2,.i i3,.i i4]] (.b false) [sC [.s s0,.i i2,.l r1,.s s1,.s s2,.i i3,.i i4]]) (e1:IntKind.i64.wrap (i1+1)=i9) (ih:Lp E 1 B7 0 (N7 r0 i0 i9 s0 i2 r1 s1 s2 i3 i4) o t):Lp E 1 B7 0 (N7 r0 i0 i1 s0 i2 r1 s1 s2 i3 i4) o t:=by subst e1;exact lpM (oT h1 (oP h2 (oD h3 (oR h4 oZ)))) ih
theorem y8x (h4:Rn E G9 [.agg [.s s3,.i i6,.l r2,.s s4,.s s5,.i i7,.i i8],.ptr 0 0] [sC [.s s0,.i i2,.l r1,.s s1,.s s2,.i i3,.i i4]] (.b true) [sC [.s s0,.i i2,.l r1,.s s1,.s s2,.i i3,.i i4]]):Lp E 1 B7 0 (N7 r0 i0 i1 s0 i2 r1 s1 s2 i3 i4) .ret (z4o s0 i2 r1 s1 s2 i3 i4 i1):=lpX (oT h1 (oP h2 (oD h3 (oR h4 oZ))))
end
theorem y8y (h1:¬ i1 < i0):Lp E 1 B7 0 (N7 r0 i0 i1 s0 i2 r1 s1 s2 i3 i4) (.exit 0) (y1k s0 i2 r1 s1 s2 i3 i4):=lpX (oU h1 oZ)
theorem y0w (h1:Lp E 1 B7 0 (N7 r0 (r0.length:Int) 0 s0 i0 r1 s1 s2 i1 i2) .ret (z4o s0 i0 r1 s1 s2 i1 i2 i3)):Rn E B7 [.l r0,.fn G9 [.ptr 0 0]] [sC [.s s0,.i i0,.l r1,.s s1,.s s2,.i i1,.i i2]] (.i i3) [sC [.s s0,.i i0,.l r1,.s s1,.s s2,.i i1,.i i2]]:=rnM (oL h1 oZ)
theorem y0x (h1:Lp E 1 B7 0 (N7 r0 (r0.length:Int) 0 s0 i0 r1 s1 s2 i1 i2) (.exit 0) (y1k s0 i0 r1 s1 s2 i1 i2)):Rn E B7 [.l r0,.fn G9 [.ptr 0 0]] [sC [.s s0,.i i0,.l r1,.s s1,.s s2,.i i1,.i i2]] (.i (-1)) [sC [.s s0,.i i0,.l r1,.s s1,.s s2,.i i1,.i i2]]:=rnM (oL h1 oZ)
section
variable (h1:Rn E B1 [.l r0,.fn H1 [.ptr 0 0]] [sC [.s s0,.i i0,.l r1,.s s1,.s s2,.i i1,.i i2]] (.i i3) [sC [.s s0,.i i0,.l r1,.s s1,.s s2,.i i1,.i i2]])
include h1
theorem z8c (h2:i3≥0):Rn E Y1 [.l r0,.fn H1 [.ptr 0 0]] [sC [.s s0,.i i0,.l r1,.s s1,.s s2,.i i1,.i i2]] (.b true) [sC [.s s0,.i i0,.l r1,.s s1,.s s2,.i i1,.i i2]]:=rnM (oR h1 (oT h2 oZ))
theorem z8d (h2:¬ i3≥0):Rn E Y1 [.l r0,.fn H1 [.ptr 0 0]] [sC [.s s0,.i i0,.l r1,.s s1,.s s2,.i i1,.i i2]] (.b false) [sC [.s s0,.i i0,.l r1,.s s1,.s s2,.i i1,.i i2]]:=rnM (oR h1 (oU h2 oZ))
end
section
variable (h1:Rn E A6 [.l r0,.fn H2 [.ptr 0 0]] [sC [.s s0,.i i0,.l r1,.s s1,.s s2,.i i1,.i i2]] (.i i3) [sC [.s s0,.i i0,.l r1,.s s1,.s s2,.i i1,.i i2]])
include h1
theorem z7g (h2:i3≥0):Rn E V8 [.l r0,.fn H2 [.ptr 0 0]] [sC [.s s0,.i i0,.l r1,.s s1,.s s2,.i i1,.i i2]] (.b true) [sC [.s s0,.i i0,.l r1,.s s1,.s s2,.i i1,.i i2]]:=rnM (oR h1 (oT h2 oZ))
theorem z7h (h2:¬ i3≥0):Rn E V8 [.l r0,.fn H2 [.ptr 0 0]] [sC [.s s0,.i i0,.l r1,.s s1,.s s2,.i i1,.i i2]] (.b false) [sC [.s s0,.i i0,.l r1,.s s1,.s s2,.i i1,.i i2]]:=rnM (oR h1 (oU h2 oZ))
end
section
variable (h1:Rn E B8 [.l r0,.fn H0 [.ptr 0 0,.ptr 1 0]] [sC [.s s0,.i i0,.l r1,.s s1,.s s2,.i i1,.i i2],sC [.l r2,.l r3,.l r4]] (.i i3) [sC [.s s0,.i i0,.l r1,.s s1,.s s2,.i i1,.i i2],sC [.l r2,.l r3,.l r4]])
include h1
theorem z8g (h2:i3≥0):Rn E z1d [.l r0,.fn H0 [.ptr 0 0,.ptr 1 0]] [sC [.s s0,.i i0,.l r1,.s s1,.s s2,.i i1,.i i2],sC [.l r2,.l r3,.l r4]] (.b true) [sC [.s s0,.i i0,.l r1,.s s1,.s s2,.i i1,.i i2],sC [.l r2,.l r3,.l r4]]:=rnM (oR h1 (oT h2 oZ))
theorem z8h (h2:¬ i3≥0):Rn E z1d [.l r0,.fn H0 [.ptr 0 0,.ptr 1 0]] [sC [.s s0,.i i0,.l r1,.s s1,.s s2,.i i1,.i i2],sC [.l r2,.l r3,.l r4]] (.b false) [sC [.s s0,.i i0,.l r1,.s s1,.s s2,.i i1,.i i2],sC [.l r2,.l r3,.l r4]]:=rnM (oR h1 (oU h2 oZ))
end
def M7 (r0:RW) (i0 i1:Int) (s0:BA) (i2:Int) (r1:RW) (s1 s2:BA) (i3 i4:Int):St:=stOf 19 [(0,.l r0),(1,.fn V2 [.ptr 0 0]),(7,.i i0),(8,.i i1)] [sC [.s s0,.i i2,.l r1,.s s1,.s s2,.i i3,.i i4]]
def z3v (s0:BA) (i2:Int) (r1:RW) (s1 s2:BA) (i3 i4 i5:Int):St:=stOf 19 [(4,.i i5)] [sC [.s s0,.i i2,.l r1,.s s1,.s s2,.i i3,.i i4]]
def y0d (s0:BA) (i2:Int) (r1:RW) (s1 s2:BA) (i3 i4:Int):St:=stOf 19 [] [sC [.s s0,.i i2,.l r1,.s s1,.s s2,.i i3,.i i4]]
section
variable (h1:i1 < i0) (h2:0≤i1) (h3:r0[(Int.toNat i1)]?=some [.i i6,.i i7,.i i8,.s s3,.s s4,.s s5,.s s6])
include h1 h2 h3
theorem x0c (h4:Rn E V2 [.agg [.i i6,.i i7,.i i8,.s s3,.s s4,.s s5,.s s6],.ptr 0 0] [sC [.s s0,.i i2,.l r1,.s s1,.s s2,.i i3,.i i4]] (.b false) [sC [.s s0,.i i2,.l r1,.s s1,.s s2,.i i3,.i i4]]) (e1:IntKind.i64.wrap (i1+1)=i9) (ih:Lp E 1 A6 0 (M7 r0 i0 i9 s0 i2 r1 s1 s2 i3 i4) o t):Lp E 1 A6 0 (M7 r0 i0 i1 s0 i2 r1 s1 s2 i3 i4) o t:=by subst e1;exact lpM (oT h1 (oP h2 (oD h3 (oR h4 oZ)))) ih
theorem y7i (h4:Rn E V2 [.agg [.i i6,.i i7,.i i8,.s s3,.s s4,.s s5,.s s6],.ptr 0 0] [sC [.s s0,.i i2,.l r1,.s s1,.s s2,.i i3,.i i4]] (.b true) [sC [.s s0,.i i2,.l r1,.s s1,.s s2,.i i3,.i i4]]):Lp E 1 A6 0 (M7 r0 i0 i1 s0 i2 r1 s1 s2 i3 i4) .ret (z3v s0 i2 r1 s1 s2 i3 i4 i1):=lpX (oT h1 (oP h2 (oD h3 (oR h4 oZ))))
end
theorem y7j (h1:¬ i1 < i0):Lp E 1 A6 0 (M7 r0 i0 i1 s0 i2 r1 s1 s2 i3 i4) (.exit 0) (y0d s0 i2 r1 s1 s2 i3 i4):=lpX (oU h1 oZ)
theorem z9n (h1:Lp E 1 A6 0 (M7 r0 (r0.length:Int) 0 s0 i0 r1 s1 s2 i1 i2) .ret (z3v s0 i0 r1 s1 s2 i1 i2 i3)):Rn E A6 [.l r0,.fn V2 [.ptr 0 0]] [sC [.s s0,.i i0,.l r1,.s s1,.s s2,.i i1,.i i2]] (.i i3) [sC [.s s0,.i i0,.l r1,.s s1,.s s2,.i i1,.i i2]]:=rnM (oL h1 oZ)
theorem z9o (h1:Lp E 1 A6 0 (M7 r0 (r0.length:Int) 0 s0 i0 r1 s1 s2 i1 i2) (.exit 0) (y0d s0 i0 r1 s1 s2 i1 i2)):Rn E A6 [.l r0,.fn V2 [.ptr 0 0]] [sC [.s s0,.i i0,.l r1,.s s1,.s s2,.i i1,.i i2]] (.i (-1)) [sC [.s s0,.i i0,.l r1,.s s1,.s s2,.i i1,.i i2]]:=rnM (oL h1 oZ)
def P1 (r0:RW) (i0 i1:Int):St:=stOf 19 [(0,.l r0),(1,.fn K8 []),(7,.i i0),(8,.i i1)] []
def z5s (i2:Int):St:=stOf 19 [(4,.i i2)] []
def y2i:St:=stOf 19 [] []
section
variable (h1:i1 < i0) (h2:0≤i1) (h3:r0[(Int.toNat i1)]?=some [.s s0])
include h1 h2 h3
theorem x1t (h4:Fn E K8 [.s s0] (.b false)) (e1:IntKind.i64.wrap (i1+1)=i3) (ih:Lp E 0 C0 0 (P1 r0 i0 i3) o t):Lp E 0 C0 0 (P1 r0 i0 i1) o t:=by subst e1;exact lpM (oT h1 (oP h2 (oD h3 (oF h4 oZ)))) ih
theorem x0d (h4:Fn E K8 [.s s0] (.b true)):Lp E 0 C0 0 (P1 r0 i0 i1) .ret (z5s i1):=lpX (oT h1 (oP h2 (oD h3 (oF h4 oZ))))
end
theorem x0e (h1:¬ i1 < i0):Lp E 0 C0 0 (P1 r0 i0 i1) (.exit 0) (y2i):=lpX (oU h1 oZ)
theorem y3b (h1:Lp E 0 C0 0 (P1 r0 (r0.length:Int) 0) .ret (z5s i0)):Fn E C0 [.l r0,.fn K8 []] (.i i0):=fnM (oL h1 oZ)
theorem y3c (h1:Lp E 0 C0 0 (P1 r0 (r0.length:Int) 0) (.exit 0) (y2i)):Fn E C0 [.l r0,.fn K8 []] (.i (-1)):=fnM (oL h1 oZ)
def N5 (r0:RW) (i0 i1:Int) (s0:BA) (i2:Int) (r1:RW) (s1 s2:BA) (i3 i4:Int):St:=stOf 19 [(0,.l r0),(1,.fn H1 [.ptr 0 0]),(7,.i i0),(8,.i i1)] [sC [.s s0,.i i2,.l r1,.s s1,.s s2,.i i3,.i i4]]
def z4m (s0:BA) (i2:Int) (r1:RW) (s1 s2:BA) (i3 i4 i5:Int):St:=stOf 19 [(4,.i i5)] [sC [.s s0,.i i2,.l r1,.s s1,.s s2,.i i3,.i i4]]
def y1i (s0:BA) (i2:Int) (r1:RW) (s1 s2:BA) (i3 i4:Int):St:=stOf 19 [] [sC [.s s0,.i i2,.l r1,.s s1,.s s2,.i i3,.i i4]]
section
variable (h1:i1 < i0) (h2:0≤i1) (h3:r0[(Int.toNat i1)]?=some [.i i6,.s s3,.s s4,.s s5,.s s6,.s s7,.s s8])
include h1 h2 h3
theorem x0x (h4:Rn E H1 [.agg [.i i6,.s s3,.s s4,.s s5,.s s6,.s s7,.s s8],.ptr 0 0] [sC [.s s0,.i i2,.l r1,.s s1,.s s2,.i i3,.i i4]] (.b false) [sC [.s s0,.i i2,.l r1,.s s1,.s s2,.i i3,.i i4]]) (e1:IntKind.i64.wrap (i1+1)=i7) (ih:Lp E 1 B1 0 (N5 r0 i0 i7 s0 i2 r1 s1 s2 i3 i4) o t):Lp E 1 B1 0 (N5 r0 i0 i1 s0 i2 r1 s1 s2 i3 i4) o t:=by subst e1;exact lpM (oT h1 (oP h2 (oD h3 (oR h4 oZ)))) ih
theorem y8q (h4:Rn E H1 [.agg [.i i6,.s s3,.s s4,.s s5,.s s6,.s s7,.s s8],.ptr 0 0] [sC [.s s0,.i i2,.l r1,.s s1,.s s2,.i i3,.i i4]] (.b true) [sC [.s s0,.i i2,.l r1,.s s1,.s s2,.i i3,.i i4]]):Lp E 1 B1 0 (N5 r0 i0 i1 s0 i2 r1 s1 s2 i3 i4) .ret (z4m s0 i2 r1 s1 s2 i3 i4 i1):=lpX (oT h1 (oP h2 (oD h3 (oR h4 oZ))))
end
theorem y8r (h1:¬ i1 < i0):Lp E 1 B1 0 (N5 r0 i0 i1 s0 i2 r1 s1 s2 i3 i4) (.exit 0) (y1i s0 i2 r1 s1 s2 i3 i4):=lpX (oU h1 oZ)
theorem y0u (h1:Lp E 1 B1 0 (N5 r0 (r0.length:Int) 0 s0 i0 r1 s1 s2 i1 i2) .ret (z4m s0 i0 r1 s1 s2 i1 i2 i3)):Rn E B1 [.l r0,.fn H1 [.ptr 0 0]] [sC [.s s0,.i i0,.l r1,.s s1,.s s2,.i i1,.i i2]] (.i i3) [sC [.s s0,.i i0,.l r1,.s s1,.s s2,.i i1,.i i2]]:=rnM (oL h1 oZ)
theorem y0v (h1:Lp E 1 B1 0 (N5 r0 (r0.length:Int) 0 s0 i0 r1 s1 s2 i1 i2) (.exit 0) (y1i s0 i0 r1 s1 s2 i1 i2)):Rn E B1 [.l r0,.fn H1 [.ptr 0 0]] [sC [.s s0,.i i0,.l r1,.s s1,.s s2,.i i1,.i i2]] (.i (-1)) [sC [.s s0,.i i0,.l r1,.s s1,.s s2,.i i1,.i i2]]:=rnM (oL h1 oZ)
def K3 (r0:RW) (i0 i1:Int) (s0:BA) (i2:Int) (r1:RW) (s1 s2:BA) (i3 i4:Int):St:=stOf 19 [(0,.l r0),(1,.fn H2 [.ptr 0 0]),(7,.i i0),(8,.i i1)] [sC [.s s0,.i i2,.l r1,.s s1,.s s2,.i i3,.i i4]]
def z3g (s0:BA) (i2:Int) (r1:RW) (s1 s2:BA) (i3 i4 i5:Int):St:=stOf 19 [(4,.i i5)] [sC [.s s0,.i i2,.l r1,.s s1,.s s2,.i i3,.i i4]]
def z8n (s0:BA) (i2:Int) (r1:RW) (s1 s2:BA) (i3 i4:Int):St:=stOf 19 [] [sC [.s s0,.i i2,.l r1,.s s1,.s s2,.i i3,.i i4]]
section
variable (h1:i1 < i0) (h2:0≤i1) (h3:r0[(Int.toNat i1)]?=some [.i i6,.i i7,.i i8,.s s3,.s s4,.s s5,.s s6])
include h1 h2 h3
theorem y8u (h4:Rn E H2 [.agg [.i i6,.i i7,.i i8,.s s3,.s s4,.s s5,.s s6],.ptr 0 0] [sC [.s s0,.i i2,.l r1,.s s1,.s s2,.i i3,.i i4]] (.b false) [sC [.s s0,.i i2,.l r1,.s s1,.s s2,.i i3,.i i4]]) (e1:IntKind.i64.wrap (i1+1)=i9) (ih:Lp E 1 A6 0 (K3 r0 i0 i9 s0 i2 r1 s1 s2 i3 i4) o t):Lp E 1 A6 0 (K3 r0 i0 i1 s0 i2 r1 s1 s2 i3 i4) o t:=by subst e1;exact lpM (oT h1 (oP h2 (oD h3 (oR h4 oZ)))) ih
theorem y6v (h4:Rn E H2 [.agg [.i i6,.i i7,.i i8,.s s3,.s s4,.s s5,.s s6],.ptr 0 0] [sC [.s s0,.i i2,.l r1,.s s1,.s s2,.i i3,.i i4]] (.b true) [sC [.s s0,.i i2,.l r1,.s s1,.s s2,.i i3,.i i4]]):Lp E 1 A6 0 (K3 r0 i0 i1 s0 i2 r1 s1 s2 i3 i4) .ret (z3g s0 i2 r1 s1 s2 i3 i4 i1):=lpX (oT h1 (oP h2 (oD h3 (oR h4 oZ))))
end
theorem y6w (h1:¬ i1 < i0):Lp E 1 A6 0 (K3 r0 i0 i1 s0 i2 r1 s1 s2 i3 i4) (.exit 0) (z8n s0 i2 r1 s1 s2 i3 i4):=lpX (oU h1 oZ)
theorem z9l (h1:Lp E 1 A6 0 (K3 r0 (r0.length:Int) 0 s0 i0 r1 s1 s2 i1 i2) .ret (z3g s0 i0 r1 s1 s2 i1 i2 i3)):Rn E A6 [.l r0,.fn H2 [.ptr 0 0]] [sC [.s s0,.i i0,.l r1,.s s1,.s s2,.i i1,.i i2]] (.i i3) [sC [.s s0,.i i0,.l r1,.s s1,.s s2,.i i1,.i i2]]:=rnM (oL h1 oZ)
theorem z9m (h1:Lp E 1 A6 0 (K3 r0 (r0.length:Int) 0 s0 i0 r1 s1 s2 i1 i2) (.exit 0) (z8n s0 i0 r1 s1 s2 i1 i2)):Rn E A6 [.l r0,.fn H2 [.ptr 0 0]] [sC [.s s0,.i i0,.l r1,.s s1,.s s2,.i i1,.i i2]] (.i (-1)) [sC [.s s0,.i i0,.l r1,.s s1,.s s2,.i i1,.i i2]]:=rnM (oL h1 oZ)
def K4 (r0:RW) (i0 i1 i2:Int):St:=stOf 19 [(0,.l r0),(1,.fn V1 [.ptr 0 0]),(7,.i i0),(8,.i i1)] [sC [.i i2]]
def z3h (i2 i3:Int):St:=stOf 19 [(4,.i i3)] [sC [.i i2]]
def z8o (i2:Int):St:=stOf 19 [] [sC [.i i2]]
section
variable (h1:i1 < i0) (h2:0≤i1) (h3:r0[(Int.toNat i1)]?=some [.i i4,.i i5,.i i6,.s s0,.s s1,.s s2,.s s3])
include h1 h2 h3
theorem y8v (h4:Rn E V1 [.agg [.i i4,.i i5,.i i6,.s s0,.s s1,.s s2,.s s3],.ptr 0 0] [sC [.i i2]] (.b false) [sC [.i i2]]) (e1:IntKind.i64.wrap (i1+1)=i7) (ih:Lp E 1 A6 0 (K4 r0 i0 i7 i2) o t):Lp E 1 A6 0 (K4 r0 i0 i1 i2) o t:=by subst e1;exact lpM (oT h1 (oP h2 (oD h3 (oR h4 oZ)))) ih
theorem y6x (h4:Rn E V1 [.agg [.i i4,.i i5,.i i6,.s s0,.s s1,.s s2,.s s3],.ptr 0 0] [sC [.i i2]] (.b true) [sC [.i i2]]):Lp E 1 A6 0 (K4 r0 i0 i1 i2) .ret (z3h i2 i1):=lpX (oT h1 (oP h2 (oD h3 (oR h4 oZ))))
end
theorem y6y (h1:¬ i1 < i0):Lp E 1 A6 0 (K4 r0 i0 i1 i2) (.exit 0) (z8o i2):=lpX (oU h1 oZ)
theorem z9j (h1:Lp E 1 A6 0 (K4 r0 (r0.length:Int) 0 i0) .ret (z3h i0 i1)):Rn E A6 [.l r0,.fn V1 [.ptr 0 0]] [sC [.i i0]] (.i i1) [sC [.i i0]]:=rnM (oL h1 oZ)
theorem z9k (h1:Lp E 1 A6 0 (K4 r0 (r0.length:Int) 0 i0) (.exit 0) (z8o i0)):Rn E A6 [.l r0,.fn V1 [.ptr 0 0]] [sC [.i i0]] (.i (-1)) [sC [.i i0]]:=rnM (oL h1 oZ)
def P3 (r0:RW) (i0 i1:Int) (s0:BA) (i2:Int) (r1:RW) (s1 s2:BA) (i3 i4:Int) (r2 r3 r4:RW):St:=stOf 19 [(0,.l r0),(1,.fn H0 [.ptr 0 0,.ptr 1 0]),(7,.i i0),(8,.i i1)] [sC [.s s0,.i i2,.l r1,.s s1,.s s2,.i i3,.i i4],sC [.l r2,.l r3,.l r4]]
def z5u (s0:BA) (i2:Int) (r1:RW) (s1 s2:BA) (i3 i4:Int) (r2 r3 r4:RW) (i5:Int):St:=stOf 19 [(4,.i i5)] [sC [.s s0,.i i2,.l r1,.s s1,.s s2,.i i3,.i i4],sC [.l r2,.l r3,.l r4]]
def y2k (s0:BA) (i2:Int) (r1:RW) (s1 s2:BA) (i3 i4:Int) (r2 r3 r4:RW):St:=stOf 19 [] [sC [.s s0,.i i2,.l r1,.s s1,.s s2,.i i3,.i i4],sC [.l r2,.l r3,.l r4]]
section
variable (h1:i1 < i0) (h2:0≤i1) (h3:r0[(Int.toNat i1)]?=some [.i i6,.i i7,.i i8])
include h1 h2 h3
theorem x1v (h4:Rn E H0 [.agg [.i i6,.i i7,.i i8],.ptr 0 0,.ptr 1 0] [sC [.s s0,.i i2,.l r1,.s s1,.s s2,.i i3,.i i4],sC [.l r2,.l r3,.l r4]] (.b false) [sC [.s s0,.i i2,.l r1,.s s1,.s s2,.i i3,.i i4],sC [.l r2,.l r3,.l r4]]) (e1:IntKind.i64.wrap (i1+1)=i9) (ih:Lp E 2 B8 0 (P3 r0 i0 i9 s0 i2 r1 s1 s2 i3 i4 r2 r3 r4) o t):Lp E 2 B8 0 (P3 r0 i0 i1 s0 i2 r1 s1 s2 i3 i4 r2 r3 r4) o t:=by subst e1;exact lpM (oT h1 (oP h2 (oD h3 (oR h4 oZ)))) ih
theorem x0h (h4:Rn E H0 [.agg [.i i6,.i i7,.i i8],.ptr 0 0,.ptr 1 0] [sC [.s s0,.i i2,.l r1,.s s1,.s s2,.i i3,.i i4],sC [.l r2,.l r3,.l r4]] (.b true) [sC [.s s0,.i i2,.l r1,.s s1,.s s2,.i i3,.i i4],sC [.l r2,.l r3,.l r4]]):Lp E 2 B8 0 (P3 r0 i0 i1 s0 i2 r1 s1 s2 i3 i4 r2 r3 r4) .ret (z5u s0 i2 r1 s1 s2 i3 i4 r2 r3 r4 i1):=lpX (oT h1 (oP h2 (oD h3 (oR h4 oZ))))
end
theorem x0i (h1:¬ i1 < i0):Lp E 2 B8 0 (P3 r0 i0 i1 s0 i2 r1 s1 s2 i3 i4 r2 r3 r4) (.exit 0) (y2k s0 i2 r1 s1 s2 i3 i4 r2 r3 r4):=lpX (oU h1 oZ)
theorem y0y (h1:Lp E 2 B8 0 (P3 r0 (r0.length:Int) 0 s0 i0 r1 s1 s2 i1 i2 r2 r3 r4) .ret (z5u s0 i0 r1 s1 s2 i1 i2 r2 r3 r4 i3)):Rn E B8 [.l r0,.fn H0 [.ptr 0 0,.ptr 1 0]] [sC [.s s0,.i i0,.l r1,.s s1,.s s2,.i i1,.i i2],sC [.l r2,.l r3,.l r4]] (.i i3) [sC [.s s0,.i i0,.l r1,.s s1,.s s2,.i i1,.i i2],sC [.l r2,.l r3,.l r4]]:=rnM (oL h1 oZ)
theorem y0z (h1:Lp E 2 B8 0 (P3 r0 (r0.length:Int) 0 s0 i0 r1 s1 s2 i1 i2 r2 r3 r4) (.exit 0) (y2k s0 i0 r1 s1 s2 i1 i2 r2 r3 r4)):Rn E B8 [.l r0,.fn H0 [.ptr 0 0,.ptr 1 0]] [sC [.s s0,.i i0,.l r1,.s s1,.s s2,.i i1,.i i2],sC [.l r2,.l r3,.l r4]] (.i (-1)) [sC [.s s0,.i i0,.l r1,.s s1,.s s2,.i i1,.i i2],sC [.l r2,.l r3,.l r4]]:=rnM (oL h1 oZ)
def N4 (n0:Nat) (i0 i1:Int) (r0:RW) (i2:Int):St:=stOf 42 [(0,.vec 0 n0),(1,.fn M8 [.ptr 1 0]),(5,.i i0),(6,.i i1)] [sV F2 r0,sC [.i i2]]
def z4l (n0:Nat) (i2 i3:Int) (r1:RW):St:=stOf 42 [(0,.vec 0 n0),(5,.i i3)] [sV F2 r1,sC [.i i2]]
section
variable (h1:i1 < ((n0:Nat):Int)) (h2:0≤i1∧i1 < ((n0:Nat):Int)) (h3:r0[(Int.toNat i1)]?=some [.i i4,.i i5,.i i6])
include h1 h2 h3
theorem x0v (h4:Rn E M8 [.agg [.i i4,.i i5,.i i6],.ptr 1 0] [sV F2 r0,sC [.i i2],sC [.i i4,.i i5,.i i6]] (.b true) [sV F2 r0,sC [.i i2],sC [.i i4,.i i5,.i i6]]) (e1:IntKind.i64.wrap (i1+1)=i7) (ih:Lp E 2 G1 0 (N4 n0 i0 i7 r0 i2) o t):Lp E 2 G1 0 (N4 n0 i0 i1 r0 i2) o t:=by subst e1;exact lpM (oT h1 (oP h2 (oD h3 (oR h4 oZ)))) ih
theorem x0w (h4:Rn E M8 [.agg [.i i4,.i i5,.i i6],.ptr 1 0] [sV F2 r0,sC [.i i2],sC [.i i4,.i i5,.i i6]] (.b false) [sV F2 r0,sC [.i i2],sC [.i i4,.i i5,.i i6]]) (h5:0≤i0∧i0 < ((n0:Nat):Int)) (h6:r0[(Int.toNat i0)]?=some [.i i7,.i i8,.i i9]) (e1:List.set r0 (Int.toNat i0) [.i i4,.i i5,.i i6]=r2) (e2:IntKind.i64.wrap (i0+1)=i10) (e3:IntKind.i64.wrap (i1+1)=i11) (ih:Lp E 2 G1 0 (N4 n0 i10 i11 r2 i2) o t):Lp E 2 G1 0 (N4 n0 i0 i1 r0 i2) o t:=by subst e1 e2 e3;exact lpM (oT h1 (oP h2 (oD h3 (oR h4 (oP h5 (oD h6 oZ)))))) ih
end
theorem y8p (h1:¬ i1 < ((n0:Nat):Int)):Lp E 2 G1 0 (N4 n0 i0 i1 r0 i2) (.exit 0) (z4l n0 i2 i0 r0):=lpX (oU h1 oZ)
section
variable (h1:Rn E B8 [.vec 0 n0,.fn M8 [.ptr 1 0]] [sV F2 r0,sC [.i i0]] (.i i1) [sV F2 r0,sC [.i i0]])
include h1
theorem y3p (h2:i1=(-1)):Rn E G1 [.vec 0 n0,.fn M8 [.ptr 1 0]] [sV F2 r0,sC [.i i0]] (.vec 0 n0) [sV F2 r0,sC [.i i0]]:=rnM (oR h1 (oB (beT h2) oZ))
theorem y3q (h2:¬ i1=(-1)) (h3:Lp E 2 G1 0 (N4 n0 i1 i2 r0 i0) (.exit 0) (z4l n0 i0 i3 r1)) (h4:0≤i3∧i3≤((n0:Nat):Int)∧((n0:Nat):Int)≤((n0:Nat):Int)) (h5:0≤i3∧i3≤((n0:Nat):Int)) (e1:IntKind.i64.wrap (i1+1)=i2) (e2:(r1.take (Int.toNat i3))++List.replicate (n0 - (Int.toNat i3)) [.i 0,.i 0,.i 0]++List.drop n0 r1=r2) (e3:(Int.toNat i3)=n1):Rn E G1 [.vec 0 n0,.fn M8 [.ptr 1 0]] [sV F2 r0,sC [.i i0]] (.vec 0 n1) [sV F2 r2,sC [.i i0]]:=by subst e1 e2 e3;exact rnM (oR h1 (oC (beF h2) (oL h3 (oG (oP h4 (oP h5 oZ))))))
end
def K5 (r0:RW) (i0 i1 i2:Int):St:=stOf 19 [(0,.l r0),(1,.fn J3 [.ptr 0 0,.ptr 1 0]),(7,.i i0),(8,.i i1)] [sC [.fn C6 []],sC [.i i2]]
def z3i (i2 i3:Int):St:=stOf 19 [(4,.i i3)] [sC [.fn C6 []],sC [.i i2]]
def z8p (i2:Int):St:=stOf 19 [] [sC [.fn C6 []],sC [.i i2]]
section
variable (h1:i1 < i0) (h2:0≤i1) (h3:r0[(Int.toNat i1)]?=some [.i i4,.i i5,.i i6,.s s0,.s s1,.s s2,.s s3])
include h1 h2 h3
theorem y8w (h4:Rn E J3 [.agg [.i i4,.i i5,.i i6,.s s0,.s s1,.s s2,.s s3],.ptr 0 0,.ptr 1 0] [sC [.fn C6 []],sC [.i i2]] (.b false) [sC [.fn C6 []],sC [.i i2]]) (e1:IntKind.i64.wrap (i1+1)=i7) (ih:Lp E 2 A6 0 (K5 r0 i0 i7 i2) o t):Lp E 2 A6 0 (K5 r0 i0 i1 i2) o t:=by subst e1;exact lpM (oT h1 (oP h2 (oD h3 (oR h4 oZ)))) ih
theorem y6z (h4:Rn E J3 [.agg [.i i4,.i i5,.i i6,.s s0,.s s1,.s s2,.s s3],.ptr 0 0,.ptr 1 0] [sC [.fn C6 []],sC [.i i2]] (.b true) [sC [.fn C6 []],sC [.i i2]]):Lp E 2 A6 0 (K5 r0 i0 i1 i2) .ret (z3i i2 i1):=lpX (oT h1 (oP h2 (oD h3 (oR h4 oZ))))
end
theorem y7a (h1:¬ i1 < i0):Lp E 2 A6 0 (K5 r0 i0 i1 i2) (.exit 0) (z8p i2):=lpX (oU h1 oZ)
theorem z7e (h1:Lp E 2 A6 0 (K5 r0 (r0.length:Int) 0 i0) .ret (z3i i0 i1)):Rn E A6 [.l r0,.fn J3 [.ptr 0 0,.ptr 1 0]] [sC [.fn C6 []],sC [.i i0]] (.i i1) [sC [.fn C6 []],sC [.i i0]]:=rnM (oL h1 oZ)
theorem z7f (h1:Lp E 2 A6 0 (K5 r0 (r0.length:Int) 0 i0) (.exit 0) (z8p i0)):Rn E A6 [.l r0,.fn J3 [.ptr 0 0,.ptr 1 0]] [sC [.fn C6 []],sC [.i i0]] (.i (-1)) [sC [.fn C6 []],sC [.i i0]]:=rnM (oL h1 oZ)
def N6 (r0:RW) (i0 i1 i2:Int):St:=stOf 19 [(0,.l r0),(1,.fn N1 [.ptr 0 0,.ptr 1 0]),(7,.i i0),(8,.i i1)] [sC [.fn F3 []],sC [.i i2]]
def z4n (i2 i3:Int):St:=stOf 19 [(4,.i i3)] [sC [.fn F3 []],sC [.i i2]]
def y1j (i2:Int):St:=stOf 19 [] [sC [.fn F3 []],sC [.i i2]]
section
variable (h1:i1 < i0) (h2:0≤i1) (h3:r0[(Int.toNat i1)]?=some [.i i4,.s s0,.s s1,.s s2,.s s3,.s s4,.s s5])
include h1 h2 h3
theorem x0y (h4:Rn E N1 [.agg [.i i4,.s s0,.s s1,.s s2,.s s3,.s s4,.s s5],.ptr 0 0,.ptr 1 0] [sC [.fn F3 []],sC [.i i2]] (.b false) [sC [.fn F3 []],sC [.i i2]]) (e1:IntKind.i64.wrap (i1+1)=i5) (ih:Lp E 2 B1 0 (N6 r0 i0 i5 i2) o t):Lp E 2 B1 0 (N6 r0 i0 i1 i2) o t:=by subst e1;exact lpM (oT h1 (oP h2 (oD h3 (oR h4 oZ)))) ih
theorem y8s (h4:Rn E N1 [.agg [.i i4,.s s0,.s s1,.s s2,.s s3,.s s4,.s s5],.ptr 0 0,.ptr 1 0] [sC [.fn F3 []],sC [.i i2]] (.b true) [sC [.fn F3 []],sC [.i i2]]):Lp E 2 B1 0 (N6 r0 i0 i1 i2) .ret (z4n i2 i1):=lpX (oT h1 (oP h2 (oD h3 (oR h4 oZ))))
end
theorem y8t (h1:¬ i1 < i0):Lp E 2 B1 0 (N6 r0 i0 i1 i2) (.exit 0) (y1j i2):=lpX (oU h1 oZ)
theorem z9h (h1:Lp E 2 B1 0 (N6 r0 (r0.length:Int) 0 i0) .ret (z4n i0 i1)):Rn E B1 [.l r0,.fn N1 [.ptr 0 0,.ptr 1 0]] [sC [.fn F3 []],sC [.i i0]] (.i i1) [sC [.fn F3 []],sC [.i i0]]:=rnM (oL h1 oZ)
theorem z9i (h1:Lp E 2 B1 0 (N6 r0 (r0.length:Int) 0 i0) (.exit 0) (y1j i0)):Rn E B1 [.l r0,.fn N1 [.ptr 0 0,.ptr 1 0]] [sC [.fn F3 []],sC [.i i0]] (.i (-1)) [sC [.fn F3 []],sC [.i i0]]:=rnM (oL h1 oZ)
def N8 (n0:Nat) (i0 i1:Int) (r0:RW) (i2:Int):St:=stOf 19 [(0,.vec 0 n0),(1,.fn M8 [.ptr 1 0]),(7,.i i0),(8,.i i1)] [sV F2 r0,sC [.i i2]]
def z4p (r0:RW) (i2 i3:Int):St:=stOf 19 [(4,.i i3)] [sV F2 r0,sC [.i i2]]
def y1l (r0:RW) (i2:Int):St:=stOf 19 [] [sV F2 r0,sC [.i i2]]
section
variable (h1:i1 < i0) (h2:0≤i1∧i1 < ((n0:Nat):Int)) (h3:r0[(Int.toNat i1)]?=some [.i i4,.i i5,.i i6])
include h1 h2 h3
theorem x1c (h4:Rn E M8 [.agg [.i i4,.i i5,.i i6],.ptr 1 0] [sV F2 r0,sC [.i i2]] (.b false) [sV F2 r0,sC [.i i2]]) (e1:IntKind.i64.wrap (i1+1)=i7) (ih:Lp E 2 B8 0 (N8 n0 i0 i7 r0 i2) o t):Lp E 2 B8 0 (N8 n0 i0 i1 r0 i2) o t:=by subst e1;exact lpM (oT h1 (oP h2 (oD h3 (oR h4 oZ)))) ih
theorem y8z (h4:Rn E M8 [.agg [.i i4,.i i5,.i i6],.ptr 1 0] [sV F2 r0,sC [.i i2]] (.b true) [sV F2 r0,sC [.i i2]]):Lp E 2 B8 0 (N8 n0 i0 i1 r0 i2) .ret (z4p r0 i2 i1):=lpX (oT h1 (oP h2 (oD h3 (oR h4 oZ))))
end
theorem y9a (h1:¬ i1 < i0):Lp E 2 B8 0 (N8 n0 i0 i1 r0 i2) (.exit 0) (y1l r0 i2):=lpX (oU h1 oZ)
theorem y4c (h1:Lp E 2 B8 0 (N8 n0 ((n0:Nat):Int) 0 r0 i0) .ret (z4p r0 i0 i1)):Rn E B8 [.vec 0 n0,.fn M8 [.ptr 1 0]] [sV F2 r0,sC [.i i0]] (.i i1) [sV F2 r0,sC [.i i0]]:=rnM (oL h1 oZ)
theorem y4d (h1:Lp E 2 B8 0 (N8 n0 ((n0:Nat):Int) 0 r0 i0) (.exit 0) (y1l r0 i0)):Rn E B8 [.vec 0 n0,.fn M8 [.ptr 1 0]] [sV F2 r0,sC [.i i0]] (.i (-1)) [sV F2 r0,sC [.i i0]]:=rnM (oL h1 oZ)
end Gev
namespace Gev
open Go Go.Proofs
variable {E:Env}
variable {o:Out} {t:St} {r0 r1 r2 r3 r4 r5:RW} {i0 i1 i2 i3 i4 i5 i6 i7 i8 i9 i10 i11 i12 i13 i14 i15 i16 i17 i18:Int} {n0 n1:Nat} {s0 s1 s2 s3 s4 s5 s6 s7 s8 s9 s10 s11 s12 s13 s14 s15 s16 s17 s18 s19 s20 s21 s22 s23 s24 s25 s26 s27 s28 s29 s30 s31 s32 s33 s34 s35 s36 s37 s38 s39 s40:BA} {b0:Bool}
def z1e (r0:RW) (i0 i1:Int) (r1 r2:RW):St:=stOf 166 [(1,.ptr 0 0),(12,.l r0),(13,.i i0),(14,.i i1)] [sC [.l r1,.l r2]]
def y2r (r1 r2:RW):St:=stOf 166 [(2,.i 1)] [sC [.l r1,.l r2]]
def y7p (r1 r2:RW):St:=stOf 166 [(1,.ptr 0 0)] [sC [.l r1,.l r2]]
section
variable (h1:i1 < i0) (h2:0≤i1) (h3:r0[(Int.toNat i1)]?=some [.i i2,.i i3,.i i4,.s s0,.s s1,.s s2,.s s3])
include h1 h2 h3
theorem j3i (h4:Fn E z4q [.l r3] (.b true)) (e1:(([[.s s1],[.s s2],[.s s3]]:RW).take 3)=r3) (e2:IntKind.i64.wrap (i1+1)=i5) (ih:Lp E 1 B2 0 (z1e r0 i0 i5 r1 r2) o t):Lp E 1 B2 0 (z1e r0 i0 i1 r1 r2) o t:=by subst e1 e2;exact lpM (oT h1 (oP h2 (oD h3 (oF h4 oZ)))) ih
theorem k6g (h4:Fn E z4q [.l r3] (.b false)) (e1:(([[.s s1],[.s s2],[.s s3]]:RW).take 3)=r3):Lp E 1 B2 0 (z1e r0 i0 i1 r1 r2) .ret (y2r r1 r2):=by subst e1;exact lpX (oT h1 (oP h2 (oD h3 (oF h4 oZ))))
end
theorem k6h (h1:¬ i1 < i0):Lp E 1 B2 0 (z1e r0 i0 i1 r1 r2) (.exit 0) (y7p r1 r2):=lpX (oU h1 oZ)
def z1f (r0:RW) (i0 i1:Int) (r1 r2:RW):St:=stOf 166 [(1,.ptr 0 0),(29,.l r0),(30,.i i0),(31,.i i1)] [sC [.l r1,.l r2]]
def y2s (r1 r2:RW):St:=stOf 166 [(2,.i 1)] [sC [.l r1,.l r2]]
def y7q (r1 r2:RW):St:=stOf 166 [(1,.ptr 0 0)] [sC [.l r1,.l r2]]
section
variable (h1:i1 < i0) (h2:0≤i1) (h3:r0[(Int.toNat i1)]?=some [.i i2,.s s0,.s s1,.s s2,.s s3,.s s4,.s s5])
include h1 h2 h3
theorem j3j (h4:Fn E z4q [.l r3] (.b true)) (e1:(([[.s s1],[.s s2],[.s s3],[.s s4],[.s s5]]:RW).take 5)=r3) (e2:IntKind.i64.wrap (i1+1)=i3) (ih:Lp E 1 B2 1 (z1f r0 i0 i3 r1 r2) o t):Lp E 1 B2 1 (z1f r0 i0 i1 r1 r2) o t:=by subst e1 e2;exact lpM (oT h1 (oP h2 (oD h3 (oF h4 oZ)))) ih
theorem k6i (h4:Fn E z4q [.l r3] (.b false)) (e1:(([[.s s1],[.s s2],[.s s3],[.s s4],[.s s5]]:RW).take 5)=r3):Lp E 1 B2 1 (z1f r0 i0 i1 r1 r2) .ret (y2s r1 r2):=by subst e1;exact lpX (oT h1 (oP h2 (oD h3 (oF h4 oZ))))
end
theorem k6j (h1:¬ i1 < i0):Lp E 1 B2 1 (z1f r0 i0 i1 r1 r2) (.exit 2) (y7q r1 r2):=lpX (oU h1 oZ)
def I5 (r0:RW) (i0 i1:Int) (r1 r2:RW):St:=stOf 166 [(1,.ptr 0 0),(63,.l r0),(64,.i i0),(65,.i i1)] [sC [.l r1,.l r2]]
def U1 (r1 r2:RW) (i2:Int):St:=stOf 166 [(2,.i i2)] [sC [.l r1,.l r2]]
def y7r (r1 r2:RW):St:=stOf 166 [(1,.ptr 0 0)] [sC [.l r1,.l r2]]
section
variable (h1:i1 < i0) (h2:0≤i1) (h3:r0[(Int.toNat i1)]?=some [.i i3,.i i4,.i i5,.s s0,.s s1,.s s2,.s s3])
include h1 h2 h3
section
variable (h4:Fn E O2 [.i i3,.i 1073741824] (.b true))
include h4
section
variable (h5:Fn E O2 [.i i4,.i 9] (.b true))
include h5
section
variable (h6:Fn E O2 [.i i5,.i 9] (.b true)) (h7:Fn E z0y [.s s1] (.i i6))
include h6 h7
section
variable (h8:¬ i6≤0) (h9:Fn E z0y [.s s2] (.i i7)) (h10:¬ i7≤0) (h11:Fn E z0y [.s s3] (.i i8)) (h12:¬ i8 < 0) (h13:Fn E Z8 [.s s0] (.b true))
include h8 h9 h10 h11 h12 h13
theorem j3k (h14:i1 > 0) (h15:0≤i9) (h16:r1[(Int.toNat i9)]?=some [.i i10,.i i11,.i i12,.s s4,.s s5,.s s6,.s s7]) (h17:¬ i10≥i3) (e1:IntKind.i64.wrap (i1 - 1)=i9) (e2:IntKind.i64.wrap (i1+1)=i13) (ih:Lp E 1 B2 2 (I5 r0 i0 i13 r1 r2) o t):Lp E 1 B2 2 (I5 r0 i0 i1 r1 r2) o t:=by subst e1 e2;exact lpM (oT h1 (oP h2 (oD h3 (oF h4 (oF h5 (oF h6 (oF h7 (oU h8 (oF h9 (oU h10 (oF h11 (oU h12 (oF h13 (oT h14 (oP h15 (oD h16 (oU h17 oZ))))))))))))))))) ih
theorem j3l (h14:¬ i1 > 0) (e1:IntKind.i64.wrap (i1+1)=i9) (ih:Lp E 1 B2 2 (I5 r0 i0 i9 r1 r2) o t):Lp E 1 B2 2 (I5 r0 i0 i1 r1 r2) o t:=by subst e1;exact lpM (oT h1 (oP h2 (oD h3 (oF h4 (oF h5 (oF h6 (oF h7 (oU h8 (oF h9 (oU h10 (oF h11 (oU h12 (oF h13 (oU h14 oZ)))))))))))))) ih
end
theorem k6k (h8:i6≤0):Lp E 1 B2 2 (I5 r0 i0 i1 r1 r2) .ret (U1 r1 r2 2):=lpX (oT h1 (oP h2 (oD h3 (oF h4 (oF h5 (oF h6 (oF h7 (oT h8 oZ))))))))
section
variable (h8:¬ i6≤0) (h9:Fn E z0y [.s s2] (.i i7))
include h8 h9
theorem k6l (h10:i7≤0):Lp E 1 B2 2 (I5 r0 i0 i1 r1 r2) .ret (U1 r1 r2 2):=lpX (oT h1 (oP h2 (oD h3 (oF h4 (oF h5 (oF h6 (oF h7 (oU h8 (oF h9 (oT h10 oZ))))))))))
section
variable (h10:¬ i7≤0) (h11:Fn E z0y [.s s3] (.i i8))
include h10 h11
theorem k6m (h12:i8 < 0):Lp E 1 B2 2 (I5 r0 i0 i1 r1 r2) .ret (U1 r1 r2 2):=lpX (oT h1 (oP h2 (oD h3 (oF h4 (oF h5 (oF h6 (oF h7 (oU h8 (oF h9 (oU h10 (oF h11 (oT h12 oZ))))))))))))
theorem k6n (h12:¬ i8 < 0) (h13:Fn E Z8 [.s s0] (.b true)) (h14:i1 > 0) (h15:0≤i9) (h16:r1[(Int.toNat i9)]?=some [.i i10,.i i11,.i i12,.s s4,.s s5,.s s6,.s s7]) (h17:i10≥i3) (e1:IntKind.i64.wrap (i1 - 1)=i9):Lp E 1 B2 2 (I5 r0 i0 i1 r1 r2) .ret (U1 r1 r2 5):=by subst e1;exact lpX (oT h1 (oP h2 (oD h3 (oF h4 (oF h5 (oF h6 (oF h7 (oU h8 (oF h9 (oU h10 (oF h11 (oU h12 (oF h13 (oT h14 (oP h15 (oD h16 (oT h17 oZ)))))))))))))))))
theorem k6o (h12:¬ i8 < 0) (h13:Fn E Z8 [.s s0] (.b false)):Lp E 1 B2 2 (I5 r0 i0 i1 r1 r2) .ret (U1 r1 r2 4):=lpX (oT h1 (oP h2 (oD h3 (oF h4 (oF h5 (oF h6 (oF h7 (oU h8 (oF h9 (oU h10 (oF h11 (oU h12 (oF h13 oZ)))))))))))))
end
end
end
theorem k6p (h6:Fn E O2 [.i i5,.i 9] (.b false)):Lp E 1 B2 2 (I5 r0 i0 i1 r1 r2) .ret (U1 r1 r2 2):=lpX (oT h1 (oP h2 (oD h3 (oF h4 (oF h5 (oF h6 oZ))))))
end
theorem k6q (h5:Fn E O2 [.i i4,.i 9] (.b false)):Lp E 1 B2 2 (I5 r0 i0 i1 r1 r2) .ret (U1 r1 r2 2):=lpX (oT h1 (oP h2 (oD h3 (oF h4 (oF h5 oZ)))))
end
theorem k6r (h4:Fn E O2 [.i i3,.i 1073741824] (.b false)):Lp E 1 B2 2 (I5 r0 i0 i1 r1 r2) .ret (U1 r1 r2 2):=lpX (oT h1 (oP h2 (oD h3 (oF h4 oZ))))
end
theorem k6s (h1:¬ i1 < i0):Lp E 1 B2 2 (I5 r0 i0 i1 r1 r2) (.exit 4) (y7r r1 r2):=lpX (oU h1 oZ)
def M5 (r0:RW) (i0 i1:Int) (r1 r2:RW):St:=stOf 166 [(1,.ptr 0 0),(124,.l r0),(125,.i i0),(126,.i i1)] [sC [.l r1,.l r2]]
def z0q (r1 r2:RW) (i2:Int):St:=stOf 166 [(2,.i i2)] [sC [.l r1,.l r2]]
def y7s (r1 r2:RW):St:=stOf 166 [] [sC [.l r1,.l r2]]
section
variable (h1:i1 < i0) (h2:0≤i1) (h3:r0[(Int.toNat i1)]?=some [.i i3,.s s0,.s s1,.s s2,.s s3,.s s4,.s s5])
include h1 h2 h3
section
variable (h4:Fn E O2 [.i i3,.i 1073741824] (.b true)) (h5:Fn E z0y [.s s1] (.i i4))
include h4 h5
section
variable (h6:¬ i4 < 0) (h7:Fn E z0y [.s s2] (.i i5)) (h8:¬ i5 < 0) (h9:Fn E Z8 [.s s0] (.b true))
include h6 h7 h8 h9
theorem j3m (h10:i1 > 0) (h11:0≤i6) (h12:r2[(Int.toNat i6)]?=some [.i i7,.s s6,.s s7,.s s8,.s s9,.s s10,.s s11]) (h13:¬ i7≥i3) (e1:IntKind.i64.wrap (i1 - 1)=i6) (e2:IntKind.i64.wrap (i1+1)=i8) (ih:Lp E 1 B2 3 (M5 r0 i0 i8 r1 r2) o t):Lp E 1 B2 3 (M5 r0 i0 i1 r1 r2) o t:=by subst e1 e2;exact lpM (oT h1 (oP h2 (oD h3 (oF h4 (oF h5 (oU h6 (oF h7 (oU h8 (oF h9 (oT h10 (oP h11 (oD h12 (oU h13 oZ))))))))))))) ih
theorem j3n (h10:¬ i1 > 0) (e1:IntKind.i64.wrap (i1+1)=i6) (ih:Lp E 1 B2 3 (M5 r0 i0 i6 r1 r2) o t):Lp E 1 B2 3 (M5 r0 i0 i1 r1 r2) o t:=by subst e1;exact lpM (oT h1 (oP h2 (oD h3 (oF h4 (oF h5 (oU h6 (oF h7 (oU h8 (oF h9 (oU h10 oZ)))))))))) ih
end
theorem k6t (h6:i4 < 0):Lp E 1 B2 3 (M5 r0 i0 i1 r1 r2) .ret (z0q r1 r2 2):=lpX (oT h1 (oP h2 (oD h3 (oF h4 (oF h5 (oT h6 oZ))))))
section
variable (h6:¬ i4 < 0) (h7:Fn E z0y [.s s2] (.i i5))
include h6 h7
theorem k6u (h8:i5 < 0):Lp E 1 B2 3 (M5 r0 i0 i1 r1 r2) .ret (z0q r1 r2 2):=lpX (oT h1 (oP h2 (oD h3 (oF h4 (oF h5 (oU h6 (oF h7 (oT h8 oZ))))))))
theorem k6v (h8:¬ i5 < 0) (h9:Fn E Z8 [.s s0] (.b true)) (h10:i1 > 0) (h11:0≤i6) (h12:r2[(Int.toNat i6)]?=some [.i i7,.s s6,.s s7,.s s8,.s s9,.s s10,.s s11]) (h13:i7≥i3) (e1:IntKind.i64.wrap (i1 - 1)=i6):Lp E 1 B2 3 (M5 r0 i0 i1 r1 r2) .ret (z0q r1 r2 5):=by subst e1;exact lpX (oT h1 (oP h2 (oD h3 (oF h4 (oF h5 (oU h6 (oF h7 (oU h8 (oF h9 (oT h10 (oP h11 (oD h12 (oT h13 oZ)))))))))))))
theorem k6w (h8:¬ i5 < 0) (h9:Fn E Z8 [.s s0] (.b false)):Lp E 1 B2 3 (M5 r0 i0 i1 r1 r2) .ret (z0q r1 r2 4):=lpX (oT h1 (oP h2 (oD h3 (oF h4 (oF h5 (oU h6 (oF h7 (oU h8 (oF h9 oZ)))))))))
end
end
theorem k6x (h4:Fn E O2 [.i i3,.i 1073741824] (.b false)):Lp E 1 B2 3 (M5 r0 i0 i1 r1 r2) .ret (z0q r1 r2 2):=lpX (oT h1 (oP h2 (oD h3 (oF h4 oZ))))
end
theorem k6y (h1:¬ i1 < i0):Lp E 1 B2 3 (M5 r0 i0 i1 r1 r2) (.exit 6) (y7s r1 r2):=lpX (oU h1 oZ)
theorem v2p (h1:Lp E 1 B2 0 (z1e r0 (r0.length:Int) 0 r0 r1) .ret (y2r r0 r1)):Fn E B2 [.agg [.l r0,.l r1]] (.i 1):=fnM (oL h1 oZ)
section
variable (h1:Lp E 1 B2 0 (z1e r0 (r0.length:Int) 0 r0 r1) (.exit 0) (y7p r0 r1))
include h1
theorem v2q (h2:Lp E 1 B2 1 (z1f r1 (r1.length:Int) 0 r0 r1) .ret (y2s r0 r1)):Fn E B2 [.agg [.l r0,.l r1]] (.i 1):=fnM (oL h1 (oL h2 oZ))
section
variable (h2:Lp E 1 B2 1 (z1f r1 (r1.length:Int) 0 r0 r1) (.exit 2) (y7q r0 r1))
include h2
theorem v2r (h3:(r0.length:Int) > 6):Fn E B2 [.agg [.l r0,.l r1]] (.i 8):=fnM (oL h1 (oL h2 (oT h3 oZ)))
section
variable (h3:¬ (r0.length:Int) > 6)
include h3
theorem v2s (h4:(r1.length:Int) > 6):Fn E B2 [.agg [.l r0,.l r1]] (.i 8):=fnM (oL h1 (oL h2 (oU h3 (oT h4 oZ))))
section
variable (h4:¬ (r1.length:Int) > 6)
include h4
theorem v2t (h5:Lp E 1 B2 2 (I5 r0 (r0.length:Int) 0 r0 r1) .ret (U1 r0 r1 i0)):Fn E B2 [.agg [.l r0,.l r1]] (.i i0):=fnM (oL h1 (oL h2 (oU h3 (oU h4 (oL h5 oZ)))))
section
variable (h5:Lp E 1 B2 2 (I5 r0 (r0.length:Int) 0 r0 r1) (.exit 4) (y7r r0 r1))
include h5
theorem v2u (h6:Lp E 1 B2 3 (M5 r1 (r1.length:Int) 0 r0 r1) .ret (z0q r0 r1 i0)):Fn E B2 [.agg [.l r0,.l r1]] (.i i0):=fnM (oL h1 (oL h2 (oU h3 (oU h4 (oL h5 (oL h6 oZ))))))
theorem v2v (h6:Lp E 1 B2 3 (M5 r1 (r1.length:Int) 0 r0 r1) (.exit 6) (y7s r0 r1)):Fn E B2 [.agg [.l r0,.l r1]] (.i 0):=fnM (oL h1 (oL h2 (oU h3 (oU h4 (oL h5 (oL h6 oZ))))))
end
end
end
end
end
section
variable (h1:Fn E F8 [.agg [.l r0,.l r1],.l r2] (.i i0))
include h1
theorem j0g (h2:¬ i0=0):Fn E z8q [.agg [.l r0,.l r1],.l r2] (.tup [.i 0,.i 1]):=fnM (oF h1 (oB (bnT h2) oZ))
theorem j0h (h2:i0=0) (h3:Rn E B1 [.l r1,.fn J0 [.ptr 0 0,.ptr 1 0]] [sC [.l r0,.l r1],sC [.l r2]] (.i i1) [sC [.l r0,.l r1],sC [.l r2]]):Fn E z8q [.agg [.l r0,.l r1],.l r2] (.tup [.i i1,.i 0]):=fnM (oF h1 (oC (bnF h2) (oR h3 oZ)))
end
theorem v3e (h1:Fn E I4 [.l r0,.fn K8 []] (.b b0)):Fn E z4q [.l r0] (.b (!b0)):=fnM (oF h1 oZ)
theorem q7d (h1:i0≥1) (h2:i0≤i1):Fn E O2 [.i i0,.i i1] (.b true):=fnM (oT h1 (oT h2 oZ))
theorem q7e (h1:i0≥1) (h2:¬ i0≤i1):Fn E O2 [.i i0,.i i1] (.b false):=fnM (oT h1 (oU h2 oZ))
theorem q7f (h1:¬ i0≥1):Fn E O2 [.i i0,.i i1] (.b false):=fnM (oU h1 oZ)
theorem v8l (h1:Fn E z9w [.s s0,.s ⟨#[48]⟩] (.i i0)):Fn E z0y [.s s0] (.i i0):=fnM (oF h1 oZ)
theorem v2y (h1:(s0.size:Int)≥1) (h2:(s0.size:Int)≤64):Fn E Z8 [.s s0] (.b true):=fnM (oT h1 (oT h2 oZ))
theorem v2z (h1:(s0.size:Int)≥1) (h2:¬ (s0.size:Int)≤64):Fn E Z8 [.s s0] (.b false):=fnM (oT h1 (oU h2 oZ))
theorem v3a (h1:¬ (s0.size:Int)≥1):Fn E Z8 [.s s0] (.b false):=fnM (oU h1 oZ)
def I8 (r0 r1:RW) (i0 i1:Int) (r2 r3:RW):St:=stOf 72 [(1,.l r0),(2,.ptr 0 0),(11,.l r1),(12,.i i0),(13,.i i1)] [sC [.l r2,.l r3]]
def V3 (r2 r3:RW) (i2:Int):St:=stOf 72 [(4,.i i2)] [sC [.l r2,.l r3]]
def y5z (r2 r3:RW):St:=stOf 72 [] [sC [.l r2,.l r3]]
section
variable (h1:i1 < i0) (h2:0≤i1) (h3:r1[(Int.toNat i1)]?=some [.i i3,.i i4,.i i5]) (h4:Fn E y5p [.agg [.l r2,.l r3],.i i4] (.i i6))
include h1 h2 h3 h4
section
variable (h5:¬ i6 < 0) (h6:Fn E y2p [.agg [.l r2,.l r3],.i i3] (.i i7)) (h7:¬ i7 < 0) (h8:¬ i5 < 1)
include h5 h6 h7 h8
theorem j0i (h9:i1 > 0) (h10:0≤i8) (h11:r0[(Int.toNat i8)]?=some [.i i9,.i i10,.i i11]) (h12:Fn E y9e [.agg [.i i9,.i i10,.i i11],.agg [.i i3,.i i4,.i i5]] (.i i12)) (h13:¬ i12≥0) (h14:0≤i6) (h15:r2[(Int.toNat i6)]?=some [.i i13,.i i14,.i i15,.s s0,.s s1,.s s2,.s s3]) (h16:¬ i5 > i14) (h17:0≤(0:Int)∧(0:Int)≤i16∧i16≤r0.length∧∀ x∈r0,x.length=3) (h18:Fn E U6 [.l r4,.i i4] (.i i17)) (h19:¬ i17 > i14) (e1:IntKind.i64.wrap (i1 - 1)=i8) (e2:IntKind.i64.wrap (i1+1)=i16) (e3:List.drop 0 (r0.take (Int.toNat i16))=r4) (ih:Lp E 1 F8 0 (I8 r0 r1 i0 i16 r2 r3) o t):Lp E 1 F8 0 (I8 r0 r1 i0 i1 r2 r3) o t:=by subst e1 e2 e3;exact lpM (oT h1 (oP h2 (oD h3 (oF h4 (oU h5 (oF h6 (oU h7 (oU h8 (oT h9 (oP h10 (oD h11 (oF h12 (oU h13 (oP h14 (oD h15 (oU h16 (oP h17 (oF h18 (oP h14 (oD h15 (oU h19 oZ))))))))))))))))))))) ih
theorem j0j (h9:¬ i1 > 0) (h10:0≤i6) (h11:r2[(Int.toNat i6)]?=some [.i i8,.i i9,.i i10,.s s4,.s s5,.s s6,.s s7]) (h12:¬ i5 > i9) (h13:0≤(0:Int)∧(0:Int)≤i15∧i15≤r0.length∧∀ x∈r0,x.length=3) (h14:Fn E U6 [.l r5,.i i4] (.i i18)) (h15:¬ i18 > i9) (e1:IntKind.i64.wrap (i1+1)=i15) (e2:List.drop 0 (r0.take (Int.toNat i15))=r5) (ih:Lp E 1 F8 0 (I8 r0 r1 i0 i15 r2 r3) o t):Lp E 1 F8 0 (I8 r0 r1 i0 i1 r2 r3) o t:=by subst e1 e2;exact lpM (oT h1 (oP h2 (oD h3 (oF h4 (oU h5 (oF h6 (oU h7 (oU h8 (oU h9 (oP h10 (oD h11 (oU h12 (oP h13 (oF h14 (oP h10 (oD h11 (oU h15 oZ))))))))))))))))) ih
end
theorem k1x (h5:i6 < 0):Lp E 1 F8 0 (I8 r0 r1 i0 i1 r2 r3) .ret (V3 r2 r3 7):=lpX (oT h1 (oP h2 (oD h3 (oF h4 (oT h5 oZ)))))
section
variable (h5:¬ i6 < 0) (h6:Fn E y2p [.agg [.l r2,.l r3],.i i3] (.i i7))
include h5 h6
theorem k1y (h7:i7 < 0):Lp E 1 F8 0 (I8 r0 r1 i0 i1 r2 r3) .ret (V3 r2 r3 7):=lpX (oT h1 (oP h2 (oD h3 (oF h4 (oU h5 (oF h6 (oT h7 oZ)))))))
section
variable (h7:¬ i7 < 0)
include h7
theorem k1z (h8:i5 < 1):Lp E 1 F8 0 (I8 r0 r1 i0 i1 r2 r3) .ret (V3 r2 r3 2):=lpX (oT h1 (oP h2 (oD h3 (oF h4 (oU h5 (oF h6 (oU h7 (oT h8 oZ))))))))
section
variable (h8:¬ i5 < 1)
include h8
section
variable (h9:i1 > 0) (h10:0≤i8) (h11:r0[(Int.toNat i8)]?=some [.i i9,.i i10,.i i11]) (h12:Fn E y9e [.agg [.i i9,.i i10,.i i11],.agg [.i i3,.i i4,.i i5]] (.i i12))
include h9 h10 h11 h12
theorem k2a (h13:i12≥0) (e1:IntKind.i64.wrap (i1 - 1)=i8):Lp E 1 F8 0 (I8 r0 r1 i0 i1 r2 r3) .ret (V3 r2 r3 5):=by subst e1;exact lpX (oT h1 (oP h2 (oD h3 (oF h4 (oU h5 (oF h6 (oU h7 (oU h8 (oT h9 (oP h10 (oD h11 (oF h12 (oT h13 oZ)))))))))))))
section
variable (h13:¬ i12≥0) (h14:0≤i6) (h15:r2[(Int.toNat i6)]?=some [.i i13,.i i14,.i i15,.s s0,.s s1,.s s2,.s s3])
include h13 h14 h15
theorem k2b (h16:i5 > i14) (e1:IntKind.i64.wrap (i1 - 1)=i8):Lp E 1 F8 0 (I8 r0 r1 i0 i1 r2 r3) .ret (V3 r2 r3 12):=by subst e1;exact lpX (oT h1 (oP h2 (oD h3 (oF h4 (oU h5 (oF h6 (oU h7 (oU h8 (oT h9 (oP h10 (oD h11 (oF h12 (oU h13 (oP h14 (oD h15 (oT h16 oZ))))))))))))))))
theorem k2c (h16:¬ i5 > i14) (h17:0≤(0:Int)∧(0:Int)≤i16∧i16≤r0.length∧∀ x∈r0,x.length=3) (h18:Fn E U6 [.l r4,.i i4] (.i i17)) (h19:i17 > i14) (e1:IntKind.i64.wrap (i1 - 1)=i8) (e2:IntKind.i64.wrap (i1+1)=i16) (e3:List.drop 0 (r0.take (Int.toNat i16))=r4):Lp E 1 F8 0 (I8 r0 r1 i0 i1 r2 r3) .ret (V3 r2 r3 12):=by subst e1 e2 e3;exact lpX (oT h1 (oP h2 (oD h3 (oF h4 (oU h5 (oF h6 (oU h7 (oU h8 (oT h9 (oP h10 (oD h11 (oF h12 (oU h13 (oP h14 (oD h15 (oU h16 (oP h17 (oF h18 (oP h14 (oD h15 (oT h19 oZ)))))))))))))))))))))
end
end
section
variable (h9:¬ i1 > 0) (h10:0≤i6) (h11:r2[(Int.toNat i6)]?=some [.i i8,.i i9,.i i10,.s s4,.s s5,.s s6,.s s7])
include h9 h10 h11
theorem k2d (h12:i5 > i9):Lp E 1 F8 0 (I8 r0 r1 i0 i1 r2 r3) .ret (V3 r2 r3 12):=lpX (oT h1 (oP h2 (oD h3 (oF h4 (oU h5 (oF h6 (oU h7 (oU h8 (oU h9 (oP h10 (oD h11 (oT h12 oZ))))))))))))
theorem k2e (h12:¬ i5 > i9) (h13:0≤(0:Int)∧(0:Int)≤i15∧i15≤r0.length∧∀ x∈r0,x.length=3) (h14:Fn E U6 [.l r5,.i i4] (.i i18)) (h15:i18 > i9) (e1:IntKind.i64.wrap (i1+1)=i15) (e2:List.drop 0 (r0.take (Int.toNat i15))=r5):Lp E 1 F8 0 (I8 r0 r1 i0 i1 r2 r3) .ret (V3 r2 r3 12):=by subst e1 e2;exact lpX (oT h1 (oP h2 (oD h3 (oF h4 (oU h5 (oF h6 (oU h7 (oU h8 (oU h9 (oP h10 (oD h11 (oU h12 (oP h13 (oF h14 (oP h10 (oD h11 (oT h15 oZ)))))))))))))))))
end
end
end
end
end
theorem k2f (h1:¬ i1 < i0):Lp E 1 F8 0 (I8 r0 r1 i0 i1 r2 r3) (.exit 0) (y5z r2 r3):=lpX (oU h1 oZ)
section
variable (h1:Fn E B2 [.agg [.l r0,.l r1]] (.i i0))
include h1
theorem q6v (h2:¬ i0=0):Fn E F8 [.agg [.l r0,.l r1],.l r2] (.i 1):=fnM (oF h1 (oB (bnT h2) oZ))
theorem q6w (h2:i0=0) (h3:Lp E 1 F8 0 (I8 r2 r2 (r2.length:Int) 0 r0 r1) .ret (V3 r0 r1 i1)):Fn E F8 [.agg [.l r0,.l r1],.l r2] (.i i1):=fnM (oF h1 (oC (bnF h2) (oL h3 oZ)))
theorem q6x (h2:i0=0) (h3:Lp E 1 F8 0 (I8 r2 r2 (r2.length:Int) 0 r0 r1) (.exit 0) (y5z r0 r1)):Fn E F8 [.agg [.l r0,.l r1],.l r2] (.i 0):=fnM (oF h1 (oC (bnF h2) (oL h3 oZ)))
end
theorem q2q (h1:Fn E z1x [.s s0,.s s1] (.tup [.i i0,.i i1])):Fn E z9w [.s s0,.s s1] (.i i0):=fnM (oF h1 oZ)
theorem v8h (h1:Fn E F8 [.agg [.l r0,.l r1],.l r2] (.i i1)) (h2:i1=0) (h3:Fn E y2p [.agg [.l r0,.l r1],.i i0] (.i i2)) (h4:¬ i2 < 0) (h5:Fn E x7i [.l r2,.i i0] (.l r3)) (h6:Fn E z0v [.agg [.l r0,.l r1],.l r3] (.agg [.s s0,.s s1,.s s2,.s s3,.s s4,.s s5])):Fn E x7h [.agg [.l r0,.l r1],.l r2,.i i0] (.tup [.agg [.s s0,.s s1,.s s2,.s s3,.s s4,.s s5],.i 0]):=fnM (oF h1 (oC (bnF h2) (oF h3 (oU h4 (oF h5 (oF h6 oZ))))))
theorem q7b (h1:Fn E x1d [.l r0,.i i0,.fn C6 []] (.i i1)):Fn E y5p [.agg [.l r0,.l r1],.i i0] (.i i1):=fnM (oF h1 oZ)
theorem v8i (h1:Fn E x3q [.l r1,.i i0,.fn F3 []] (.i i1)):Fn E y2p [.agg [.l r0,.l r1],.i i0] (.i i1):=fnM (oF h1 oZ)
theorem v3b (h1:Fn E z0z [.i i0,.i i3] (.i i6)) (h2:Fn E z0z [.i i1,.i i4] (.i i7)) (h3:Fn E z2e [.l r0] (.i i8)) (e1:(([[.i i6],[.i i7]]:RW).take 2)=r0):Fn E y9e [.agg [.i i0,.i i1,.i i2],.agg [.i i3,.i i4,.i i5]] (.i i8):=by subst e1;exact fnM (oF h1 (oF h2 (oF h3 oZ)))
def z5i (i0 i1:Int) (r0:RW) (i2 i3:Int):St:=stOf 24 [(1,.i i0),(5,.i i1),(8,.l r0),(9,.i i2),(10,.i i3)] []
def y7v (i4:Int):St:=stOf 24 [(5,.i i4)] []
section
variable (h1:i3 < i2) (h2:0≤i3) (h3:r0[(Int.toNat i3)]?=some [.i i5,.i i6,.i i7])
include h1 h2 h3
theorem j3p (h4:i6=i0) (e1:IntKind.i64.wrap (i1+i7)=i8) (e2:IntKind.i64.wrap (i3+1)=i9) (ih:Lp E 0 U6 0 (z5i i0 i8 r0 i2 i9) o t):Lp E 0 U6 0 (z5i i0 i1 r0 i2 i3) o t:=by subst e1 e2;exact lpM (oT h1 (oP h2 (oD h3 (oB (beT h4) oZ)))) ih
theorem j3q (h4:¬ i6=i0) (e1:IntKind.i64.wrap (i3+1)=i8) (ih:Lp E 0 U6 0 (z5i i0 i1 r0 i2 i8) o t):Lp E 0 U6 0 (z5i i0 i1 r0 i2 i3) o t:=by subst e1;exact lpM (oT h1 (oP h2 (oD h3 (oC (beF h4) oZ)))) ih
end
theorem k7d (h1:¬ i3 < i2):Lp E 0 U6 0 (z5i i0 i1 r0 i2 i3) (.exit 0) (y7v i1):=lpX (oU h1 oZ)
theorem v3d (h1:Lp E 0 U6 0 (z5i i0 0 r0 (r0.length:Int) 0) (.exit 0) (y7v i1)):Fn E U6 [.l r0,.i i0] (.i i1):=fnM (oL h1 oZ)
section
variable (h1:Fn E x7i [.l r2,.i i0] (.l r3)) (h2:Fn E z0v [.agg [.l r0,.l r1],.l r3] (.agg [.s s6,.s s7,.s s8,.s s9,.s s10,.s s11])) (h3:Fn E z9w [.s s6,.s s2] (.i i1))
include h1 h2 h3
theorem k1u (h4:i1 > 0):Rn E J0 [.agg [.i i0,.s s0,.s s1,.s s2,.s s3,.s s4,.s s5],.ptr 0 0,.ptr 1 0] [sC [.l r0,.l r1],sC [.l r2]] (.b true) [sC [.l r0,.l r1],sC [.l r2]]:=rnM (oF h1 (oF h2 (oF h3 (oT h4 oZ))))
section
variable (h4:¬ i1 > 0) (h5:Fn E z9w [.s s7,.s s1] (.i i2))
include h4 h5
theorem k1v (h6:i2 > 0):Rn E J0 [.agg [.i i0,.s s0,.s s1,.s s2,.s s3,.s s4,.s s5],.ptr 0 0,.ptr 1 0] [sC [.l r0,.l r1],sC [.l r2]] (.b true) [sC [.l r0,.l r1],sC [.l r2]]:=rnM (oF h1 (oF h2 (oF h3 (oU h4 (oF h5 (oT h6 oZ))))))
theorem k1w (h6:¬ i2 > 0):Rn E J0 [.agg [.i i0,.s s0,.s s1,.s s2,.s s3,.s s4,.s s5],.ptr 0 0,.ptr 1 0] [sC [.l r0,.l r1],sC [.l r2]] (.b false) [sC [.l r0,.l r1],sC [.l r2]]:=rnM (oF h1 (oF h2 (oF h3 (oU h4 (oF h5 (oU h6 oZ))))))
end
end
theorem w5q (h1:Rn E X2 [.l r0] [] (.vec 0 n0) [sV F2 r1]) (h2:Rn E G1 [.vec 1 n0,.fn M8 [.ptr 0 0]] [sC [.i i0],sV F2 r1] (.vec 1 n1) [sC [.i i0],sV F2 r2]) (e1:(r2.take n1)=r3):Fn E x7i [.l r0,.i i0] (.l r3):=by subst e1;exact fnM (oN h1 (oV h2 oZ))
def z2x (r0:RW) (i0 i1:Int) (r1 r2:RW) (s0 s1 s2 s3 s4 s5 s6 s7 s8 s9 s10 s11:BA):St:=stOf 93 [(2,.ptr 0 0),(4,.ptr 1 0),(5,.ptr 2 0),(14,.l r0),(15,.i i0),(16,.i i1)] [sC [.l r1,.l r2],sC [.s s0,.s s1,.s s2,.s s3,.s s4,.s s5],sC [.s s6,.s s7,.s s8,.s s9,.s s10,.s s11]]
def y7u (r1 r2:RW) (s0 s1 s2 s3 s4 s5 s12 s13 s14 s15 s16 s17:BA):St:=stOf 93 [(4,.ptr 1 0),(5,.ptr 2 0)] [sC [.l r1,.l r2],sC [.s s0,.s s1,.s s2,.s s3,.s s4,.s s5],sC [.s s12,.s s13,.s s14,.s s15,.s s16,.s s17]]
theorem j3o (h1:i1 < i0) (h2:0≤i1) (h3:r0[(Int.toNat i1)]?=some [.i i2,.i i3,.i i4]) (h4:Fn E y5p [.agg [.l r1,.l r2],.i i3] (.i i5)) (h5:0≤i5) (h6:r1[(Int.toNat i5)]?=some [.i i6,.i i7,.i i8,.s s18,.s s19,.s s20,.s s21]) (h7:Fn E y2p [.agg [.l r1,.l r2],.i i2] (.i i9)) (h8:0≤i9) (h9:r2[(Int.toNat i9)]?=some [.i i10,.s s22,.s s23,.s s24,.s s25,.s s26,.s s27]) (h10:Fn E x2a [.i i4] (.s s28)) (h11:Fn E z8l [.s s28,.s s19] (.s s29)) (h12:Fn E z8k [.s s6,.s s29] (.s s30)) (h13:Fn E z8l [.s s28,.s s20] (.s s31)) (h14:Fn E z8k [.s s7,.s s31] (.s s32)) (h15:Fn E z8l [.s s28,.s s21] (.s s33)) (h16:Fn E z8k [.s s8,.s s33] (.s s34)) (h17:Fn E z8l [.s s29,.s s25] (.s s35)) (h18:Fn E z8k [.s s9,.s s35] (.s s36)) (h19:Fn E z8l [.s s29,.s s26] (.s s37)) (h20:Fn E z8k [.s s10,.s s37] (.s s38)) (h21:Fn E z8l [.s s29,.s s27] (.s s39)) (h22:Fn E z8k [.s s11,.s s39] (.s s40)) (e1:IntKind.i64.wrap (i1+1)=i11) (ih:Lp E 3 z0v 0 (z2x r0 i0 i11 r1 r2 s0 s1 s2 s3 s4 s5 s30 s32 s34 s36 s38 s40) o t):Lp E 3 z0v 0 (z2x r0 i0 i1 r1 r2 s0 s1 s2 s3 s4 s5 s6 s7 s8 s9 s10 s11) o t:=by subst e1;exact lpM (oT h1 (oP h2 (oD h3 (oF h4 (oP h5 (oD h6 (oF h7 (oP h8 (oD h9 (oF h10 (oF h11 (oF h12 (oF h13 (oF h14 (oF h15 (oF h16 (oF h17 (oF h18 (oF h19 (oF h20 (oF h21 (oF h22 oZ)))))))))))))))))))))) ih
theorem k7c (h1:¬ i1 < i0):Lp E 3 z0v 0 (z2x r0 i0 i1 r1 r2 s0 s1 s2 s3 s4 s5 s6 s7 s8 s9 s10 s11) (.exit 0) (y7u r1 r2 s0 s1 s2 s3 s4 s5 s6 s7 s8 s9 s10 s11):=lpX (oU h1 oZ)
theorem v2x (h1:Lp E 3 z0v 0 (z2x r2 (r2.length:Int) 0 r0 r1 ⟨#[]⟩ ⟨#[]⟩ ⟨#[]⟩ ⟨#[]⟩ ⟨#[]⟩ ⟨#[]⟩ ⟨#[48]⟩ ⟨#[48]⟩ ⟨#[48]⟩ ⟨#[48]⟩ ⟨#[48]⟩ ⟨#[48]⟩) (.exit 0) (y7u r0 r1 ⟨#[]⟩ ⟨#[]⟩ ⟨#[]⟩ ⟨#[]⟩ ⟨#[]⟩ ⟨#[]⟩ s0 s1 s2 s3 s4 s5)):Fn E z0v [.agg [.l r0,.l r1],.l r2] (.agg [.s s0,.s s1,.s s2,.s s3,.s s4,.s s5]):=fnM (oL h1 oZ)
theorem y3v (h1:Rn E A6 [.l r0,.fn J3 [.ptr 1 0,.ptr 0 0]] [sC [.i i0],sC [.fn C6 []]] (.i i1) [sC [.i i0],sC [.fn C6 []]]):Fn E x1d [.l r0,.i i0,.fn C6 []] (.i i1):=fnM (oR h1 oZ)
theorem y7h (h1:Rn E B1 [.l r0,.fn N1 [.ptr 1 0,.ptr 0 0]] [sC [.i i0],sC [.fn F3 []]] (.i i1) [sC [.i i0],sC [.fn F3 []]]):Fn E x3q [.l r0,.i i0,.fn F3 []] (.i i1):=fnM (oR h1 oZ)
theorem q2s (h1:Fn E z7p [.s s0] (.b b0)):Fn E K8 [.s s0] (.b (!b0)):=fnM (oF h1 oZ)
theorem q6z (h1:Fn E y5x [.i i0] (.s s0)):Fn E x2a [.i i0] (.s s0):=fnM (oF h1 oZ)
theorem w1u (h1:Fn E y5u [.s s0,.s s1] (.tup [.s s2,.i i0])):Fn E z8l [.s s0,.s s1] (.s s2):=fnM (oF h1 oZ)
theorem w1t (h1:Fn E y5t [.s s0,.s s1] (.tup [.s s2,.i i0])):Fn E z8k [.s s0,.s s1] (.s s2):=fnM (oF h1 oZ)
theorem v8j (h1:¬ i0=i3):Rn E M8 [.agg [.i i0,.i i1,.i i2],.ptr 0 0] [sC [.i i3]] (.b true) [sC [.i i3]]:=rnM (oB (bnT h1) oZ)
theorem v8k (h1:i0=i3):Rn E M8 [.agg [.i i0,.i i1,.i i2],.ptr 0 0] [sC [.i i3]] (.b false) [sC [.i i3]]:=rnM (oC (bnF h1) oZ)
section
variable (h1:Fn E C6 [.agg [.i i0,.i i1,.i i2,.s s0,.s s1,.s s2,.s s3]] (.i i4))
include h1
theorem x9m (h2:i4=i3):Rn E J3 [.agg [.i i0,.i i1,.i i2,.s s0,.s s1,.s s2,.s s3],.ptr 0 0,.ptr 1 0] [sC [.fn C6 []],sC [.i i3]] (.b true) [sC [.fn C6 []],sC [.i i3]]:=rnM (oF h1 (oB (beT h2) oZ))
theorem x9n (h2:¬ i4=i3):Rn E J3 [.agg [.i i0,.i i1,.i i2,.s s0,.s s1,.s s2,.s s3],.ptr 0 0,.ptr 1 0] [sC [.fn C6 []],sC [.i i3]] (.b false) [sC [.fn C6 []],sC [.i i3]]:=rnM (oF h1 (oC (beF h2) oZ))
end
section
variable (h1:Fn E F3 [.agg [.i i0,.s s0,.s s1,.s s2,.s s3,.s s4,.s s5]] (.i i2))
include h1
theorem k7a (h2:i2=i1):Rn E N1 [.agg [.i i0,.s s0,.s s1,.s s2,.s s3,.s s4,.s s5],.ptr 0 0,.ptr 1 0] [sC [.fn F3 []],sC [.i i1]] (.b true) [sC [.fn F3 []],sC [.i i1]]:=rnM (oF h1 (oB (beT h2) oZ))
theorem k7b (h2:¬ i2=i1):Rn E N1 [.agg [.i i0,.s s0,.s s1,.s s2,.s s3,.s s4,.s s5],.ptr 0 0,.ptr 1 0] [sC [.fn F3 []],sC [.i i1]] (.b false) [sC [.fn F3 []],sC [.i i1]]:=rnM (oF h1 (oC (beF h2) oZ))
end
theorem x5q:Fn E C6 [.agg [.i i0,.i i1,.i i2,.s s0,.s s1,.s s2,.s s3]] (.i i0):=fnM oZ
theorem k2g:Fn E F3 [.agg [.i i0,.s s0,.s s1,.s s2,.s s3,.s s4,.s s5]] (.i i0):=fnM oZ
end Gev
namespace Gev
open Go Go.Proofs
variable {E:Env}
variable {o:Out} {t:St} {r0 r1 r2 r3 r4 r5 r6 r7 r8 r9 r10 r11 r12 r13 r14 r15:RW} {i0 i1 i2 i3 i4 i5 i6 i7 i8 i9 i10 i11 i12 i13 i14 i15:Int} {n0 n1 n2 n3 n4 n5 n6 n7 n8:Nat} {s0 s1 s2 s3 s4 s5 s6 s7 s8 s9 s10 s11 s12 s13 s14 s15 s16 s17 s18 s19:BA} {b0:Bool}
def z2a (i0 i1:Int) (r0 r1 r2:RW):St:=stOf 31 [(1,.ptr 0 0),(19,.i i0),(20,.i i1)] [sC [.l r0,.l r1,.l r2]]
def y4t (r0 r1 r2:RW) (i2 i3:Int):St:=stOf 31 [(2,.i i2),(3,.i i3)] [sC [.l r0,.l r1,.l r2]]
def y4u (r0 r1 r2:RW):St:=stOf 31 [] [sC [.l r0,.l r1,.l r2]]
section
variable (h1:i1 < i0) (h2:Fn E F6 [.agg [.l r0,.l r1,.l r2],.i i1] (.i i4))
include h1 h2
theorem k8z (h3:i4=0) (e1:IntKind.i64.wrap (i1+1)=i5) (ih:Lp E 1 I2 0 (z2a i0 i5 r0 r1 r2) o t):Lp E 1 I2 0 (z2a i0 i1 r0 r1 r2) o t:=by subst e1;exact lpM (oT h1 (oF h2 (oC (bnF h3) oZ))) ih
theorem k0w (h3:¬ i4=0):Lp E 1 I2 0 (z2a i0 i1 r0 r1 r2) .ret (y4t r0 r1 r2 i1 i4):=lpX (oT h1 (oF h2 (oB (bnT h3) oZ)))
end
theorem k0x (h1:¬ i1 < i0):Lp E 1 I2 0 (z2a i0 i1 r0 r1 r2) (.exit 0) (y4u r0 r1 r2):=lpX (oU h1 oZ)
section
variable (h1:Fn E B2 [.agg [.l r0,.l r1]] (.i i0))
include h1
theorem q4l (h2:¬ i0=0):Fn E I2 [.agg [.l r0,.l r1,.l r2]] (.tup [.i (-1),.i i0]):=fnM (oF h1 (oB (bnT h2) oZ))
theorem q4m (h2:i0=0) (h3:(r2.length:Int) > 16):Fn E I2 [.agg [.l r0,.l r1,.l r2]] (.tup [.i (-1),.i 8]):=fnM (oF h1 (oC (bnF h2) (oT h3 oZ)))
theorem q4n (h2:i0=0) (h3:¬ (r2.length:Int) > 16) (h4:Lp E 1 I2 0 (z2a (r2.length:Int) 0 r0 r1 r2) .ret (y4t r0 r1 r2 i1 i2)):Fn E I2 [.agg [.l r0,.l r1,.l r2]] (.tup [.i i1,.i i2]):=fnM (oF h1 (oC (bnF h2) (oU h3 (oL h4 oZ))))
theorem q4o (h2:i0=0) (h3:¬ (r2.length:Int) > 16) (h4:Lp E 1 I2 0 (z2a (r2.length:Int) 0 r0 r1 r2) (.exit 0) (y4u r0 r1 r2)):Fn E I2 [.agg [.l r0,.l r1,.l r2]] (.tup [.i (-1),.i 0]):=fnM (oF h1 (oC (bnF h2) (oU h3 (oL h4 oZ))))
end
theorem v6c (h1:Fn E z0p [.agg [.l r0,.l r1,.l r2],.i i0,.l r3] (.tup [.s s0,.i i1])):Fn E y9j [.agg [.l r0,.l r1,.l r2],.i i0,.l r3] (.tup [.s s0,.i i1]):=fnM (oF h1 oZ)
section
variable (h1:Fn E z0p [.agg [.l r0,.l r1,.l r2],.i i0,.l r3] (.tup [.s s0,.i i1]))
include h1
theorem q0i (h2:¬ i1=0):Fn E z7s [.agg [.l r0,.l r1,.l r2],.i i0,.l r3] (.tup [.s ⟨#[]⟩,.i i1]):=fnM (oF h1 (oB (bnT h2) oZ))
theorem q0j (h2:i1=0) (h3:0≤i0) (h4:r2[(Int.toNat i0)]?=some [.s s1,.i i2,.l r4,.s s2,.s s3,.i i3,.i i4]) (h5:Fn E X1 [.agg [.s s1,.i i2,.l r4,.s s2,.s s3,.i i3,.i i4],.s s0] (.s s4)):Fn E z7s [.agg [.l r0,.l r1,.l r2],.i i0,.l r3] (.tup [.s s4,.i 0]):=fnM (oF h1 (oC (bnF h2) (oP h3 (oD h4 (oF h5 oZ)))))
end
theorem q0e (h1:Fn E Y6 [.agg [.l r0,.l r1,.l r2],.l r3] (.b true)) (h2:Fn E D3 [.agg [.l r0,.l r1,.l r2],.l r3] (.l r4)):Fn E z7r [.agg [.l r0,.l r1,.l r2],.l r3] (.tup [.l r4,.i 0]):=fnM (oF h1 (oF h2 oZ))
theorem q0f (h1:Fn E Y6 [.agg [.l r0,.l r1,.l r2],.l r3] (.b false)):Fn E z7r [.agg [.l r0,.l r1,.l r2],.l r3] (.tup [.l [],.i 1]):=fnM (oF h1 oZ)
section
variable (h1:Fn E Y6 [.agg [.l r0,.l r1,.l r2],.l r3] (.b true)) (h2:Fn E D3 [.agg [.l r0,.l r1,.l r2],.l r3] (.l r4))
include h1 h2
theorem q4q (h3:(r4.length:Int) > 0):Fn E z1t [.agg [.l r0,.l r1,.l r2],.l r3] (.b false):=fnM (oF h1 (oF h2 (oT h3 oZ)))
section
variable (h3:¬ (r4.length:Int) > 0) (h4:Fn E z8q [.agg [.l r0,.l r1],.l r3] (.tup [.i i0,.i i1]))
include h3 h4
theorem q4r (h5:i0 < 0):Fn E z1t [.agg [.l r0,.l r1,.l r2],.l r3] (.b true):=fnM (oF h1 (oF h2 (oU h3 (oF h4 (oT h5 oZ)))))
theorem q4s (h5:¬ i0 < 0):Fn E z1t [.agg [.l r0,.l r1,.l r2],.l r3] (.b false):=fnM (oF h1 (oF h2 (oU h3 (oF h4 (oU h5 oZ)))))
end
end
theorem q4t (h1:Fn E Y6 [.agg [.l r0,.l r1,.l r2],.l r3] (.b false)):Fn E z1t [.agg [.l r0,.l r1,.l r2],.l r3] (.b false):=fnM (oF h1 oZ)
def z4y (i0:Int) (r0:RW) (i1 i2:Int) (r1 r2 r3 r4 r5:RW) (n0 n1:Nat) (r6 r7:RW):St:=stOf 139 [(1,.ptr 0 0),(2,.ptr 1 0),(6,.ptr 2 0),(7,.ptr 3 0),(8,.i i0),(9,.ptr 4 0),(10,.fn A1 [.ptr 2 0,.ptr 3 0,.ptr 4 0]),(11,.ptr 5 0),(42,.l r0),(43,.i i1),(44,.i i2)] [sC [.l r1,.l r2,.l r3],sC [.nils,.nils,.nils],sC [.l r4],sC [.l r5],sC [.vec 6 n0,.vec 7 n1,.nils],sC [.fn A0 []],sV A4 r6,sV A2 r7]
def z9p (i0:Int) (r1 r2 r3 r4 r5:RW) (n2 n3:Nat) (r8 r9:RW):St:=stOf 139 [(1,.ptr 0 0),(2,.ptr 1 0),(6,.ptr 2 0),(7,.ptr 3 0),(8,.i i0),(9,.ptr 4 0),(10,.fn A1 [.ptr 2 0,.ptr 3 0,.ptr 4 0]),(11,.ptr 5 0)] [sC [.l r1,.l r2,.l r3],sC [.nils,.nils,.nils],sC [.l r4],sC [.l r5],sC [.vec 6 n2,.vec 7 n3,.nils],sC [.fn A0 []],sV A4 r8,sV A2 r9]
theorem k9a (h1:i2 < i1) (h2:0≤i2) (h3:r0[(Int.toNat i2)]?=some [.i i3,.i i4,.i i5,.s s0,.s s1,.s s2,.s s3]) (h4:Fn E y7o [.i i4] (.s s4)) (h5:Rn E A1 [.s s4,.fn U8 [.ptr 5 0,.ptr 8 0],.ptr 2 0,.ptr 3 0,.ptr 4 0] [sC [.l r1,.l r2,.l r3],sC [.nils,.nils,.nils],sC [.l r4],sC [.l r5],sC [.vec 6 n0,.vec 7 n1,.nils],sC [.fn A0 []],sV A4 r6,sV A2 r7,sC [.i i2],sC [.i i3,.i i4,.i i5,.s s0,.s s1,.s s2,.s s3]] (.tup []) [sC [.l r1,.l r2,.l r3],sC [.nils,.nils,.nils],sC [.l r4],sC [.l r5],sC [.vec 10 n4,.vec 11 n5,.nils],sC [.fn A0 []],some .dead,some .dead,sC [.i i2],sC [.i i3,.i i4,.i i5,.s s0,.s s1,.s s2,.s s3],sV A4 r10,sV A2 r11]) (e1:IntKind.i64.wrap (i2+1)=i6) (ih:Lp E 6 A9 0 (z4y i0 r0 i1 i6 r1 r2 r3 r4 r5 n4 n5 r10 r11) o t):Lp E 6 A9 0 (z4y i0 r0 i1 i2 r1 r2 r3 r4 r5 n0 n1 r6 r7) o t:=by subst e1;exact lpM (oT h1 (oP h2 (oD h3 (oF h4 (oV h5 oZ))))) ih
theorem k1a (h1:¬ i2 < i1):Lp E 6 A9 0 (z4y i0 r0 i1 i2 r1 r2 r3 r4 r5 n0 n1 r6 r7) (.exit 0) (z9p i0 r1 r2 r3 r4 r5 n0 n1 r6 r7):=lpX (oU h1 oZ)
def z4z (i0:Int) (r0:RW) (i1 i2:Int) (r1 r2 r3 r4 r5:RW) (n0 n1:Nat) (r6 r7:RW):St:=stOf 139 [(1,.ptr 0 0),(2,.ptr 1 0),(6,.ptr 2 0),(7,.ptr 3 0),(8,.i i0),(9,.ptr 4 0),(10,.fn A1 [.ptr 2 0,.ptr 3 0,.ptr 4 0]),(11,.ptr 5 0),(56,.l r0),(57,.i i1),(58,.i i2)] [sC [.l r1,.l r2,.l r3],sC [.nils,.nils,.nils],sC [.l r4],sC [.l r5],sC [.vec 8 n0,.vec 9 n1,.nils],sC [.fn A0 []],some .dead,some .dead,sV A4 r6,sV A2 r7]
def z9q (i0:Int) (r1 r2 r3 r4 r5:RW) (n2 n3:Nat) (r8 r9:RW):St:=stOf 139 [(1,.ptr 0 0),(2,.ptr 1 0),(6,.ptr 2 0),(7,.ptr 3 0),(8,.i i0),(9,.ptr 4 0),(10,.fn A1 [.ptr 2 0,.ptr 3 0,.ptr 4 0]),(11,.ptr 5 0)] [sC [.l r1,.l r2,.l r3],sC [.nils,.nils,.nils],sC [.l r4],sC [.l r5],sC [.vec 8 n2,.vec 9 n3,.nils],sC [.fn A0 []],some .dead,some .dead,sV A4 r8,sV A2 r9]
theorem k9b (h1:i2 < i1) (h2:0≤i2) (h3:r0[(Int.toNat i2)]?=some [.i i3,.s s0,.s s1,.s s2,.s s3,.s s4,.s s5]) (h4:Rn E A1 [.s s2,.fn U9 [.ptr 5 0,.ptr 10 0,.ptr 2 0],.ptr 2 0,.ptr 3 0,.ptr 4 0] [sC [.l r1,.l r2,.l r3],sC [.nils,.nils,.nils],sC [.l r4],sC [.l r5],sC [.vec 8 n0,.vec 9 n1,.nils],sC [.fn A0 []],some .dead,some .dead,sV A4 r6,sV A2 r7,sC [.i i2],sC [.i i3,.s s0,.s s1,.s s2,.s s3,.s s4,.s s5]] (.tup []) [sC [.l r1,.l r2,.l r3],sC [.nils,.nils,.nils],sC [.l r4],sC [.l r5],sC [.vec 12 n4,.vec 13 n5,.nils],sC [.fn A0 []],some .dead,some .dead,some .dead,some .dead,sC [.i i2],sC [.i i3,.s s0,.s s1,.s s2,.s s3,.s s4,.s s5],sV A4 r10,sV A2 r11]) (e1:IntKind.i64.wrap (i2+1)=i4) (ih:Lp E 8 A9 1 (z4z i0 r0 i1 i4 r1 r2 r3 r4 r5 n4 n5 r10 r11) o t):Lp E 8 A9 1 (z4z i0 r0 i1 i2 r1 r2 r3 r4 r5 n0 n1 r6 r7) o t:=by subst e1;exact lpM (oT h1 (oP h2 (oD h3 (oV h4 oZ)))) ih
theorem k1b (h1:¬ i2 < i1):Lp E 8 A9 1 (z4z i0 r0 i1 i2 r1 r2 r3 r4 r5 n0 n1 r6 r7) (.exit 2) (z9q i0 r1 r2 r3 r4 r5 n0 n1 r6 r7):=lpX (oU h1 oZ)
def z5a (i0:Int) (r0:RW) (i1 i2:Int) (r1 r2 r3 r4 r5:RW) (n0 n1:Nat) (r6 r7:RW):St:=stOf 139 [(1,.ptr 0 0),(2,.ptr 1 0),(6,.ptr 2 0),(7,.ptr 3 0),(8,.i i0),(9,.ptr 4 0),(10,.fn A1 [.ptr 2 0,.ptr 3 0,.ptr 4 0]),(11,.ptr 5 0),(69,.l r0),(70,.i i1),(71,.i i2)] [sC [.l r1,.l r2,.l r3],sC [.nils,.nils,.nils],sC [.l r4],sC [.l r5],sC [.vec 10 n0,.vec 11 n1,.nils],sC [.fn A0 []],some .dead,some .dead,some .dead,some .dead,sV A4 r6,sV A2 r7]
def z9r (i0:Int) (r1 r2 r3 r4 r5:RW) (n2 n3:Nat) (r8 r9:RW):St:=stOf 139 [(1,.ptr 0 0),(2,.ptr 1 0),(6,.ptr 2 0),(7,.ptr 3 0),(8,.i i0),(9,.ptr 4 0),(10,.fn A1 [.ptr 2 0,.ptr 3 0,.ptr 4 0])] [sC [.l r1,.l r2,.l r3],sC [.nils,.nils,.nils],sC [.l r4],sC [.l r5],sC [.vec 10 n2,.vec 11 n3,.nils],sC [.fn A0 []],some .dead,some .dead,some .dead,some .dead,sV A4 r8,sV A2 r9]
theorem k9c (h1:i2 < i1) (h2:0≤i2) (h3:r0[(Int.toNat i2)]?=some [.i i3,.s s0,.s s1,.s s2,.s s3,.s s4,.s s5]) (h4:Rn E A1 [.s s1,.fn V0 [.ptr 5 0,.ptr 12 0,.ptr 2 0],.ptr 2 0,.ptr 3 0,.ptr 4 0] [sC [.l r1,.l r2,.l r3],sC [.nils,.nils,.nils],sC [.l r4],sC [.l r5],sC [.vec 10 n0,.vec 11 n1,.nils],sC [.fn A0 []],some .dead,some .dead,some .dead,some .dead,sV A4 r6,sV A2 r7,sC [.i i2],sC [.i i3,.s s0,.s s1,.s s2,.s s3,.s s4,.s s5]] (.tup []) [sC [.l r1,.l r2,.l r3],sC [.nils,.nils,.nils],sC [.l r4],sC [.l r5],sC [.vec 14 n4,.vec 15 n5,.nils],sC [.fn A0 []],some .dead,some .dead,some .dead,some .dead,some .dead,some .dead,sC [.i i2],sC [.i i3,.s s0,.s s1,.s s2,.s s3,.s s4,.s s5],sV A4 r10,sV A2 r11]) (e1:IntKind.i64.wrap (i2+1)=i4) (ih:Lp E 10 A9 2 (z5a i0 r0 i1 i4 r1 r2 r3 r4 r5 n4 n5 r10 r11) o t):Lp E 10 A9 2 (z5a i0 r0 i1 i2 r1 r2 r3 r4 r5 n0 n1 r6 r7) o t:=by subst e1;exact lpM (oT h1 (oP h2 (oD h3 (oV h4 oZ)))) ih
theorem k1c (h1:¬ i2 < i1):Lp E 10 A9 2 (z5a i0 r0 i1 i2 r1 r2 r3 r4 r5 n0 n1 r6 r7) (.exit 4) (z9r i0 r1 r2 r3 r4 r5 n0 n1 r6 r7):=lpX (oU h1 oZ)
def J2 (i0:Int) (r0:RW) (i1 i2:Int) (r1 r2 r3 r4 r5:RW) (n0 n1:Nat) (r6 r7:RW):St:=stOf 139 [(2,.ptr 1 0),(6,.ptr 2 0),(7,.ptr 3 0),(8,.i i0),(9,.ptr 4 0),(10,.fn A1 [.ptr 2 0,.ptr 3 0,.ptr 4 0]),(83,.l r0),(84,.i i1),(85,.i i2)] [sC [.l r1,.l r2,.l r3],sC [.nils,.nils,.nils],sC [.l r4],sC [.l r5],sC [.vec 12 n0,.vec 13 n1,.nils],sC [.fn A0 []],some .dead,some .dead,some .dead,some .dead,some .dead,some .dead,sV A4 r6,sV A2 r7]
def z9s (i0:Int) (r1 r2 r3 r4 r5:RW) (n2 n3:Nat) (r8 r9:RW):St:=stOf 139 [(2,.ptr 1 0),(6,.ptr 2 0),(7,.ptr 3 0),(8,.i i0),(9,.ptr 4 0)] [sC [.l r1,.l r2,.l r3],sC [.nils,.nils,.nils],sC [.l r4],sC [.l r5],sC [.vec 12 n2,.vec 13 n3,.nils],sC [.fn A0 []],some .dead,some .dead,some .dead,some .dead,some .dead,some .dead,sV A4 r8,sV A2 r9]
section
variable (h1:i2 < i1) (h2:0≤i2) (h3:r0[(Int.toNat i2)]?=some [.s s0,.i i3,.l r10,.s s1,.s s2,.i i4,.i i5])
include h1 h2 h3
theorem k9d (h4:¬ i3=1) (e1:IntKind.i64.wrap (i2+1)=i6) (ih:Lp E 12 A9 3 (J2 i0 r0 i1 i6 r1 r2 r3 r4 r5 n0 n1 r6 r7) o t):Lp E 12 A9 3 (J2 i0 r0 i1 i2 r1 r2 r3 r4 r5 n0 n1 r6 r7) o t:=by subst e1;exact lpM (oT h1 (oP h2 (oD h3 (oB (bnT h4) oZ)))) ih
theorem k9e (h4:i3=1) (h5:¬ s2=(⟨#[]⟩:BA)) (h6:Rn E A1 [.s s2,.fn K9 [.ptr 2 0,.ptr 14 0],.ptr 2 0,.ptr 3 0,.ptr 4 0] [sC [.l r1,.l r2,.l r3],sC [.nils,.nils,.nils],sC [.l r4],sC [.l r5],sC [.vec 12 n0,.vec 13 n1,.nils],sC [.fn A0 []],some .dead,some .dead,some .dead,some .dead,some .dead,some .dead,sV A4 r6,sV A2 r7,sC [.s s0,.i i3,.l r10,.s s1,.s s2,.i i4,.i i5]] (.tup []) [sC [.l r1,.l r2,.l r3],sC [.nils,.nils,.nils],sC [.l r4],sC [.l r5],sC [.vec 15 n4,.vec 16 n5,.nils],sC [.fn A0 []],some .dead,some .dead,some .dead,some .dead,some .dead,some .dead,some .dead,some .dead,sC [.s s0,.i i3,.l r10,.s s1,.s s2,.i i4,.i i5],sV A4 r11,sV A2 r12]) (h7:¬ s1=(⟨#[]⟩:BA)) (h8:Fn E z0a [.s ⟨#[48]⟩,.s s1] (.s s3)) (h9:Rn E A1 [.s s3,.fn J1 [.ptr 2 0,.ptr 14 0],.ptr 2 0,.ptr 3 0,.ptr 4 0] [sC [.l r1,.l r2,.l r3],sC [.nils,.nils,.nils],sC [.l r4],sC [.l r5],sC [.vec 15 n4,.vec 16 n5,.nils],sC [.fn A0 []],some .dead,some .dead,some .dead,some .dead,some .dead,some .dead,some .dead,some .dead,sC [.s s0,.i i3,.l r10,.s s1,.s s2,.i i4,.i i5],sV A4 r11,sV A2 r12] (.tup []) [sC [.l r1,.l r2,.l r3],sC [.nils,.nils,.nils],sC [.l r4],sC [.l r5],sC [.vec 17 n6,.vec 18 n7,.nils],sC [.fn A0 []],some .dead,some .dead,some .dead,some .dead,some .dead,some .dead,some .dead,some .dead,sC [.s s0,.i i3,.l r10,.s s1,.s s2,.i i4,.i i5],some .dead,some .dead,sV A4 r13,sV A2 r14]) (e1:IntKind.i64.wrap (i2+1)=i7) (ih:Lp E 12 A9 3 (J2 i0 r0 i1 i7 r1 r2 r3 r4 r5 n6 n7 r13 r14) o t):Lp E 12 A9 3 (J2 i0 r0 i1 i2 r1 r2 r3 r4 r5 n0 n1 r6 r7) o t:=by subst e1;exact lpM (oT h1 (oP h2 (oD h3 (oC (bnF h4) (oB (snT h5) (oV h6 (oB (snT h7) (oF h8 (oV h9 oZ))))))))) ih
theorem k9f (h4:i3=1) (h5:¬ s2=(⟨#[]⟩:BA)) (h6:Rn E A1 [.s s2,.fn K9 [.ptr 2 0,.ptr 14 0],.ptr 2 0,.ptr 3 0,.ptr 4 0] [sC [.l r1,.l r2,.l r3],sC [.nils,.nils,.nils],sC [.l r4],sC [.l r5],sC [.vec 12 n0,.vec 13 n1,.nils],sC [.fn A0 []],some .dead,some .dead,some .dead,some .dead,some .dead,some .dead,sV A4 r6,sV A2 r7,sC [.s s0,.i i3,.l r10,.s s1,.s s2,.i i4,.i i5]] (.tup []) [sC [.l r1,.l r2,.l r3],sC [.nils,.nils,.nils],sC [.l r4],sC [.l r5],sC [.vec 15 n4,.vec 16 n5,.nils],sC [.fn A0 []],some .dead,some .dead,some .dead,some .dead,some .dead,some .dead,some .dead,some .dead,sC [.s s0,.i i3,.l r10,.s s1,.s s2,.i i4,.i i5],sV A4 r11,sV A2 r12]) (h7:s1=(⟨#[]⟩:BA)) (e1:IntKind.i64.wrap (i2+1)=i8) (ih:Lp E 12 A9 3 (J2 i0 r0 i1 i8 r1 r2 r3 r4 r5 n4 n5 r11 r12) o t):Lp E 12 A9 3 (J2 i0 r0 i1 i2 r1 r2 r3 r4 r5 n0 n1 r6 r7) o t:=by subst e1;exact lpM (oT h1 (oP h2 (oD h3 (oC (bnF h4) (oB (snT h5) (oV h6 (oC (snF h7) oZ))))))) ih
theorem k9g (h4:i3=1) (h5:s2=(⟨#[]⟩:BA)) (h6:¬ s1=(⟨#[]⟩:BA)) (h7:Fn E z0a [.s ⟨#[48]⟩,.s s1] (.s s4)) (h8:Rn E A1 [.s s4,.fn J1 [.ptr 2 0,.ptr 14 0],.ptr 2 0,.ptr 3 0,.ptr 4 0] [sC [.l r1,.l r2,.l r3],sC [.nils,.nils,.nils],sC [.l r4],sC [.l r5],sC [.vec 12 n0,.vec 13 n1,.nils],sC [.fn A0 []],some .dead,some .dead,some .dead,some .dead,some .dead,some .dead,sV A4 r6,sV A2 r7,sC [.s s0,.i i3,.l r10,.s s1,.s s2,.i i4,.i i5]] (.tup []) [sC [.l r1,.l r2,.l r3],sC [.nils,.nils,.nils],sC [.l r4],sC [.l r5],sC [.vec 15 n5,.vec 16 n8,.nils],sC [.fn A0 []],some .dead,some .dead,some .dead,some .dead,some .dead,some .dead,some .dead,some .dead,sC [.s s0,.i i3,.l r10,.s s1,.s s2,.i i4,.i i5],sV A4 r12,sV A2 r15]) (e1:IntKind.i64.wrap (i2+1)=i9) (ih:Lp E 12 A9 3 (J2 i0 r0 i1 i9 r1 r2 r3 r4 r5 n5 n8 r12 r15) o t):Lp E 12 A9 3 (J2 i0 r0 i1 i2 r1 r2 r3 r4 r5 n0 n1 r6 r7) o t:=by subst e1;exact lpM (oT h1 (oP h2 (oD h3 (oC (bnF h4) (oC (snF h5) (oB (snT h6) (oF h7 (oV h8 oZ)))))))) ih
theorem k9h (h4:i3=1) (h5:s2=(⟨#[]⟩:BA)) (h6:s1=(⟨#[]⟩:BA)) (e1:IntKind.i64.wrap (i2+1)=i6) (ih:Lp E 12 A9 3 (J2 i0 r0 i1 i6 r1 r2 r3 r4 r5 n0 n1 r6 r7) o t):Lp E 12 A9 3 (J2 i0 r0 i1 i2 r1 r2 r3 r4 r5 n0 n1 r6 r7) o t:=by subst e1;exact lpM (oT h1 (oP h2 (oD h3 (oC (bnF h4) (oC (snF h5) (oC (snF h6) oZ)))))) ih
end
theorem k1d (h1:¬ i2 < i1):Lp E 12 A9 3 (J2 i0 r0 i1 i2 r1 r2 r3 r4 r5 n0 n1 r6 r7) (.exit 6) (z9s i0 r1 r2 r3 r4 r5 n0 n1 r6 r7):=lpX (oU h1 oZ)
def z3m (r0:RW) (i0 i1 i2 i3:Int) (r1 r2 r3 r4 r5:RW) (n0 n1 n2:Nat) (r6 r7:RW) (i4 i5 i6:Int) (s0 s1 s2 s3:BA) (r8:RW):St:=stOf 139 [(2,.ptr 1 0),(7,.ptr 3 0),(9,.ptr 4 0),(21,.ptr 15 0),(119,.l r0),(120,.i i0),(121,.i i1),(126,.i i2),(127,.i i3)] [sC [.l r1,.l r2,.l r3],sC [.nils,.nils,.nils],sC [.l r4],sC [.l r5],sC [.vec 12 n0,.vec 13 n1,.vec 16 n2],sC [.fn A0 []],some .dead,some .dead,some .dead,some .dead,some .dead,some .dead,sV A4 r6,sV A2 r7,some .dead,sC [.i i4,.i i5,.i i6,.s s0,.s s1,.s s2,.s s3],sV A2 r8]
def z7o (r0:RW) (i0 i1:Int) (r1 r2 r3 r4 r5:RW) (n0 n1:Nat) (r6 r7:RW) (i4 i5 i6:Int) (s0 s1 s2 s3:BA) (n3:Nat) (r9:RW):St:=stOf 139 [(2,.ptr 1 0),(7,.ptr 3 0),(9,.ptr 4 0),(119,.l r0),(120,.i i0),(121,.i i1)] [sC [.l r1,.l r2,.l r3],sC [.nils,.nils,.nils],sC [.l r4],sC [.l r5],sC [.vec 12 n0,.vec 13 n1,.vec 16 n3],sC [.fn A0 []],some .dead,some .dead,some .dead,some .dead,some .dead,some .dead,sV A4 r6,sV A2 r7,some .dead,sC [.i i4,.i i5,.i i6,.s s0,.s s1,.s s2,.s s3],sV A2 r9]
theorem k4x (h1:i3 < i2) (h2:(n2+1)*16≤140737488355328∧n2+1≤140737488355328) (e1:(r8.take n2)++[[.s s3]]=r10) (e2:n2+1=n4) (e3:IntKind.i64.wrap (i3+1)=i7) (ih:Lp E 16 A9 5 (z3m r0 i0 i1 i2 i7 r1 r2 r3 r4 r5 n0 n1 n4 r6 r7 i4 i5 i6 s0 s1 s2 s3 r10) o t):Lp E 16 A9 5 (z3m r0 i0 i1 i2 i3 r1 r2 r3 r4 r5 n0 n1 n2 r6 r7 i4 i5 i6 s0 s1 s2 s3 r8) o t:=by subst e1 e2 e3;exact lpM (oT h1 (oP (show ∀ y∈([[.s s3]]:RW),y.length=1 from by simp) (oP h2 oZ))) ih
theorem x8s (h1:¬ i3 < i2):Lp E 16 A9 5 (z3m r0 i0 i1 i2 i3 r1 r2 r3 r4 r5 n0 n1 n2 r6 r7 i4 i5 i6 s0 s1 s2 s3 r8) (.exit 10) (z7o r0 i0 i1 r1 r2 r3 r4 r5 n0 n1 r6 r7 i4 i5 i6 s0 s1 s2 s3 n2 r8):=lpX (oU h1 oZ)
def z5b (r0:RW) (i0 i1:Int) (r1 r2 r3 r4 r5:RW) (n0 n1 n2:Nat) (r6 r7 r8:RW):St:=stOf 139 [(2,.ptr 1 0),(7,.ptr 3 0),(9,.ptr 4 0),(119,.l r0),(120,.i i0),(121,.i i1)] [sC [.l r1,.l r2,.l r3],sC [.nils,.nils,.nils],sC [.l r4],sC [.l r5],sC [.vec 12 n0,.vec 13 n1,.vec 14 n2],sC [.fn A0 []],some .dead,some .dead,some .dead,some .dead,some .dead,some .dead,sV A4 r6,sV A2 r7,sV A2 r8]
def z9t (r1 r2 r3 r4 r5:RW) (n0 n1:Nat) (r6 r7:RW) (n3:Nat) (r9:RW):St:=stOf 139 [(2,.ptr 1 0),(9,.ptr 4 0)] [sC [.l r1,.l r2,.l r3],sC [.nils,.nils,.nils],sC [.l r4],sC [.l r5],sC [.vec 12 n0,.vec 13 n1,.vec 14 n3],sC [.fn A0 []],some .dead,some .dead,some .dead,some .dead,some .dead,some .dead,sV A4 r6,sV A2 r7,sV A2 r9]
theorem k9i (h1:i1 < i0) (h2:0≤i1) (h3:r0[(Int.toNat i1)]?=some [.i i2,.i i3,.i i4,.s s0,.s s1,.s s2,.s s3]) (h4:Lp E 16 A9 5 (z3m r0 i0 i1 (r5.length:Int) 0 r1 r2 r3 r4 r5 n0 n1 n2 r6 r7 i2 i3 i4 s0 s1 s2 s3 r8) (.exit 10) (z7o r0 i0 i1 r1 r2 r3 r4 r5 n0 n1 r6 r7 i2 i3 i4 s0 s1 s2 s3 n4 r10)) (e1:IntKind.i64.wrap (i1+1)=i5) (ih:Lp E 14 A9 4 (z5b r0 i0 i5 r1 r2 r3 r4 r5 n0 n1 n4 r6 r7 r10) o t):Lp E 14 A9 4 (z5b r0 i0 i1 r1 r2 r3 r4 r5 n0 n1 n2 r6 r7 r8) o t:=by subst e1;exact lpM (oT h1 (oP h2 (oD h3 (oM [(397,A2)] h4 oZ)))) ih
theorem k1e (h1:¬ i1 < i0):Lp E 14 A9 4 (z5b r0 i0 i1 r1 r2 r3 r4 r5 n0 n1 n2 r6 r7 r8) (.exit 8) (z9t r1 r2 r3 r4 r5 n0 n1 r6 r7 n2 r8):=lpX (oU h1 oZ)
section
variable (h1:Fn E I2 [.agg [.l r0,.l r1,.l r2]] (.tup [.i i0,.i i1]))
include h1
theorem q4u (h2:¬ i1=0):Fn E A9 [.agg [.l r0,.l r1,.l r2]] (.tup [.agg [.l [],.l [],.l []],.i 1]):=fnM (oF h1 (oB (bnT h2) oZ))
section
variable (h2:i1=0) (h3:Lp E 6 A9 0 (z4y i2 r0 (r0.length:Int) 0 r0 r1 r2 r0 r1 0 0 [] []) (.exit 0) (z9p i2 r0 r1 r2 r0 r1 n0 n1 r3 r4)) (h4:Lp E 8 A9 1 (z4z i2 r1 (r1.length:Int) 0 r0 r1 r2 r0 r1 n0 n1 r3 r4) (.exit 2) (z9q i2 r0 r1 r2 r0 r1 n2 n3 r5 r6)) (h5:Lp E 10 A9 2 (z5a i2 r1 (r1.length:Int) 0 r0 r1 r2 r0 r1 n2 n3 r5 r6) (.exit 4) (z9r i2 r0 r1 r2 r0 r1 n4 n5 r7 r8)) (h6:Lp E 12 A9 3 (J2 i2 r2 (r2.length:Int) 0 r0 r1 r2 r0 r1 n4 n5 r7 r8) (.exit 6) (z9s i2 r0 r1 r2 r0 r1 n6 n7 r9 r10))
include h2 h3 h4 h5 h6
theorem q4v (h7:i2 > 12) (e1:IntKind.i64.wrap ((r0.length:Int)*(r1.length:Int))=i2):Fn E A9 [.agg [.l r0,.l r1,.l r2]] (.tup [.agg [.l [],.l [],.l []],.i 8]):=by subst e1;exact fnM (oF h1 (oC (bnF h2) (oM [(395,A4),(396,A2)] h3 (oM [(395,A4),(396,A2)] h4 (oM [(395,A4),(396,A2)] h5 (oM [(395,A4),(396,A2)] h6 (oT h7 oZ)))))))
theorem q4w (h7:¬ i2 > 12) (h8:((n7:Nat):Int) > 12) (e1:IntKind.i64.wrap ((r0.length:Int)*(r1.length:Int))=i2):Fn E A9 [.agg [.l r0,.l r1,.l r2]] (.tup [.agg [.l [],.l [],.l []],.i 8]):=by subst e1;exact fnM (oF h1 (oC (bnF h2) (oM [(395,A4),(396,A2)] h3 (oM [(395,A4),(396,A2)] h4 (oM [(395,A4),(396,A2)] h5 (oM [(395,A4),(396,A2)] h6 (oU h7 (oT h8 oZ))))))))
theorem q4x (h7:¬ i2 > 12) (h8:¬ ((n7:Nat):Int) > 12) (h9:Lp E 14 A9 4 (z5b r0 (r0.length:Int) 0 r0 r1 r2 r0 r1 n6 n7 0 r9 r10 []) (.exit 8) (z9t r0 r1 r2 r0 r1 n6 n7 r9 r10 n8 r11)) (e1:IntKind.i64.wrap ((r0.length:Int)*(r1.length:Int))=i2) (e2:(r9.take n6)=r12) (e3:(r10.take n7)=r13) (e4:(r11.take n8)=r14):Fn E A9 [.agg [.l r0,.l r1,.l r2]] (.tup [.agg [.l r12,.l r13,.l r14],.i 0]):=by subst e1 e2 e3 e4;exact fnM (oF h1 (oC (bnF h2) (oM [(395,A4),(396,A2)] h3 (oM [(395,A4),(396,A2)] h4 (oM [(395,A4),(396,A2)] h5 (oM [(395,A4),(396,A2)] h6 (oU h7 (oU h8 (oM [(397,A2)] h9 oZ)))))))))
end
end
def y0e (i0 i1:Int) (r0 r1 r2:RW) (s0:BA) (r3 r4 r5 r6:RW) (n0:Nat) (r7:RW):St:=stOf 71 [(4,.ptr 1 0),(9,.ptr 5 0),(53,.i i0),(54,.i i1)] [sC [.l r0,.l r1,.l r2],sC [.nils,.nils,.nils],sC [.s s0],sF r3,sF r4,sC [.l r5,.l r6,.vec 6 n0],sV D1 r7]
def y7c (r0 r1 r2:RW) (s0:BA) (r3 r4 r5 r6:RW) (n0:Nat) (r8:RW):St:=stOf 71 [(4,.ptr 1 0),(9,.ptr 5 0)] [sC [.l r0,.l r1,.l r2],sC [.nils,.nils,.nils],sC [.s s0],sF r3,sF r4,sC [.l r5,.l r6,.vec 6 n0],sV D1 r8]
theorem j2x (h1:i1 < i0) (h2:0≤i1∧i1 < ((n0:Nat):Int)) (h3:r7[(Int.toNat i1)]?=some [.s s1,.i i2,.l r9,.s s2,.s s3,.i i3,.i i4]) (h4:Rn E z8v [.l r9] [] (.vec 0 n1) [sV A2 r10]) (e1:(r10.take n1)=r11) (e2:List.set r7 (Int.toNat i1) [.s s1,.i i2,.l r11,.s s2,.s s3,.i i3,.i i4]=r12) (e3:IntKind.i64.wrap (i1+1)=i5) (ih:Lp E 7 z2v 0 (y0e i0 i5 r0 r1 r2 s0 r3 r4 r5 r6 n0 r12) o t):Lp E 7 z2v 0 (y0e i0 i1 r0 r1 r2 s0 r3 r4 r5 r6 n0 r7) o t:=by subst e1 e2 e3;exact lpM (oT h1 (oP h2 (oD h3 (oN h4 (oP h2 (oD h3 oZ)))))) ih
theorem k4w (h1:¬ i1 < i0):Lp E 7 z2v 0 (y0e i0 i1 r0 r1 r2 s0 r3 r4 r5 r6 n0 r7) (.exit 0) (y7c r0 r1 r2 s0 r3 r4 r5 r6 n0 r7):=lpX (oU h1 oZ)
theorem v2a (h1:Fn E I2 [.agg [.l r0,.l r1,.l r2]] (.tup [.i i1,.i i2])) (h2:i2=0) (h3:¬ i0 < 0) (h4:¬ i0≥(r2.length:Int)) (h5:0≤i0) (h6:r2[(Int.toNat i0)]?=some [.s s0,.i i3,.l r3,.s s1,.s s2,.i i4,.i i5]) (h7:Rn E z5y [.l r0] [] (.vec 0 n0) [sV x7m r4]) (h8:Rn E z7j [.l r1] [] (.vec 0 n1) [sV j0d r5]) (h9:Rn E z7k [.l r2] [] (.vec 0 n2) [sV D1 r8]) (h10:Rn E F4 [.vec 6 n2,.fn G2 [.ptr 2 0]] [sC [.l r0,.l r1,.l r2],sC [.nils,.nils,.nils],sC [.s s0],sF r4,sF r5,sC [.l r6,.l r7,.l []],sV D1 r8] (.vec 6 n3) [sC [.l r0,.l r1,.l r2],sC [.nils,.nils,.nils],sC [.s s0],sF r4,sF r5,sC [.l r6,.l r7,.l []],sV D1 r9]) (h11:Lp E 7 z2v 0 (y0e ((n3:Nat):Int) 0 r0 r1 r2 s0 r4 r5 r6 r7 n3 r9) (.exit 0) (y7c r0 r1 r2 s0 r4 r5 r6 r7 n3 r10)) (e1:(r4.take n0)=r6) (e2:(r5.take n1)=r7) (e3:(r10.take n3)=r11):Fn E z2v [.agg [.l r0,.l r1,.l r2],.i i0] (.tup [.agg [.l r6,.l r7,.l r11],.i 0]):=by subst e1 e2 e3;exact fnM (oF h1 (oC (bnF h2) (oU h3 (oU h4 (oP h5 (oD h6 (oN h7 (oN h8 (oN h9 (oV h10 (oL h11 oZ)))))))))))
section
variable (h1:0≤i0) (h2:r2[(Int.toNat i0)]?=some [.s s0,.i i1,.l r3,.s s1,.s s2,.i i2,.i i3])
include h1 h2
theorem q5d (h3:Fn E I4 [.l r3,.fn H8 []] (.b true)):Fn E F6 [.agg [.l r0,.l r1,.l r2],.i i0] (.i 1):=fnM (oP h1 (oD h2 (oF h3 oZ)))
section
variable (h3:Fn E I4 [.l r3,.fn H8 []] (.b false))
include h3
section
variable (h4:Fn E z3p [.s s1] (.b true))
include h4
section
variable (h5:Fn E z3p [.s s2] (.b true))
include h5
theorem q5e (h6:(s0.size:Int) < 1):Fn E F6 [.agg [.l r0,.l r1,.l r2],.i i0] (.i 4):=fnM (oP h1 (oD h2 (oF h3 (oF h4 (oF h5 (oT h6 oZ))))))
section
variable (h6:¬ (s0.size:Int) < 1)
include h6
theorem q5f (h7:(s0.size:Int) > 64):Fn E F6 [.agg [.l r0,.l r1,.l r2],.i i0] (.i 4):=fnM (oP h1 (oD h2 (oF h3 (oF h4 (oF h5 (oU h6 (oT h7 oZ)))))))
section
variable (h7:¬ (s0.size:Int) > 64) (h8:0≤(0:Int)∧(0:Int)≤i0∧i0≤r2.length∧∀ x∈r2,x.length=7)
include h7 h8
theorem q5g (h9:Rn E Y2 [.l r4,.fn G9 [.ptr 1 0]] [sC [.l r0,.l r1,.l r2],sC [.s s0,.i i1,.l r3,.s s1,.s s2,.i i2,.i i3]] (.b true) [sC [.l r0,.l r1,.l r2],sC [.s s0,.i i1,.l r3,.s s1,.s s2,.i i2,.i i3]]) (e1:List.drop 0 (r2.take (Int.toNat i0))=r4):Fn E F6 [.agg [.l r0,.l r1,.l r2],.i i0] (.i 6):=by subst e1;exact fnM (oP h1 (oD h2 (oF h3 (oF h4 (oF h5 (oU h6 (oU h7 (oP h8 (oR h9 oZ)))))))))
section
variable (h9:Rn E Y2 [.l r4,.fn G9 [.ptr 1 0]] [sC [.l r0,.l r1,.l r2],sC [.s s0,.i i1,.l r3,.s s1,.s s2,.i i2,.i i3]] (.b false) [sC [.l r0,.l r1,.l r2],sC [.s s0,.i i1,.l r3,.s s1,.s s2,.i i2,.i i3]])
include h9
theorem q5h (h10:i1 < 1) (e1:List.drop 0 (r2.take (Int.toNat i0))=r4):Fn E F6 [.agg [.l r0,.l r1,.l r2],.i i0] (.i 2):=by subst e1;exact fnM (oP h1 (oD h2 (oF h3 (oF h4 (oF h5 (oU h6 (oU h7 (oP h8 (oR h9 (oT h10 oZ))))))))))
section
variable (h10:¬ i1 < 1)
include h10
theorem q5i (h11:i1 > 4) (e1:List.drop 0 (r2.take (Int.toNat i0))=r4):Fn E F6 [.agg [.l r0,.l r1,.l r2],.i i0] (.i 2):=by subst e1;exact fnM (oP h1 (oD h2 (oF h3 (oF h4 (oF h5 (oU h6 (oU h7 (oP h8 (oR h9 (oU h10 (oT h11 oZ)))))))))))
section
variable (h11:¬ i1 > 4)
include h11
section
variable (h12:i1=1)
include h12
theorem q5j (h13:¬ (r3.length:Int)=(r1.length:Int)) (e1:List.drop 0 (r2.take (Int.toNat i0))=r4):Fn E F6 [.agg [.l r0,.l r1,.l r2],.i i0] (.i 10):=by subst e1;exact fnM (oP h1 (oD h2 (oF h3 (oF h4 (oF h5 (oU h6 (oU h7 (oP h8 (oR h9 (oU h10 (oU h11 (oB (beT h12) (oB (bnT h13) oZ)))))))))))))
section
variable (h13:(r3.length:Int)=(r1.length:Int))
include h13
theorem q5k (h14:¬ i2=0) (e1:List.drop 0 (r2.take (Int.toNat i0))=r4):Fn E F6 [.agg [.l r0,.l r1,.l r2],.i i0] (.i 10):=by subst e1;exact fnM (oP h1 (oD h2 (oF h3 (oF h4 (oF h5 (oU h6 (oU h7 (oP h8 (oR h9 (oU h10 (oU h11 (oB (beT h12) (oC (bnF h13) (oB (bnT h14) oZ))))))))))))))
section
variable (h14:i2=0)
include h14
theorem q5l (h15:¬ i3=0) (e1:List.drop 0 (r2.take (Int.toNat i0))=r4):Fn E F6 [.agg [.l r0,.l r1,.l r2],.i i0] (.i 10):=by subst e1;exact fnM (oP h1 (oD h2 (oF h3 (oF h4 (oF h5 (oU h6 (oU h7 (oP h8 (oR h9 (oU h10 (oU h11 (oB (beT h12) (oC (bnF h13) (oC (bnF h14) (oB (bnT h15) oZ)))))))))))))))
section
variable (h15:i3=0)
include h15
section
variable (h16:s1=(⟨#[]⟩:BA))
include h16
theorem q5m (h17:s2=(⟨#[]⟩:BA)) (e1:List.drop 0 (r2.take (Int.toNat i0))=r4):Fn E F6 [.agg [.l r0,.l r1,.l r2],.i i0] (.i 2):=by subst e1;exact fnM (oP h1 (oD h2 (oF h3 (oF h4 (oF h5 (oU h6 (oU h7 (oP h8 (oR h9 (oU h10 (oU h11 (oB (beT h12) (oC (bnF h13) (oC (bnF h14) (oC (bnF h15) (oB (seT h16) (oB (seT h17) oZ)))))))))))))))))
theorem q0u (h17:¬ s2=(⟨#[]⟩:BA)) (e1:List.drop 0 (r2.take (Int.toNat i0))=r4):Fn E F6 [.agg [.l r0,.l r1,.l r2],.i i0] (.i 0):=by subst e1;exact fnM (oP h1 (oD h2 (oF h3 (oF h4 (oF h5 (oU h6 (oU h7 (oP h8 (oR h9 (oU h10 (oU h11 (oB (beT h12) (oC (bnF h13) (oC (bnF h14) (oC (bnF h15) (oB (seT h16) (oC (seF h17) (oC (snF h16) oZ))))))))))))))))))
end
section
variable (h16:¬ s1=(⟨#[]⟩:BA))
include h16
section
variable (h17:¬ s2=(⟨#[]⟩:BA)) (h18:Fn E O4 [.s s1,.s s2] (.i i4))
include h17 h18
theorem q0v (h19:i4 > 0) (e1:List.drop 0 (r2.take (Int.toNat i0))=r4):Fn E F6 [.agg [.l r0,.l r1,.l r2],.i i0] (.i 2):=by subst e1;exact fnM (oP h1 (oD h2 (oF h3 (oF h4 (oF h5 (oU h6 (oU h7 (oP h8 (oR h9 (oU h10 (oU h11 (oB (beT h12) (oC (bnF h13) (oC (bnF h14) (oC (bnF h15) (oC (seF h16) (oB (snT h16) (oB (snT h17) (oF h18 (oT h19 oZ))))))))))))))))))))
theorem q0w (h19:¬ i4 > 0) (e1:List.drop 0 (r2.take (Int.toNat i0))=r4):Fn E F6 [.agg [.l r0,.l r1,.l r2],.i i0] (.i 0):=by subst e1;exact fnM (oP h1 (oD h2 (oF h3 (oF h4 (oF h5 (oU h6 (oU h7 (oP h8 (oR h9 (oU h10 (oU h11 (oB (beT h12) (oC (bnF h13) (oC (bnF h14) (oC (bnF h15) (oC (seF h16) (oB (snT h16) (oB (snT h17) (oF h18 (oU h19 oZ))))))))))))))))))))
end
theorem q0x (h17:s2=(⟨#[]⟩:BA)) (e1:List.drop 0 (r2.take (Int.toNat i0))=r4):Fn E F6 [.agg [.l r0,.l r1,.l r2],.i i0] (.i 0):=by subst e1;exact fnM (oP h1 (oD h2 (oF h3 (oF h4 (oF h5 (oU h6 (oU h7 (oP h8 (oR h9 (oU h10 (oU h11 (oB (beT h12) (oC (bnF h13) (oC (bnF h14) (oC (bnF h15) (oC (seF h16) (oB (snT h16) (oC (snF h17) oZ))))))))))))))))))
end
end
end
end
end
section
variable (h12:¬ i1=1)
include h12
theorem q0y (h13:(r3.length:Int) > 0) (e1:List.drop 0 (r2.take (Int.toNat i0))=r4):Fn E F6 [.agg [.l r0,.l r1,.l r2],.i i0] (.i 10):=by subst e1;exact fnM (oP h1 (oD h2 (oF h3 (oF h4 (oF h5 (oU h6 (oU h7 (oP h8 (oR h9 (oU h10 (oU h11 (oC (beF h12) (oT h13 oZ)))))))))))))
section
variable (h13:¬ (r3.length:Int) > 0)
include h13
theorem q0z (h14:¬ s1=(⟨#[]⟩:BA)) (e1:List.drop 0 (r2.take (Int.toNat i0))=r4):Fn E F6 [.agg [.l r0,.l r1,.l r2],.i i0] (.i 10):=by subst e1;exact fnM (oP h1 (oD h2 (oF h3 (oF h4 (oF h5 (oU h6 (oU h7 (oP h8 (oR h9 (oU h10 (oU h11 (oC (beF h12) (oU h13 (oB (snT h14) oZ))))))))))))))
theorem q1a (h14:s1=(⟨#[]⟩:BA)) (h15:¬ s2=(⟨#[]⟩:BA)) (e1:List.drop 0 (r2.take (Int.toNat i0))=r4):Fn E F6 [.agg [.l r0,.l r1,.l r2],.i i0] (.i 10):=by subst e1;exact fnM (oP h1 (oD h2 (oF h3 (oF h4 (oF h5 (oU h6 (oU h7 (oP h8 (oR h9 (oU h10 (oU h11 (oC (beF h12) (oU h13 (oC (snF h14) (oB (snT h15) oZ)))))))))))))))
theorem q1b (h14:s1=(⟨#[]⟩:BA)) (h15:s2=(⟨#[]⟩:BA)) (h16:Fn E P7 [.agg [.l r0,.l r1,.l r2],.agg [.s s0,.i i1,.l r3,.s s1,.s s2,.i i2,.i i3]] (.i i4)) (e1:List.drop 0 (r2.take (Int.toNat i0))=r4):Fn E F6 [.agg [.l r0,.l r1,.l r2],.i i0] (.i i4):=by subst e1;exact fnM (oP h1 (oD h2 (oF h3 (oF h4 (oF h5 (oU h6 (oU h7 (oP h8 (oR h9 (oU h10 (oU h11 (oC (beF h12) (oU h13 (oC (snF h14) (oC (snF h15) (oF h16 oZ))))))))))))))))
end
end
end
end
end
end
end
end
theorem q1c (h5:Fn E z3p [.s s2] (.b false)):Fn E F6 [.agg [.l r0,.l r1,.l r2],.i i0] (.i 1):=fnM (oP h1 (oD h2 (oF h3 (oF h4 (oF h5 oZ)))))
end
theorem q1d (h4:Fn E z3p [.s s1] (.b false)):Fn E F6 [.agg [.l r0,.l r1,.l r2],.i i0] (.i 1):=fnM (oP h1 (oD h2 (oF h3 (oF h4 oZ))))
end
end
section
variable (h1:Fn E Y6 [.agg [.l r0,.l r1,.l r2],.l r3] (.b true))
include h1
theorem q1i (h2:i0 < 0):Fn E z0p [.agg [.l r0,.l r1,.l r2],.i i0,.l r3] (.tup [.s ⟨#[]⟩,.i 7]):=fnM (oF h1 (oT h2 oZ))
theorem q1j (h2:¬ i0 < 0) (h3:i0≥(r2.length:Int)):Fn E z0p [.agg [.l r0,.l r1,.l r2],.i i0,.l r3] (.tup [.s ⟨#[]⟩,.i 7]):=fnM (oF h1 (oU h2 (oT h3 oZ)))
theorem q1k (h2:¬ i0 < 0) (h3:¬ i0≥(r2.length:Int)) (h4:0≤i0) (h5:r2[(Int.toNat i0)]?=some [.s s0,.i i1,.l r4,.s s1,.s s2,.i i2,.i i3]) (h6:¬ i1=1):Fn E z0p [.agg [.l r0,.l r1,.l r2],.i i0,.l r3] (.tup [.s ⟨#[]⟩,.i 10]):=fnM (oF h1 (oU h2 (oU h3 (oP h4 (oD h5 (oB (bnT h6) oZ))))))
theorem q1l (h2:¬ i0 < 0) (h3:¬ i0≥(r2.length:Int)) (h4:0≤i0) (h5:r2[(Int.toNat i0)]?=some [.s s0,.i i1,.l r4,.s s1,.s s2,.i i2,.i i3]) (h6:i1=1) (h7:Fn E z2k [.agg [.l r0,.l r1,.l r2],.agg [.s s0,.i i1,.l r4,.s s1,.s s2,.i i2,.i i3],.l r3] (.s s3)):Fn E z0p [.agg [.l r0,.l r1,.l r2],.i i0,.l r3] (.tup [.s s3,.i 0]):=fnM (oF h1 (oU h2 (oU h3 (oP h4 (oD h5 (oC (bnF h6) (oP h4 (oD h5 (oF h7 oZ)))))))))
end
theorem q1m (h1:Fn E Y6 [.agg [.l r0,.l r1,.l r2],.l r3] (.b false)):Fn E z0p [.agg [.l r0,.l r1,.l r2],.i i0,.l r3] (.tup [.s ⟨#[]⟩,.i 1]):=fnM (oF h1 oZ)
section
variable (h1:¬ s2=(⟨#[]⟩:BA)) (h2:Fn E O4 [.s s3,.s s2] (.i i3))
include h1 h2
theorem q0n (h3:i3 > 0) (h4:Fn E z0a [.s s3,.s s2] (.s s4)):Fn E X1 [.agg [.s s0,.i i0,.l r0,.s s1,.s s2,.i i1,.i i2],.s s3] (.s s4):=fnM (oB (snT h1) (oF h2 (oT h3 (oF h4 oZ))))
theorem q0o (h3:¬ i3 > 0) (h4:¬ s1=(⟨#[]⟩:BA)) (h5:Fn E O4 [.s s3,.s s1] (.i i4)) (h6:i4 < 0) (h7:Fn E z0a [.s s3,.s s1] (.s s5)):Fn E X1 [.agg [.s s0,.i i0,.l r0,.s s1,.s s2,.i i1,.i i2],.s s3] (.s s5):=fnM (oB (snT h1) (oF h2 (oU h3 (oB (snT h4) (oF h5 (oT h6 (oF h7 oZ)))))))
theorem q0p (h3:¬ i3 > 0) (h4:¬ s1=(⟨#[]⟩:BA)) (h5:Fn E O4 [.s s3,.s s1] (.i i4)) (h6:¬ i4 < 0):Fn E X1 [.agg [.s s0,.i i0,.l r0,.s s1,.s s2,.i i1,.i i2],.s s3] (.s ⟨#[48]⟩):=fnM (oB (snT h1) (oF h2 (oU h3 (oB (snT h4) (oF h5 (oU h6 oZ))))))
theorem q0q (h3:¬ i3 > 0) (h4:s1=(⟨#[]⟩:BA)):Fn E X1 [.agg [.s s0,.i i0,.l r0,.s s1,.s s2,.i i1,.i i2],.s s3] (.s ⟨#[48]⟩):=fnM (oB (snT h1) (oF h2 (oU h3 (oC (snF h4) oZ))))
end
section
variable (h1:s2=(⟨#[]⟩:BA))
include h1
section
variable (h2:¬ s1=(⟨#[]⟩:BA)) (h3:Fn E O4 [.s s3,.s s1] (.i i3))
include h2 h3
theorem q0r (h4:i3 < 0) (h5:Fn E z0a [.s s3,.s s1] (.s s4)):Fn E X1 [.agg [.s s0,.i i0,.l r0,.s s1,.s s2,.i i1,.i i2],.s s3] (.s s4):=fnM (oC (snF h1) (oB (snT h2) (oF h3 (oT h4 (oF h5 oZ)))))
theorem q0s (h4:¬ i3 < 0):Fn E X1 [.agg [.s s0,.i i0,.l r0,.s s1,.s s2,.i i1,.i i2],.s s3] (.s ⟨#[48]⟩):=fnM (oC (snF h1) (oB (snT h2) (oF h3 (oU h4 oZ))))
end
theorem q0t (h2:s1=(⟨#[]⟩:BA)):Fn E X1 [.agg [.s s0,.i i0,.l r0,.s s1,.s s2,.i i1,.i i2],.s s3] (.s ⟨#[48]⟩):=fnM (oC (snF h1) (oC (snF h2) oZ))
end
section
variable (h1:Fn E I2 [.agg [.l r0,.l r1,.l r2]] (.tup [.i i0,.i i1]))
include h1
section
variable (h2:i1=0) (h3:Fn E F8 [.agg [.l r0,.l r1],.l r3] (.i i2))
include h2 h3
theorem q5y (h4:i2=0):Fn E Y6 [.agg [.l r0,.l r1,.l r2],.l r3] (.b true):=fnM (oF h1 (oB (beT h2) (oF h3 (oB (beT h4) oZ))))
theorem q5z (h4:¬ i2=0):Fn E Y6 [.agg [.l r0,.l r1,.l r2],.l r3] (.b false):=fnM (oF h1 (oB (beT h2) (oF h3 (oC (beF h4) oZ))))
end
theorem q6a (h2:¬ i1=0):Fn E Y6 [.agg [.l r0,.l r1,.l r2],.l r3] (.b false):=fnM (oF h1 (oC (beF h2) oZ))
end
def F5 (r0:RW) (n0:Nat) (r1:RW) (i0 i1:Int) (r2 r3 r4 r5:RW):St:=stOf 32 [(1,.l r0),(2,.ptr 0 0),(5,.ptr 1 0),(6,.vec 2 n0),(11,.l r1),(12,.i i0),(13,.i i1)] [sC [.l r2,.l r3,.l r4],sC [.c (.nof),.c (.fn z0j),.c (.fn C7),.c (.fn z6i),.c (.fn M2)],sV v6i r5]
def y3r (r2 r3 r4:RW) (n1:Nat) (r6:RW):St:=stOf 32 [(6,.vec 2 n1)] [sC [.l r2,.l r3,.l r4],sC [.c (.nof),.c (.fn z0j),.c (.fn C7),.c (.fn z6i),.c (.fn M2)],sV v6i r6]
section
variable (h1:i1 < i0) (h2:0≤i1)
include h1 h2
section
variable (h3:r1[(Int.toNat i1)]?=some [.s s0,.i 1,.l r7,.s s1,.s s2,.i i2,.i i3])
include h3
theorem k4z (h4:Fn E z0j [.agg [.l r2,.l r3,.l r4],.agg [.s s0,.i 1,.l r7,.s s1,.s s2,.i i2,.i i3],.l r0] (.b true)) (h5:(n0+1)*8≤140737488355328∧n0+1≤140737488355328) (e1:(r5.take n0)++[[.i i1]]=r8) (e2:n0+1=n2) (e3:IntKind.i64.wrap (i1+1)=i4) (ih:Lp E 2 D3 0 (F5 r0 n2 r1 i0 i4 r2 r3 r4 r8) o t):Lp E 2 D3 0 (F5 r0 n0 r1 i0 i1 r2 r3 r4 r5) o t:=by subst e1 e2 e3;exact lpM (oT h1 (oP h2 (oD h3 (oP (show (0:Int)≤1∧(1:Int) < 5 from by decide) (oF h4 (oP (show ∀ y∈([[.i i1]]:RW),y.length=1 from by simp) (oP h5 oZ))))))) ih
theorem k5a (h4:Fn E z0j [.agg [.l r2,.l r3,.l r4],.agg [.s s0,.i 1,.l r7,.s s1,.s s2,.i i2,.i i3],.l r0] (.b false)) (e1:IntKind.i64.wrap (i1+1)=i5) (ih:Lp E 2 D3 0 (F5 r0 n0 r1 i0 i5 r2 r3 r4 r5) o t):Lp E 2 D3 0 (F5 r0 n0 r1 i0 i1 r2 r3 r4 r5) o t:=by subst e1;exact lpM (oT h1 (oP h2 (oD h3 (oP (show (0:Int)≤1∧(1:Int) < 5 from by decide) (oF h4 oZ))))) ih
end
section
variable (h3:r1[(Int.toNat i1)]?=some [.s s0,.i 2,.l r7,.s s1,.s s2,.i i2,.i i3])
include h3
theorem k5b (h4:Fn E C7 [.agg [.l r2,.l r3,.l r4],.agg [.s s0,.i 2,.l r7,.s s1,.s s2,.i i2,.i i3],.l r0] (.b true)) (h5:(n0+1)*8≤140737488355328∧n0+1≤140737488355328) (e1:(r5.take n0)++[[.i i1]]=r8) (e2:n0+1=n2) (e3:IntKind.i64.wrap (i1+1)=i4) (ih:Lp E 2 D3 0 (F5 r0 n2 r1 i0 i4 r2 r3 r4 r8) o t):Lp E 2 D3 0 (F5 r0 n0 r1 i0 i1 r2 r3 r4 r5) o t:=by subst e1 e2 e3;exact lpM (oT h1 (oP h2 (oD h3 (oP (show (0:Int)≤2∧(2:Int) < 5 from by decide) (oF h4 (oP (show ∀ y∈([[.i i1]]:RW),y.length=1 from by simp) (oP h5 oZ))))))) ih
theorem k5c (h4:Fn E C7 [.agg [.l r2,.l r3,.l r4],.agg [.s s0,.i 2,.l r7,.s s1,.s s2,.i i2,.i i3],.l r0] (.b false)) (e1:IntKind.i64.wrap (i1+1)=i5) (ih:Lp E 2 D3 0 (F5 r0 n0 r1 i0 i5 r2 r3 r4 r5) o t):Lp E 2 D3 0 (F5 r0 n0 r1 i0 i1 r2 r3 r4 r5) o t:=by subst e1;exact lpM (oT h1 (oP h2 (oD h3 (oP (show (0:Int)≤2∧(2:Int) < 5 from by decide) (oF h4 oZ))))) ih
end
section
variable (h3:r1[(Int.toNat i1)]?=some [.s s0,.i 3,.l r7,.s s1,.s s2,.i i2,.i i3])
include h3
theorem k5d (h4:Fn E z6i [.agg [.l r2,.l r3,.l r4],.agg [.s s0,.i 3,.l r7,.s s1,.s s2,.i i2,.i i3],.l r0] (.b true)) (h5:(n0+1)*8≤140737488355328∧n0+1≤140737488355328) (e1:(r5.take n0)++[[.i i1]]=r8) (e2:n0+1=n2) (e3:IntKind.i64.wrap (i1+1)=i4) (ih:Lp E 2 D3 0 (F5 r0 n2 r1 i0 i4 r2 r3 r4 r8) o t):Lp E 2 D3 0 (F5 r0 n0 r1 i0 i1 r2 r3 r4 r5) o t:=by subst e1 e2 e3;exact lpM (oT h1 (oP h2 (oD h3 (oP (show (0:Int)≤3∧(3:Int) < 5 from by decide) (oF h4 (oP (show ∀ y∈([[.i i1]]:RW),y.length=1 from by simp) (oP h5 oZ))))))) ih
theorem k5e (h4:Fn E z6i [.agg [.l r2,.l r3,.l r4],.agg [.s s0,.i 3,.l r7,.s s1,.s s2,.i i2,.i i3],.l r0] (.b false)) (e1:IntKind.i64.wrap (i1+1)=i5) (ih:Lp E 2 D3 0 (F5 r0 n0 r1 i0 i5 r2 r3 r4 r5) o t):Lp E 2 D3 0 (F5 r0 n0 r1 i0 i1 r2 r3 r4 r5) o t:=by subst e1;exact lpM (oT h1 (oP h2 (oD h3 (oP (show (0:Int)≤3∧(3:Int) < 5 from by decide) (oF h4 oZ))))) ih
end
section
variable (h3:r1[(Int.toNat i1)]?=some [.s s0,.i 4,.l r7,.s s1,.s s2,.i i2,.i i3])
include h3
theorem k5f (h4:Fn E M2 [.agg [.l r2,.l r3,.l r4],.agg [.s s0,.i 4,.l r7,.s s1,.s s2,.i i2,.i i3],.l r0] (.b true)) (h5:(n0+1)*8≤140737488355328∧n0+1≤140737488355328) (e1:(r5.take n0)++[[.i i1]]=r8) (e2:n0+1=n2) (e3:IntKind.i64.wrap (i1+1)=i4) (ih:Lp E 2 D3 0 (F5 r0 n2 r1 i0 i4 r2 r3 r4 r8) o t):Lp E 2 D3 0 (F5 r0 n0 r1 i0 i1 r2 r3 r4 r5) o t:=by subst e1 e2 e3;exact lpM (oT h1 (oP h2 (oD h3 (oP (show (0:Int)≤4∧(4:Int) < 5 from by decide) (oF h4 (oP (show ∀ y∈([[.i i1]]:RW),y.length=1 from by simp) (oP h5 oZ))))))) ih
theorem k5g (h4:Fn E M2 [.agg [.l r2,.l r3,.l r4],.agg [.s s0,.i 4,.l r7,.s s1,.s s2,.i i2,.i i3],.l r0] (.b false)) (e1:IntKind.i64.wrap (i1+1)=i5) (ih:Lp E 2 D3 0 (F5 r0 n0 r1 i0 i5 r2 r3 r4 r5) o t):Lp E 2 D3 0 (F5 r0 n0 r1 i0 i1 r2 r3 r4 r5) o t:=by subst e1;exact lpM (oT h1 (oP h2 (oD h3 (oP (show (0:Int)≤4∧(4:Int) < 5 from by decide) (oF h4 oZ))))) ih
end
end
theorem x8t (h1:¬ i1 < i0):Lp E 2 D3 0 (F5 r0 n0 r1 i0 i1 r2 r3 r4 r5) (.exit 0) (y3r r2 r3 r4 n0 r5):=lpX (oU h1 oZ)
theorem q0m (h1:Lp E 2 D3 0 (F5 r3 0 r2 (r2.length:Int) 0 r0 r1 r2 []) (.exit 0) (y3r r0 r1 r2 n0 r4)) (e1:(r4.take n0)=r5):Fn E D3 [.agg [.l r0,.l r1,.l r2],.l r3] (.l r5):=by subst e1;exact fnM (oM [(6,v6i)] h1 oZ)
theorem q1g (h1:Fn E y5x [.i i0] (.s s0)):Fn E y7o [.i i0] (.s s0):=fnM (oF h1 oZ)
def z2b (s0:BA) (n0:Nat) (i0 i1 i2 i3 i4 i5:Int) (r0 r1:RW) (n1 n2:Nat) (r2 r3 r4:RW):St:=stOf 41 [(0,.s s0),(1,.fn U8 [.ptr 0 0,.ptr 1 0]),(3,.ptr 3 0),(4,.ptr 4 0),(7,.vec 8 n0),(8,.i i0),(11,.i i1),(12,.i i2),(16,.i i3),(17,.i i4)] [sC [.fn A0 []],sC [.i i5],sC [.l r0],sC [.l r1],sC [.vec 5 n1,.vec 6 n2,.nils],sV A4 r2,sV A2 r3,some .dead,sV A2 r4]
def z6v (s0:BA) (i1 i2 i5:Int) (r0 r1:RW) (n1 n2:Nat) (r2 r3:RW) (n3:Nat) (r5:RW):St:=stOf 41 [(0,.s s0),(1,.fn U8 [.ptr 0 0,.ptr 1 0]),(3,.ptr 3 0),(4,.ptr 4 0),(7,.vec 8 n3),(11,.i i1),(12,.i i2)] [sC [.fn A0 []],sC [.i i5],sC [.l r0],sC [.l r1],sC [.vec 5 n1,.vec 6 n2,.nils],sV A4 r2,sV A2 r3,some .dead,sV A2 r5]
theorem k0z (h1:i4 < i3) (h2:Rn E U8 [.i i0,.i i4,.ptr 0 0,.ptr 1 0] [sC [.fn A0 []],sC [.i i5],sC [.l r0],sC [.l r1],sC [.vec 5 n1,.vec 6 n2,.nils],sV A4 r2,sV A2 r3,some .dead,sV A2 r4,none,none] (.s s1) [sC [.fn A0 []],sC [.i i5],sC [.l r0],sC [.l r1],sC [.vec 5 n1,.vec 6 n2,.nils],sV A4 r2,sV A2 r3,some .dead,sV A2 r4,none,none]) (h3:(n0+1)*16≤140737488355328∧n0+1≤140737488355328) (e1:(r4.take n0)++[[.s s1]]=r6) (e2:n0+1=n4) (e3:IntKind.i64.wrap (i4+1)=i6) (ih:Lp E 8 A1 1 (z2b s0 n4 i0 i1 i2 i3 i6 i5 r0 r1 n1 n2 r2 r3 r6) o t):Lp E 8 A1 1 (z2b s0 n0 i0 i1 i2 i3 i4 i5 r0 r1 n1 n2 r2 r3 r4) o t:=by subst e1 e2 e3;exact lpM (oT h1 (oR h2 (oP (show ∀ y∈([[.s s1]]:RW),y.length=1 from by simp) (oP h3 oZ)))) ih
theorem x7b (h1:¬ i4 < i3):Lp E 8 A1 1 (z2b s0 n0 i0 i1 i2 i3 i4 i5 r0 r1 n1 n2 r2 r3 r4) (.exit 2) (z6v s0 i1 i2 i5 r0 r1 n1 n2 r2 r3 n0 r4):=lpX (oU h1 oZ)
def z5w (s0:BA) (n0:Nat) (i0 i1 i2:Int) (r0 r1:RW) (n1 n2:Nat) (r2 r3 r4:RW):St:=stOf 41 [(0,.s s0),(1,.fn U8 [.ptr 0 0,.ptr 1 0]),(3,.ptr 3 0),(4,.ptr 4 0),(7,.vec 7 n0),(11,.i i0),(12,.i i1)] [sC [.fn A0 []],sC [.i i2],sC [.l r0],sC [.l r1],sC [.vec 5 n1,.vec 6 n2,.nils],sV A4 r2,sV A2 r3,sV A2 r4]
def y2l (s0:BA) (i2:Int) (r0 r1:RW) (n1 n2:Nat) (r2 r3:RW) (n3:Nat) (r5:RW):St:=stOf 41 [(0,.s s0),(4,.ptr 4 0),(7,.vec 7 n3)] [sC [.fn A0 []],sC [.i i2],sC [.l r0],sC [.l r1],sC [.vec 5 n1,.vec 6 n2,.nils],sV A4 r2,sV A2 r3,sV A2 r5]
theorem k0y (h1:i1 < i0) (h2:Lp E 8 A1 1 (z2b s0 n0 i1 i0 i1 (r1.length:Int) 0 i2 r0 r1 n1 n2 r2 r3 r4) (.exit 2) (z6v s0 i0 i1 i2 r0 r1 n1 n2 r2 r3 n4 r6)) (e1:IntKind.i64.wrap (i1+1)=i3) (ih:Lp E 7 A1 0 (z5w s0 n4 i0 i3 i2 r0 r1 n1 n2 r2 r3 r6) o t):Lp E 7 A1 0 (z5w s0 n0 i0 i1 i2 r0 r1 n1 n2 r2 r3 r4) o t:=by subst e1;exact lpM (oT h1 (oM [(7,A2)] h2 oZ)) ih
theorem x7a (h1:¬ i1 < i0):Lp E 7 A1 0 (z5w s0 n0 i0 i1 i2 r0 r1 n1 n2 r2 r3 r4) (.exit 0) (y2l s0 i2 r0 r1 n1 n2 r2 r3 n0 r4):=lpX (oU h1 oZ)
theorem y4v (h1:Lp E 7 A1 0 (z5w s0 0 (r0.length:Int) 0 i0 r0 r1 n0 n1 r2 r3 []) (.exit 0) (y2l s0 i0 r0 r1 n0 n1 r2 r3 n2 r4)) (h2:(n0+1)*24≤140737488355328∧n0+1≤140737488355328) (h3:(n1+1)*16≤140737488355328∧n1+1≤140737488355328) (e1:(r4.take n2)=r5) (e2:(r2.take n0)++[[.l r5]]=r6) (e3:n0+1=n3) (e4:(r3.take n1)++[[.s s0]]=r7) (e5:n1+1=n4):Rn E A1 [.s s0,.fn U8 [.ptr 0 0,.ptr 1 0],.ptr 2 0,.ptr 3 0,.ptr 4 0] [sC [.fn A0 []],sC [.i i0],sC [.l r0],sC [.l r1],sC [.vec 5 n0,.vec 6 n1,.nils],sV A4 r2,sV A2 r3] (.tup []) [sC [.fn A0 []],sC [.i i0],sC [.l r0],sC [.l r1],sC [.vec 7 n3,.vec 8 n4,.nils],some .dead,some .dead,sV A4 r6,sV A2 r7]:=by subst e1 e2 e3 e4 e5;exact rnM (oM [(7,A2)] h1 (oP (show ∀ y∈([[.l (r4.take n2)]]:RW),y.length=1 from by simp) (oP h2 (oP (show ∀ y∈([[.s s0]]:RW),y.length=1 from by simp) (oP h3 oZ)))))
def z1m (s0:BA) (n0:Nat) (i0 i1 i2 i3 i4 i5:Int) (r0 r1:RW) (n1 n2:Nat) (r2 r3 r4:RW):St:=stOf 41 [(0,.s s0),(1,.fn U9 [.ptr 0 0,.ptr 1 0,.ptr 2 0]),(3,.ptr 3 0),(4,.ptr 4 0),(7,.vec 8 n0),(8,.i i0),(11,.i i1),(12,.i i2),(16,.i i3),(17,.i i4)] [sC [.fn A0 []],sC [.i i5],sC [.l r0],sC [.l r1],sC [.vec 5 n1,.vec 6 n2,.nils],sV A4 r2,sV A2 r3,some .dead,sV A2 r4]
def z6c (s0:BA) (i1 i2 i5:Int) (r0 r1:RW) (n1 n2:Nat) (r2 r3:RW) (n3:Nat) (r5:RW):St:=stOf 41 [(0,.s s0),(1,.fn U9 [.ptr 0 0,.ptr 1 0,.ptr 2 0]),(3,.ptr 3 0),(4,.ptr 4 0),(7,.vec 8 n3),(11,.i i1),(12,.i i2)] [sC [.fn A0 []],sC [.i i5],sC [.l r0],sC [.l r1],sC [.vec 5 n1,.vec 6 n2,.nils],sV A4 r2,sV A2 r3,some .dead,sV A2 r5]
theorem x8o (h1:i4 < i3) (h2:Rn E U9 [.i i0,.i i4,.ptr 0 0,.ptr 1 0,.ptr 2 0] [sC [.fn A0 []],sC [.i i5],sC [.l r0],sC [.l r1],sC [.vec 5 n1,.vec 6 n2,.nils],sV A4 r2,sV A2 r3,some .dead,sV A2 r4,none,none] (.s s1) [sC [.fn A0 []],sC [.i i5],sC [.l r0],sC [.l r1],sC [.vec 5 n1,.vec 6 n2,.nils],sV A4 r2,sV A2 r3,some .dead,sV A2 r4,none,none]) (h3:(n0+1)*16≤140737488355328∧n0+1≤140737488355328) (e1:(r4.take n0)++[[.s s1]]=r6) (e2:n0+1=n4) (e3:IntKind.i64.wrap (i4+1)=i6) (ih:Lp E 8 A1 1 (z1m s0 n4 i0 i1 i2 i3 i6 i5 r0 r1 n1 n2 r2 r3 r6) o t):Lp E 8 A1 1 (z1m s0 n0 i0 i1 i2 i3 i4 i5 r0 r1 n1 n2 r2 r3 r4) o t:=by subst e1 e2 e3;exact lpM (oT h1 (oR h2 (oP (show ∀ y∈([[.s s1]]:RW),y.length=1 from by simp) (oP h3 oZ)))) ih
theorem x5k (h1:¬ i4 < i3):Lp E 8 A1 1 (z1m s0 n0 i0 i1 i2 i3 i4 i5 r0 r1 n1 n2 r2 r3 r4) (.exit 2) (z6c s0 i1 i2 i5 r0 r1 n1 n2 r2 r3 n0 r4):=lpX (oU h1 oZ)
def z3y (s0:BA) (n0:Nat) (i0 i1 i2:Int) (r0 r1:RW) (n1 n2:Nat) (r2 r3 r4:RW):St:=stOf 41 [(0,.s s0),(1,.fn U9 [.ptr 0 0,.ptr 1 0,.ptr 2 0]),(3,.ptr 3 0),(4,.ptr 4 0),(7,.vec 7 n0),(11,.i i0),(12,.i i1)] [sC [.fn A0 []],sC [.i i2],sC [.l r0],sC [.l r1],sC [.vec 5 n1,.vec 6 n2,.nils],sV A4 r2,sV A2 r3,sV A2 r4]
def y1a (s0:BA) (i2:Int) (r0 r1:RW) (n1 n2:Nat) (r2 r3:RW) (n3:Nat) (r5:RW):St:=stOf 41 [(0,.s s0),(4,.ptr 4 0),(7,.vec 7 n3)] [sC [.fn A0 []],sC [.i i2],sC [.l r0],sC [.l r1],sC [.vec 5 n1,.vec 6 n2,.nils],sV A4 r2,sV A2 r3,sV A2 r5]
theorem x8k (h1:i1 < i0) (h2:Lp E 8 A1 1 (z1m s0 n0 i1 i0 i1 (r1.length:Int) 0 i2 r0 r1 n1 n2 r2 r3 r4) (.exit 2) (z6c s0 i0 i1 i2 r0 r1 n1 n2 r2 r3 n4 r6)) (e1:IntKind.i64.wrap (i1+1)=i3) (ih:Lp E 7 A1 0 (z3y s0 n4 i0 i3 i2 r0 r1 n1 n2 r2 r3 r6) o t):Lp E 7 A1 0 (z3y s0 n0 i0 i1 i2 r0 r1 n1 n2 r2 r3 r4) o t:=by subst e1;exact lpM (oT h1 (oM [(7,A2)] h2 oZ)) ih
theorem x5g (h1:¬ i1 < i0):Lp E 7 A1 0 (z3y s0 n0 i0 i1 i2 r0 r1 n1 n2 r2 r3 r4) (.exit 0) (y1a s0 i2 r0 r1 n1 n2 r2 r3 n0 r4):=lpX (oU h1 oZ)
theorem y4w (h1:Lp E 7 A1 0 (z3y s0 0 (r0.length:Int) 0 i0 r0 r1 n0 n1 r2 r3 []) (.exit 0) (y1a s0 i0 r0 r1 n0 n1 r2 r3 n2 r4)) (h2:(n0+1)*24≤140737488355328∧n0+1≤140737488355328) (h3:(n1+1)*16≤140737488355328∧n1+1≤140737488355328) (e1:(r4.take n2)=r5) (e2:(r2.take n0)++[[.l r5]]=r6) (e3:n0+1=n3) (e4:(r3.take n1)++[[.s s0]]=r7) (e5:n1+1=n4):Rn E A1 [.s s0,.fn U9 [.ptr 0 0,.ptr 1 0,.ptr 2 0],.ptr 2 0,.ptr 3 0,.ptr 4 0] [sC [.fn A0 []],sC [.i i0],sC [.l r0],sC [.l r1],sC [.vec 5 n0,.vec 6 n1,.nils],sV A4 r2,sV A2 r3] (.tup []) [sC [.fn A0 []],sC [.i i0],sC [.l r0],sC [.l r1],sC [.vec 7 n3,.vec 8 n4,.nils],some .dead,some .dead,sV A4 r6,sV A2 r7]:=by subst e1 e2 e3 e4 e5;exact rnM (oM [(7,A2)] h1 (oP (show ∀ y∈([[.l (r4.take n2)]]:RW),y.length=1 from by simp) (oP h2 (oP (show ∀ y∈([[.s s0]]:RW),y.length=1 from by simp) (oP h3 oZ)))))
def z1n (s0:BA) (n0:Nat) (i0 i1 i2 i3 i4 i5:Int) (r0 r1:RW) (n1 n2:Nat) (r2 r3 r4:RW):St:=stOf 41 [(0,.s s0),(1,.fn V0 [.ptr 0 0,.ptr 1 0,.ptr 2 0]),(3,.ptr 3 0),(4,.ptr 4 0),(7,.vec 8 n0),(8,.i i0),(11,.i i1),(12,.i i2),(16,.i i3),(17,.i i4)] [sC [.fn A0 []],sC [.i i5],sC [.l r0],sC [.l r1],sC [.vec 5 n1,.vec 6 n2,.nils],sV A4 r2,sV A2 r3,some .dead,sV A2 r4]
def z6d (s0:BA) (i1 i2 i5:Int) (r0 r1:RW) (n1 n2:Nat) (r2 r3:RW) (n3:Nat) (r5:RW):St:=stOf 41 [(0,.s s0),(1,.fn V0 [.ptr 0 0,.ptr 1 0,.ptr 2 0]),(3,.ptr 3 0),(4,.ptr 4 0),(7,.vec 8 n3),(11,.i i1),(12,.i i2)] [sC [.fn A0 []],sC [.i i5],sC [.l r0],sC [.l r1],sC [.vec 5 n1,.vec 6 n2,.nils],sV A4 r2,sV A2 r3,some .dead,sV A2 r5]
theorem x8p (h1:i4 < i3) (h2:Rn E V0 [.i i0,.i i4,.ptr 0 0,.ptr 1 0,.ptr 2 0] [sC [.fn A0 []],sC [.i i5],sC [.l r0],sC [.l r1],sC [.vec 5 n1,.vec 6 n2,.nils],sV A4 r2,sV A2 r3,some .dead,sV A2 r4,none,none] (.s s1) [sC [.fn A0 []],sC [.i i5],sC [.l r0],sC [.l r1],sC [.vec 5 n1,.vec 6 n2,.nils],sV A4 r2,sV A2 r3,some .dead,sV A2 r4,none,none]) (h3:(n0+1)*16≤140737488355328∧n0+1≤140737488355328) (e1:(r4.take n0)++[[.s s1]]=r6) (e2:n0+1=n4) (e3:IntKind.i64.wrap (i4+1)=i6) (ih:Lp E 8 A1 1 (z1n s0 n4 i0 i1 i2 i3 i6 i5 r0 r1 n1 n2 r2 r3 r6) o t):Lp E 8 A1 1 (z1n s0 n0 i0 i1 i2 i3 i4 i5 r0 r1 n1 n2 r2 r3 r4) o t:=by subst e1 e2 e3;exact lpM (oT h1 (oR h2 (oP (show ∀ y∈([[.s s1]]:RW),y.length=1 from by simp) (oP h3 oZ)))) ih
theorem x5l (h1:¬ i4 < i3):Lp E 8 A1 1 (z1n s0 n0 i0 i1 i2 i3 i4 i5 r0 r1 n1 n2 r2 r3 r4) (.exit 2) (z6d s0 i1 i2 i5 r0 r1 n1 n2 r2 r3 n0 r4):=lpX (oU h1 oZ)
def z3z (s0:BA) (n0:Nat) (i0 i1 i2:Int) (r0 r1:RW) (n1 n2:Nat) (r2 r3 r4:RW):St:=stOf 41 [(0,.s s0),(1,.fn V0 [.ptr 0 0,.ptr 1 0,.ptr 2 0]),(3,.ptr 3 0),(4,.ptr 4 0),(7,.vec 7 n0),(11,.i i0),(12,.i i1)] [sC [.fn A0 []],sC [.i i2],sC [.l r0],sC [.l r1],sC [.vec 5 n1,.vec 6 n2,.nils],sV A4 r2,sV A2 r3,sV A2 r4]
def y1b (s0:BA) (i2:Int) (r0 r1:RW) (n1 n2:Nat) (r2 r3:RW) (n3:Nat) (r5:RW):St:=stOf 41 [(0,.s s0),(4,.ptr 4 0),(7,.vec 7 n3)] [sC [.fn A0 []],sC [.i i2],sC [.l r0],sC [.l r1],sC [.vec 5 n1,.vec 6 n2,.nils],sV A4 r2,sV A2 r3,sV A2 r5]
theorem x8l (h1:i1 < i0) (h2:Lp E 8 A1 1 (z1n s0 n0 i1 i0 i1 (r1.length:Int) 0 i2 r0 r1 n1 n2 r2 r3 r4) (.exit 2) (z6d s0 i0 i1 i2 r0 r1 n1 n2 r2 r3 n4 r6)) (e1:IntKind.i64.wrap (i1+1)=i3) (ih:Lp E 7 A1 0 (z3z s0 n4 i0 i3 i2 r0 r1 n1 n2 r2 r3 r6) o t):Lp E 7 A1 0 (z3z s0 n0 i0 i1 i2 r0 r1 n1 n2 r2 r3 r4) o t:=by subst e1;exact lpM (oT h1 (oM [(7,A2)] h2 oZ)) ih
theorem x5h (h1:¬ i1 < i0):Lp E 7 A1 0 (z3z s0 n0 i0 i1 i2 r0 r1 n1 n2 r2 r3 r4) (.exit 0) (y1b s0 i2 r0 r1 n1 n2 r2 r3 n0 r4):=lpX (oU h1 oZ)
theorem y4x (h1:Lp E 7 A1 0 (z3z s0 0 (r0.length:Int) 0 i0 r0 r1 n0 n1 r2 r3 []) (.exit 0) (y1b s0 i0 r0 r1 n0 n1 r2 r3 n2 r4)) (h2:(n0+1)*24≤140737488355328∧n0+1≤140737488355328) (h3:(n1+1)*16≤140737488355328∧n1+1≤140737488355328) (e1:(r4.take n2)=r5) (e2:(r2.take n0)++[[.l r5]]=r6) (e3:n0+1=n3) (e4:(r3.take n1)++[[.s s0]]=r7) (e5:n1+1=n4):Rn E A1 [.s s0,.fn V0 [.ptr 0 0,.ptr 1 0,.ptr 2 0],.ptr 2 0,.ptr 3 0,.ptr 4 0] [sC [.fn A0 []],sC [.i i0],sC [.l r0],sC [.l r1],sC [.vec 5 n0,.vec 6 n1,.nils],sV A4 r2,sV A2 r3] (.tup []) [sC [.fn A0 []],sC [.i i0],sC [.l r0],sC [.l r1],sC [.vec 7 n3,.vec 8 n4,.nils],some .dead,some .dead,sV A4 r6,sV A2 r7]:=by subst e1 e2 e3 e4 e5;exact rnM (oM [(7,A2)] h1 (oP (show ∀ y∈([[.l (r4.take n2)]]:RW),y.length=1 from by simp) (oP h2 (oP (show ∀ y∈([[.s s0]]:RW),y.length=1 from by simp) (oP h3 oZ)))))
def z1o (s0:BA) (n0:Nat) (i0 i1 i2 i3 i4:Int) (r0:RW) (s1:BA) (i5:Int) (r1:RW) (s2 s3:BA) (i6 i7:Int) (r2:RW) (n1 n2:Nat) (r3 r4 r5:RW):St:=stOf 41 [(0,.s s0),(1,.fn K9 [.ptr 0 0,.ptr 1 0]),(3,.ptr 2 0),(4,.ptr 3 0),(7,.vec 7 n0),(8,.i i0),(11,.i i1),(12,.i i2),(16,.i i3),(17,.i i4)] [sC [.l r0],sC [.s s1,.i i5,.l r1,.s s2,.s s3,.i i6,.i i7],sC [.l r2],sC [.vec 4 n1,.vec 5 n2,.nils],sV A4 r3,sV A2 r4,some .dead,sV A2 r5]
def z6e (s0:BA) (i1 i2:Int) (r0:RW) (s1:BA) (i5:Int) (r1:RW) (s2 s3:BA) (i6 i7:Int) (r2:RW) (n1 n2:Nat) (r3 r4:RW) (n3:Nat) (r6:RW):St:=stOf 41 [(0,.s s0),(1,.fn K9 [.ptr 0 0,.ptr 1 0]),(3,.ptr 2 0),(4,.ptr 3 0),(7,.vec 7 n3),(11,.i i1),(12,.i i2)] [sC [.l r0],sC [.s s1,.i i5,.l r1,.s s2,.s s3,.i i6,.i i7],sC [.l r2],sC [.vec 4 n1,.vec 5 n2,.nils],sV A4 r3,sV A2 r4,some .dead,sV A2 r6]
theorem x8q (h1:i4 < i3) (h2:Rn E K9 [.i i0,.i i4,.ptr 0 0,.ptr 1 0] [sC [.l r0],sC [.s s1,.i i5,.l r1,.s s2,.s s3,.i i6,.i i7],sC [.l r2],sC [.vec 4 n1,.vec 5 n2,.nils],sV A4 r3,sV A2 r4,some .dead,sV A2 r5,none,none] (.s s4) [sC [.l r0],sC [.s s1,.i i5,.l r1,.s s2,.s s3,.i i6,.i i7],sC [.l r2],sC [.vec 4 n1,.vec 5 n2,.nils],sV A4 r3,sV A2 r4,some .dead,sV A2 r5,none,none]) (h3:(n0+1)*16≤140737488355328∧n0+1≤140737488355328) (e1:(r5.take n0)++[[.s s4]]=r7) (e2:n0+1=n4) (e3:IntKind.i64.wrap (i4+1)=i8) (ih:Lp E 7 A1 1 (z1o s0 n4 i0 i1 i2 i3 i8 r0 s1 i5 r1 s2 s3 i6 i7 r2 n1 n2 r3 r4 r7) o t):Lp E 7 A1 1 (z1o s0 n0 i0 i1 i2 i3 i4 r0 s1 i5 r1 s2 s3 i6 i7 r2 n1 n2 r3 r4 r5) o t:=by subst e1 e2 e3;exact lpM (oT h1 (oR h2 (oP (show ∀ y∈([[.s s4]]:RW),y.length=1 from by simp) (oP h3 oZ)))) ih
theorem x5m (h1:¬ i4 < i3):Lp E 7 A1 1 (z1o s0 n0 i0 i1 i2 i3 i4 r0 s1 i5 r1 s2 s3 i6 i7 r2 n1 n2 r3 r4 r5) (.exit 2) (z6e s0 i1 i2 r0 s1 i5 r1 s2 s3 i6 i7 r2 n1 n2 r3 r4 n0 r5):=lpX (oU h1 oZ)
def z4a (s0:BA) (n0:Nat) (i0 i1:Int) (r0:RW) (s1:BA) (i2:Int) (r1:RW) (s2 s3:BA) (i3 i4:Int) (r2:RW) (n1 n2:Nat) (r3 r4 r5:RW):St:=stOf 41 [(0,.s s0),(1,.fn K9 [.ptr 0 0,.ptr 1 0]),(3,.ptr 2 0),(4,.ptr 3 0),(7,.vec 6 n0),(11,.i i0),(12,.i i1)] [sC [.l r0],sC [.s s1,.i i2,.l r1,.s s2,.s s3,.i i3,.i i4],sC [.l r2],sC [.vec 4 n1,.vec 5 n2,.nils],sV A4 r3,sV A2 r4,sV A2 r5]
def y1c (s0:BA) (r0:RW) (s1:BA) (i2:Int) (r1:RW) (s2 s3:BA) (i3 i4:Int) (r2:RW) (n1 n2:Nat) (r3 r4:RW) (n3:Nat) (r6:RW):St:=stOf 41 [(0,.s s0),(4,.ptr 3 0),(7,.vec 6 n3)] [sC [.l r0],sC [.s s1,.i i2,.l r1,.s s2,.s s3,.i i3,.i i4],sC [.l r2],sC [.vec 4 n1,.vec 5 n2,.nils],sV A4 r3,sV A2 r4,sV A2 r6]
theorem x8m (h1:i1 < i0) (h2:Lp E 7 A1 1 (z1o s0 n0 i1 i0 i1 (r2.length:Int) 0 r0 s1 i2 r1 s2 s3 i3 i4 r2 n1 n2 r3 r4 r5) (.exit 2) (z6e s0 i0 i1 r0 s1 i2 r1 s2 s3 i3 i4 r2 n1 n2 r3 r4 n4 r7)) (e1:IntKind.i64.wrap (i1+1)=i5) (ih:Lp E 6 A1 0 (z4a s0 n4 i0 i5 r0 s1 i2 r1 s2 s3 i3 i4 r2 n1 n2 r3 r4 r7) o t):Lp E 6 A1 0 (z4a s0 n0 i0 i1 r0 s1 i2 r1 s2 s3 i3 i4 r2 n1 n2 r3 r4 r5) o t:=by subst e1;exact lpM (oT h1 (oM [(7,A2)] h2 oZ)) ih
theorem x5i (h1:¬ i1 < i0):Lp E 6 A1 0 (z4a s0 n0 i0 i1 r0 s1 i2 r1 s2 s3 i3 i4 r2 n1 n2 r3 r4 r5) (.exit 0) (y1c s0 r0 s1 i2 r1 s2 s3 i3 i4 r2 n1 n2 r3 r4 n0 r5):=lpX (oU h1 oZ)
theorem y4y (h1:Lp E 6 A1 0 (z4a s0 0 (r0.length:Int) 0 r0 s1 i0 r1 s2 s3 i1 i2 r2 n0 n1 r3 r4 []) (.exit 0) (y1c s0 r0 s1 i0 r1 s2 s3 i1 i2 r2 n0 n1 r3 r4 n2 r5)) (h2:(n0+1)*24≤140737488355328∧n0+1≤140737488355328) (h3:(n1+1)*16≤140737488355328∧n1+1≤140737488355328) (e1:(r5.take n2)=r6) (e2:(r3.take n0)++[[.l r6]]=r7) (e3:n0+1=n3) (e4:(r4.take n1)++[[.s s0]]=r8) (e5:n1+1=n4):Rn E A1 [.s s0,.fn K9 [.ptr 0 0,.ptr 1 0],.ptr 0 0,.ptr 2 0,.ptr 3 0] [sC [.l r0],sC [.s s1,.i i0,.l r1,.s s2,.s s3,.i i1,.i i2],sC [.l r2],sC [.vec 4 n0,.vec 5 n1,.nils],sV A4 r3,sV A2 r4] (.tup []) [sC [.l r0],sC [.s s1,.i i0,.l r1,.s s2,.s s3,.i i1,.i i2],sC [.l r2],sC [.vec 6 n3,.vec 7 n4,.nils],some .dead,some .dead,sV A4 r7,sV A2 r8]:=by subst e1 e2 e3 e4 e5;exact rnM (oM [(7,A2)] h1 (oP (show ∀ y∈([[.l (r5.take n2)]]:RW),y.length=1 from by simp) (oP h2 (oP (show ∀ y∈([[.s s0]]:RW),y.length=1 from by simp) (oP h3 oZ)))))
theorem v6f (h1:Fn E x2c [.s s0,.s s1] (.tup [.s s2,.i i0])):Fn E z0a [.s s0,.s s1] (.s s2):=fnM (oF h1 oZ)
def z1p (s0:BA) (n0:Nat) (i0 i1 i2 i3 i4:Int) (r0:RW) (s1:BA) (i5:Int) (r1:RW) (s2 s3:BA) (i6 i7:Int) (r2:RW) (n1 n2:Nat) (r3 r4 r5:RW):St:=stOf 41 [(0,.s s0),(1,.fn J1 [.ptr 0 0,.ptr 1 0]),(3,.ptr 2 0),(4,.ptr 3 0),(7,.vec 7 n0),(8,.i i0),(11,.i i1),(12,.i i2),(16,.i i3),(17,.i i4)] [sC [.l r0],sC [.s s1,.i i5,.l r1,.s s2,.s s3,.i i6,.i i7],sC [.l r2],sC [.vec 4 n1,.vec 5 n2,.nils],sV A4 r3,sV A2 r4,some .dead,sV A2 r5]
def z6f (s0:BA) (i1 i2:Int) (r0:RW) (s1:BA) (i5:Int) (r1:RW) (s2 s3:BA) (i6 i7:Int) (r2:RW) (n1 n2:Nat) (r3 r4:RW) (n3:Nat) (r6:RW):St:=stOf 41 [(0,.s s0),(1,.fn J1 [.ptr 0 0,.ptr 1 0]),(3,.ptr 2 0),(4,.ptr 3 0),(7,.vec 7 n3),(11,.i i1),(12,.i i2)] [sC [.l r0],sC [.s s1,.i i5,.l r1,.s s2,.s s3,.i i6,.i i7],sC [.l r2],sC [.vec 4 n1,.vec 5 n2,.nils],sV A4 r3,sV A2 r4,some .dead,sV A2 r6]
theorem x8r (h1:i4 < i3) (h2:Rn E J1 [.i i0,.i i4,.ptr 0 0,.ptr 1 0] [sC [.l r0],sC [.s s1,.i i5,.l r1,.s s2,.s s3,.i i6,.i i7],sC [.l r2],sC [.vec 4 n1,.vec 5 n2,.nils],sV A4 r3,sV A2 r4,some .dead,sV A2 r5,none,none] (.s s4) [sC [.l r0],sC [.s s1,.i i5,.l r1,.s s2,.s s3,.i i6,.i i7],sC [.l r2],sC [.vec 4 n1,.vec 5 n2,.nils],sV A4 r3,sV A2 r4,some .dead,sV A2 r5,none,none]) (h3:(n0+1)*16≤140737488355328∧n0+1≤140737488355328) (e1:(r5.take n0)++[[.s s4]]=r7) (e2:n0+1=n4) (e3:IntKind.i64.wrap (i4+1)=i8) (ih:Lp E 7 A1 1 (z1p s0 n4 i0 i1 i2 i3 i8 r0 s1 i5 r1 s2 s3 i6 i7 r2 n1 n2 r3 r4 r7) o t):Lp E 7 A1 1 (z1p s0 n0 i0 i1 i2 i3 i4 r0 s1 i5 r1 s2 s3 i6 i7 r2 n1 n2 r3 r4 r5) o t:=by subst e1 e2 e3;exact lpM (oT h1 (oR h2 (oP (show ∀ y∈([[.s s4]]:RW),y.length=1 from by simp) (oP h3 oZ)))) ih
theorem x5n (h1:¬ i4 < i3):Lp E 7 A1 1 (z1p s0 n0 i0 i1 i2 i3 i4 r0 s1 i5 r1 s2 s3 i6 i7 r2 n1 n2 r3 r4 r5) (.exit 2) (z6f s0 i1 i2 r0 s1 i5 r1 s2 s3 i6 i7 r2 n1 n2 r3 r4 n0 r5):=lpX (oU h1 oZ)
def z4b (s0:BA) (n0:Nat) (i0 i1:Int) (r0:RW) (s1:BA) (i2:Int) (r1:RW) (s2 s3:BA) (i3 i4:Int) (r2:RW) (n1 n2:Nat) (r3 r4 r5:RW):St:=stOf 41 [(0,.s s0),(1,.fn J1 [.ptr 0 0,.ptr 1 0]),(3,.ptr 2 0),(4,.ptr 3 0),(7,.vec 6 n0),(11,.i i0),(12,.i i1)] [sC [.l r0],sC [.s s1,.i i2,.l r1,.s s2,.s s3,.i i3,.i i4],sC [.l r2],sC [.vec 4 n1,.vec 5 n2,.nils],sV A4 r3,sV A2 r4,sV A2 r5]
def y1d (s0:BA) (r0:RW) (s1:BA) (i2:Int) (r1:RW) (s2 s3:BA) (i3 i4:Int) (r2:RW) (n1 n2:Nat) (r3 r4:RW) (n3:Nat) (r6:RW):St:=stOf 41 [(0,.s s0),(4,.ptr 3 0),(7,.vec 6 n3)] [sC [.l r0],sC [.s s1,.i i2,.l r1,.s s2,.s s3,.i i3,.i i4],sC [.l r2],sC [.vec 4 n1,.vec 5 n2,.nils],sV A4 r3,sV A2 r4,sV A2 r6]
theorem x8n (h1:i1 < i0) (h2:Lp E 7 A1 1 (z1p s0 n0 i1 i0 i1 (r2.length:Int) 0 r0 s1 i2 r1 s2 s3 i3 i4 r2 n1 n2 r3 r4 r5) (.exit 2) (z6f s0 i0 i1 r0 s1 i2 r1 s2 s3 i3 i4 r2 n1 n2 r3 r4 n4 r7)) (e1:IntKind.i64.wrap (i1+1)=i5) (ih:Lp E 6 A1 0 (z4b s0 n4 i0 i5 r0 s1 i2 r1 s2 s3 i3 i4 r2 n1 n2 r3 r4 r7) o t):Lp E 6 A1 0 (z4b s0 n0 i0 i1 r0 s1 i2 r1 s2 s3 i3 i4 r2 n1 n2 r3 r4 r5) o t:=by subst e1;exact lpM (oT h1 (oM [(7,A2)] h2 oZ)) ih
theorem x5j (h1:¬ i1 < i0):Lp E 6 A1 0 (z4b s0 n0 i0 i1 r0 s1 i2 r1 s2 s3 i3 i4 r2 n1 n2 r3 r4 r5) (.exit 0) (y1d s0 r0 s1 i2 r1 s2 s3 i3 i4 r2 n1 n2 r3 r4 n0 r5):=lpX (oU h1 oZ)
theorem y4z (h1:Lp E 6 A1 0 (z4b s0 0 (r0.length:Int) 0 r0 s1 i0 r1 s2 s3 i1 i2 r2 n0 n1 r3 r4 []) (.exit 0) (y1d s0 r0 s1 i0 r1 s2 s3 i1 i2 r2 n0 n1 r3 r4 n2 r5)) (h2:(n0+1)*24≤140737488355328∧n0+1≤140737488355328) (h3:(n1+1)*16≤140737488355328∧n1+1≤140737488355328) (e1:(r5.take n2)=r6) (e2:(r3.take n0)++[[.l r6]]=r7) (e3:n0+1=n3) (e4:(r4.take n1)++[[.s s0]]=r8) (e5:n1+1=n4):Rn E A1 [.s s0,.fn J1 [.ptr 0 0,.ptr 1 0],.ptr 0 0,.ptr 2 0,.ptr 3 0] [sC [.l r0],sC [.s s1,.i i0,.l r1,.s s2,.s s3,.i i1,.i i2],sC [.l r2],sC [.vec 4 n0,.vec 5 n1,.nils],sV A4 r3,sV A2 r4] (.tup []) [sC [.l r0],sC [.s s1,.i i0,.l r1,.s s2,.s s3,.i i1,.i i2],sC [.l r2],sC [.vec 6 n3,.vec 7 n4,.nils],some .dead,some .dead,sV A4 r7,sV A2 r8]:=by subst e1 e2 e3 e4 e5;exact rnM (oM [(7,A2)] h1 (oP (show ∀ y∈([[.l (r5.take n2)]]:RW),y.length=1 from by simp) (oP h2 (oP (show ∀ y∈([[.s s0]]:RW),y.length=1 from by simp) (oP h3 oZ)))))
theorem q5b (h1:s0=(⟨#[]⟩:BA)):Fn E z3p [.s s0] (.b true):=fnM (oB (seT h1) oZ)
theorem q5c (h1:¬ s0=(⟨#[]⟩:BA)) (h2:Fn E z7p [.s s0] (.b b0)):Fn E z3p [.s s0] (.b b0):=fnM (oC (seF h1) (oF h2 oZ))
theorem x4h (h1:Fn E z1x [.s s0,.s s1] (.tup [.i i0,.i i1])):Fn E O4 [.s s0,.s s1] (.i i0):=fnM (oF h1 oZ)
theorem q5o (h1:i0=2) (h2:i1≥i2):Fn E P7 [.agg [.l r0,.l r1,.l r2],.agg [.s s0,.i i0,.l r3,.s s1,.s s2,.i i1,.i i2]] (.i 2):=fnM (oB (beT h1) (oT h2 oZ))
theorem q5p (h1:i0=2) (h2:¬ i1≥i2) (h3:Fn E M1 [.i i1] (.b true)) (h4:Fn E M1 [.i i2] (.b true)):Fn E P7 [.agg [.l r0,.l r1,.l r2],.agg [.s s0,.i i0,.l r3,.s s1,.s s2,.i i1,.i i2]] (.i 0):=fnM (oB (beT h1) (oU h2 (oF h3 (oF h4 oZ))))
theorem q5q (h1:i0=2) (h2:¬ i1≥i2) (h3:Fn E M1 [.i i1] (.b true)) (h4:Fn E M1 [.i i2] (.b false)):Fn E P7 [.agg [.l r0,.l r1,.l r2],.agg [.s s0,.i i0,.l r3,.s s1,.s s2,.i i1,.i i2]] (.i 2):=fnM (oB (beT h1) (oU h2 (oF h3 (oF h4 oZ))))
theorem q5r (h1:i0=2) (h2:¬ i1≥i2) (h3:Fn E M1 [.i i1] (.b false)):Fn E P7 [.agg [.l r0,.l r1,.l r2],.agg [.s s0,.i i0,.l r3,.s s1,.s s2,.i i1,.i i2]] (.i 2):=fnM (oB (beT h1) (oU h2 (oF h3 oZ)))
section
variable (h1:¬ i0=2)
include h1
theorem q5s (h2:i0=3) (h3:Fn E M1 [.i i1] (.b true)) (h4:Rn E Y1 [.l r1,.fn H1 [.ptr 1 0]] [sC [.l r0,.l r1,.l r2],sC [.s s0,.i i0,.l r3,.s s1,.s s2,.i i1,.i i2]] (.b true) [sC [.l r0,.l r1,.l r2],sC [.s s0,.i i0,.l r3,.s s1,.s s2,.i i1,.i i2]]):Fn E P7 [.agg [.l r0,.l r1,.l r2],.agg [.s s0,.i i0,.l r3,.s s1,.s s2,.i i1,.i i2]] (.i 0):=fnM (oC (beF h1) (oB (beT h2) (oF h3 (oR h4 oZ))))
theorem q5t (h2:i0=3) (h3:Fn E M1 [.i i1] (.b true)) (h4:Rn E Y1 [.l r1,.fn H1 [.ptr 1 0]] [sC [.l r0,.l r1,.l r2],sC [.s s0,.i i0,.l r3,.s s1,.s s2,.i i1,.i i2]] (.b false) [sC [.l r0,.l r1,.l r2],sC [.s s0,.i i0,.l r3,.s s1,.s s2,.i i1,.i i2]]):Fn E P7 [.agg [.l r0,.l r1,.l r2],.agg [.s s0,.i i0,.l r3,.s s1,.s s2,.i i1,.i i2]] (.i 7):=fnM (oC (beF h1) (oB (beT h2) (oF h3 (oR h4 oZ))))
theorem q5u (h2:i0=3) (h3:Fn E M1 [.i i1] (.b false)):Fn E P7 [.agg [.l r0,.l r1,.l r2],.agg [.s s0,.i i0,.l r3,.s s1,.s s2,.i i1,.i i2]] (.i 2):=fnM (oC (beF h1) (oB (beT h2) (oF h3 oZ)))
theorem q5v (h2:¬ i0=3) (h3:¬ i2=0):Fn E P7 [.agg [.l r0,.l r1,.l r2],.agg [.s s0,.i i0,.l r3,.s s1,.s s2,.i i1,.i i2]] (.i 2):=fnM (oC (beF h1) (oC (beF h2) (oB (bnT h3) oZ)))
theorem q5w (h2:¬ i0=3) (h3:i2=0) (h4:Rn E V8 [.l r0,.fn H2 [.ptr 1 0]] [sC [.l r0,.l r1,.l r2],sC [.s s0,.i i0,.l r3,.s s1,.s s2,.i i1,.i i2]] (.b true) [sC [.l r0,.l r1,.l r2],sC [.s s0,.i i0,.l r3,.s s1,.s s2,.i i1,.i i2]]):Fn E P7 [.agg [.l r0,.l r1,.l r2],.agg [.s s0,.i i0,.l r3,.s s1,.s s2,.i i1,.i i2]] (.i 0):=fnM (oC (beF h1) (oC (beF h2) (oC (bnF h3) (oR h4 oZ))))
theorem q5x (h2:¬ i0=3) (h3:i2=0) (h4:Rn E V8 [.l r0,.fn H2 [.ptr 1 0]] [sC [.l r0,.l r1,.l r2],sC [.s s0,.i i0,.l r3,.s s1,.s s2,.i i1,.i i2]] (.b false) [sC [.l r0,.l r1,.l r2],sC [.s s0,.i i0,.l r3,.s s1,.s s2,.i i1,.i i2]]):Fn E P7 [.agg [.l r0,.l r1,.l r2],.agg [.s s0,.i i0,.l r3,.s s1,.s s2,.i i1,.i i2]] (.i 7):=fnM (oC (beF h1) (oC (beF h2) (oC (bnF h3) (oR h4 oZ))))
end
def y2m (r0:RW) (s0:BA) (r1:RW) (i0 i1:Int) (r2 r3 r4:RW) (s1:BA) (i2:Int) (r5:RW) (s2 s3:BA) (i3 i4:Int):St:=stOf 42 [(2,.l r0),(3,.ptr 0 0),(4,.ptr 1 0),(7,.s s0),(14,.l r1),(15,.i i0),(16,.i i1)] [sC [.l r2,.l r3,.l r4],sC [.s s1,.i i2,.l r5,.s s2,.s s3,.i i3,.i i4]]
def y9d (r2 r3 r4:RW) (s1:BA) (i2:Int) (r5:RW) (s2 s3:BA) (i3 i4:Int) (s4:BA):St:=stOf 42 [(7,.s s4)] [sC [.l r2,.l r3,.l r4],sC [.s s1,.i i2,.l r5,.s s2,.s s3,.i i3,.i i4]]
theorem j7x (h1:i1 < i0) (h2:0≤i1) (h3:r1[(Int.toNat i1)]?=some [.i i5,.s s5,.s s6,.s s7,.s s8,.s s9,.s s10]) (h4:Fn E x7h [.agg [.l r2,.l r3],.l r0,.i i5] (.tup [.agg [.s s11,.s s12,.s s13,.s s14,.s s15,.s s16],.i i6])) (h5:r5[(Int.toNat i1)]?=some [.s s17]) (h6:Fn E y3u [.s s17,.s s11] (.s s18)) (h7:Fn E x4q [.s s0,.s s18] (.s s19)) (e1:IntKind.i64.wrap (i1+1)=i7) (ih:Lp E 2 z2k 0 (y2m r0 s19 r1 i0 i7 r2 r3 r4 s1 i2 r5 s2 s3 i3 i4) o t):Lp E 2 z2k 0 (y2m r0 s0 r1 i0 i1 r2 r3 r4 s1 i2 r5 s2 s3 i3 i4) o t:=by subst e1;exact lpM (oT h1 (oP h2 (oD h3 (oF h4 (oP h2 (oD h5 (oF h6 (oF h7 oZ)))))))) ih
theorem k9n (h1:¬ i1 < i0):Lp E 2 z2k 0 (y2m r0 s0 r1 i0 i1 r2 r3 r4 s1 i2 r5 s2 s3 i3 i4) (.exit 0) (y9d r2 r3 r4 s1 i2 r5 s2 s3 i3 i4 s0):=lpX (oU h1 oZ)
theorem v6g (h1:Lp E 2 z2k 0 (y2m r4 ⟨#[48]⟩ r1 (r1.length:Int) 0 r0 r1 r2 s0 i0 r3 s1 s2 i1 i2) (.exit 0) (y9d r0 r1 r2 s0 i0 r3 s1 s2 i1 i2 s3)):Fn E z2k [.agg [.l r0,.l r1,.l r2],.agg [.s s0,.i i0,.l r3,.s s1,.s s2,.i i1,.i i2],.l r4] (.s s3):=fnM (oL h1 oZ)
section
variable (h1:Fn E z2k [.agg [.l r0,.l r1,.l r2],.agg [.s s0,.i i0,.l r3,.s s1,.s s2,.i i1,.i i2],.l r4] (.s s3)) (h2:Fn E X1 [.agg [.s s0,.i i0,.l r3,.s s1,.s s2,.i i1,.i i2],.s s3] (.s s4)) (h3:Fn E x2e [.s s4] (.i i3))
include h1 h2 h3
theorem j2y (h4:¬ i3=0):Fn E z0j [.agg [.l r0,.l r1,.l r2],.agg [.s s0,.i i0,.l r3,.s s1,.s s2,.i i1,.i i2],.l r4] (.b true):=fnM (oF h1 (oF h2 (oF h3 (oB (bnT h4) oZ))))
theorem j2z (h4:i3=0):Fn E z0j [.agg [.l r0,.l r1,.l r2],.agg [.s s0,.i i0,.l r3,.s s1,.s s2,.i i1,.i i2],.l r4] (.b false):=fnM (oF h1 (oF h2 (oF h3 (oC (bnF h4) oZ))))
end
def K7 (r0 r1:RW) (i0 i1:Int) (r2:RW) (i2 i3:Int) (r3 r4 r5:RW) (s0:BA) (i4:Int) (r6:RW) (s1 s2:BA) (i5 i6 i7 i8 i9:Int):St:=stOf 48 [(2,.l r0),(3,.ptr 0 0),(4,.ptr 1 0),(8,.ptr 2 0),(11,.l r1),(12,.i i0),(13,.i i1),(17,.l r2),(18,.i i2),(19,.i i3)] [sC [.l r3,.l r4,.l r5],sC [.s s0,.i i4,.l r6,.s s1,.s s2,.i i5,.i i6],sC [.i i7,.i i8,.i i9]]
def z9u (r3 r4 r5:RW) (s0:BA) (i4:Int) (r6:RW) (s1 s2:BA) (i5 i6 i7 i8 i9:Int):St:=stOf 48 [(6,.b true)] [sC [.l r3,.l r4,.l r5],sC [.s s0,.i i4,.l r6,.s s1,.s s2,.i i5,.i i6],sC [.i i7,.i i8,.i i9]]
def z9v (r0 r1:RW) (i0 i1:Int) (r3 r4 r5:RW) (s0:BA) (i4:Int) (r6:RW) (s1 s2:BA) (i5 i6 i7 i8 i9:Int):St:=stOf 48 [(2,.l r0),(3,.ptr 0 0),(4,.ptr 1 0),(11,.l r1),(12,.i i0),(13,.i i1)] [sC [.l r3,.l r4,.l r5],sC [.s s0,.i i4,.l r6,.s s1,.s s2,.i i5,.i i6],sC [.i i7,.i i8,.i i9]]
section
variable (h1:i3 < i2) (h2:0≤i3) (h3:r2[(Int.toNat i3)]?=some [.i i10,.i i11,.i i12])
include h1 h2 h3
section
variable (h4:i7=i10) (h5:Fn E z3o [.agg [.l r3,.l r4,.l r5],.i i8] (.i i13))
include h4 h5
theorem k9k (h6:i13=i5) (h7:Fn E z3o [.agg [.l r3,.l r4,.l r5],.i i11] (.i i14)) (h8:¬ i14=i6) (e1:IntKind.i64.wrap (i3+1)=i15) (ih:Lp E 3 C7 1 (K7 r0 r1 i0 i1 r2 i2 i15 r3 r4 r5 s0 i4 r6 s1 s2 i5 i6 i7 i8 i9) o t):Lp E 3 C7 1 (K7 r0 r1 i0 i1 r2 i2 i3 r3 r4 r5 s0 i4 r6 s1 s2 i5 i6 i7 i8 i9) o t:=by subst e1;exact lpM (oT h1 (oP h2 (oD h3 (oB (beT h4) (oF h5 (oB (beT h6) (oF h7 (oC (beF h8) oZ)))))))) ih
theorem k9l (h6:¬ i13=i5) (e1:IntKind.i64.wrap (i3+1)=i14) (ih:Lp E 3 C7 1 (K7 r0 r1 i0 i1 r2 i2 i14 r3 r4 r5 s0 i4 r6 s1 s2 i5 i6 i7 i8 i9) o t):Lp E 3 C7 1 (K7 r0 r1 i0 i1 r2 i2 i3 r3 r4 r5 s0 i4 r6 s1 s2 i5 i6 i7 i8 i9) o t:=by subst e1;exact lpM (oT h1 (oP h2 (oD h3 (oB (beT h4) (oF h5 (oC (beF h6) oZ)))))) ih
end
theorem k9m (h4:¬ i7=i10) (e1:IntKind.i64.wrap (i3+1)=i13) (ih:Lp E 3 C7 1 (K7 r0 r1 i0 i1 r2 i2 i13 r3 r4 r5 s0 i4 r6 s1 s2 i5 i6 i7 i8 i9) o t):Lp E 3 C7 1 (K7 r0 r1 i0 i1 r2 i2 i3 r3 r4 r5 s0 i4 r6 s1 s2 i5 i6 i7 i8 i9) o t:=by subst e1;exact lpM (oT h1 (oP h2 (oD h3 (oC (beF h4) oZ)))) ih
theorem k1h (h4:i7=i10) (h5:Fn E z3o [.agg [.l r3,.l r4,.l r5],.i i8] (.i i13)) (h6:i13=i5) (h7:Fn E z3o [.agg [.l r3,.l r4,.l r5],.i i11] (.i i14)) (h8:i14=i6):Lp E 3 C7 1 (K7 r0 r1 i0 i1 r2 i2 i3 r3 r4 r5 s0 i4 r6 s1 s2 i5 i6 i7 i8 i9) .ret (z9u r3 r4 r5 s0 i4 r6 s1 s2 i5 i6 i7 i8 i9):=lpX (oT h1 (oP h2 (oD h3 (oB (beT h4) (oF h5 (oB (beT h6) (oF h7 (oB (beT h8) oZ))))))))
end
theorem k1i (h1:¬ i3 < i2):Lp E 3 C7 1 (K7 r0 r1 i0 i1 r2 i2 i3 r3 r4 r5 s0 i4 r6 s1 s2 i5 i6 i7 i8 i9) (.exit 2) (z9v r0 r1 i0 i1 r3 r4 r5 s0 i4 r6 s1 s2 i5 i6 i7 i8 i9):=lpX (oU h1 oZ)
def z2c (r0 r1:RW) (i0 i1:Int) (r2 r3 r4:RW) (s0:BA) (i2:Int) (r5:RW) (s1 s2:BA) (i3 i4:Int):St:=stOf 48 [(2,.l r0),(3,.ptr 0 0),(4,.ptr 1 0),(11,.l r1),(12,.i i0),(13,.i i1)] [sC [.l r2,.l r3,.l r4],sC [.s s0,.i i2,.l r5,.s s1,.s s2,.i i3,.i i4]]
def y5a (r2 r3 r4:RW) (s0:BA) (i2:Int) (r5:RW) (s1 s2:BA) (i3 i4:Int):St:=stOf 48 [(6,.b true)] [sC [.l r2,.l r3,.l r4],sC [.s s0,.i i2,.l r5,.s s1,.s s2,.i i3,.i i4]]
def y5b (r2 r3 r4:RW) (s0:BA) (i2:Int) (r5:RW) (s1 s2:BA) (i3 i4:Int):St:=stOf 48 [] [sC [.l r2,.l r3,.l r4],sC [.s s0,.i i2,.l r5,.s s1,.s s2,.i i3,.i i4]]
section
variable (h1:i1 < i0) (h2:0≤i1) (h3:r1[(Int.toNat i1)]?=some [.i i5,.i i6,.i i7])
include h1 h2 h3
theorem k9j (h4:Lp E 3 C7 1 (K7 r0 r1 i0 i1 r0 (r0.length:Int) 0 r2 r3 r4 s0 i2 r5 s1 s2 i3 i4 i5 i6 i7) (.exit 2) (z9v r0 r1 i0 i1 r2 r3 r4 s0 i2 r5 s1 s2 i3 i4 i5 i6 i7)) (e1:IntKind.i64.wrap (i1+1)=i8) (ih:Lp E 2 C7 0 (z2c r0 r1 i0 i8 r2 r3 r4 s0 i2 r5 s1 s2 i3 i4) o t):Lp E 2 C7 0 (z2c r0 r1 i0 i1 r2 r3 r4 s0 i2 r5 s1 s2 i3 i4) o t:=by subst e1;exact lpM (oT h1 (oP h2 (oD h3 (oL h4 oZ)))) ih
theorem k1f (h4:Lp E 3 C7 1 (K7 r0 r1 i0 i1 r0 (r0.length:Int) 0 r2 r3 r4 s0 i2 r5 s1 s2 i3 i4 i5 i6 i7) .ret (z9u r2 r3 r4 s0 i2 r5 s1 s2 i3 i4 i5 i6 i7)):Lp E 2 C7 0 (z2c r0 r1 i0 i1 r2 r3 r4 s0 i2 r5 s1 s2 i3 i4) .ret (y5a r2 r3 r4 s0 i2 r5 s1 s2 i3 i4):=lpX (oT h1 (oP h2 (oD h3 (oL h4 oZ))))
end
theorem k1g (h1:¬ i1 < i0):Lp E 2 C7 0 (z2c r0 r1 i0 i1 r2 r3 r4 s0 i2 r5 s1 s2 i3 i4) (.exit 0) (y5b r2 r3 r4 s0 i2 r5 s1 s2 i3 i4):=lpX (oU h1 oZ)
theorem q4y (h1:Lp E 2 C7 0 (z2c r4 r4 (r4.length:Int) 0 r0 r1 r2 s0 i0 r3 s1 s2 i1 i2) .ret (y5a r0 r1 r2 s0 i0 r3 s1 s2 i1 i2)):Fn E C7 [.agg [.l r0,.l r1,.l r2],.agg [.s s0,.i i0,.l r3,.s s1,.s s2,.i i1,.i i2],.l r4] (.b true):=fnM (oL h1 oZ)
theorem q4z (h1:Lp E 2 C7 0 (z2c r4 r4 (r4.length:Int) 0 r0 r1 r2 s0 i0 r3 s1 s2 i1 i2) (.exit 0) (y5b r0 r1 r2 s0 i0 r3 s1 s2 i1 i2)):Fn E C7 [.agg [.l r0,.l r1,.l r2],.agg [.s s0,.i i0,.l r3,.s s1,.s s2,.i i1,.i i2],.l r4] (.b false):=fnM (oL h1 oZ)
theorem q5n (h1:Rn E z1d [.l r4,.fn H0 [.ptr 1 0,.ptr 0 0]] [sC [.l r0,.l r1,.l r2],sC [.s s0,.i i0,.l r3,.s s1,.s s2,.i i1,.i i2]] (.b b0) [sC [.l r0,.l r1,.l r2],sC [.s s0,.i i0,.l r3,.s s1,.s s2,.i i1,.i i2]]):Fn E z6i [.agg [.l r0,.l r1,.l r2],.agg [.s s0,.i i0,.l r3,.s s1,.s s2,.i i1,.i i2],.l r4] (.b b0):=fnM (oR h1 oZ)
def z2d (i0:Int) (r0:RW) (i1 i2:Int) (r1 r2 r3:RW) (s0:BA) (i3:Int) (r4:RW) (s1 s2:BA) (i4 i5:Int):St:=stOf 41 [(4,.ptr 1 0),(8,.i i0),(23,.l r0),(24,.i i1),(25,.i i2)] [sC [.l r1,.l r2,.l r3],sC [.s s0,.i i3,.l r4,.s s1,.s s2,.i i4,.i i5]]
def y5d (r1 r2 r3:RW) (s0:BA) (i3:Int) (r4:RW) (s1 s2:BA) (i4 i5 i6:Int):St:=stOf 41 [(8,.i i6)] [sC [.l r1,.l r2,.l r3],sC [.s s0,.i i3,.l r4,.s s1,.s s2,.i i4,.i i5]]
section
variable (h1:i2 < i1) (h2:0≤i2) (h3:r0[(Int.toNat i2)]?=some [.i i7,.i i8,.i i9])
include h1 h2 h3
theorem k9o (h4:i8=i4) (e1:IntKind.i64.wrap (i0 - i9)=i10) (e2:IntKind.i64.wrap (i2+1)=i11) (ih:Lp E 2 M2 0 (z2d i10 r0 i1 i11 r1 r2 r3 s0 i3 r4 s1 s2 i4 i5) o t):Lp E 2 M2 0 (z2d i0 r0 i1 i2 r1 r2 r3 s0 i3 r4 s1 s2 i4 i5) o t:=by subst e1 e2;exact lpM (oT h1 (oP h2 (oD h3 (oB (beT h4) oZ)))) ih
theorem k9p (h4:¬ i8=i4) (e1:IntKind.i64.wrap (i2+1)=i10) (ih:Lp E 2 M2 0 (z2d i0 r0 i1 i10 r1 r2 r3 s0 i3 r4 s1 s2 i4 i5) o t):Lp E 2 M2 0 (z2d i0 r0 i1 i2 r1 r2 r3 s0 i3 r4 s1 s2 i4 i5) o t:=by subst e1;exact lpM (oT h1 (oP h2 (oD h3 (oC (beF h4) oZ)))) ih
end
theorem k1j (h1:¬ i2 < i1):Lp E 2 M2 0 (z2d i0 r0 i1 i2 r1 r2 r3 s0 i3 r4 s1 s2 i4 i5) (.exit 0) (y5d r1 r2 r3 s0 i3 r4 s1 s2 i4 i5 i0):=lpX (oU h1 oZ)
section
variable (h1:Rn E A6 [.l r0,.fn V2 [.ptr 1 0]] [sC [.l r0,.l r1,.l r2],sC [.s s0,.i i0,.l r3,.s s1,.s s2,.i i1,.i i2]] (.i i3) [sC [.l r0,.l r1,.l r2],sC [.s s0,.i i0,.l r3,.s s1,.s s2,.i i1,.i i2]]) (h2:0≤i3) (h3:r0[(Int.toNat i3)]?=some [.i i4,.i i5,.i i6,.s s3,.s s4,.s s5,.s s6]) (h4:Lp E 2 M2 0 (z2d i5 r4 (r4.length:Int) 0 r0 r1 r2 s0 i0 r3 s1 s2 i1 i2) (.exit 0) (y5d r0 r1 r2 s0 i0 r3 s1 s2 i1 i2 i7))
include h1 h2 h3 h4
theorem q6d (h5:i7 > 0):Fn E M2 [.agg [.l r0,.l r1,.l r2],.agg [.s s0,.i i0,.l r3,.s s1,.s s2,.i i1,.i i2],.l r4] (.b true):=fnM (oR h1 (oP h2 (oD h3 (oL h4 (oT h5 oZ)))))
theorem q6e (h5:¬ i7 > 0):Fn E M2 [.agg [.l r0,.l r1,.l r2],.agg [.s s0,.i i0,.l r3,.s s1,.s s2,.i i1,.i i2],.l r4] (.b false):=fnM (oR h1 (oP h2 (oD h3 (oL h4 (oU h5 oZ)))))
end
theorem j7c (h1:Fn E A0 [.b b0,.s ⟨#[49]⟩] (.s s0)) (e1:(i0 == i2)=b0):Rn E U8 [.i i0,.i i1,.ptr 0 0,.ptr 1 0] [sC [.fn A0 []],sC [.i i2]] (.s s0) [sC [.fn A0 []],sC [.i i2]]:=by subst e1;exact rnM (oK (oF h1 oZ))
theorem j7d (h1:0≤i0) (h2:r0[(Int.toNat i0)]?=some [.i i3,.i i4,.i i5,.s s0,.s s1,.s s2,.s s3]) (h3:Fn E A0 [.b b0,.s s1] (.s s4)) (e1:(i1 == i2)=b0):Rn E U9 [.i i0,.i i1,.ptr 0 0,.ptr 1 0,.ptr 2 0] [sC [.fn A0 []],sC [.i i2],sC [.l r0]] (.s s4) [sC [.fn A0 []],sC [.i i2],sC [.l r0]]:=by subst e1;exact rnM (oK (oP h1 (oD h2 (oF h3 oZ))))
theorem j7e (h1:0≤i0) (h2:r0[(Int.toNat i0)]?=some [.i i3,.i i4,.i i5,.s s0,.s s1,.s s2,.s s3]) (h3:Fn E A0 [.b b0,.s s2] (.s s4)) (e1:(i1 == i2)=b0):Rn E V0 [.i i0,.i i1,.ptr 0 0,.ptr 1 0,.ptr 2 0] [sC [.fn A0 []],sC [.i i2],sC [.l r0]] (.s s4) [sC [.fn A0 []],sC [.i i2],sC [.l r0]]:=by subst e1;exact rnM (oK (oP h1 (oD h2 (oF h3 oZ))))
theorem j7f (h1:0≤i0) (h2:r0[(Int.toNat i0)]?=some [.i i5,.i i6,.i i7,.s s3,.s s4,.s s5,.s s6]) (h3:0≤i1) (h4:r1[(Int.toNat i1)]?=some [.s s7]) (h5:Fn E y3u [.s s4,.s s7] (.s s8)):Rn E K9 [.i i0,.i i1,.ptr 0 0,.ptr 1 0] [sC [.l r0],sC [.s s0,.i i2,.l r1,.s s1,.s s2,.i i3,.i i4]] (.s s8) [sC [.l r0],sC [.s s0,.i i2,.l r1,.s s1,.s s2,.i i3,.i i4]]:=rnM (oP h1 (oD h2 (oP h3 (oD h4 (oF h5 oZ)))))
theorem j7g (h1:0≤i0) (h2:r0[(Int.toNat i0)]?=some [.i i5,.i i6,.i i7,.s s3,.s s4,.s s5,.s s6]) (h3:0≤i1) (h4:r1[(Int.toNat i1)]?=some [.s s7]) (h5:Fn E y3u [.s s4,.s s7] (.s s8)) (h6:Fn E z0a [.s ⟨#[48]⟩,.s s8] (.s s9)):Rn E J1 [.i i0,.i i1,.ptr 0 0,.ptr 1 0] [sC [.l r0],sC [.s s0,.i i2,.l r1,.s s1,.s s2,.i i3,.i i4]] (.s s9) [sC [.l r0],sC [.s s0,.i i2,.l r1,.s s1,.s s2,.i i3,.i i4]]:=rnM (oP h1 (oD h2 (oP h3 (oD h4 (oF h5 (oF h6 oZ))))))
theorem q0g (h1:s0=s3):Rn E G2 [.agg [.s s0,.i i0,.l r0,.s s1,.s s2,.i i1,.i i2],.ptr 0 0] [sC [.s s3]] (.b true) [sC [.s s3]]:=rnM (oB (seT h1) oZ)
theorem q0h (h1:¬ s0=s3):Rn E G2 [.agg [.s s0,.i i0,.l r0,.s s1,.s s2,.i i1,.i i2],.ptr 0 0] [sC [.s s3]] (.b false) [sC [.s s3]]:=rnM (oC (seF h1) oZ)
theorem j7q (h1:i0≥1) (h2:i0≤9):Fn E M1 [.i i0] (.b true):=fnM (oT h1 (oT h2 oZ))
theorem j7r (h1:i0≥1) (h2:¬ i0≤9):Fn E M1 [.i i0] (.b false):=fnM (oT h1 (oU h2 oZ))
theorem j7s (h1:¬ i0≥1):Fn E M1 [.i i0] (.b false):=fnM (oU h1 oZ)
theorem v6e (h1:Fn E y5u [.s s0,.s s1] (.tup [.s s2,.i i0])):Fn E y3u [.s s0,.s s1] (.s s2):=fnM (oF h1 oZ)
theorem v6d (h1:Fn E y5t [.s s0,.s s1] (.tup [.s s2,.i i0])):Fn E x4q [.s s0,.s s1] (.s s2):=fnM (oF h1 oZ)
theorem v2c (h1:Fn E O4 [.s s0,.s ⟨#[48]⟩] (.i i0)):Fn E x2e [.s s0] (.i i0):=fnM (oF h1 oZ)
theorem q5a (h1:Rn E A6 [.l r0,.fn V1 [.ptr 1 0]] [sC [.l r0,.l r1,.l r2],sC [.i i0]] (.i i1) [sC [.l r0,.l r1,.l r2],sC [.i i0]]) (h2:0≤i1) (h3:r0[(Int.toNat i1)]?=some [.i i2,.i i3,.i i4,.s s0,.s s1,.s s2,.s s3]):Fn E z3o [.agg [.l r0,.l r1,.l r2],.i i0] (.i i4):=fnM (oR h1 (oP h2 (oD h3 oZ)))
theorem j7a:Fn E A0 [.b true,.s s0] (.s s0):=fnM oZ
theorem j7b:Fn E A0 [.b false,.s s0] (.s ⟨#[48]⟩):=fnM oZ
theorem j7j (h1:Fn E z7p [.s s0] (.b b0)):Fn E H8 [.s s0] (.b (!b0)):=fnM (oF h1 oZ)
theorem j7k (h1:s0=s3):Rn E G9 [.agg [.s s0,.i i0,.l r0,.s s1,.s s2,.i i1,.i i2],.ptr 0 0] [sC [.s s3,.i i3,.l r1,.s s4,.s s5,.i i4,.i i5]] (.b true) [sC [.s s3,.i i3,.l r1,.s s4,.s s5,.i i4,.i i5]]:=rnM (oB (seT h1) oZ)
theorem j7l (h1:¬ s0=s3):Rn E G9 [.agg [.s s0,.i i0,.l r0,.s s1,.s s2,.i i1,.i i2],.ptr 0 0] [sC [.s s3,.i i3,.l r1,.s s4,.s s5,.i i4,.i i5]] (.b false) [sC [.s s3,.i i3,.l r1,.s s4,.s s5,.i i4,.i i5]]:=rnM (oC (seF h1) oZ)
theorem j7y (h1:i0=i4):Rn E V2 [.agg [.i i0,.i i1,.i i2,.s s0,.s s1,.s s2,.s s3],.ptr 0 0] [sC [.s s4,.i i3,.l r0,.s s5,.s s6,.i i4,.i i5]] (.b true) [sC [.s s4,.i i3,.l r0,.s s5,.s s6,.i i4,.i i5]]:=rnM (oB (beT h1) oZ)
theorem j7z (h1:¬ i0=i4):Rn E V2 [.agg [.i i0,.i i1,.i i2,.s s0,.s s1,.s s2,.s s3],.ptr 0 0] [sC [.s s4,.i i3,.l r0,.s s5,.s s6,.i i4,.i i5]] (.b false) [sC [.s s4,.i i3,.l r0,.s s5,.s s6,.i i4,.i i5]]:=rnM (oC (beF h1) oZ)
theorem j7t (h1:i0=i3):Rn E H1 [.agg [.i i0,.s s0,.s s1,.s s2,.s s3,.s s4,.s s5],.ptr 0 0] [sC [.s s6,.i i1,.l r0,.s s7,.s s8,.i i2,.i i3]] (.b true) [sC [.s s6,.i i1,.l r0,.s s7,.s s8,.i i2,.i i3]]:=rnM (oB (beT h1) oZ)
theorem j7u (h1:¬ i0=i3):Rn E H1 [.agg [.i i0,.s s0,.s s1,.s s2,.s s3,.s s4,.s s5],.ptr 0 0] [sC [.s s6,.i i1,.l r0,.s s7,.s s8,.i i2,.i i3]] (.b false) [sC [.s s6,.i i1,.l r0,.s s7,.s s8,.i i2,.i i3]]:=rnM (oC (beF h1) oZ)
theorem j7v (h1:i0=i4):Rn E H2 [.agg [.i i0,.i i1,.i i2,.s s0,.s s1,.s s2,.s s3],.ptr 0 0] [sC [.s s4,.i i3,.l r0,.s s5,.s s6,.i i4,.i i5]] (.b true) [sC [.s s4,.i i3,.l r0,.s s5,.s s6,.i i4,.i i5]]:=rnM (oB (beT h1) oZ)
theorem j7w (h1:¬ i0=i4):Rn E H2 [.agg [.i i0,.i i1,.i i2,.s s0,.s s1,.s s2,.s s3],.ptr 0 0] [sC [.s s4,.i i3,.l r0,.s s5,.s s6,.i i4,.i i5]] (.b false) [sC [.s s4,.i i3,.l r0,.s s5,.s s6,.i i4,.i i5]]:=rnM (oC (beF h1) oZ)
theorem j7h (h1:i0=i3):Rn E V1 [.agg [.i i0,.i i1,.i i2,.s s0,.s s1,.s s2,.s s3],.ptr 0 0] [sC [.i i3]] (.b true) [sC [.i i3]]:=rnM (oB (beT h1) oZ)
theorem j7i (h1:¬ i0=i3):Rn E V1 [.agg [.i i0,.i i1,.i i2,.s s0,.s s1,.s s2,.s s3],.ptr 0 0] [sC [.i i3]] (.b false) [sC [.i i3]]:=rnM (oC (beF h1) oZ)
section
variable (h1:i0=i5) (h2:Fn E z3o [.agg [.l r1,.l r2,.l r3],.i i1] (.i i6))
include h1 h2
theorem j7m (h3:i6=i4):Rn E H0 [.agg [.i i0,.i i1,.i i2],.ptr 0 0,.ptr 1 0] [sC [.s s0,.i i3,.l r0,.s s1,.s s2,.i i4,.i i5],sC [.l r1,.l r2,.l r3]] (.b true) [sC [.s s0,.i i3,.l r0,.s s1,.s s2,.i i4,.i i5],sC [.l r1,.l r2,.l r3]]:=rnM (oB (beT h1) (oF h2 (oB (beT h3) oZ)))
theorem j7n (h3:¬ i6=i4):Rn E H0 [.agg [.i i0,.i i1,.i i2],.ptr 0 0,.ptr 1 0] [sC [.s s0,.i i3,.l r0,.s s1,.s s2,.i i4,.i i5],sC [.l r1,.l r2,.l r3]] (.b false) [sC [.s s0,.i i3,.l r0,.s s1,.s s2,.i i4,.i i5],sC [.l r1,.l r2,.l r3]]:=rnM (oB (beT h1) (oF h2 (oC (beF h3) oZ)))
end
theorem j7o (h1:¬ i0=i5):Rn E H0 [.agg [.i i0,.i i1,.i i2],.ptr 0 0,.ptr 1 0] [sC [.s s0,.i i3,.l r0,.s s1,.s s2,.i i4,.i i5],sC [.l r1,.l r2,.l r3]] (.b false) [sC [.s s0,.i i3,.l r0,.s s1,.s s2,.i i4,.i i5],sC [.l r1,.l r2,.l r3]]:=rnM (oC (beF h1) oZ)
end Gev
namespace Gev
open Go Go.Proofs
variable {E:Env}
variable {o:Out} {t:St} {r0 r1 r2 r3 r4 r5 r6 r7 r8 r9 r10 r11 r12 r13 r14 r15 r16:RW} {i0 i1 i2 i3 i4 i5 i6 i7 i8 i9 i10:Int} {n0 n1 n2 n3:Nat} {s0 s1 s2 s3 s4 s5 s6 s7 s8 s9 s10 s11 s12 s13 s14 s15:BA} {b0 b1 b2 b3 b4 b5 b6:Bool}
def z4i (i0 i1:Int) (r0 r1 r2:RW) (s0:BA) (i2:Int) (r3:RW) (s1 s2:BA) (i3 i4:Int):St:=stOf 63 [(1,.ptr 0 0),(3,.i i0),(4,.ptr 1 0),(5,.i i1)] [sC [.l r0,.l r1,.l r2],sC [.s s0,.i i2,.l r3,.s s1,.s s2,.i i3,.i i4]]
def y6o (r0 r1 r2:RW) (s0:BA) (i2:Int) (r3:RW) (s1 s2:BA) (i3 i4:Int):St:=stOf 63 [(2,.b false)] [sC [.l r0,.l r1,.l r2],sC [.s s0,.i i2,.l r3,.s s1,.s s2,.i i3,.i i4]]
def y6p (i0:Int) (r0 r1 r2:RW) (s0:BA) (i2:Int) (r3:RW) (s1 s2:BA) (i3 i4:Int):St:=stOf 63 [(1,.ptr 0 0),(3,.i i0)] [sC [.l r0,.l r1,.l r2],sC [.s s0,.i i2,.l r3,.s s1,.s s2,.i i3,.i i4]]
section
variable (h1:i1 < (r3.length:Int)) (h2:0≤i1) (h3:r3[(Int.toNat i1)]?=some [.s s3])
include h1 h2 h3
theorem q3x (h4:¬ (s3.size:Int) > 40) (e1:IntKind.i64.wrap (i1+1)=i5) (ih:Lp E 2 G3 1 (z4i i0 i5 r0 r1 r2 s0 i2 r3 s1 s2 i3 i4) o t):Lp E 2 G3 1 (z4i i0 i1 r0 r1 r2 s0 i2 r3 s1 s2 i3 i4) o t:=by subst e1;exact lpM (oT h1 (oP h2 (oD h3 (oU h4 oZ)))) ih
theorem j6q (h4:(s3.size:Int) > 40):Lp E 2 G3 1 (z4i i0 i1 r0 r1 r2 s0 i2 r3 s1 s2 i3 i4) .ret (y6o r0 r1 r2 s0 i2 r3 s1 s2 i3 i4):=lpX (oT h1 (oP h2 (oD h3 (oT h4 oZ))))
end
theorem j6r (h1:¬ i1 < (r3.length:Int)):Lp E 2 G3 1 (z4i i0 i1 r0 r1 r2 s0 i2 r3 s1 s2 i3 i4) (.exit 2) (y6p i0 r0 r1 r2 s0 i2 r3 s1 s2 i3 i4):=lpX (oU h1 oZ)
def z1j (i0:Int) (r0 r1 r2:RW):St:=stOf 63 [(1,.ptr 0 0),(3,.i i0)] [sC [.l r0,.l r1,.l r2]]
def z5o (r0 r1 r2:RW):St:=stOf 63 [(2,.b false)] [sC [.l r0,.l r1,.l r2]]
def k4n (r0 r1 r2:RW):St:=stOf 63 [(1,.ptr 0 0)] [sC [.l r0,.l r1,.l r2]]
section
variable (h1:i0 < (r2.length:Int)) (h2:0≤i0) (h3:r2[(Int.toNat i0)]?=some [.s s0,.i i1,.l r3,.s s1,.s s2,.i i2,.i i3])
include h1 h2 h3
theorem q3w (h4:¬ (s0.size:Int) > 70) (h5:¬ (s1.size:Int) > 40) (h6:¬ (s2.size:Int) > 40) (h7:¬ (r3.length:Int) > 8) (h8:Lp E 2 G3 1 (z4i i0 0 r0 r1 r2 s0 i1 r3 s1 s2 i2 i3) (.exit 2) (y6p i0 r0 r1 r2 s0 i1 r3 s1 s2 i2 i3)) (e1:IntKind.i64.wrap (i0+1)=i4) (ih:Lp E 1 G3 0 (z1j i4 r0 r1 r2) o t):Lp E 1 G3 0 (z1j i0 r0 r1 r2) o t:=by subst e1;exact lpM (oT h1 (oP h2 (oD h3 (oU h4 (oU h5 (oU h6 (oU h7 (oL h8 oZ)))))))) ih
theorem j6k (h4:(s0.size:Int) > 70):Lp E 1 G3 0 (z1j i0 r0 r1 r2) .ret (z5o r0 r1 r2):=lpX (oT h1 (oP h2 (oD h3 (oT h4 oZ))))
section
variable (h4:¬ (s0.size:Int) > 70)
include h4
theorem j6l (h5:(s1.size:Int) > 40):Lp E 1 G3 0 (z1j i0 r0 r1 r2) .ret (z5o r0 r1 r2):=lpX (oT h1 (oP h2 (oD h3 (oU h4 (oT h5 oZ)))))
section
variable (h5:¬ (s1.size:Int) > 40)
include h5
theorem j6m (h6:(s2.size:Int) > 40):Lp E 1 G3 0 (z1j i0 r0 r1 r2) .ret (z5o r0 r1 r2):=lpX (oT h1 (oP h2 (oD h3 (oU h4 (oU h5 (oT h6 oZ))))))
theorem j6n (h6:¬ (s2.size:Int) > 40) (h7:(r3.length:Int) > 8):Lp E 1 G3 0 (z1j i0 r0 r1 r2) .ret (z5o r0 r1 r2):=lpX (oT h1 (oP h2 (oD h3 (oU h4 (oU h5 (oU h6 (oT h7 oZ)))))))
theorem j6o (h6:¬ (s2.size:Int) > 40) (h7:¬ (r3.length:Int) > 8) (h8:Lp E 2 G3 1 (z4i i0 0 r0 r1 r2 s0 i1 r3 s1 s2 i2 i3) .ret (y6o r0 r1 r2 s0 i1 r3 s1 s2 i2 i3)):Lp E 1 G3 0 (z1j i0 r0 r1 r2) .ret (z5o r0 r1 r2):=lpX (oT h1 (oP h2 (oD h3 (oU h4 (oU h5 (oU h6 (oU h7 (oL h8 oZ))))))))
end
end
end
theorem j6p (h1:¬ i0 < (r2.length:Int)):Lp E 1 G3 0 (z1j i0 r0 r1 r2) (.exit 0) (k4n r0 r1 r2):=lpX (oU h1 oZ)
theorem w4g (h1:Lp E 1 G3 0 (z1j 0 r0 r1 r2) .ret (z5o r0 r1 r2)):Fn E G3 [.agg [.l r0,.l r1,.l r2]] (.b false):=fnM (oL h1 oZ)
section
variable (h1:Lp E 1 G3 0 (z1j 0 r0 r1 r2) (.exit 0) (k4n r0 r1 r2))
include h1
section
variable (h2:Fn E G8 [.agg [.l r0,.l r1]] (.b true))
include h2
theorem w4h (h3:(r2.length:Int)≤17):Fn E G3 [.agg [.l r0,.l r1,.l r2]] (.b true):=fnM (oL h1 (oF h2 (oT h3 oZ)))
theorem w4i (h3:¬ (r2.length:Int)≤17):Fn E G3 [.agg [.l r0,.l r1,.l r2]] (.b false):=fnM (oL h1 (oF h2 (oU h3 oZ)))
end
theorem w4j (h2:Fn E G8 [.agg [.l r0,.l r1]] (.b false)):Fn E G3 [.agg [.l r0,.l r1,.l r2]] (.b false):=fnM (oL h1 (oF h2 oZ))
end
def y4b (i0:Int) (r0 r1 r2 r3 r4:RW) (n0:Nat) (r5:RW):St:=stOf 34 [(1,.ptr 0 0),(2,.ptr 1 0),(3,.ptr 2 0),(4,.i i0)] [sC [.l r0,.l r1,.l r2],sC [.nils,.nils,.nils],sC [.l r3,.l r4,.vec 3 n0],sV D1 r5]
def x0s (r0 r1 r2 r3 r4:RW) (n1:Nat) (r6:RW):St:=stOf 34 [(2,.ptr 1 0),(3,.ptr 2 0)] [sC [.l r0,.l r1,.l r2],sC [.nils,.nils,.nils],sC [.l r3,.l r4,.vec 3 n1],sV D1 r6]
theorem q0a (h1:i0 < (r2.length:Int)) (h2:0≤i0) (h3:r2[(Int.toNat i0)]?=some [.s s0,.i i1,.l r7,.s s1,.s s2,.i i2,.i i3]) (h4:∀ y∈r7,y.length=1) (h5:(0+r7.length)*16≤140737488355328∧0+r7.length≤140737488355328) (h6:(n0+1)*96≤140737488355328∧n0+1≤140737488355328) (e1:(([]:RW).take 0)++r7=r8) (e2:0+r7.length=n2) (e3:(r8.take n2)=r9) (e4:(r5.take n0)++[[.s s0,.i i1,.l r9,.s s1,.s s2,.i i2,.i i3]]=r10) (e5:n0+1=n3) (e6:IntKind.i64.wrap (i0+1)=i4) (ih:Lp E 3 z1c 0 (y4b i4 r0 r1 r2 r3 r4 n3 r10) o t):Lp E 3 z1c 0 (y4b i0 r0 r1 r2 r3 r4 n0 r5) o t:=by subst e1 e2 e3 e4 e5 e6;exact lpM (oT h1 (oP h2 (oD h3 (oP h4 (oP h5 (oP (show ∀ y∈([[.s s0,.i i1,.l (((([]:RW).take 0)++r7).take (0+r7.length)),.s s1,.s s2,.i i2,.i i3]]:RW),y.length=7 from by simp) (oP h6 oZ))))))) ih
theorem j2o (h1:¬ i0 < (r2.length:Int)):Lp E 3 z1c 0 (y4b i0 r0 r1 r2 r3 r4 n0 r5) (.exit 0) (x0s r0 r1 r2 r3 r4 n0 r5):=lpX (oU h1 oZ)
theorem w1e (h1:Fn E x7k [.agg [.l r0,.l r1]] (.agg [.l r3,.l r4])) (h2:Lp E 3 z1c 0 (y4b 0 r0 r1 r2 r3 r4 0 []) (.exit 0) (x0s r0 r1 r2 r3 r4 n0 r5)) (e1:(r5.take n0)=r6):Fn E z1c [.agg [.l r0,.l r1,.l r2]] (.agg [.l r3,.l r4,.l r6]):=by subst e1;exact fnM (oF h1 (oG (oM [(164,D1)] h2 oZ)))
def z5n (i0:Int) (r0 r1 r2:RW):St:=stOf 31 [(1,.ptr 0 0),(5,.i i0)] [sC [.l r0,.l r1,.l r2]]
def y8k (r0 r1 r2:RW) (i1 i2:Int):St:=stOf 31 [(2,.i i1),(3,.i i2)] [sC [.l r0,.l r1,.l r2]]
def y8l (r0 r1 r2:RW):St:=stOf 31 [] [sC [.l r0,.l r1,.l r2]]
section
variable (h1:i0 < (r2.length:Int)) (h2:Fn E D6 [.agg [.l r0,.l r1,.l r2],.i i0] (.i i3))
include h1 h2
theorem j6j (h3:i3=0) (e1:IntKind.i64.wrap (i0+1)=i4) (ih:Lp E 1 U7 0 (z5n i4 r0 r1 r2) o t):Lp E 1 U7 0 (z5n i0 r0 r1 r2) o t:=by subst e1;exact lpM (oT h1 (oF h2 (oC (bnF h3) oZ))) ih
theorem k8u (h3:¬ i3=0):Lp E 1 U7 0 (z5n i0 r0 r1 r2) .ret (y8k r0 r1 r2 i0 i3):=lpX (oT h1 (oF h2 (oB (bnT h3) oZ)))
end
theorem k8v (h1:¬ i0 < (r2.length:Int)):Lp E 1 U7 0 (z5n i0 r0 r1 r2) (.exit 0) (y8l r0 r1 r2):=lpX (oU h1 oZ)
section
variable (h1:Fn E B6 [.agg [.l r0,.l r1]] (.i i0))
include h1
theorem v5g (h2:¬ i0=0):Fn E U7 [.agg [.l r0,.l r1,.l r2]] (.tup [.i (-1),.i i0]):=fnM (oF h1 (oB (bnT h2) oZ))
theorem v5h (h2:i0=0) (h3:(r2.length:Int) > 16):Fn E U7 [.agg [.l r0,.l r1,.l r2]] (.tup [.i (-1),.i 8]):=fnM (oF h1 (oC (bnF h2) (oT h3 oZ)))
theorem v5i (h2:i0=0) (h3:¬ (r2.length:Int) > 16) (h4:Lp E 1 U7 0 (z5n 0 r0 r1 r2) .ret (y8k r0 r1 r2 i1 i2)):Fn E U7 [.agg [.l r0,.l r1,.l r2]] (.tup [.i i1,.i i2]):=fnM (oF h1 (oC (bnF h2) (oU h3 (oL h4 oZ))))
theorem v5j (h2:i0=0) (h3:¬ (r2.length:Int) > 16) (h4:Lp E 1 U7 0 (z5n 0 r0 r1 r2) (.exit 0) (y8l r0 r1 r2)):Fn E U7 [.agg [.l r0,.l r1,.l r2]] (.tup [.i (-1),.i 0]):=fnM (oF h1 (oC (bnF h2) (oU h3 (oL h4 oZ))))
end
section
variable (h1:Fn E z1s [.agg [.l r0,.l r1,.l r2],.i i0,.l r3] (.i i1))
include h1
theorem w4k (h2:¬ i1=0):Fn E x3r [.agg [.l r0,.l r1,.l r2],.i i0,.l r3] (.tup [.s ⟨#[]⟩,.i i1]):=fnM (oF h1 (oB (bnT h2) oZ))
theorem w4l (h2:i1=0) (h3:0≤i0) (h4:r2[(Int.toNat i0)]?=some [.s s0,.i i2,.l r4,.s s1,.s s2,.i i3,.i i4]) (h5:Fn E z6n [.agg [.l r0,.l r1,.l r2],.agg [.s s0,.i i2,.l r4,.s s1,.s s2,.i i3,.i i4],.l r3] (.q b0 r5 r6)) (h6:Fn E z5f [.q b0 r5 r6] (.s s3)):Fn E x3r [.agg [.l r0,.l r1,.l r2],.i i0,.l r3] (.tup [.s s3,.i 0]):=fnM (oF h1 (oC (bnF h2) (oP h3 (oD h4 (oF h5 (oF h6 oZ))))))
end
section
variable (h1:Fn E z1s [.agg [.l r0,.l r1,.l r2],.i i0,.l r3] (.i i1))
include h1
theorem v0f (h2:¬ i1=0):Fn E y5w [.agg [.l r0,.l r1,.l r2],.i i0,.l r3] (.tup [.s ⟨#[]⟩,.i i1]):=fnM (oF h1 (oB (bnT h2) oZ))
theorem v0g (h2:i1=0) (h3:0≤i0) (h4:r2[(Int.toNat i0)]?=some [.s s0,.i i2,.l r4,.s s1,.s s2,.i i3,.i i4]) (h5:Fn E Z9 [.agg [.l r0,.l r1,.l r2],.agg [.s s0,.i i2,.l r4,.s s1,.s s2,.i i3,.i i4],.l r3] (.q b0 r5 r6)) (h6:Fn E z5f [.q b0 r5 r6] (.s s3)):Fn E y5w [.agg [.l r0,.l r1,.l r2],.i i0,.l r3] (.tup [.s s3,.i 0]):=fnM (oF h1 (oC (bnF h2) (oP h3 (oD h4 (oF h5 (oF h6 oZ))))))
end
def z3t (r0:RW) (n0:Nat) (i0:Int) (r1 r2 r3 r4:RW):St:=stOf 32 [(1,.l r0),(2,.ptr 0 0),(6,.vec 1 n0),(7,.i i0)] [sC [.l r1,.l r2,.l r3],sV v6i r4]
def y6n (r1 r2 r3:RW) (n1:Nat) (r5:RW):St:=stOf 32 [(6,.vec 1 n1)] [sC [.l r1,.l r2,.l r3],sV v6i r5]
section
variable (h1:i0 < (r3.length:Int)) (h2:0≤i0) (h3:r3[(Int.toNat i0)]?=some [.s s0,.i i1,.l r6,.s s1,.s s2,.i i2,.i i3])
include h1 h2 h3
theorem j2m (h4:Fn E F0 [.agg [.l r1,.l r2,.l r3],.agg [.s s0,.i i1,.l r6,.s s1,.s s2,.i i2,.i i3],.l r0] (.b true)) (h5:(n0+1)*8≤140737488355328∧n0+1≤140737488355328) (e1:(r4.take n0)++[[.i i0]]=r7) (e2:n0+1=n2) (e3:IntKind.i64.wrap (i0+1)=i4) (ih:Lp E 1 V7 0 (z3t r0 n2 i4 r1 r2 r3 r7) o t):Lp E 1 V7 0 (z3t r0 n0 i0 r1 r2 r3 r4) o t:=by subst e1 e2 e3;exact lpM (oT h1 (oP h2 (oD h3 (oF h4 (oP (show ∀ y∈([[.i i0]]:RW),y.length=1 from by simp) (oP h5 oZ)))))) ih
theorem j2n (h4:Fn E F0 [.agg [.l r1,.l r2,.l r3],.agg [.s s0,.i i1,.l r6,.s s1,.s s2,.i i2,.i i3],.l r0] (.b false)) (e1:IntKind.i64.wrap (i0+1)=i5) (ih:Lp E 1 V7 0 (z3t r0 n0 i5 r1 r2 r3 r4) o t):Lp E 1 V7 0 (z3t r0 n0 i0 r1 r2 r3 r4) o t:=by subst e1;exact lpM (oT h1 (oP h2 (oD h3 (oF h4 oZ)))) ih
end
theorem k4m (h1:¬ i0 < (r3.length:Int)):Lp E 1 V7 0 (z3t r0 n0 i0 r1 r2 r3 r4) (.exit 0) (y6n r1 r2 r3 n0 r4):=lpX (oU h1 oZ)
theorem v0d (h1:Fn E z4s [.agg [.l r0,.l r1,.l r2],.l r3] (.b true)) (h2:Lp E 1 V7 0 (z3t r3 0 0 r0 r1 r2 []) (.exit 0) (y6n r0 r1 r2 n0 r4)) (e1:(r4.take n0)=r5):Fn E V7 [.agg [.l r0,.l r1,.l r2],.l r3] (.tup [.l r5,.i 0]):=by subst e1;exact fnM (oF h1 (oM [(6,v6i)] h2 oZ))
theorem v0e (h1:Fn E z4s [.agg [.l r0,.l r1,.l r2],.l r3] (.b false)):Fn E V7 [.agg [.l r0,.l r1,.l r2],.l r3] (.tup [.l [],.i 1]):=fnM (oF h1 oZ)
section
variable (h1:Fn E V7 [.agg [.l r0,.l r1,.l r2],.l r3] (.tup [.l r4,.i i0]))
include h1
theorem v5k (h2:¬ i0=0):Fn E y0g [.agg [.l r0,.l r1,.l r2],.l r3] (.b false):=fnM (oF h1 (oB (bnT h2) oZ))
theorem v5l (h2:i0=0) (h3:(r4.length:Int) > 0):Fn E y0g [.agg [.l r0,.l r1,.l r2],.l r3] (.b false):=fnM (oF h1 (oC (bnF h2) (oT h3 oZ)))
theorem v5m (h2:i0=0) (h3:¬ (r4.length:Int) > 0) (h4:Fn E H7 [.agg [.l r0,.l r1],.l r3] (.tup [.i i1,.i i2])) (h5:i1 < 0):Fn E y0g [.agg [.l r0,.l r1,.l r2],.l r3] (.b true):=fnM (oF h1 (oC (bnF h2) (oU h3 (oF h4 (oT h5 oZ)))))
theorem v5n (h2:i0=0) (h3:¬ (r4.length:Int) > 0) (h4:Fn E H7 [.agg [.l r0,.l r1],.l r3] (.tup [.i i1,.i i2])) (h5:¬ i1 < 0):Fn E y0g [.agg [.l r0,.l r1,.l r2],.l r3] (.b false):=fnM (oF h1 (oC (bnF h2) (oU h3 (oF h4 (oU h5 oZ)))))
end
def z5p (i0 i1:Int) (r0 r1 r2:RW) (s0:BA) (i2:Int) (r3:RW) (s1 s2:BA) (i3 i4:Int):St:=stOf 118 [(1,.i i0),(2,.ptr 0 0),(5,.ptr 1 0),(6,.i i1)] [sC [.l r0,.l r1,.l r2],sC [.s s0,.i i2,.l r3,.s s1,.s s2,.i i3,.i i4]]
def y8m (r0 r1 r2:RW) (s0:BA) (i2:Int) (r3:RW) (s1 s2:BA) (i3 i4:Int):St:=stOf 118 [(4,.i 6)] [sC [.l r0,.l r1,.l r2],sC [.s s0,.i i2,.l r3,.s s1,.s s2,.i i3,.i i4]]
def y8n (r0 r1 r2:RW) (s0:BA) (i2:Int) (r3:RW) (s1 s2:BA) (i3 i4:Int):St:=stOf 118 [(2,.ptr 0 0),(5,.ptr 1 0)] [sC [.l r0,.l r1,.l r2],sC [.s s0,.i i2,.l r3,.s s1,.s s2,.i i3,.i i4]]
section
variable (h1:i1 < i0) (h2:0≤i1) (h3:r2[(Int.toNat i1)]?=some [.s s3,.i i5,.l r4,.s s4,.s s5,.i i6,.i i7])
include h1 h2 h3
theorem j6s (h4:¬ s3=s0) (e1:IntKind.i64.wrap (i1+1)=i8) (ih:Lp E 2 D6 0 (z5p i0 i8 r0 r1 r2 s0 i2 r3 s1 s2 i3 i4) o t):Lp E 2 D6 0 (z5p i0 i1 r0 r1 r2 s0 i2 r3 s1 s2 i3 i4) o t:=by subst e1;exact lpM (oT h1 (oP h2 (oD h3 (oC (seF h4) oZ)))) ih
theorem k8w (h4:s3=s0):Lp E 2 D6 0 (z5p i0 i1 r0 r1 r2 s0 i2 r3 s1 s2 i3 i4) .ret (y8m r0 r1 r2 s0 i2 r3 s1 s2 i3 i4):=lpX (oT h1 (oP h2 (oD h3 (oB (seT h4) oZ))))
end
theorem k8x (h1:¬ i1 < i0):Lp E 2 D6 0 (z5p i0 i1 r0 r1 r2 s0 i2 r3 s1 s2 i3 i4) (.exit 0) (y8n r0 r1 r2 s0 i2 r3 s1 s2 i3 i4):=lpX (oU h1 oZ)
section
variable (h1:0≤i0) (h2:r2[(Int.toNat i0)]?=some [.s s0,.i i1,.l r3,.s s1,.s s2,.i i2,.i i3])
include h1 h2
section
variable (h3:Fn E I7 [.agg [.s s0,.i i1,.l r3,.s s1,.s s2,.i i2,.i i3]] (.b true))
include h3
theorem v5u (h4:(s0.size:Int) < 1):Fn E D6 [.agg [.l r0,.l r1,.l r2],.i i0] (.i 4):=fnM (oP h1 (oD h2 (oF h3 (oT h4 oZ))))
section
variable (h4:¬ (s0.size:Int) < 1)
include h4
theorem v5v (h5:(s0.size:Int) > 64):Fn E D6 [.agg [.l r0,.l r1,.l r2],.i i0] (.i 4):=fnM (oP h1 (oD h2 (oF h3 (oU h4 (oT h5 oZ)))))
section
variable (h5:¬ (s0.size:Int) > 64)
include h5
theorem v5w (h6:Lp E 2 D6 0 (z5p i0 0 r0 r1 r2 s0 i1 r3 s1 s2 i2 i3) .ret (y8m r0 r1 r2 s0 i1 r3 s1 s2 i2 i3)):Fn E D6 [.agg [.l r0,.l r1,.l r2],.i i0] (.i 6):=fnM (oP h1 (oD h2 (oF h3 (oU h4 (oU h5 (oL h6 oZ))))))
section
variable (h6:Lp E 2 D6 0 (z5p i0 0 r0 r1 r2 s0 i1 r3 s1 s2 i2 i3) (.exit 0) (y8n r0 r1 r2 s0 i1 r3 s1 s2 i2 i3))
include h6
theorem v5x (h7:i1 < 1):Fn E D6 [.agg [.l r0,.l r1,.l r2],.i i0] (.i 2):=fnM (oP h1 (oD h2 (oF h3 (oU h4 (oU h5 (oL h6 (oT h7 oZ)))))))
section
variable (h7:¬ i1 < 1)
include h7
theorem v5y (h8:i1 > 4):Fn E D6 [.agg [.l r0,.l r1,.l r2],.i i0] (.i 2):=fnM (oP h1 (oD h2 (oF h3 (oU h4 (oU h5 (oL h6 (oU h7 (oT h8 oZ))))))))
section
variable (h8:¬ i1 > 4)
include h8
section
variable (h9:i1=1)
include h9
theorem v5z (h10:¬ (r3.length:Int)=(r1.length:Int)):Fn E D6 [.agg [.l r0,.l r1,.l r2],.i i0] (.i 10):=fnM (oP h1 (oD h2 (oF h3 (oU h4 (oU h5 (oL h6 (oU h7 (oU h8 (oB (beT h9) (oB (bnT h10) oZ))))))))))
section
variable (h10:(r3.length:Int)=(r1.length:Int))
include h10
theorem v6a (h11:¬ i2=0):Fn E D6 [.agg [.l r0,.l r1,.l r2],.i i0] (.i 10):=fnM (oP h1 (oD h2 (oF h3 (oU h4 (oU h5 (oL h6 (oU h7 (oU h8 (oB (beT h9) (oC (bnF h10) (oB (bnT h11) oZ)))))))))))
section
variable (h11:i2=0)
include h11
theorem v6b (h12:¬ i3=0):Fn E D6 [.agg [.l r0,.l r1,.l r2],.i i0] (.i 10):=fnM (oP h1 (oD h2 (oF h3 (oU h4 (oU h5 (oL h6 (oU h7 (oU h8 (oB (beT h9) (oC (bnF h10) (oC (bnF h11) (oB (bnT h12) oZ))))))))))))
section
variable (h12:i3=0)
include h12
theorem v1f (h13:Fn E J8 [.agg [.s s0,.i i1,.l r3,.s s1,.s s2,.i i2,.i i3]] (.b true)) (h14:¬ i1=3) (h15:¬ i1=4):Fn E D6 [.agg [.l r0,.l r1,.l r2],.i i0] (.i 0):=fnM (oP h1 (oD h2 (oF h3 (oU h4 (oU h5 (oL h6 (oU h7 (oU h8 (oB (beT h9) (oC (bnF h10) (oC (bnF h11) (oC (bnF h12) (oC (bnF h9) (oF h13 (oC (beF h14) (oC (beF h15) oZ))))))))))))))))
theorem k4r (h13:Fn E J8 [.agg [.s s0,.i i1,.l r3,.s s1,.s s2,.i i2,.i i3]] (.b false)):Fn E D6 [.agg [.l r0,.l r1,.l r2],.i i0] (.i 2):=fnM (oP h1 (oD h2 (oF h3 (oU h4 (oU h5 (oL h6 (oU h7 (oU h8 (oB (beT h9) (oC (bnF h10) (oC (bnF h11) (oC (bnF h12) (oC (bnF h9) (oF h13 oZ))))))))))))))
end
end
end
end
section
variable (h9:¬ i1=1)
include h9
theorem v1g (h10:¬ (r3.length:Int)=0):Fn E D6 [.agg [.l r0,.l r1,.l r2],.i i0] (.i 10):=fnM (oP h1 (oD h2 (oF h3 (oU h4 (oU h5 (oL h6 (oU h7 (oU h8 (oC (beF h9) (oB (bnT h9) (oB (bnT h10) oZ)))))))))))
section
variable (h10:(r3.length:Int)=0)
include h10
theorem v1h (h11:¬ s1=(⟨#[]⟩:BA)):Fn E D6 [.agg [.l r0,.l r1,.l r2],.i i0] (.i 10):=fnM (oP h1 (oD h2 (oF h3 (oU h4 (oU h5 (oL h6 (oU h7 (oU h8 (oC (beF h9) (oB (bnT h9) (oC (bnF h10) (oB (snT h11) oZ))))))))))))
section
variable (h11:s1=(⟨#[]⟩:BA))
include h11
theorem v1i (h12:¬ s2=(⟨#[]⟩:BA)):Fn E D6 [.agg [.l r0,.l r1,.l r2],.i i0] (.i 10):=fnM (oP h1 (oD h2 (oF h3 (oU h4 (oU h5 (oL h6 (oU h7 (oU h8 (oC (beF h9) (oB (bnT h9) (oC (bnF h10) (oC (snF h11) (oB (snT h12) oZ)))))))))))))
section
variable (h12:s2=(⟨#[]⟩:BA))
include h12
section
variable (h13:Fn E J8 [.agg [.s s0,.i i1,.l r3,.s s1,.s s2,.i i2,.i i3]] (.b true))
include h13
section
variable (h14:i1=3) (h15:Fn E X8 [.agg [.l r0,.l r1],.i i3] (.i i4))
include h14 h15
theorem v1j (h16:i4 < 0):Fn E D6 [.agg [.l r0,.l r1,.l r2],.i i0] (.i 7):=fnM (oP h1 (oD h2 (oF h3 (oU h4 (oU h5 (oL h6 (oU h7 (oU h8 (oC (beF h9) (oB (bnT h9) (oC (bnF h10) (oC (snF h11) (oC (snF h12) (oF h13 (oB (beT h14) (oF h15 (oT h16 oZ)))))))))))))))))
theorem v1k (h16:¬ i4 < 0) (h17:¬ i1=4):Fn E D6 [.agg [.l r0,.l r1,.l r2],.i i0] (.i 0):=fnM (oP h1 (oD h2 (oF h3 (oU h4 (oU h5 (oL h6 (oU h7 (oU h8 (oC (beF h9) (oB (bnT h9) (oC (bnF h10) (oC (snF h11) (oC (snF h12) (oF h13 (oB (beT h14) (oF h15 (oU h16 (oC (beF h17) oZ))))))))))))))))))
end
theorem v1l (h14:¬ i1=3) (h15:i1=4) (h16:Fn E J7 [.agg [.l r0,.l r1],.i i2] (.i i4)) (h17:i4 < 0):Fn E D6 [.agg [.l r0,.l r1,.l r2],.i i0] (.i 7):=fnM (oP h1 (oD h2 (oF h3 (oU h4 (oU h5 (oL h6 (oU h7 (oU h8 (oC (beF h9) (oB (bnT h9) (oC (bnF h10) (oC (snF h11) (oC (snF h12) (oF h13 (oC (beF h14) (oB (beT h15) (oF h16 (oT h17 oZ))))))))))))))))))
theorem v1m (h14:¬ i1=3) (h15:i1=4) (h16:Fn E J7 [.agg [.l r0,.l r1],.i i2] (.i i4)) (h17:¬ i4 < 0):Fn E D6 [.agg [.l r0,.l r1,.l r2],.i i0] (.i 0):=fnM (oP h1 (oD h2 (oF h3 (oU h4 (oU h5 (oL h6 (oU h7 (oU h8 (oC (beF h9) (oB (bnT h9) (oC (bnF h10) (oC (snF h11) (oC (snF h12) (oF h13 (oC (beF h14) (oB (beT h15) (oF h16 (oU h17 oZ))))))))))))))))))
theorem v1n (h14:¬ i1=3) (h15:¬ i1=4):Fn E D6 [.agg [.l r0,.l r1,.l r2],.i i0] (.i 0):=fnM (oP h1 (oD h2 (oF h3 (oU h4 (oU h5 (oL h6 (oU h7 (oU h8 (oC (beF h9) (oB (bnT h9) (oC (bnF h10) (oC (snF h11) (oC (snF h12) (oF h13 (oC (beF h14) (oC (beF h15) oZ))))))))))))))))
end
theorem y2g (h13:Fn E J8 [.agg [.s s0,.i i1,.l r3,.s s1,.s s2,.i i2,.i i3]] (.b false)):Fn E D6 [.agg [.l r0,.l r1,.l r2],.i i0] (.i 2):=fnM (oP h1 (oD h2 (oF h3 (oU h4 (oU h5 (oL h6 (oU h7 (oU h8 (oC (beF h9) (oB (bnT h9) (oC (bnF h10) (oC (snF h11) (oC (snF h12) (oF h13 oZ))))))))))))))
end
end
end
end
end
end
end
end
end
end
theorem v1o (h3:Fn E I7 [.agg [.s s0,.i i1,.l r3,.s s1,.s s2,.i i2,.i i3]] (.b false)):Fn E D6 [.agg [.l r0,.l r1,.l r2],.i i0] (.i 1):=fnM (oP h1 (oD h2 (oF h3 oZ)))
end
section
variable (h1:Fn E z4s [.agg [.l r0,.l r1,.l r2],.l r3] (.b true))
include h1
theorem q4g (h2:i0 < 0):Fn E z1s [.agg [.l r0,.l r1,.l r2],.i i0,.l r3] (.i 7):=fnM (oF h1 (oT h2 oZ))
theorem q4h (h2:¬ i0 < 0) (h3:i0≥(r2.length:Int)):Fn E z1s [.agg [.l r0,.l r1,.l r2],.i i0,.l r3] (.i 7):=fnM (oF h1 (oU h2 (oT h3 oZ)))
theorem q4i (h2:¬ i0 < 0) (h3:¬ i0≥(r2.length:Int)) (h4:0≤i0) (h5:r2[(Int.toNat i0)]?=some [.s s0,.i i1,.l r4,.s s1,.s s2,.i i2,.i i3]) (h6:¬ i1=1):Fn E z1s [.agg [.l r0,.l r1,.l r2],.i i0,.l r3] (.i 10):=fnM (oF h1 (oU h2 (oU h3 (oP h4 (oD h5 (oB (bnT h6) oZ))))))
theorem q4j (h2:¬ i0 < 0) (h3:¬ i0≥(r2.length:Int)) (h4:0≤i0) (h5:r2[(Int.toNat i0)]?=some [.s s0,.i i1,.l r4,.s s1,.s s2,.i i2,.i i3]) (h6:i1=1):Fn E z1s [.agg [.l r0,.l r1,.l r2],.i i0,.l r3] (.i 0):=fnM (oF h1 (oU h2 (oU h3 (oP h4 (oD h5 (oC (bnF h6) oZ))))))
end
theorem q4k (h1:Fn E z4s [.agg [.l r0,.l r1,.l r2],.l r3] (.b false)):Fn E z1s [.agg [.l r0,.l r1,.l r2],.i i0,.l r3] (.i 1):=fnM (oF h1 oZ)
def y6t (r0:RW) (i0:Int) (r1 r2 r3:RW) (s0:BA) (i1:Int) (r4:RW) (s1 s2:BA) (i2 i3:Int) (b0 b1:Bool) (r5 r6:RW):St:=stOf 47 [(2,.l r0),(3,.ptr 0 0),(4,.ptr 1 0),(6,.ptr 2 0),(7,.ptr 3 0),(8,.i i0)] [sC [.l r1,.l r2,.l r3],sC [.s s0,.i i1,.l r4,.s s1,.s s2,.i i2,.i i3],sC [.b b0,.nils,.nils],sC [.b b1,.l r5,.l r6]]
def x2x (r1 r2 r3:RW) (s0:BA) (i1:Int) (r4:RW) (s1 s2:BA) (i2 i3:Int) (b0 b2:Bool) (r7 r8:RW):St:=stOf 47 [(6,.ptr 2 0),(7,.ptr 3 0)] [sC [.l r1,.l r2,.l r3],sC [.s s0,.i i1,.l r4,.s s1,.s s2,.i i2,.i i3],sC [.b b0,.nils,.nils],sC [.b b2,.l r7,.l r8]]
theorem q4f (h1:i0 < (r2.length:Int)) (h2:0≤i0) (h3:r2[(Int.toNat i0)]?=some [.i i4,.s s3,.s s4,.s s5,.s s6,.s s7,.s s8]) (h4:Fn E x7l [.agg [.l r1,.l r2],.l r0,.i i4] (.tup [.agg [.s s9,.s s10,.s s11,.s s12,.s s13,.s s14],.i i5])) (h5:r4[(Int.toNat i0)]?=some [.s s15]) (h6:Fn E D9 [.s s15] (.q b3 r9 r10)) (h7:Fn E D9 [.s s9] (.q b4 r11 r12)) (h8:Fn E z6l [.q b3 r9 r10,.q b4 r11 r12] (.q b5 r13 r14)) (h9:Fn E z2t [.q b1 r5 r6,.q b5 r13 r14] (.q b6 r15 r16)) (e1:IntKind.i64.wrap (i0+1)=i6) (ih:Lp E 4 z6n 0 (y6t r0 i6 r1 r2 r3 s0 i1 r4 s1 s2 i2 i3 b0 b6 r15 r16) o t):Lp E 4 z6n 0 (y6t r0 i0 r1 r2 r3 s0 i1 r4 s1 s2 i2 i3 b0 b1 r5 r6) o t:=by subst e1;exact lpM (oT h1 (oP h2 (oD h3 (oF h4 (oP h2 (oD h5 (oF h6 (oF h7 (oF h8 (oF h9 oZ)))))))))) ih
theorem j6t (h1:¬ i0 < (r2.length:Int)):Lp E 4 z6n 0 (y6t r0 i0 r1 r2 r3 s0 i1 r4 s1 s2 i2 i3 b0 b1 r5 r6) (.exit 0) (x2x r1 r2 r3 s0 i1 r4 s1 s2 i2 i3 b0 b1 r5 r6):=lpX (oU h1 oZ)
theorem w4m (h1:Fn E Z4 [.i 0] (.q b0 r5 r6)) (h2:Lp E 4 z6n 0 (y6t r4 0 r0 r1 r2 s0 i0 r3 s1 s2 i1 i2 false b0 r5 r6) (.exit 0) (x2x r0 r1 r2 s0 i0 r3 s1 s2 i1 i2 false b1 r7 r8)):Fn E z6n [.agg [.l r0,.l r1,.l r2],.agg [.s s0,.i i0,.l r3,.s s1,.s s2,.i i1,.i i2],.l r4] (.q b1 r7 r8):=fnM (oF h1 (oL h2 oZ))
section
variable (h1:Fn E z6n [.agg [.l r0,.l r1,.l r2],.agg [.s s0,.i i0,.l r3,.s s1,.s s2,.i i1,.i i2],.l r4] (.q b0 r5 r6))
include h1
section
variable (h2:¬ s2=(⟨#[]⟩:BA)) (h3:Fn E D9 [.s s2] (.q b1 r7 r8))
include h2 h3
theorem v0y (h4:Fn E K1 [.q b1 r7 r8,.q b0 r5 r6] (.b true)) (h5:Fn E y1t [.q b0 r5 r6,.q b1 r7 r8] (.q b2 r9 r10)):Fn E Z9 [.agg [.l r0,.l r1,.l r2],.agg [.s s0,.i i0,.l r3,.s s1,.s s2,.i i1,.i i2],.l r4] (.q b2 r9 r10):=fnM (oF h1 (oB (snT h2) (oF h3 (oF h4 (oF h3 (oF h5 oZ))))))
section
variable (h4:Fn E K1 [.q b1 r7 r8,.q b0 r5 r6] (.b false))
include h4
section
variable (h5:¬ s1=(⟨#[]⟩:BA)) (h6:Fn E D9 [.s s1] (.q b2 r9 r10))
include h5 h6
theorem v0z (h7:Fn E K1 [.q b0 r5 r6,.q b2 r9 r10] (.b true)) (h8:Fn E y1t [.q b0 r5 r6,.q b2 r9 r10] (.q b3 r11 r12)):Fn E Z9 [.agg [.l r0,.l r1,.l r2],.agg [.s s0,.i i0,.l r3,.s s1,.s s2,.i i1,.i i2],.l r4] (.q b3 r11 r12):=fnM (oF h1 (oB (snT h2) (oF h3 (oF h4 (oB (snT h5) (oF h6 (oF h7 (oF h6 (oF h8 oZ)))))))))
theorem v1a (h7:Fn E K1 [.q b0 r5 r6,.q b2 r9 r10] (.b false)) (h8:Fn E Z4 [.i 0] (.q b3 r11 r12)):Fn E Z9 [.agg [.l r0,.l r1,.l r2],.agg [.s s0,.i i0,.l r3,.s s1,.s s2,.i i1,.i i2],.l r4] (.q b3 r11 r12):=fnM (oF h1 (oB (snT h2) (oF h3 (oF h4 (oB (snT h5) (oF h6 (oF h7 (oF h8 oZ))))))))
end
theorem v1b (h5:s1=(⟨#[]⟩:BA)) (h6:Fn E Z4 [.i 0] (.q b2 r9 r10)):Fn E Z9 [.agg [.l r0,.l r1,.l r2],.agg [.s s0,.i i0,.l r3,.s s1,.s s2,.i i1,.i i2],.l r4] (.q b2 r9 r10):=fnM (oF h1 (oB (snT h2) (oF h3 (oF h4 (oC (snF h5) (oF h6 oZ))))))
end
end
section
variable (h2:s2=(⟨#[]⟩:BA))
include h2
section
variable (h3:¬ s1=(⟨#[]⟩:BA)) (h4:Fn E D9 [.s s1] (.q b1 r7 r8))
include h3 h4
theorem v1c (h5:Fn E K1 [.q b0 r5 r6,.q b1 r7 r8] (.b true)) (h6:Fn E y1t [.q b0 r5 r6,.q b1 r7 r8] (.q b2 r9 r10)):Fn E Z9 [.agg [.l r0,.l r1,.l r2],.agg [.s s0,.i i0,.l r3,.s s1,.s s2,.i i1,.i i2],.l r4] (.q b2 r9 r10):=fnM (oF h1 (oC (snF h2) (oB (snT h3) (oF h4 (oF h5 (oF h4 (oF h6 oZ)))))))
theorem v1d (h5:Fn E K1 [.q b0 r5 r6,.q b1 r7 r8] (.b false)) (h6:Fn E Z4 [.i 0] (.q b2 r9 r10)):Fn E Z9 [.agg [.l r0,.l r1,.l r2],.agg [.s s0,.i i0,.l r3,.s s1,.s s2,.i i1,.i i2],.l r4] (.q b2 r9 r10):=fnM (oF h1 (oC (snF h2) (oB (snT h3) (oF h4 (oF h5 (oF h6 oZ))))))
end
theorem v1e (h3:s1=(⟨#[]⟩:BA)) (h4:Fn E Z4 [.i 0] (.q b1 r7 r8)):Fn E Z9 [.agg [.l r0,.l r1,.l r2],.agg [.s s0,.i i0,.l r3,.s s1,.s s2,.i i1,.i i2],.l r4] (.q b1 r7 r8):=fnM (oF h1 (oC (snF h2) (oC (snF h3) (oF h4 oZ))))
end
end
section
variable (h1:Fn E U7 [.agg [.l r0,.l r1,.l r2]] (.tup [.i i0,.i i1]))
include h1
section
variable (h2:i1=0) (h3:Fn E C3 [.agg [.l r0,.l r1],.l r3] (.i i2))
include h2 h3
theorem v5o (h4:i2=0):Fn E z4s [.agg [.l r0,.l r1,.l r2],.l r3] (.b true):=fnM (oF h1 (oB (beT h2) (oF h3 (oB (beT h4) oZ))))
theorem v5p (h4:¬ i2=0):Fn E z4s [.agg [.l r0,.l r1,.l r2],.l r3] (.b false):=fnM (oF h1 (oB (beT h2) (oF h3 (oC (beF h4) oZ))))
end
theorem v5q (h2:¬ i1=0):Fn E z4s [.agg [.l r0,.l r1,.l r2],.l r3] (.b false):=fnM (oF h1 (oC (beF h2) oZ))
end
def z0i (r0:RW) (i0:Int) (r1 r2 r3:RW) (s0:BA) (i1:Int) (r4:RW) (s1 s2:BA) (i2 i3:Int):St:=stOf 100 [(2,.l r0),(3,.ptr 0 0),(4,.ptr 1 0),(7,.i i0)] [sC [.l r1,.l r2,.l r3],sC [.s s0,.i i1,.l r4,.s s1,.s s2,.i i2,.i i3]]
def y6q (r1 r2 r3:RW) (s0:BA) (i1:Int) (r4:RW) (s1 s2:BA) (i2 i3:Int):St:=stOf 100 [(6,.b true)] [sC [.l r1,.l r2,.l r3],sC [.s s0,.i i1,.l r4,.s s1,.s s2,.i i2,.i i3]]
def y6r (r1 r2 r3:RW) (s0:BA) (i1:Int) (r4:RW) (s1 s2:BA) (i2 i3:Int):St:=stOf 100 [] [sC [.l r1,.l r2,.l r3],sC [.s s0,.i i1,.l r4,.s s1,.s s2,.i i2,.i i3]]
section
variable (h1:i0 < (r2.length:Int)) (h2:0≤i0) (h3:r2[(Int.toNat i0)]?=some [.i i4,.s s3,.s s4,.s s5,.s s6,.s s7,.s s8])
include h1 h2 h3
theorem j2p (h4:Fn E X5 [.agg [.l r1,.l r2,.l r3],.l r0,.i i4,.i i2] (.b true)) (h5:Fn E X5 [.agg [.l r1,.l r2,.l r3],.l r0,.i i4,.i i3] (.b false)) (e1:IntKind.i64.wrap (i0+1)=i5) (ih:Lp E 2 F0 0 (z0i r0 i5 r1 r2 r3 s0 i1 r4 s1 s2 i2 i3) o t):Lp E 2 F0 0 (z0i r0 i0 r1 r2 r3 s0 i1 r4 s1 s2 i2 i3) o t:=by subst e1;exact lpM (oT h1 (oP h2 (oD h3 (oF h4 (oP h2 (oD h3 (oF h5 oZ))))))) ih
theorem j2q (h4:Fn E X5 [.agg [.l r1,.l r2,.l r3],.l r0,.i i4,.i i2] (.b false)) (e1:IntKind.i64.wrap (i0+1)=i6) (ih:Lp E 2 F0 0 (z0i r0 i6 r1 r2 r3 s0 i1 r4 s1 s2 i2 i3) o t):Lp E 2 F0 0 (z0i r0 i0 r1 r2 r3 s0 i1 r4 s1 s2 i2 i3) o t:=by subst e1;exact lpM (oT h1 (oP h2 (oD h3 (oF h4 oZ)))) ih
theorem k4o (h4:Fn E X5 [.agg [.l r1,.l r2,.l r3],.l r0,.i i4,.i i2] (.b true)) (h5:Fn E X5 [.agg [.l r1,.l r2,.l r3],.l r0,.i i4,.i i3] (.b true)):Lp E 2 F0 0 (z0i r0 i0 r1 r2 r3 s0 i1 r4 s1 s2 i2 i3) .ret (y6q r1 r2 r3 s0 i1 r4 s1 s2 i2 i3):=lpX (oT h1 (oP h2 (oD h3 (oF h4 (oP h2 (oD h3 (oF h5 oZ)))))))
end
theorem k4p (h1:¬ i0 < (r2.length:Int)):Lp E 2 F0 0 (z0i r0 i0 r1 r2 r3 s0 i1 r4 s1 s2 i2 i3) (.exit 0) (y6r r1 r2 r3 s0 i1 r4 s1 s2 i2 i3):=lpX (oU h1 oZ)
def z3u (r0:RW) (i0 i1:Int) (r1 r2 r3:RW) (s0:BA) (i2:Int) (r4:RW) (s1 s2:BA) (i3 i4:Int):St:=stOf 100 [(2,.l r0),(4,.ptr 1 0),(8,.i i0),(9,.i i1)] [sC [.l r1,.l r2,.l r3],sC [.s s0,.i i2,.l r4,.s s1,.s s2,.i i3,.i i4]]
def y6s (r1 r2 r3:RW) (s0:BA) (i2:Int) (r4:RW) (s1 s2:BA) (i3 i4 i5:Int):St:=stOf 100 [(8,.i i5)] [sC [.l r1,.l r2,.l r3],sC [.s s0,.i i2,.l r4,.s s1,.s s2,.i i3,.i i4]]
section
variable (h1:i1 < (r0.length:Int)) (h2:0≤i1) (h3:r0[(Int.toNat i1)]?=some [.i i6,.i i7,.i i8])
include h1 h2 h3
theorem j2r (h4:i7=i3) (e1:IntKind.i64.wrap (i0 - i8)=i9) (e2:IntKind.i64.wrap (i1+1)=i10) (ih:Lp E 2 F0 1 (z3u r0 i9 i10 r1 r2 r3 s0 i2 r4 s1 s2 i3 i4) o t):Lp E 2 F0 1 (z3u r0 i0 i1 r1 r2 r3 s0 i2 r4 s1 s2 i3 i4) o t:=by subst e1 e2;exact lpM (oT h1 (oP h2 (oD h3 (oB (beT h4) (oP h2 (oD h3 oZ)))))) ih
theorem j2s (h4:¬ i7=i3) (e1:IntKind.i64.wrap (i1+1)=i9) (ih:Lp E 2 F0 1 (z3u r0 i0 i9 r1 r2 r3 s0 i2 r4 s1 s2 i3 i4) o t):Lp E 2 F0 1 (z3u r0 i0 i1 r1 r2 r3 s0 i2 r4 s1 s2 i3 i4) o t:=by subst e1;exact lpM (oT h1 (oP h2 (oD h3 (oC (beF h4) oZ)))) ih
end
theorem k4q (h1:¬ i1 < (r0.length:Int)):Lp E 2 F0 1 (z3u r0 i0 i1 r1 r2 r3 s0 i2 r4 s1 s2 i3 i4) (.exit 2) (y6s r1 r2 r3 s0 i2 r4 s1 s2 i3 i4 i0):=lpX (oU h1 oZ)
section
variable (h1:i0=1) (h2:Fn E Z9 [.agg [.l r0,.l r1,.l r2],.agg [.s s0,.i i0,.l r3,.s s1,.s s2,.i i1,.i i2],.l r4] (.q b0 r5 r6)) (h3:Fn E V5 [.q b0 r5 r6] (.i i3))
include h1 h2 h3
theorem v0r (h4:¬ i3=0):Fn E F0 [.agg [.l r0,.l r1,.l r2],.agg [.s s0,.i i0,.l r3,.s s1,.s s2,.i i1,.i i2],.l r4] (.b true):=fnM (oB (beT h1) (oF h2 (oF h3 (oB (bnT h4) oZ))))
theorem v0s (h4:i3=0):Fn E F0 [.agg [.l r0,.l r1,.l r2],.agg [.s s0,.i i0,.l r3,.s s1,.s s2,.i i1,.i i2],.l r4] (.b false):=fnM (oB (beT h1) (oF h2 (oF h3 (oC (bnF h4) oZ))))
end
section
variable (h1:¬ i0=1)
include h1
theorem v0t (h2:i0=3) (h3:Fn E X5 [.agg [.l r0,.l r1,.l r2],.l r4,.i i2,.i i1] (.b b0)):Fn E F0 [.agg [.l r0,.l r1,.l r2],.agg [.s s0,.i i0,.l r3,.s s1,.s s2,.i i1,.i i2],.l r4] (.b b0):=fnM (oC (beF h1) (oB (beT h2) (oF h3 oZ)))
section
variable (h2:¬ i0=3)
include h2
theorem v0u (h3:i0=2) (h4:Lp E 2 F0 0 (z0i r4 0 r0 r1 r2 s0 i0 r3 s1 s2 i1 i2) .ret (y6q r0 r1 r2 s0 i0 r3 s1 s2 i1 i2)):Fn E F0 [.agg [.l r0,.l r1,.l r2],.agg [.s s0,.i i0,.l r3,.s s1,.s s2,.i i1,.i i2],.l r4] (.b true):=fnM (oC (beF h1) (oC (beF h2) (oB (beT h3) (oL h4 oZ))))
theorem v0v (h3:i0=2) (h4:Lp E 2 F0 0 (z0i r4 0 r0 r1 r2 s0 i0 r3 s1 s2 i1 i2) (.exit 0) (y6r r0 r1 r2 s0 i0 r3 s1 s2 i1 i2)):Fn E F0 [.agg [.l r0,.l r1,.l r2],.agg [.s s0,.i i0,.l r3,.s s1,.s s2,.i i1,.i i2],.l r4] (.b false):=fnM (oC (beF h1) (oC (beF h2) (oB (beT h3) (oL h4 oZ))))
section
variable (h3:¬ i0=2) (h4:Fn E J7 [.agg [.l r0,.l r1],.i i1] (.i i4)) (h5:0≤i4) (h6:r0[(Int.toNat i4)]?=some [.i i5,.i i6,.i i3,.s s3,.s s4,.s s5,.s s6]) (h7:Lp E 2 F0 1 (z3u r4 i6 0 r0 r1 r2 s0 i0 r3 s1 s2 i1 i2) (.exit 2) (y6s r0 r1 r2 s0 i0 r3 s1 s2 i1 i2 i7))
include h3 h4 h5 h6 h7
theorem v0w (h8:i7 > 0):Fn E F0 [.agg [.l r0,.l r1,.l r2],.agg [.s s0,.i i0,.l r3,.s s1,.s s2,.i i1,.i i2],.l r4] (.b true):=fnM (oC (beF h1) (oC (beF h2) (oC (beF h3) (oF h4 (oP h5 (oD h6 (oL h7 (oT h8 oZ))))))))
theorem v0x (h8:¬ i7 > 0):Fn E F0 [.agg [.l r0,.l r1,.l r2],.agg [.s s0,.i i0,.l r3,.s s1,.s s2,.i i1,.i i2],.l r4] (.b false):=fnM (oC (beF h1) (oC (beF h2) (oC (beF h3) (oF h4 (oP h5 (oD h6 (oL h7 (oU h8 oZ))))))))
end
end
end
def z1z (i0:Int) (s0:BA) (i1:Int) (r0:RW) (s1 s2:BA) (i2 i3:Int):St:=stOf 36 [(1,.ptr 0 0),(3,.i i0)] [sC [.s s0,.i i1,.l r0,.s s1,.s s2,.i i2,.i i3]]
def y4r (s0:BA) (i1:Int) (r0:RW) (s1 s2:BA) (i2 i3:Int):St:=stOf 36 [(2,.b false)] [sC [.s s0,.i i1,.l r0,.s s1,.s s2,.i i2,.i i3]]
def y4s (s0:BA) (i1:Int) (r0:RW) (s1 s2:BA) (i2 i3:Int):St:=stOf 36 [(1,.ptr 0 0)] [sC [.s s0,.i i1,.l r0,.s s1,.s s2,.i i2,.i i3]]
section
variable (h1:i0 < (r0.length:Int)) (h2:0≤i0) (h3:r0[(Int.toNat i0)]?=some [.s s3])
include h1 h2 h3
theorem k8y (h4:Fn E G0 [.s s3] (.b true)) (e1:IntKind.i64.wrap (i0+1)=i4) (ih:Lp E 1 I7 0 (z1z i4 s0 i1 r0 s1 s2 i2 i3) o t):Lp E 1 I7 0 (z1z i0 s0 i1 r0 s1 s2 i2 i3) o t:=by subst e1;exact lpM (oT h1 (oP h2 (oD h3 (oF h4 oZ)))) ih
theorem k0u (h4:Fn E G0 [.s s3] (.b false)):Lp E 1 I7 0 (z1z i0 s0 i1 r0 s1 s2 i2 i3) .ret (y4r s0 i1 r0 s1 s2 i2 i3):=lpX (oT h1 (oP h2 (oD h3 (oF h4 oZ))))
end
theorem k0v (h1:¬ i0 < (r0.length:Int)):Lp E 1 I7 0 (z1z i0 s0 i1 r0 s1 s2 i2 i3) (.exit 0) (y4s s0 i1 r0 s1 s2 i2 i3):=lpX (oU h1 oZ)
theorem q3z (h1:Lp E 1 I7 0 (z1z 0 s0 i0 r0 s1 s2 i1 i2) .ret (y4r s0 i0 r0 s1 s2 i1 i2)):Fn E I7 [.agg [.s s0,.i i0,.l r0,.s s1,.s s2,.i i1,.i i2]] (.b false):=fnM (oL h1 oZ)
section
variable (h1:Lp E 1 I7 0 (z1z 0 s0 i0 r0 s1 s2 i1 i2) (.exit 0) (y4s s0 i0 r0 s1 s2 i1 i2))
include h1
theorem q4a (h2:s1=(⟨#[]⟩:BA)) (h3:s2=(⟨#[]⟩:BA)):Fn E I7 [.agg [.s s0,.i i0,.l r0,.s s1,.s s2,.i i1,.i i2]] (.b true):=fnM (oL h1 (oB (seT h2) (oB (seT h3) oZ)))
theorem q4b (h2:s1=(⟨#[]⟩:BA)) (h3:¬ s2=(⟨#[]⟩:BA)) (h4:Fn E G0 [.s s2] (.b b0)):Fn E I7 [.agg [.s s0,.i i0,.l r0,.s s1,.s s2,.i i1,.i i2]] (.b b0):=fnM (oL h1 (oB (seT h2) (oC (seF h3) (oF h4 oZ))))
section
variable (h2:¬ s1=(⟨#[]⟩:BA))
include h2
section
variable (h3:Fn E G0 [.s s1] (.b true))
include h3
theorem q4c (h4:s2=(⟨#[]⟩:BA)):Fn E I7 [.agg [.s s0,.i i0,.l r0,.s s1,.s s2,.i i1,.i i2]] (.b true):=fnM (oL h1 (oC (seF h2) (oF h3 (oB (seT h4) oZ))))
theorem q4d (h4:¬ s2=(⟨#[]⟩:BA)) (h5:Fn E G0 [.s s2] (.b b1)):Fn E I7 [.agg [.s s0,.i i0,.l r0,.s s1,.s s2,.i i1,.i i2]] (.b b1):=fnM (oL h1 (oC (seF h2) (oF h3 (oC (seF h4) (oF h5 oZ)))))
end
theorem q4e (h3:Fn E G0 [.s s1] (.b false)):Fn E I7 [.agg [.s s0,.i i0,.l r0,.s s1,.s s2,.i i1,.i i2]] (.b false):=fnM (oL h1 (oC (seF h2) (oF h3 oZ)))
end
end
theorem v0h (h1:i0=1) (h2:¬ s1=(⟨#[]⟩:BA)) (h3:s2=(⟨#[]⟩:BA)):Fn E J8 [.agg [.s s0,.i i0,.l r0,.s s1,.s s2,.i i1,.i i2]] (.b true):=fnM (oB (beT h1) (oB (snT h2) (oC (seF h2) (oB (seT h3) oZ))))
theorem v0i (h1:i0=1) (h2:¬ s1=(⟨#[]⟩:BA)) (h3:¬ s2=(⟨#[]⟩:BA)) (h4:Fn E D9 [.s s2] (.q b0 r1 r2)) (h5:Fn E D9 [.s s1] (.q b1 r3 r4)) (h6:Fn E K1 [.q b0 r1 r2,.q b1 r3 r4] (.b b2)):Fn E J8 [.agg [.s s0,.i i0,.l r0,.s s1,.s s2,.i i1,.i i2]] (.b (!b2)):=fnM (oB (beT h1) (oB (snT h2) (oC (seF h2) (oC (seF h3) (oF h4 (oF h5 (oF h6 oZ)))))))
theorem v0j (h1:i0=1) (h2:s1=(⟨#[]⟩:BA)) (h3:¬ s2=(⟨#[]⟩:BA)):Fn E J8 [.agg [.s s0,.i i0,.l r0,.s s1,.s s2,.i i1,.i i2]] (.b true):=fnM (oB (beT h1) (oC (snF h2) (oB (snT h3) (oB (seT h2) oZ))))
theorem v0k (h1:i0=1) (h2:s1=(⟨#[]⟩:BA)) (h3:s2=(⟨#[]⟩:BA)):Fn E J8 [.agg [.s s0,.i i0,.l r0,.s s1,.s s2,.i i1,.i i2]] (.b false):=fnM (oB (beT h1) (oC (snF h2) (oC (snF h3) oZ)))
section
variable (h1:¬ i0=1)
include h1
theorem v0l (h2:i0=2) (h3:Fn E Y5 [.i i1] (.b true)) (h4:Fn E Y5 [.i i2] (.b true)) (h5:i1 < i2):Fn E J8 [.agg [.s s0,.i i0,.l r0,.s s1,.s s2,.i i1,.i i2]] (.b true):=fnM (oC (beF h1) (oB (beT h2) (oF h3 (oF h4 (oT h5 oZ)))))
theorem v0m (h2:i0=2) (h3:Fn E Y5 [.i i1] (.b true)) (h4:Fn E Y5 [.i i2] (.b true)) (h5:¬ i1 < i2):Fn E J8 [.agg [.s s0,.i i0,.l r0,.s s1,.s s2,.i i1,.i i2]] (.b false):=fnM (oC (beF h1) (oB (beT h2) (oF h3 (oF h4 (oU h5 oZ)))))
theorem v0n (h2:i0=2) (h3:Fn E Y5 [.i i1] (.b true)) (h4:Fn E Y5 [.i i2] (.b false)):Fn E J8 [.agg [.s s0,.i i0,.l r0,.s s1,.s s2,.i i1,.i i2]] (.b false):=fnM (oC (beF h1) (oB (beT h2) (oF h3 (oF h4 oZ))))
theorem v0o (h2:i0=2) (h3:Fn E Y5 [.i i1] (.b false)):Fn E J8 [.agg [.s s0,.i i0,.l r0,.s s1,.s s2,.i i1,.i i2]] (.b false):=fnM (oC (beF h1) (oB (beT h2) (oF h3 oZ)))
theorem v0p (h2:¬ i0=2) (h3:i0=3) (h4:Fn E Y5 [.i i1] (.b b0)):Fn E J8 [.agg [.s s0,.i i0,.l r0,.s s1,.s s2,.i i1,.i i2]] (.b b0):=fnM (oC (beF h1) (oC (beF h2) (oB (beT h3) (oF h4 oZ))))
theorem v0q (h2:¬ i0=2) (h3:¬ i0=3) (h4:i2=0):Fn E J8 [.agg [.s s0,.i i0,.l r0,.s s1,.s s2,.i i1,.i i2]] (.b true):=fnM (oC (beF h1) (oC (beF h2) (oC (beF h3) (oB (beT h4) oZ))))
theorem q3y (h2:¬ i0=2) (h3:¬ i0=3) (h4:¬ i2=0):Fn E J8 [.agg [.s s0,.i i0,.l r0,.s s1,.s s2,.i i1,.i i2]] (.b false):=fnM (oC (beF h1) (oC (beF h2) (oC (beF h3) (oC (beF h4) oZ))))
end
def z6u (r0:RW) (i0 i1 i2:Int) (r1 r2 r3:RW):St:=stOf 41 [(1,.l r0),(2,.i i0),(3,.i i1),(4,.ptr 0 0),(9,.i i2)] [sC [.l r1,.l r2,.l r3]]
def x5c (r1 r2 r3:RW):St:=stOf 41 [(8,.b true)] [sC [.l r1,.l r2,.l r3]]
def x5d (r1 r2 r3:RW):St:=stOf 41 [] [sC [.l r1,.l r2,.l r3]]
section
variable (h1:i2 < (r0.length:Int)) (h2:0≤i2) (h3:r0[(Int.toNat i2)]?=some [.i i3,.i i4,.i i5])
include h1 h2 h3
theorem v1p (h4:i3=i0) (h5:Fn E J7 [.agg [.l r1,.l r2],.i i4] (.i i6)) (h6:0≤i6) (h7:r1[(Int.toNat i6)]?=some [.i i7,.i i8,.i i9,.s s0,.s s1,.s s2,.s s3]) (h8:¬ i9=i1) (e1:IntKind.i64.wrap (i2+1)=i10) (ih:Lp E 1 X5 0 (z6u r0 i0 i1 i10 r1 r2 r3) o t):Lp E 1 X5 0 (z6u r0 i0 i1 i2 r1 r2 r3) o t:=by subst e1;exact lpM (oT h1 (oP h2 (oD h3 (oB (beT h4) (oP h2 (oD h3 (oF h5 (oP h6 (oD h7 (oC (beF h8) oZ)))))))))) ih
theorem v1q (h4:¬ i3=i0) (e1:IntKind.i64.wrap (i2+1)=i6) (ih:Lp E 1 X5 0 (z6u r0 i0 i1 i6 r1 r2 r3) o t):Lp E 1 X5 0 (z6u r0 i0 i1 i2 r1 r2 r3) o t:=by subst e1;exact lpM (oT h1 (oP h2 (oD h3 (oC (beF h4) oZ)))) ih
theorem q0b (h4:i3=i0) (h5:Fn E J7 [.agg [.l r1,.l r2],.i i4] (.i i6)) (h6:0≤i6) (h7:r1[(Int.toNat i6)]?=some [.i i7,.i i8,.i i9,.s s0,.s s1,.s s2,.s s3]) (h8:i9=i1):Lp E 1 X5 0 (z6u r0 i0 i1 i2 r1 r2 r3) .ret (x5c r1 r2 r3):=lpX (oT h1 (oP h2 (oD h3 (oB (beT h4) (oP h2 (oD h3 (oF h5 (oP h6 (oD h7 (oB (beT h8) oZ))))))))))
end
theorem q0c (h1:¬ i2 < (r0.length:Int)):Lp E 1 X5 0 (z6u r0 i0 i1 i2 r1 r2 r3) (.exit 0) (x5d r1 r2 r3):=lpX (oU h1 oZ)
theorem w6u (h1:Lp E 1 X5 0 (z6u r3 i0 i1 0 r0 r1 r2) .ret (x5c r0 r1 r2)):Fn E X5 [.agg [.l r0,.l r1,.l r2],.l r3,.i i0,.i i1] (.b true):=fnM (oL h1 oZ)
theorem w6v (h1:Lp E 1 X5 0 (z6u r3 i0 i1 0 r0 r1 r2) (.exit 0) (x5d r0 r1 r2)):Fn E X5 [.agg [.l r0,.l r1,.l r2],.l r3,.i i0,.i i1] (.b false):=fnM (oL h1 oZ)
theorem v5r (h1:i0≥1) (h2:i0≤9):Fn E Y5 [.i i0] (.b true):=fnM (oT h1 (oT h2 oZ))
theorem v5s (h1:i0≥1) (h2:¬ i0≤9):Fn E Y5 [.i i0] (.b false):=fnM (oT h1 (oU h2 oZ))
theorem v5t (h1:¬ i0≥1):Fn E Y5 [.i i0] (.b false):=fnM (oU h1 oZ)
end Gev
namespace Gev
open Go
theorem wi {n m:Int} (h:n=m∧-9223372036854775808≤m∧m≤9223372036854775807):IntKind.i64.wrap n=m:=by rw [IntKind.wrap_i64]; omega
theorem wu {n m:Int} (h:n=m∧0≤m∧m≤18446744073709551615):IntKind.u64.wrap n=m:=by simp [IntKind.wrap,IntKind.bits,IntKind.signed]; omega
theorem w32 {n m:Int} (h:n=m∧0≤m∧m≤4294967295):IntKind.u32.wrap n=m:=by rw [IntKind.wrap_u32]; omega
theorem w8 {n m:Int} (h:n=m∧0≤m∧m≤255):IntKind.u8.wrap n=m:=by rw [IntKind.wrap_u8]; omega
theorem tdv {a b c:Int} (ha:0≤a) (h:a / b=c):Int.tdiv a b=c:=by rw [Int.tdiv_eq_ediv_of_nonneg ha]; exact h
theorem tmd {a b c:Int} (ha:0≤a) (h:a % b=c):Int.tmod a b=c:=by rw [Int.tmod_eq_emod_of_nonneg ha]; exact h
def Wr (ws:List Int):RW:=ws.map fun x=>[.u32 x]
theorem B3 (ws:List Int):(Wr ws).length=ws.length:=by simp [Wr]
theorem w5j {ws:List Int} {i:Nat} {x:Int} (h:ws[i]?=some x):(Wr ws)[i]?=some [.u32 x]:=by simp [Wr,h]
theorem z2l (ws:List Int) (n:Nat):(Wr ws).take n=Wr (ws.take n):=by simp [Wr,List.map_take]
theorem x3t (ws:List Int) (x:Int):Wr ws++[[.u32 x]]=Wr (ws++[x]):=by simp [Wr]
theorem w8p (ws xs:List Int):Wr ws++Wr xs=Wr (ws++xs):=by simp [Wr]
theorem z7t (ws:List Int) (n:Nat) (x:Int):(Wr ws).set n [.u32 x]=Wr (ws.set n x):=by simp [Wr,List.map_set]
theorem z8x (n:Nat) (x:Int):List.replicate n [DV.u32 x]=Wr (List.replicate n x):=by simp [Wr]
theorem u0i (ws:List Int):∀ x∈Wr ws,x.length=1:=by intro x hx; simp [Wr] at hx; obtain ⟨_,_,rfl⟩:=hx; rfl
theorem getD_some {ws:List Int} {i:Nat} (h:i < ws.length):ws[i]?=some (ws.getD i 0):=by
 rw [List.getD_eq_getElem?_getD,List.getElem?_eq_getElem h]; rfl
theorem G5 {ws:List Int} {i:Nat} (h:i < ws.length):(Wr ws)[i]?=some [.u32 (ws.getD i 0)]:=w5j (getD_some h)
def B (l:List UInt8):BA:=⟨l.toArray⟩
theorem F7 (l:List UInt8):(B l).size=l.length:=by show l.toArray.size=_; simp
theorem y4k (l:List UInt8):(B l).data.toList=l:=by simp [B]
theorem B_of (a:BA):B a.data.toList=a:=by cases a; simp [B]
theorem y5o {l m:List UInt8} (h:B l=B m):l=m:=by have:=congrArg (fun a:BA=>a.data.toList) h; simpa [B] using this
theorem u0e:B []=⟨#[]⟩:=rfl
theorem x5o (l m:List UInt8):B l++B m=B (l++m):=by
 show ByteArray.append _ _=_
 apply bytes_ext
 rw [toList_eq,toList_eq]
 have:(B l++B m).data=(B l).data++(B m).data:=ByteArray.data_append
 rw [show (ByteArray.append (B l) (B m)).data=(B l++B m).data from rfl,this]
 simp [B]
theorem x1w (l:List UInt8) (i j:Nat):(B l).extract i j=B ((l.take j).drop i):=by
 apply bytes_ext
 rw [toList_eq,toList_eq]
 have:((B l).extract i j).data=(B l).data.extract i j:=ByteArray.data_extract
 rw [this]
 simp [B,List.drop_take]
end Gev
namespace Gev
open Go Gb
variable {E:Env}
def cmpI (a b:Int):Int:=if a < b then -1 else if a > b then 1 else 0
theorem u3y (a b:Int):Fn E z2p [.c (.u32 a),.c (.u32 b)] (.c (.i64 (cmpI a b))):=by
 have ha:=x2i (E:=E) (rfl:a=a)
 have hb:=x2i (E:=E) (rfl:b=b)
 unfold cmpI
 by_cases h:a < b
 · rw [if_pos h]; exact k2j ha hb h
 · rw [if_neg h]
   by_cases k:a > b
   · rw [if_pos k]; exact k2k ha hb h k
   · rw [if_neg k]; exact k2l ha hb h k
theorem v8r (a b:Int):Fn E z0z [.c (.i64 a),.c (.i64 b)] (.c (.i64 (cmpI a b))):=by
 have ha:=x9c (E:=E) (rfl:a=a)
 have hb:=x9c (E:=E) (rfl:b=b)
 unfold cmpI
 by_cases h:a < b
 · rw [if_pos h]; exact j3t ha hb h
 · rw [if_neg h]
   by_cases k:a > b
   · rw [if_pos k]; exact j3u ha hb h k
   · rw [if_neg k]; exact j3v ha hb h k
def z3j (ws:List Int):Nat→Nat
 | 0=>0
 | k+1=>if ws.getD k 0=0 then z3j ws k else k+1
theorem j8c (ws:List Int) (k:Nat):z3j ws k≤k:=by
 induction k with
 | zero=>exact Nat.le_refl 0
 | succ k ih=>unfold z3j; split <;> omega
theorem z3k {ws:List Int} (h:Wd ws) {k:Nat} (hk:k≤ws.length):ws.take (z3j ws k)=words (wv (ws.take k)).toNat:=by
 induction k with
 | zero=>simp [z3j,wv,Y4]
 | succ k ih =>
  unfold z3j
  have e:=z2o ws k (by omega)
  by_cases h0:ws.getD k 0=0
  · rw [if_pos h0,ih (by omega),e,h0]; simp
  · rw [if_neg h0]
    refine w2f (h.take _) ?_
    rw [k6d ws k (by omega)]
    exact Tr.snoc h0
theorem v7y (ws:List Int):∀ k,k≤ws.length→k < 9223372036854775807→Lp E 1 C4 0 (z1l k (Wr ws)) (.exit 0) (z5z (Wr ws) (z3j ws k))
 | 0,_,_=>x4v (by omega)
 | k+1,hk,hb=>by
  unfold z3j
  by_cases h0:ws.getD k 0=0
  · rw [if_pos h0]
    exact x8b (i0:=(k:Int)) (i1:=ws.getD k 0) (n2:=k) (wi (by omega)) rfl (by omega) (by omega) (G5 (by omega)) h0 (by omega) (v7y ws k (by omega) (by omega))
  · rw [if_neg h0]
    exact x4u (i0:=(k:Int)) (i1:=ws.getD k 0) (wi (by omega)) (by omega) (by omega) (G5 (by omega)) h0
theorem x7f {ws:List Int} {k:Nat} (hk:k≤ws.length) (hb:k < 9223372036854775807):Rn E C4 [.vec 0 k] [some (.vec A3 (Wr ws))] (.vec 0 (z3j ws k)) [some (.vec A3 (Wr ws))] :=
 j1k (v7y ws k hk hb)
theorem v2f (ws:List Int):∀ k,k≤ws.length→k < 9223372036854775807→Lp E 0 C4 0 (z0r (Wr (ws.take k))) (.exit 0) (z4g (Wr (ws.take (z3j ws k))))
 | 0,_,_=>x3p (by rw [B3]; simp)
 | k+1,hk,hb=>by
  have hl:(ws.take (k+1)).length=k+1:=by simp; omega
  have hg:(Wr (ws.take (k+1)))[Int.toNat (k:Int)]?=some [.u32 (ws.getD k 0)]:=by
   refine w5j ?_
   rw [Int.toNat_natCast,List.getElem?_take_of_lt (by omega)]
   exact getD_some (by omega)
  unfold z3j
  by_cases h0:ws.getD k 0=0
  · rw [if_pos h0]
    refine x6o (i0:=(k:Int)) (i1:=ws.getD k 0) (r2:=Wr (ws.take k)) (wi (by rw [B3,hl]; omega)) ?_ (by rw [B3,hl]; omega) (by omega) hg h0 ⟨by omega,by omega,by rw [B3,hl]; omega,u0i _⟩ (v2f ws k (by omega) (by omega))
    rw [Int.toNat_natCast,List.drop_zero,z2l,List.take_take,Nat.min_eq_left (by omega)]
  · rw [if_neg h0]
    exact x3o (i0:=(k:Int)) (i1:=ws.getD k 0) (wi (by rw [B3,hl]; omega)) (by rw [B3,hl]; omega) (by omega) hg h0
theorem u0b {ws:List Int} (h:Wd ws) (hb:ws.length < 9223372036854775807):Rn E C4 [.c (.list (Wr ws))] [] (.c (.list (Wr (words (wv ws).toNat)))) []:=by
 have:=v2f (E:=E) ws ws.length (Nat.le_refl _) hb
 rw [List.take_length,z3k h (Nat.le_refl _),List.take_length] at this
 exact k3h this
theorem k6f {n:Nat} (h:n < 1000000000000000000):words n=[]∧n=0∨(words n=[(n:Int)]∧n≠0∧n < 1000000000)∨(words n=[((n % 1000000000:Nat):Int),((n / 1000000000:Nat):Int)]∧1000000000≤n):=by
 by_cases h0:n=0
 · exact .inl ⟨by rw [h0,Y4],h0⟩
 · by_cases h1:n < 1000000000
   · refine .inr (.inl ⟨?_,h0,h1⟩)
     rw [x1z h0,show n / 1000000000=0 by omega,Y4,show n % 1000000000=n by omega]
   · refine .inr (.inr ⟨?_,by omega⟩)
     rw [x1z h0,x1z (n:=n / 1000000000) (by omega),show n / 1000000000 / 1000000000=0 by omega,Y4,show n / 1000000000 % 1000000000=n / 1000000000 by omega]
theorem v8c {n:Nat}:(words n).length≤2↔n < 1000000000000000000:=by
 constructor
 · intro h
   have h1:=y2n (B9 n)
   rw [B5] at h1
   have h2:=q6m h
   have:pw 2=1000000000000000000:=by decide
   omega
 · intro h
   exact z6k (by rw [show pw 2=1000000000000000000 by decide]; omega)
theorem v7h {n:Nat} (h:n < 1000000000000000000):Fn E z8s [.c (.u64 n)] (.c (.list (Wr (words n)))):=by
 have hw:Wd [((n % 1000000000:Nat):Int),((n / 1000000000:Nat):Int)]:=Wd.cons (by omega) (by omega) (Wd.cons (by omega) (by omega) Wd.nil)
 have ht:=x7f (E:=E) (ws:=[((n % 1000000000:Nat):Int),((n / 1000000000:Nat):Int)]) (k:=2) (Nat.le_refl _) (by decide)
 refine v9m (i1:=((n % 1000000000:Nat):Int)) (i2:=((n % 1000000000:Nat):Int)) (i3:=((n / 1000000000:Nat):Int)) (i4:=((n / 1000000000:Nat):Int)) (tmd (by omega) (by omega)) (w32 (by omega)) (wu ⟨tdv (by omega) (by omega),by omega,by omega⟩) (w32 (by omega)) ?_ ht
 show (Wr [((n % 1000000000:Nat):Int),((n / 1000000000:Nat):Int)]).take _=_
 rw [z2l,z3k hw (by simp)]
 have:(wv (List.take 2 [((n % 1000000000:Nat):Int),((n / 1000000000:Nat):Int)])).toNat=n:=by simp [wv]; omega
 rw [this]
theorem z7z {n:Nat} (h:n < 1000000000000000000):Fn E C9 [.c (.list (Wr (words n)))] (.tup [.c (.u64 n),.c (.bool true)]):=by
 rcases k6f h with ⟨e,rfl⟩ | ⟨e,h0,h1⟩ | ⟨e,h1⟩
 · rw [e]; exact k7k rfl
 · rw [e]
   exact k7l (i0:=(n:Int)) (i1:=(n:Int)) (wu (by omega)) (by simp [Wr]) (by simp [Wr]) rfl
 · rw [e]
   exact k7m (i0:=((n % 1000000000:Nat):Int)) (i1:=((n % 1000000000:Nat):Int)) (i2:=((n / 1000000000:Nat):Int)) (i3:=((n / 1000000000:Nat):Int)) (i4:=1000000000*((n / 1000000000:Nat):Int)) (i5:=(n:Int))
    (wu (by omega)) (wu (by omega)) (wu (by omega)) (wu (by omega)) (by simp [Wr]) (by simp [Wr]) (by simp [Wr]) rfl rfl
theorem y7b {n:Nat} (h:¬ n < 1000000000000000000):Fn E C9 [.c (.list (Wr (words n)))] (.tup [.c (.u64 0),.c (.bool false)]):=by
 have hl:¬ (words n).length≤2:=fun e=>h (v8c.1 e)
 exact k7n (by rw [B3]; omega) (by rw [B3]; omega) (by rw [B3]; omega)
theorem y9p {xs ys:List Int} (hx:Wd xs) (hy:Wd ys) {i:Nat} (hi:i < xs.length) (hj:i < ys.length) (h:xs.getD i 0 < ys.getD i 0) (he:xs.drop (i+1)=ys.drop (i+1)):wv xs < wv ys:=by
 rw [H3 xs i (by omega),H3 ys i (by omega),X9 xs i hi,X9 ys i hj,he]
 have h1:=y2n (hx.take i)
 have h2:=D4 (hy.take i)
 rw [List.length_take,Nat.min_eq_left (by omega)] at h1
 rw [Int.mul_add,Int.mul_add]
 have h3:pw i*(xs.getD i 0+1)≤pw i*ys.getD i 0:=Int.mul_le_mul_of_nonneg_left (by omega) (by have:=z3d i; omega)
 rw [Int.mul_add,Int.mul_one] at h3
 omega
theorem w1x (xs ys:List Int) (hx:Wd xs) (hy:Wd ys) (hl:xs.length=ys.length) (hb:xs.length < 9223372036854775807):∀ k:Nat,k≤xs.length→xs.drop k=ys.drop k →
    (xs=ys∧Lp E 0 C8 0 (O6 (Wr xs) (Wr ys) ((k:Int) - 1)) (.exit 0) z6z) ∨
    (xs≠ys∧Lp E 0 C8 0 (O6 (Wr xs) (Wr ys) ((k:Int) - 1)) .ret (z6y (cmpI (wv xs) (wv ys))))
 | 0,_,h=>.inl ⟨by simpa using h,x1i (by omega)⟩
 | k+1,hk,h=>by
  have ek:((k+1:Nat):Int) - 1=(k:Int):=by omega
  rw [ek]
  have g1:(Wr xs)[Int.toNat (k:Int)]?=some [.u32 (xs.getD k 0)]:=G5 (by omega)
  have g2:(Wr ys)[Int.toNat (k:Int)]?=some [.u32 (ys.getD k 0)]:=G5 (by omega)
  by_cases h0:xs.getD k 0=ys.getD k 0
  · have hd:xs.drop k=ys.drop k:=by rw [x5w xs k (by omega),x5w ys k (by omega),h0,h]
    rcases w1x xs ys hx hy hl hb k (by omega) hd with ⟨e,ih⟩ | ⟨e,ih⟩
    · exact .inl ⟨e,y3g (wi (by omega)) (by omega) (by omega) g1 g2 h0 ih⟩
    · exact .inr ⟨e,y3g (wi (by omega)) (by omega) (by omega) g1 g2 h0 ih⟩
  · refine .inr ⟨fun e=>h0 (by rw [e]),?_⟩
    have hc:cmpI (wv xs) (wv ys)=cmpI (xs.getD k 0) (ys.getD k 0):=by
     rcases Int.lt_or_gt_of_ne h0 with c | c
     · have:=y9p hx hy (by omega) (by omega) c h
       unfold cmpI; rw [if_pos this,if_pos c]
     · have:=y9p hy hx (by omega) (by omega) c h.symm
       unfold cmpI; rw [if_neg (by omega),if_pos this,if_neg (by omega),if_pos c]
    rw [hc]
    exact x1h (by omega) (by omega) g1 g2 h0 (u3y _ _)
theorem j3s {a b:Int} (h:a=b):cmpI a b=0:=by unfold cmpI; rw [if_neg (by omega),if_neg (by omega)]
theorem x2j {m n:Nat} (hm:(words m).length < 9223372036854775807):Fn E C8 [.c (.list (Wr (words m))),.c (.list (Wr (words n)))] (.c (.i64 (cmpI m n))):=by
 by_cases hl:(words m).length=(words n).length
 · rcases w1x (E:=E) (words m) (words n) (B9 m) (B9 n) hl hm (words m).length (Nat.le_refl _) (by rw [List.drop_length,hl,List.drop_length]) with ⟨e,h⟩ | ⟨e,h⟩
   · have:=v8b e
     subst this
     rw [j3s rfl]
     exact k0i (wi (by rw [B3]; omega)) (by rw [B3]) h
   · rw [B5,B5] at h
     exact k0h (wi (by rw [B3]; omega)) (by rw [B3,B3]; omega) h
 · have hc:cmpI m n=cmpI ((Wr (words m)).length:Int) ((Wr (words n)).length:Int):=by
    rw [B3,B3]
    rcases Nat.lt_or_gt_of_ne hl with c | c
    · have:m < n:=by
       rcases Nat.lt_or_ge m n with h | h
       · exact h
       · have:=(z0u n).length_le (B9 n) (B9 m) (by rw [B5,B5]; omega)
         omega
      unfold cmpI; rw [if_pos (by omega),if_pos (by omega)]
    · have:n < m:=by
       rcases Nat.lt_or_ge n m with h | h
       · exact h
       · have:=(z0u m).length_le (B9 m) (B9 n) (by rw [B5,B5]; omega)
         omega
      unfold cmpI; rw [if_neg (by omega),if_pos (by omega),if_neg (by omega),if_pos (by omega)]
   rw [hc]
   exact k0g (by rw [B3,B3]; omega) (v8r _ _)
end Gev
namespace Gev
open Go Gb
variable {E:Env}
theorem drop_nil {xs:List Int} {i:Nat} (h:xs.length≤i):xs.drop i=[]:=List.drop_eq_nil_of_le h
theorem z9z {xs:List Int} {i:Nat} (h:xs.length≤i):xs.getD i 0=0:=by rw [List.getD_eq_getElem?_getD,List.getElem?_eq_none h]; rfl
theorem y1n (xs:List Int) (i:Nat):wv (xs.drop i)=xs.getD i 0+1000000000*wv (xs.drop (i+1)):=by
 rcases Nat.lt_or_ge i xs.length with h | h
 · exact X9 xs i h
 · rw [drop_nil h,drop_nil (by omega),z9z h]; rfl
theorem u5m (S:Int):(if Int.tmod S 1000000000 < 0 then Int.tmod S 1000000000+1000000000 else Int.tmod S 1000000000)=S % 1000000000:=by
 rw [Int.tmod_eq_emod]
 split <;> split <;> omega
theorem w2s {xs ys:List Int} {sg:Int} (hsg:sg=1∨sg=-1) (hx:Wd xs) (hy:Wd ys) {N:Int} (hN:N < 4611686018427387904) {i:Nat} {c:Int} (hc:-1≤c∧c≤1) {zs:List Int} (hz:zs.length=i) (hi:(i:Int) < N) (hM:i+1≤35184372088832) {o:Out} {st':St}
    (ih:Lp E 1 B4 0 (C2 (Wr xs) (Wr ys) sg (i+1) ((c+xs.getD i 0+sg*ys.getD i 0) / 1000000000) N ((i+1:Nat):Int) (Wr (zs++[(c+xs.getD i 0+sg*ys.getD i 0) % 1000000000]))) o st') :
    Lp E 1 B4 0 (C2 (Wr xs) (Wr ys) sg i c N i (Wr zs)) o st':=by
 have ha:=hx.getD i
 have hb:=hy.getD i
 obtain ⟨a,ea⟩:∃ a,a=xs.getD i 0:=⟨_,rfl⟩
 obtain ⟨b,eb⟩:∃ b,b=ys.getD i 0:=⟨_,rfl⟩
 obtain ⟨p,ep⟩:∃ p,p=sg*b:=⟨_,rfl⟩
 have hp:-1000000000 < p∧p < 1000000000:=by rcases hsg with rfl | rfl <;> omega
 rw [← ea,← eb] at ih
 rw [← ea] at ha
 rw [← eb] at hb
 rw [← ep] at ih
 obtain ⟨S,eS⟩:∃ S,S=c+a+p:=⟨_,rfl⟩
 rw [← eS] at ih
 have gx:i < xs.length→(Wr xs)[Int.toNat (i:Int)]?=some [.u32 a]:=fun h=>by rw [ea]; exact G5 h
 have gy:i < ys.length→(Wr ys)[Int.toNat (i:Int)]?=some [.u32 b]:=fun h=>by rw [eb]; exact G5 h
 have hS:-2000000000 < S∧S < 3000000000:=by omega
 have hlen:(i+1)*4≤140737488355328∧i+1≤140737488355328:=by omega
 have hap:∀ w,(Wr zs).take i++[[DV.u32 w]]=Wr (zs++[w]):=fun w=>by rw [z2l,← hz,List.take_length,x3t]
 have ht:=u5m S
 have hq:Int.tmod S 1000000000 < 0→Int.tdiv S 1000000000 - 1=S / 1000000000:=fun h=>by
  have:=Int.tmod_add_mul_tdiv S 1000000000
  have:=Int.emod_add_mul_ediv S 1000000000
  rw [if_pos h] at ht; omega
 have hq':¬ Int.tmod S 1000000000 < 0→Int.tdiv S 1000000000=S / 1000000000:=fun h=>by
  have:=Int.tmod_add_mul_tdiv S 1000000000
  have:=Int.emod_add_mul_ediv S 1000000000
  rw [if_neg h] at ht; omega
 have hr:0≤S % 1000000000∧S % 1000000000 < 1000000000:=by omega
 have hd:-4≤S / 1000000000∧S / 1000000000≤4:=by omega
 by_cases c1:i < xs.length
 · by_cases c2:i < ys.length
   · by_cases c3:Int.tmod S 1000000000 < 0
     · rw [if_pos c3] at ht
       exact x6b (i5:=a) (i6:=a) (i7:=c+a) (i8:=b) (i9:=b) (i10:=p) (i11:=S) (i13:=Int.tdiv S 1000000000) (wi (by omega)) (wi (by omega)) (wi (by omega)) (wi (by omega)) (wi (by omega)) rfl (wi (by have:=hq c3; omega)) (wi ⟨ht,by omega⟩) (wi ⟨hq c3,by omega⟩) (w32 (by omega)) (hap _) rfl (wi (by omega))
        (by omega) (by rw [B3]; omega) (by omega) (gx c1) (by rw [B3]; omega) (gy c2) c3 hlen ih
     · rw [if_neg c3] at ht
       exact x6c (i5:=a) (i6:=a) (i7:=c+a) (i8:=b) (i9:=b) (i10:=p) (i11:=S) (i12:=S % 1000000000) (wi (by omega)) (wi (by omega)) (wi (by omega)) (wi (by omega)) (wi (by omega)) ht (wi ⟨hq' c3,by omega⟩) (w32 (by omega)) (hap _) rfl (wi (by omega))
        (by omega) (by rw [B3]; omega) (by omega) (gx c1) (by rw [B3]; omega) (gy c2) (by omega) hlen ih
   · have b0:b=0:=by rw [eb]; exact z9z (by omega)
     have p0:p=0:=by rw [ep,b0]; exact Int.mul_zero _
     by_cases c3:Int.tmod S 1000000000 < 0
     · rw [if_pos c3] at ht
       exact x6d (i5:=a) (i6:=a) (i7:=S) (i9:=Int.tdiv S 1000000000) (wi (by omega)) (wi (by omega)) rfl (wi (by have:=hq c3; omega)) (wi ⟨ht,by omega⟩) (wi ⟨hq c3,by omega⟩) (w32 (by omega)) (hap _) rfl (wi (by omega))
        (by omega) (by rw [B3]; omega) (by omega) (gx c1) (by rw [B3]; omega) c3 hlen ih
     · rw [if_neg c3] at ht
       exact x6e (i5:=a) (i6:=a) (i7:=S) (i8:=S % 1000000000) (wi (by omega)) (wi (by omega)) ht (wi ⟨hq' c3,by omega⟩) (w32 (by omega)) (hap _) rfl (wi (by omega))
        (by omega) (by rw [B3]; omega) (by omega) (gx c1) (by rw [B3]; omega) (by omega) hlen ih
 · have a0:a=0:=by rw [ea]; exact z9z (by omega)
   by_cases c2:i < ys.length
   · by_cases c3:Int.tmod S 1000000000 < 0
     · rw [if_pos c3] at ht
       exact x6f (i5:=b) (i6:=b) (i7:=p) (i8:=S) (i10:=Int.tdiv S 1000000000) (wi (by omega)) (wi (by omega)) (wi (by omega)) rfl (wi (by have:=hq c3; omega)) (wi ⟨ht,by omega⟩) (wi ⟨hq c3,by omega⟩) (w32 (by omega)) (hap _) rfl (wi (by omega))
        (by omega) (by rw [B3]; omega) (by rw [B3]; omega) (by omega) (gy c2) c3 hlen ih
     · rw [if_neg c3] at ht
       exact x6g (i5:=b) (i6:=b) (i7:=p) (i8:=S) (i9:=S % 1000000000) (wi (by omega)) (wi (by omega)) (wi (by omega)) ht (wi ⟨hq' c3,by omega⟩) (w32 (by omega)) (hap _) rfl (wi (by omega))
        (by omega) (by rw [B3]; omega) (by rw [B3]; omega) (by omega) (gy c2) (by omega) hlen ih
   · have b0:b=0:=by rw [eb]; exact z9z (by omega)
     have p0:p=0:=by rw [ep,b0]; exact Int.mul_zero _
     have e0:S=c:=by omega
     subst e0
     by_cases c3:Int.tmod S 1000000000 < 0
     · rw [if_pos c3] at ht
       exact x6h (i6:=Int.tdiv S 1000000000) rfl (wi (by have:=hq c3; omega)) (wi ⟨ht,by omega⟩) (wi ⟨hq c3,by omega⟩) (w32 (by omega)) (hap _) rfl (wi (by omega))
        (by omega) (by rw [B3]; omega) (by rw [B3]; omega) c3 hlen ih
     · rw [if_neg c3] at ht
       exact x6i (i5:=S % 1000000000) ht (wi ⟨hq' c3,by omega⟩) (w32 (by omega)) (hap _) rfl (wi (by omega))
        (by omega) (by rw [B3]; omega) (by rw [B3]; omega) (by omega) hlen ih
theorem q8p {xs ys:List Int} {sg:Int} (hsg:sg=1∨sg=-1) (hx:Wd xs) (hy:Wd ys) {N:Nat} (hN:N < 35184372088832):∀ d i c zs,i+d=N→-1≤c∧c≤1→zs.length=i→Wd zs →
    ∃ c' zs',Lp E 1 B4 0 (C2 (Wr xs) (Wr ys) sg i c N i (Wr zs)) (.exit 0) (z4f N c' (Wr zs'))∧zs'.length=N∧Wd zs'∧(-1≤c'∧c'≤1) ∧
     wv zs'+pw N*(c'+wv (xs.drop N)+sg*wv (ys.drop N))=wv zs+pw i*(c+wv (xs.drop i)+sg*wv (ys.drop i))
 | 0,i,c,zs,hi,hc,hz,hw=>by
  have:i=N:=by omega
  subst this
  exact ⟨c,zs,x3e (by omega),hz,hw,hc,rfl⟩
 | d+1,i,c,zs,hi,hc,hz,hw=>by
  have ha:=hx.getD i
  have hb:=hy.getD i
  obtain ⟨p,ep⟩:∃ p,p=sg*ys.getD i 0:=⟨_,rfl⟩
  have hp:-1000000000 < p∧p < 1000000000:=by rcases hsg with rfl | rfl <;> omega
  obtain ⟨S,eS⟩:∃ S,S=c+xs.getD i 0+sg*ys.getD i 0:=⟨_,rfl⟩
  rw [← ep] at eS
  have hr:0≤S % 1000000000∧S % 1000000000 < 1000000000:=by omega
  obtain ⟨c',zs',h1,h2,h3,h4,h5⟩:=q8p hsg hx hy hN d (i+1) (S / 1000000000) (zs++[S % 1000000000]) (by omega) (by omega) (by simp [hz]) (hw.append (Wd.cons hr.1 hr.2 Wd.nil))
  refine ⟨c',zs',w2s hsg hx hy (by omega) hc hz (by omega) (by omega) (by rw [← ep,← eS]; exact h1),h2,h3,h4,?_⟩
  rw [h5,y2o,hz,y1n xs i,y1n ys i,z6s]
  have e1:S % 1000000000=S - 1000000000*(S / 1000000000):=by omega
  rw [e1,eS,ep]
  grind
theorem w2r {xs ys:List Int} {sg:Int} (hsg:sg=1∨sg=-1) (hx:Wd xs) (hy:Wd ys) (h1:xs.length < 35184372088000) (h2:ys.length < 35184372088000) :
    ∃ c zs,Fn E B4 [.c (.list (Wr xs)),.c (.list (Wr ys)),.c (.i64 sg)] (.c (.list (Wr (if c > 0 then zs++[c] else zs))))∧zs.length=max xs.length ys.length∧Wd zs∧(-1≤c∧c≤1)∧wv zs+pw (max xs.length ys.length)*c=wv xs+sg*wv ys:=by
 obtain ⟨c,zs,k1,k2,k3,k4,k5⟩:=q8p (E:=E) hsg hx hy (N:=max xs.length ys.length) (by omega) (max xs.length ys.length) 0 0 [] (by omega) (by omega) rfl Wd.nil
 rw [drop_nil (xs:=xs) (by omega),drop_nil (xs:=ys) (by omega),List.drop_zero,List.drop_zero,x8d] at k5
 have e5:wv zs+pw (max xs.length ys.length)*c=wv xs+sg*wv ys:=by
  rw [show wv []=0 from rfl] at k5
  have:c+0+sg*0=c:=by omega
  rw [this] at k5
  omega
 have em:(if ((Wr ys).length:Int) > ((Wr xs).length:Int) then ((Wr ys).length:Int) else ((Wr xs).length:Int))=((max xs.length ys.length:Nat):Int):=by
  rw [B3,B3]; split <;> omega
 have hcap:0≤(0:Int)∧(0:Int)≤(xs.length:Int)+1∧(Int.toNat ((xs.length:Int)+1))*4≤140737488355328∧(Int.toNat ((xs.length:Int)+1))≤140737488355328:=by omega
 have tk:(Wr zs).take (max xs.length ys.length)=Wr zs:=by rw [← k2,z2l,List.take_length]
 refine ⟨c,zs,?_,k2,k3,k4,e5⟩
 by_cases hc:c > 0
 · rw [if_pos hc]
   refine k7h (i1:=(xs.length:Int)+1) (i4:=c) (r3:=Wr (zs++[c])) (wi (by rw [B3]; omega)) em (w32 (by omega)) (by rw [tk,x3t]) rfl ?_ hcap k1 hc (by omega)
   rw [z2l,List.take_of_length_le (by simp; omega)]
 · rw [if_neg hc]
   exact k7i (i1:=(xs.length:Int)+1) (wi (by rw [B3]; omega)) em tk hcap k1 hc
theorem u4u {m n:Nat} (h1:(words m).length < 35184372088000) (h2:(words n).length < 35184372088000):Fn E z5d [.c (.list (Wr (words m))),.c (.list (Wr (words n)))] (.c (.list (Wr (words (m+n))))):=by
 obtain ⟨c,zs,k1,k2,k3,k4,k5⟩:=w2r (E:=E) (.inl rfl) (B9 m) (B9 n) h1 h2
 refine j1j ?_
 have hv:=B5 m
 have hv':=B5 n
 rw [hv,hv',Int.one_mul] at k5
 have hz:=y2n k3
 have hz0:=D4 k3
 have hpos:=z3d (max (words m).length (words n).length)
 rw [k2] at hz
 have hc0:0≤c:=by
  rcases Int.lt_or_le c 0 with h | h
  · have:c=-1:=by omega
    subst this
    rw [Int.mul_neg,Int.mul_one] at k5
    omega
  · exact h
 have e:(if c > 0 then zs++[c] else zs)=words (m+n):=by
  have hval:wv (if c > 0 then zs++[c] else zs)=((m+n:Nat):Int):=by
   split
   · rw [y2o,k2,k5]; omega
   · have:c=0:=by omega
     subst this
     rw [Int.mul_zero] at k5; omega
  have hwd:Wd (if c > 0 then zs++[c] else zs):=by
   split
   · exact k3.append (Wd.cons hc0 (by omega) Wd.nil)
   · exact k3
  rw [← show (((m+n:Nat):Int)).toNat=m+n from rfl,← hval]
  refine w2f hwd ?_
  split
  · exact Tr.snoc (by omega)
  · rename_i hn
    have hc:c=0:=by omega
    subst hc
    rw [Int.mul_zero] at k5
    intro hl
    by_cases hzn:zs=[]
    · rw [hzn] at hl; cases hl
    · obtain ⟨ys,y,rfl⟩:∃ ys y,zs=ys++[y]:=by
       rcases List.eq_nil_or_concat zs with h | ⟨ys,y,h⟩
       · exact absurd h hzn
       · exact ⟨ys,y,by rw [h,List.concat_eq_append]⟩
      have hy:y=0:=by simpa using hl
      subst hy
      rw [y2o,Int.mul_zero] at k5
      have h6:=y2n k3.left
      simp only [List.length_append,List.length_singleton] at k2
      have h7:wv ys+0=(m:Int)+n:=by omega
      rcases Nat.le_total (words m).length (words n).length with hmn | hmn
      · have hne:words n≠[]:=by intro h0; rw [h0] at k2 hmn; simp at hmn; rw [hmn] at k2; simp at k2
        have h8:=(z0u n).val_ge (B9 n) hne
        rw [hv',show (words n).length - 1=ys.length by omega] at h8
        omega
      · have hne:words m≠[]:=by intro h0; rw [h0] at k2 hmn; simp at hmn; rw [hmn] at k2; simp at k2
        have h8:=(z0u m).val_ge (B9 m) hne
        rw [hv,show (words m).length - 1=ys.length by omega] at h8
        omega
 rw [e] at k1
 exact k1
theorem u1o {m n:Nat} (h1:(words m).length < 35184372088000) (hmn:n≤m):Fn E z3w [.c (.list (Wr (words m))),.c (.list (Wr (words n)))] (.c (.list (Wr (words (m - n))))):=by
 have hle:(words n).length≤(words m).length:=(z0u n).length_le (B9 n) (B9 m) (by rw [B5,B5]; omega)
 obtain ⟨c,zs,k1,k2,k3,k4,k5⟩:=w2r (E:=E) (.inr rfl) (B9 m) (B9 n) h1 (by omega)
 rw [B5,B5] at k5
 have hz:=y2n k3
 have hz0:=D4 k3
 have hpos:=z3d (max (words m).length (words n).length)
 rw [k2] at hz
 have hm:=y2n (B9 m)
 rw [B5] at hm
 rw [Nat.max_eq_left hle] at k5 k2 hz hpos
 have hc:c=0:=by
  rcases Int.lt_trichotomy c 0 with h | h | h
  · have:c=-1:=by omega
    subst this
    rw [Int.mul_neg,Int.mul_one] at k5
    omega
  · exact h
  · have:c=1:=by omega
    subst this
    rw [Int.mul_one] at k5
    omega
 subst hc
 rw [if_neg (by decide)] at k1
 refine k7j k1 ?_
 have:=u0b (E:=E) k3 (by omega)
 rw [show (wv zs).toNat=m - n by omega] at this
 exact this
end Gev
namespace Gev
open Go Gb
variable {E:Env}
theorem y3x {xs:List Int} {i:Nat} (h:i < xs.length) (x:Int):(xs.set i x).getD i 0=x:=by
 rw [List.getD_eq_getElem?_getD,List.getElem?_set_self h]; rfl
theorem O5 {xs:List Int} {i j:Nat} (h:i≠j) (x:Int):(xs.set i x).getD j 0=xs.getD j 0:=by
 rw [List.getD_eq_getElem?_getD,List.getD_eq_getElem?_getD,List.getElem?_set_ne h]
theorem k5w {x y:Int} (hx:0≤x∧x < 1000000000) (hy:0≤y∧y < 1000000000):0≤x*y∧x*y≤999999998000000001:=by
 constructor
 · exact Int.mul_nonneg hx.1 hy.1
 · have:=Int.mul_le_mul (show x≤999999999 by omega) (show y≤999999999 by omega) hy.1 (by decide)
   omega
theorem Wd.at {xs:List Int} (h:Wd xs) {i:Nat}:0≤xs.getD i 0∧xs.getD i 0 < 1000000000:=h.getD i
theorem alg1 {O O0 P K c T x y w S q r p:Int} (hv:O+P*K*c=O0+P*(x*T)) (ep:p=x*y) (hS:S=c+(p+w)) (hr:r+1000000000*q=S):O+P*K*(r - w)+1000000000*(P*K)*q=O0+P*(x*(T+K*y)):=by
 have e:r=c+x*y+w - 1000000000*q:=by omega
 subst e
 grind
theorem alg2 {A x w S q r V:Int} (hS:S=r*1000000000+x) (hr:A+w*q=S):(q+1000000000*V)*w+A=x+1000000000*(V*w+r):=by
 have e:A=r*1000000000+x - w*q:=by omega
 subst e
 grind
theorem q2h {xs ys:List Int} (hy:Wd ys) {N i:Nat} {x:Int} (hx:0≤x∧x < 1000000000) (hN:N < 4611686018427387904) (hiN:i+ys.length≤N) {out0:List Int} :
    ∀ d k c out,k+d=ys.length→0≤c∧c < 1000000000→Wd out→out.length=N→(∀ j,i+k≤j→out.getD j 0=out0.getD j 0) →
    wv out+pw (i+k)*c=wv out0+pw i*(x*wv (ys.take k)) →
    ∃ c' out',Lp E 1 D2 1 (z3a (Wr ys) N i x c (Wr xs) xs.length i (Wr ys) ys.length k (Wr out)) (.exit 2) (z9c (Wr ys) N i (Wr xs) xs.length i c' (Wr out')) ∧
     (0≤c'∧c' < 1000000000)∧Wd out'∧out'.length=N∧(∀ j,i+ys.length≤j→out'.getD j 0=out0.getD j 0)∧wv out'+pw (i+ys.length)*c'=wv out0+pw i*(x*wv ys)
 | 0,k,c,out,hk,hc,hw,hl,hj,hv=>by
  have:k=ys.length:=by omega
  subst this
  rw [List.take_length] at hv
  exact ⟨c,out,x3n (by omega),hc,hw,hl,hj,hv⟩
 | d+1,k,c,out,hk,hc,hw,hl,hj,hv=>by
  have hyk:=hy.getD k
  obtain ⟨y,ey⟩:∃ y,y=ys.getD k 0:=⟨_,rfl⟩
  rw [← ey] at hyk
  have ho:=hw.getD (i+k)
  obtain ⟨w,ew⟩:∃ w,w=out.getD (i+k) 0:=⟨_,rfl⟩
  rw [← ew] at ho
  have hxy:=k5w hx hyk
  obtain ⟨p,ep⟩:∃ p,p=x*y:=⟨_,rfl⟩
  rw [← ep] at hxy
  obtain ⟨S,eS⟩:∃ S,S=c+(p+w):=⟨_,rfl⟩
  have hS:0≤S∧S≤999999999999999999:=by omega
  have hik:i+k < out.length:=by omega
  obtain ⟨c',out',k1,k2,k3,k4,k5,k6⟩:=q2h hy hx hN hiN (out0:=out0) d (k+1) (S / 1000000000) (out.set (i+k) (S % 1000000000)) (by omega) (by omega) (hw.set _ (by omega) (by omega)) (by simpa using hl)
   (fun j h=>by rw [O5 (by omega)]; exact hj j (by omega)) (by
    rw [y4j out (i+k) hik,← ew,z2o ys k (by omega),← ey,← Nat.add_assoc,z6s,y4p]
    rw [y4p] at hv
    exact alg1 hv ep eS (Int.emod_add_mul_ediv S 1000000000))
  refine ⟨c',out',?_,k2,k3,k4,k5,k6⟩
  refine x6n (i8:=y) (i9:=x) (i10:=y) (i11:=p) (i12:=((i+k:Nat):Int)) (i13:=w) (i14:=w) (i15:=p+w) (i16:=S) (i17:=S % 1000000000) (i18:=S % 1000000000) (r5:=Wr (out.set (i+k) (S % 1000000000))) (i19:=S / 1000000000) (i20:=((k+1:Nat):Int))
   (wu (by omega)) (wu (by omega)) (wu (by omega)) (wi (by omega)) (wu (by omega)) (wu (by omega)) (wu (by omega)) (tmd hS.1 rfl) (w32 (by omega)) ?_ (wu ⟨tdv hS.1 rfl,by omega,by omega⟩) (wi (by omega))
   (by omega) (by omega) (by rw [ey]; exact G5 (by omega)) (by omega) (by rw [ew]; exact G5 hik) k1
  rw [Int.toNat_natCast,z7t]
theorem q2i {xs ys:List Int} (hx:Wd xs) (hy:Wd ys) {N:Nat} (hN:N < 4611686018427387904) (hl:N=xs.length+ys.length) :
    ∀ d i out,i+d=xs.length→Wd out→out.length=N→(∀ j,i+ys.length≤j→out.getD j 0=0)→wv out=wv (xs.take i)*wv ys →
    ∃ out',Lp E 1 D2 0 (z2z (Wr ys) N (Wr xs) xs.length i (Wr out)) (.exit 0) (z9b N (Wr out'))∧Wd out'∧out'.length=N∧wv out'=wv xs*wv ys
 | 0,i,out,hi,hw,ho,_,hv=>by
  have:i=xs.length:=by omega
  subst this
  rw [List.take_length] at hv
  exact ⟨out,x3m (by omega),hw,ho,hv⟩
 | d+1,i,out,hi,hw,ho,hj,hv=>by
  have hxi:=hx.getD i
  obtain ⟨x,ex⟩:∃ x,x=xs.getD i 0:=⟨_,rfl⟩
  rw [← ex] at hxi
  obtain ⟨c',out1,k1,k2,k3,k4,k5,k6⟩:=q2h (E:=E) (xs:=xs) hy hxi hN (i:=i) (by omega) (out0:=out) ys.length 0 0 out (by omega) (by omega) hw ho (fun _ _=>rfl) (by simp [wv])
  have hik:i+ys.length < out1.length:=by omega
  have h0:out1.getD (i+ys.length) 0=0:=by rw [k5 _ (Nat.le_refl _)]; exact hj _ (Nat.le_refl _)
  obtain ⟨out',g1,g2,g3,g4⟩:=q2i hx hy hN hl d (i+1) (out1.set (i+ys.length) c') (by omega) (k3.set _ k2.1 k2.2) (by simp [k4])
   (fun j h=>by rw [O5 (by omega),k5 j (by omega)]; exact hj j (by omega)) (by
    rw [y4j out1 _ hik,h0,z2o xs i (by omega),← ex,Int.sub_zero,k6,hv]
    grind)
  refine ⟨out',?_,g2,g3,g4⟩
  refine x6m (i2:=x) (i3:=c') (r4:=Wr out1) (i4:=((i+ys.length:Nat):Int)) (i5:=c') (i6:=0) (r5:=Wr (out1.set (i+ys.length) c')) (i7:=((i+1:Nat):Int))
   (wi (by rw [B3]; omega)) (w32 (by omega)) (by rw [Int.toNat_natCast,z7t]) (wi (by omega)) (by omega) (by omega) (by rw [ex]; exact G5 (by omega)) (by rw [B3]; exact k1) (by omega) (by rw [← h0]; exact G5 hik) g1
theorem w9z {a b:Int} {m n:Nat} (ha:a=m) (hb:b=n):(a*b).toNat=m*n:=by
 rw [ha,hb,← Int.natCast_mul]; rfl
theorem v2e {m n:Nat} (hl:(words m).length+(words n).length < 35184372088000):∃ k xs,Rn E D2 [.c (.list (Wr (words m))),.c (.list (Wr (words n)))] [] (.vec 0 k) [some (.vec A3 (Wr xs))]∧xs.take k=words (m*n)∧k≤xs.length∧xs.length=(words m).length+(words n).length:=by
 obtain ⟨out,k1,k2,k3,k4⟩:=q2i (E:=E) (B9 m) (B9 n) (N:=(words m).length+(words n).length) (by omega) rfl (words m).length 0 (List.replicate ((words m).length+(words n).length) 0) (by omega) (Wd.replicate _) (by simp)
  (fun j _=>by rw [List.getD_eq_getElem?_getD,List.getElem?_replicate]; split <;> rfl) (by rw [j0a]; simp [wv])
 have ht:=x7f (E:=E) (ws:=out) (k:=(words m).length+(words n).length) (by omega) (by omega)
 have hw:=z3k k2 (k:=(words m).length+(words n).length) (by omega)
 rw [← k3,List.take_length,k4,w9z (B5 m) (B5 n),k3] at hw
 refine ⟨z3j out ((words m).length+(words n).length),out,?_,hw,by have:=j8c out ((words m).length+(words n).length); omega,k3⟩
 refine k7o (i0:=(((words m).length+(words n).length:Nat):Int)) (n0:=(words m).length+(words n).length) (r2:=Wr (List.replicate ((words m).length+(words n).length) 0)) (wi (by rw [B3,B3]; omega)) (Int.toNat_natCast _) (z8x _ _) (by omega) ?_ ht
 rw [B3]; exact k1
theorem u3k {m n:Nat} (hl:(words m).length+(words n).length < 35184372088000):Fn E D2 [.c (.list (Wr (words m))),.c (.list (Wr (words n)))] (.c (.list (Wr (words (m*n))))):=by
 obtain ⟨k,xs,h,hk,_,_⟩:=v2e (E:=E) hl
 have:=h.toFn hTT E.hs hmm
 rwa [z2l,hk] at this
theorem w7m {xs:List Int} (hx:Wd xs) {N:Nat} (hN:xs.length=N) (hb:N < 4611686018427387904) {w:Int} (hw:0 < w∧w < 1000000000):∀ k rest out,k≤N→0≤rest∧rest < w→Wd out→out.length=N →
    wv (out.drop k)*w+rest=wv (xs.drop k) →
    ∃ rest' out',Lp E 1 Y8 0 (z6r (Wr xs) w N rest ((k:Int) - 1) (Wr out)) (.exit 0) (y3m N rest' (Wr out'))∧(0≤rest'∧rest' < w)∧Wd out'∧out'.length=N∧wv out'*w+rest'=wv xs
 | 0,rest,out,_,hr,ho,hl,hv=>by
  rw [List.drop_zero,List.drop_zero] at hv
  exact ⟨rest,out,x8a (by omega),hr,ho,hl,hv⟩
 | k+1,rest,out,hk,hr,ho,hl,hv=>by
  have ek:((k+1:Nat):Int) - 1=(k:Int):=by omega
  rw [ek]
  have hxk:=hx.getD k
  obtain ⟨x,ex⟩:∃ x,x=xs.getD k 0:=⟨_,rfl⟩
  rw [← ex] at hxk
  obtain ⟨S,eS⟩:∃ S,S=rest*1000000000+x:=⟨_,rfl⟩
  have hS:0≤S∧S < w*1000000000:=by omega
  have hq0:0≤S / w:=Int.ediv_nonneg hS.1 (by omega)
  have hq:S / w < 1000000000:=Int.ediv_lt_of_lt_mul (by omega) (by rw [Int.mul_comm]; exact hS.2)
  have hm0:=Int.emod_nonneg S (show w≠0 by omega)
  have hm1:=Int.emod_lt_of_pos S (show 0 < w by omega)
  have hdm:=Int.emod_add_mul_ediv S w
  have hkl:k < out.length:=by omega
  have hd:(out.set k (S / w)).drop (k+1)=out.drop (k+1):=List.drop_set_of_lt (Nat.lt_succ_self k)
  obtain ⟨rest',out',k1,k2,k3,k4,k5⟩:=w7m hx hN hb hw k (S % w) (out.set k (S / w)) (by omega) ⟨hm0,hm1⟩ (ho.set _ hq0 hq) (by simp [hl]) (by
   rw [y1n _ k,y1n xs k,← ex,y3x hkl,hd,← hv]
   exact alg2 eS hdm)
  refine ⟨rest',out',?_,k2,k3,k4,k5⟩
  exact k3d (i4:=rest*1000000000) (i5:=x) (i6:=x) (i7:=S) (i8:=S / w) (i9:=S / w) (i10:=out.getD k 0) (r3:=Wr (out.set k (S / w))) (i11:=S % w) (i12:=(k:Int) - 1)
   (wu (by omega)) (wu (by omega)) (wu (by omega)) (wu ⟨tdv hS.1 rfl,hq0,by omega⟩) (w32 (by omega)) (by rw [Int.toNat_natCast,z7t]) (tmd hS.1 rfl) (wi (by omega))
   (by omega) (by omega) (by rw [ex]; exact G5 (by omega)) (by omega) (by omega) (G5 hkl) k1
theorem by_ok {n w:Nat} (hw:0 < w∧w < 1000000000) (hl:(words n).length < 35184372088000):Fn E Y8 [.c (.list (Wr (words n))),.c (.u64 w)] (.tup [.c (.list (Wr (words (n / w)))),.c (.list (Wr (words (n % w))))]):=by
 obtain ⟨rest,out,k1,k2,k3,k4,k5⟩:=w7m (E:=E) (B9 n) (N:=(words n).length) rfl (by omega) (w:=w) (by omega) (words n).length 0 (List.replicate (words n).length 0) (Nat.le_refl _) (by omega) (Wd.replicate _) (by simp)
  (by rw [drop_nil (by simp),drop_nil (Nat.le_refl _)]; simp [wv])
 rw [B5] at k5
 have h0:=D4 k3
 obtain ⟨q,hq⟩:∃ q:Nat,wv out=q:=⟨(wv out).toNat,by omega⟩
 obtain ⟨r,hr⟩:∃ r:Nat,rest=r:=⟨rest.toNat,by omega⟩
 rw [hq,hr] at k5
 subst hr
 have hn:q*w+r=n:=by
  have:((q*w+r:Nat):Int)=n:=by rw [Int.natCast_add,Int.natCast_mul]; exact k5
  omega
 have hrw:r < w:=by omega
 have e1:n / w=q:=by rw [← hn,Nat.mul_comm,Nat.mul_add_div (by omega),Nat.div_eq_of_lt hrw,Nat.add_zero]
 have e2:n % w=r:=by rw [← hn,Nat.mul_comm,Nat.mul_add_mod,Nat.mod_eq_of_lt hrw]
 rw [e1,e2]
 have ht:=x7f (E:=E) (ws:=out) (k:=(words n).length) (by omega) (by omega)
 have hw':=z3k k3 (k:=(words n).length) (by omega)
 rw [← k4,List.take_length,hq,k4] at hw'
 refine j9c (n0:=(words n).length) (r1:=Wr (List.replicate (words n).length 0)) (i1:=((words n).length:Int) - 1) (i2:=(r:Int)) (r2:=Wr out) (r3:=Wr (words r)) (by rw [B3]; rfl) (z8x _ _) (wi (by rw [B3]; omega)) ?_ ?_ k1 ht (v7h (by omega))
 · rw [z2l]; exact congrArg Wr hw'
 · rw [B3]; omega
end Gev
