/- A part of the proof: see the last text of this claim. -/
import Derived.Test.YtfjcadbekkfddaaGreatDoorD
import Derived.Shelf.Strings.Builder1
import Derived.Shelf.Strings.Builder2
import Derived.Shelf.Small.Wraps
import Derived.Shelf.Strings.BuilderF
import Derived.Shelf.Strings.BuilderK
import Derived.Shelf.Strconv.Itoa0
import Derived.Shelf.Strconv.Itoa1
import Derived.Shelf.LaysM
import Derived.Shelf.Strconv.Itoa2
import Derived.Shelf.Strconv.Itoa3
import Derived.Shelf.Strconv.Itoa4
import Derived.Shelf.Strconv.ParseIntEmpty
import Derived.Shelf.Strconv.Clone
import Derived.Shelf.Strconv.SyntaxError
import Derived.Shelf.LaysC
import Derived.Shelf.Strconv.ToError
import Derived.Shelf.Strconv.Lower
import Derived.Shelf.Strconv.ParseUint10
import Derived.Shelf.Strconv.ParseUint10Empty
import Derived.Shelf.Strconv.ParseUint10Any
import Derived.Shelf.Strconv.ParseInt10
import Derived.Shelf.Strconv.RangeError
import Derived.Shelf.Strconv.ToErrorRange
import Derived.Shelf.Strconv.ParseUintEmpty
import Derived.Shelf.Strconv.ParseUint10b64
import Derived.Shelf.Strconv.ParseUint10b32
import Derived.Shelf.Strconv.ParseUint10b16
import Derived.Shelf.Strconv.ParseUint10b8
import Derived.Shelf.Strconv.ParseUint10At
import Derived.Shelf.Strconv.ParseInt10At64
import Derived.Shelf.Strconv.ParseInt10At32
import Derived.Shelf.Strconv.ParseInt10At16
import Derived.Shelf.Strconv.ParseInt10At8
import Derived.Shelf.Strconv.ParseInt10All
import Derived.Shelf.Strconv.ParseIntPublic10
import Derived.Ground.MpProg
import Derived.Shelf.Pu.ParseUintPublic10
import Derived.Shelf.Strings.Search1
import Derived.Shelf.Strings.Search2
import Derived.Shelf.Strings.Cut
import Derived.Shelf.Strings.Shaped
import Derived.Shelf.Strings.Prefix
import Derived.Shelf.Bits.Mul64
import Derived.Shelf.Strings.Repeat
import Derived.Ground.Names2Prog
import Derived.Shelf.Slices.SearchI
import Derived.Test.YtfjcadbekkfddaaGreatDoorProg
import Derived.Lib.Walk
import Derived.Lib.ItoaMem
import Derived.WalkKit
import Derived.BigCall
import Derived.BigGuard
import Derived.RangeFuncNested
import Derived.RangeFuncBound
import Derived.RangeFuncCalls
import Derived.RangeFuncLeaves
import Derived.Shelf.Abstract
import Derived.Shelf.RegionOpen
import Derived.OwnWalkIn
import Derived.TacticsInMore
import Derived.LoopNIn
import Derived.LoopIn
import Derived.RangeFuncFrom
import Derived.RangeFuncBox
import Derived.MapKept
import Derived.RangeFuncRecord
import Derived.Deep.RegionWith
import Derived.RegionTactic
import Derived.ChangeAlike
import Derived.Shelf.SlicesE.Clone
import GoSem.ClaimChange
import Derived.WideShapes
import Derived.ChangeArms
import Derived.Test.YtfjcadbekkfddaaGreatDoorRows
import Derived.Lib.LaidTab
import Derived.ProofKit
import Derived.LaidMore
import Derived.Stop.Joined
import Derived.SizedLaws
import Derived.OpenShut
import Derived.HandedShaped
set_option linter.unusedSectionVars false
set_option linter.unusedVariables false
set_option linter.unusedSimpArgs false
namespace Gev
open Go Gb
variable {E:Env}
attribute [local irreducible] Sz
def uq (n i:Nat):RW:=(List.range n).map fun j=>if j<i then Qr 0 else [.bool false,.list [],.list []]
theorem q1p {a:TR} (hl:a.length≤1000):Fn E N2 [.l (R1 a),.l (R1 a)] (.b true):=by
 have e:=N5 a
 have key:∀ d i,i+d=a.length→Lp E 0 N2 0 (z1g (R1 a) (R1 a) (i:Nat)) (.exit 0) z5t:=by
  intro d
  induction d with
  | zero=>intro i h;exact y8s (by omega)
  | succ d ih =>
   intro i h
   obtain ⟨x,hx⟩:=x8i (l:=a) (i:=i) (by omega)
   exact x2j (by omega) (by omega) (y0v hx) (y0v hx) rfl (wi (by omega)) (ih (i+1) (by omega))
 exact k1x rfl (key a.length 0 (by omega))
theorem r_Same {a:TM} (hl:a.length≤1000) (hr:∀ r∈a,r.length≤1000):Fn E U1 [.l (T2 a),.l (T2 a)] (.b true):=by
 have e:=z0p a
 have key:∀ d i,i+d=a.length→Lp E 0 U1 0 (z6d (T2 a) (T2 a) (i:Nat)) (.exit 0) y1f:=by
  intro d
  induction d with
  | zero=>intro i h;exact x7e (by omega)
  | succ d ih =>
   intro i h
   obtain ⟨x,hx⟩:=x8i (l:=a) (i:=i) (by omega)
   exact k1y (by omega) (by omega) (z6l hx) (z6l hx) (q1p (hr x (List.mem_of_getElem? hx))) (wi (by omega)) (ih (i+1) (by omega))
 exact j6s rfl (key a.length 0 (by omega))
theorem j7s {a:TR} (hl:a.length≤1000):Fn E J2 [.l (R1 a),.l (R1 a)] (.b true):=by
 have e:=N5 a
 have key:∀ d i,i+d=a.length→Lp E 0 J2 0 (Y4 (R1 a) (R1 a) (a.length:Nat) (i:Nat)) (.exit 0) z4d:=by
  intro d
  induction d with
  | zero=>intro i h;exact y5q (by omega)
  | succ d ih =>
   intro i h
   obtain ⟨x,hx⟩:=x8i (l:=a) (i:=i) (by omega)
   exact y8v (by omega) (by omega) (y0v hx) (y0v hx) rfl (wi (by omega)) (ih (i+1) (by omega))
 exact x7g rfl (by rw [e];exact key a.length 0 (by omega))
def fewL (l:TR) (n:Nat):Bool:=!(l.any fun x=>decide (20<x.length)) && (decide (l.length≤n) || decide (l.length=13))
def few (a:TM):Bool:=!(a.any fun r=>!fewL r 4) && (decide (a.length≤5) || decide (a.length=13))
theorem j2v {l:TR} {n:Nat} (hl:l.length≤9223372036854775807):Fn E G3 [.l (R1 l),.i (n:Nat)] (.b (fewL l n)):=by
 have e:=N5 l
 have h:=z7f (E:=E) (n:=0) (F:=G3) (k:=0) (l:=l) (fun _ x=>decide (20<x.length)) (fun i=>P5 (R1 l) (n:Nat) (i:Nat)) (oe:=.exit 0) (fin:=z6v (R1 l) (n:Nat)) (fun i _ o s=>o=.ret∧s=z6u)
  (y9y (by omega))
  (fun i x hx hp o s ih=>by
   have hi:=z7r hx
   have hs:=C5 x
   exact x4r (by omega) (by omega) (y0v hx) (by simp at hp;omega) (wi (by omega)) ih)
  (fun i x hx hp=>by
   have hi:=z7r hx
   have hs:=C5 x
   exact ⟨_,_,⟨rfl,rfl⟩,y9x (by omega) (by omega) (y0v hx) (by simp at hp;omega)⟩) l.length 0 (by omega)
 unfold fewL
 rcases h with ⟨h1,h2⟩ | ⟨j,x,_,_,_,h2,h3,_,⟨rfl,rfl⟩,h4⟩
 · have e2:(l.any fun x=>decide (20<x.length))=false:=by
    rw [List.any_eq_false];intro x hx
    obtain ⟨j,hj⟩:=List.mem_iff_getElem?.1 hx
    rw [h1 j x (Nat.zero_le _) hj];simp
   rw [e2]
   by_cases c1:l.length≤n
   · rw [decide_eq_true c1];exact k4e h2 (by omega)
   · rw [decide_eq_false c1]
     by_cases c2:l.length=13
     · rw [decide_eq_true c2];exact k4f h2 (by omega) (by omega)
     · rw [decide_eq_false c2];exact k4g h2 (by omega) (by omega)
 · have e2:(l.any fun x=>decide (20<x.length))=true:=List.any_eq_true.2 ⟨x,List.mem_of_getElem? h2,h3⟩
   rw [e2]
   exact k4d h4
theorem r_Few {a:TM} (hl:a.length≤9223372036854775807) (hr:∀ r∈a,r.length≤9223372036854775807):Fn E K9 [.l (T2 a)] (.b (few a)):=by
 have e:=z0p a
 have h:=z7f (E:=E) (n:=0) (F:=K9) (k:=0) (l:=a) (fun _ r=>!fewL r 4) (fun i=>z3b (T2 a) (i:Nat)) (oe:=.exit 0) (fin:=y3f (T2 a)) (fun i _ o s=>o=.ret∧s=y3e)
  (x9q (by omega))
  (fun i x hx hp o s ih=>by
   have hi:=z7r hx
   have k:=j2v (E:=E) (l:=x) (n:=4) (hr x (List.mem_of_getElem? hx))
   rw [show fewL x 4=true by simpa using hp] at k
   exact k4h (by omega) (by omega) (z6l hx) k (wi (by omega)) ih)
  (fun i x hx hp=>by
   have hi:=z7r hx
   have k:=j2v (E:=E) (l:=x) (n:=4) (hr x (List.mem_of_getElem? hx))
   rw [show fewL x 4=false by simpa using hp] at k
   exact ⟨_,_,⟨rfl,rfl⟩,x9p (by omega) (by omega) (z6l hx) k⟩) a.length 0 (by omega)
 unfold few
 rcases h with ⟨h1,h2⟩ | ⟨j,x,_,_,_,h2,h3,_,⟨rfl,rfl⟩,h4⟩
 · have e2:(a.any fun r=>!fewL r 4)=false:=by
    rw [List.any_eq_false];intro x hx
    obtain ⟨j,hj⟩:=List.mem_iff_getElem?.1 hx
    rw [h1 j x (Nat.zero_le _) hj];simp
   rw [e2]
   by_cases c1:a.length≤5
   · rw [decide_eq_true c1];exact j9o h2 (by omega)
   · rw [decide_eq_false c1]
     by_cases c2:a.length=13
     · rw [decide_eq_true c2];exact j9p h2 (by omega) (by omega)
     · rw [decide_eq_false c2];exact j9q h2 (by omega) (by omega)
 · have e2:(a.any fun r=>!fewL r 4)=true:=List.any_eq_true.2 ⟨x,List.mem_of_getElem? h2,h3⟩
   rw [e2]
   exact j9n h4
end Gev
namespace Go.Proofs
open Go.Shelf
def Tryz.lays169_ren:Go.Shelf.Ren:=⟨fun | 169=>181 | n=>n,fun | 70=>186 | 9=>9 | 0=>0 | 72=>188 | 37=>130 | 127=>209 | 3=>3 | 5=>5 | n=>n,fun | n=>n⟩
theorem Tryz.lays169:Go.Proofs.Lays.n169 Tryz.prog Tryz.lays169_ren:={
 mixed:=by kernel_rfl
 f169:=Tryz.func181.trans (congrArg some (by kernel_rfl))
 t0:=Tryz.underlying0
 a0:=Tryz.isAgg0
 z0:=Tryz.sizeOf0
 v0:=Tryz.zeroValue0
 t3:=Tryz.underlying3
 a3:=Tryz.isAgg3
 z3:=Tryz.sizeOf3
 v3:=Tryz.zeroValue3
 t9:=Tryz.underlying9
 a9:=Tryz.isAgg9
 z9:=Tryz.sizeOf9
 v9:=Tryz.zeroValue9
 t37:=Tryz.underlying130
 a37:=Tryz.isAgg130
 z37:=Tryz.sizeOf130
 v37:=Tryz.zeroValue130
 t70:=Tryz.underlying186
 a70:=Tryz.isAgg186
 z70:=Tryz.sizeOf186
 v70:=Tryz.zeroValue186
 t72:=Tryz.underlying188
 a72:=Tryz.isAgg188
 z72:=Tryz.sizeOf188
 v72:=Tryz.zeroValue188
 t127:=Tryz.underlying209
 a127:=Tryz.isAgg209
 z127:=Tryz.sizeOf209
 v127:=Tryz.zeroValue209 }
theorem Tryz.Builder_Extra_169:Builder.Extra Tryz.prog Tryz.lays169_ren:={
 sizeBuilder:=by kernel_rfl
 liesBuilder:=by kernel_rfl
 t5:=Tryz.underlying5
 a5:=Tryz.isAgg5
 z5:=Tryz.sizeOf5
 v5:=Tryz.zeroValue5
 infoByte:=by kernel_rfl
 cellsByte:=by kernel_rfl
 sizeByte:=by kernel_rfl
 neB5:=by decide }
def Tryz.lays103_ren:Go.Shelf.Ren:=⟨fun | 103=>143 | 210=>157 | 206=>175 | n=>n,fun | 9=>9 | 4=>4 | 24=>153 | 3=>3 | n=>n,fun | n=>n⟩
theorem Tryz.lays103:Go.Proofs.Lays.n103 Tryz.prog Tryz.lays103_ren:={
 mixed:=by kernel_rfl
 f103:=Tryz.func143.trans (congrArg some (by kernel_rfl))
 f206:=Tryz.func175.trans (congrArg some (by kernel_rfl))
 f210:=Tryz.func157.trans (congrArg some (by kernel_rfl))
 t3:=Tryz.underlying3
 a3:=Tryz.isAgg3
 z3:=Tryz.sizeOf3
 v3:=Tryz.zeroValue3
 t4:=Tryz.underlying4
 a4:=Tryz.isAgg4
 z4:=Tryz.sizeOf4
 v4:=Tryz.zeroValue4
 t9:=Tryz.underlying9
 a9:=Tryz.isAgg9
 z9:=Tryz.sizeOf9
 v9:=Tryz.zeroValue9
 t24:=Tryz.underlying153
 a24:=Tryz.isAgg153
 z24:=Tryz.sizeOf153
 v24:=Tryz.zeroValue153 }
open Go.RowKit in
theorem Tryz.strings_CutPrefix (s p:ByteArray) (w:World) :
    Calls Tryz.prog 143 #[.string s,.string p] w fun e w'=>e=.returned (.tuple #[.string ⟨(Lib.trimPrefix s.data.toList p.data.toList).toArray⟩,.bool (Lib.hasPrefix s.data.toList p.data.toList)])∧w'=w:=Any.strings_CutPrefix Tryz.lays103 s p w
open Go.RowKit in
theorem Tryz.Builder_String_any_k (B b:Nat) (l:List UInt8) (w:World) (h:Lib.IsBuilderF 188 5 B b (Lib.byteCells l) w) (hBw:B≤w.heap.size) :
    Calls Tryz.prog 181 #[.pointer (some ⟨b,0,none⟩)] w fun e w'=>e=.returned (.string ⟨l.toArray⟩)∧(Lib.IsBuilderF 188 5 B b (Lib.byteCells l) w'∧Below B w w'∧Lib.OthersKept 5 (some b) w w'):=Any.Builder_String_any_k Tryz.lays169 Tryz.Builder_Extra_169 B b l w h hBw
def Tryz.lays283_ren:Go.Shelf.Ren:=⟨fun | 283=>206 | n=>n,fun | 3=>3 | 9=>9 | 4=>4 | n=>n,fun | n=>n⟩
theorem Tryz.lays283:Go.Proofs.Lays.n283 Tryz.prog Tryz.lays283_ren:={
 mixed:=by kernel_rfl
 f283:=Tryz.func206.trans (congrArg some (by kernel_rfl))
 t3:=Tryz.underlying3
 a3:=Tryz.isAgg3
 z3:=Tryz.sizeOf3
 v3:=Tryz.zeroValue3
 t4:=Tryz.underlying4
 a4:=Tryz.isAgg4
 z4:=Tryz.sizeOf4
 v4:=Tryz.zeroValue4
 t9:=Tryz.underlying9
 a9:=Tryz.isAgg9
 z9:=Tryz.sizeOf9
 v9:=Tryz.zeroValue9 }
open Go.Lib in
theorem Tryz.internal_strconv_small (i:Nat) (h:i<100) (w:World) :
    Calls Tryz.prog 206 #[.int .i64 i] w fun e w'=>e=.returned (.string ⟨(Lib.decDigits i).toArray⟩)∧w'=w:=Any.internal_strconv_small Tryz.lays283 i h w
def Tryz.laysM284_ren:Go.Shelf.Ren:=⟨fun | 284=>207 | 129=>220 | 317=>219 | 318=>221 | n=>n,fun | 53=>134 | 3=>3 | 212=>232 | 0=>0 | 4=>4 | 46=>177 | 5=>5 | 9=>9 | n=>n,fun | 17=>3 | n=>n⟩
theorem Tryz.laysM284:Go.Proofs.LaysM.n284 Tryz.prog Tryz.laysM284_ren:={
 mixed:=by kernel_rfl
 f129:=Tryz.func220.trans (congrArg some (by kernel_rfl))
 f284:=Tryz.func207.trans (congrArg some (by kernel_rfl))
 f317:=Tryz.func219.trans (congrArg some (by kernel_rfl))
 f318:=Tryz.func221.trans (congrArg some (by kernel_rfl))
 t0:=Tryz.underlying0
 a0:=Tryz.isAgg0
 z0:=Tryz.sizeOf0
 v0:=Tryz.zeroValue0
 t3:=Tryz.underlying3
 a3:=Tryz.isAgg3
 z3:=Tryz.sizeOf3
 v3:=Tryz.zeroValue3
 t4:=Tryz.underlying4
 a4:=Tryz.isAgg4
 z4:=Tryz.sizeOf4
 v4:=Tryz.zeroValue4
 t5:=Tryz.underlying5
 a5:=Tryz.isAgg5
 z5:=Tryz.sizeOf5
 v5:=Tryz.zeroValue5
 t9:=Tryz.underlying9
 a9:=Tryz.isAgg9
 z9:=Tryz.sizeOf9
 v9:=Tryz.zeroValue9
 t46:=Tryz.underlying177
 a46:=Tryz.isAgg177
 z46:=Tryz.sizeOf177
 v46:=Tryz.zeroValue177
 t53:=Tryz.underlying134
 a53:=Tryz.isAgg134
 z53:=Tryz.sizeOf134
 v53:=Tryz.zeroValue134
 t212:=Tryz.underlying232
 a212:=Tryz.isAgg232
 z212:=Tryz.sizeOf232
 v212:=Tryz.zeroValue232
 g17:=by kernel_rfl
 i0:=by kernel_rfl
 i3:=by kernel_rfl
 i4:=by kernel_rfl
 i5:=by kernel_rfl
 i9:=by kernel_rfl
 i46:=by kernel_rfl
 i53:=by kernel_rfl
 i212:=by kernel_rfl
 m17:=by kernel_rfl }
open Go.Lib in
theorem Tryz.internal_strconv_numDigits (u:Nat)(h1:1≤u)(h2:u<18446744073709551616) (w:World) (htab:Lib.TabIs Tryz.prog w "internal/strconv.uint64pow10" .u64 Lib.pow10Tab) :
    Calls Tryz.prog 207 #[.int .u64 u] w fun e w'=>e=.returned (.int .i64 (Lib.nDigits u))∧w'=w:=Any.internal_strconv_numDigits Tryz.laysM284 u h1 h2 w htab
def Tryz.lays285_ren:Go.Shelf.Ren:=⟨fun | 285=>208 | n=>n,fun | 37=>130 | 53=>134 | 3=>3 | 4=>4 | 51=>103 | 9=>9 | 5=>5 | 0=>0 | n=>n,fun | n=>n⟩
theorem Tryz.lays285:Go.Proofs.Lays.n285 Tryz.prog Tryz.lays285_ren:={
 mixed:=by kernel_rfl
 f285:=Tryz.func208.trans (congrArg some (by kernel_rfl))
 t0:=Tryz.underlying0
 a0:=Tryz.isAgg0
 z0:=Tryz.sizeOf0
 v0:=Tryz.zeroValue0
 t3:=Tryz.underlying3
 a3:=Tryz.isAgg3
 z3:=Tryz.sizeOf3
 v3:=Tryz.zeroValue3
 t4:=Tryz.underlying4
 a4:=Tryz.isAgg4
 z4:=Tryz.sizeOf4
 v4:=Tryz.zeroValue4
 t5:=Tryz.underlying5
 a5:=Tryz.isAgg5
 z5:=Tryz.sizeOf5
 v5:=Tryz.zeroValue5
 t9:=Tryz.underlying9
 a9:=Tryz.isAgg9
 z9:=Tryz.sizeOf9
 v9:=Tryz.zeroValue9
 t37:=Tryz.underlying130
 a37:=Tryz.isAgg130
 z37:=Tryz.sizeOf130
 v37:=Tryz.zeroValue130
 t51:=Tryz.underlying103
 a51:=Tryz.isAgg103
 z51:=Tryz.sizeOf103
 v51:=Tryz.zeroValue103
 t53:=Tryz.underlying134
 a53:=Tryz.isAgg134
 z53:=Tryz.sizeOf134
 v53:=Tryz.zeroValue134 }
open Go.RowKit Go.Sort Go.Lib in
theorem Tryz.internal_strconv_formatBase10 (blk off cap:Nat) (u:Nat) (d:Array UInt8) (w:World) (hH:Holds (fun (b:UInt8)=>Value.int .u8 (b.toNat:Int)) w blk off d) (hu:u<10 ^ d.size) (hu64:u<18446744073709551616) (hsz:d.size<4611686018427387904) :
    Calls Tryz.prog 208 #[.slice (some ⟨blk,off,none⟩) d.size cap,.int .u64 u] w fun e w' =>
     e=.returned (.tuple #[])∧∃ (n v':Nat) (dk:Array UInt8),w'=(putRow (fun (b:UInt8)=>Value.int .u8 (b.toNat:Int)) w blk off dk).drewN n∧FmtInv d.size u 0 v' dk:=Any.internal_strconv_formatBase10 Tryz.lays285 blk off cap u d w hH hu hu64 hsz
def Tryz.laysM171_ren:Go.Shelf.Ren:=⟨fun | 171=>218 | 243=>225 | 246=>187 | 283=>206 | 284=>207 | 285=>208 | 286=>209 | 129=>220 | 317=>219 | 318=>221 | 319=>222 | 320=>223 | 337=>226 | 338=>227 | n=>n,fun | 3=>3 | 9=>9 | 2=>2 | 4=>4 | 171=>217 | 0=>0 | 53=>134 | 37=>130 | 5=>5 | 173=>220 | 212=>232 | 51=>103 | 20=>20 | 213=>233 | 46=>177 | 232=>240 | 233=>241 | n=>n,fun | 17=>3 | 18=>4 | 19=>5 | n=>n⟩
theorem Tryz.laysM171:Go.Proofs.LaysM.n171 Tryz.prog Tryz.laysM171_ren:={
 mixed:=by kernel_rfl
 f129:=Tryz.func220.trans (congrArg some (by kernel_rfl))
 f171:=Tryz.func218.trans (congrArg some (by kernel_rfl))
 f243:=Tryz.func225.trans (congrArg some (by kernel_rfl))
 f246:=Tryz.func187.trans (congrArg some (by kernel_rfl))
 f283:=Tryz.func206.trans (congrArg some (by kernel_rfl))
 f284:=Tryz.func207.trans (congrArg some (by kernel_rfl))
 f285:=Tryz.func208.trans (congrArg some (by kernel_rfl))
 f286:=Tryz.func209.trans (congrArg some (by kernel_rfl))
 f317:=Tryz.func219.trans (congrArg some (by kernel_rfl))
 f318:=Tryz.func221.trans (congrArg some (by kernel_rfl))
 f319:=Tryz.func222.trans (congrArg some (by kernel_rfl))
 f320:=Tryz.func223.trans (congrArg some (by kernel_rfl))
 f337:=Tryz.func226.trans (congrArg some (by kernel_rfl))
 f338:=Tryz.func227.trans (congrArg some (by kernel_rfl))
 t0:=Tryz.underlying0
 a0:=Tryz.isAgg0
 z0:=Tryz.sizeOf0
 v0:=Tryz.zeroValue0
 t2:=Tryz.underlying2
 a2:=Tryz.isAgg2
 z2:=Tryz.sizeOf2
 v2:=Tryz.zeroValue2
 t3:=Tryz.underlying3
 a3:=Tryz.isAgg3
 z3:=Tryz.sizeOf3
 v3:=Tryz.zeroValue3
 t4:=Tryz.underlying4
 a4:=Tryz.isAgg4
 z4:=Tryz.sizeOf4
 v4:=Tryz.zeroValue4
 t5:=Tryz.underlying5
 a5:=Tryz.isAgg5
 z5:=Tryz.sizeOf5
 v5:=Tryz.zeroValue5
 t9:=Tryz.underlying9
 a9:=Tryz.isAgg9
 z9:=Tryz.sizeOf9
 v9:=Tryz.zeroValue9
 t20:=Tryz.underlying20
 a20:=Tryz.isAgg20
 z20:=Tryz.sizeOf20
 v20:=Tryz.zeroValue20
 t37:=Tryz.underlying130
 a37:=Tryz.isAgg130
 z37:=Tryz.sizeOf130
 v37:=Tryz.zeroValue130
 t46:=Tryz.underlying177
 a46:=Tryz.isAgg177
 z46:=Tryz.sizeOf177
 v46:=Tryz.zeroValue177
 t51:=Tryz.underlying103
 a51:=Tryz.isAgg103
 z51:=Tryz.sizeOf103
 v51:=Tryz.zeroValue103
 t53:=Tryz.underlying134
 a53:=Tryz.isAgg134
 z53:=Tryz.sizeOf134
 v53:=Tryz.zeroValue134
 t171:=Tryz.underlying217
 a171:=Tryz.isAgg217
 z171:=Tryz.sizeOf217
 v171:=Tryz.zeroValue217
 t173:=Tryz.underlying220
 a173:=Tryz.isAgg220
 z173:=Tryz.sizeOf220
 v173:=Tryz.zeroValue220
 t212:=Tryz.underlying232
 a212:=Tryz.isAgg232
 z212:=Tryz.sizeOf232
 v212:=Tryz.zeroValue232
 t213:=Tryz.underlying233
 a213:=Tryz.isAgg233
 z213:=Tryz.sizeOf233
 t232:=Tryz.underlying240
 a232:=Tryz.isAgg240
 z232:=Tryz.sizeOf240
 v232:=Tryz.zeroValue240
 t233:=Tryz.underlying241
 a233:=Tryz.isAgg241
 z233:=Tryz.sizeOf241
 v233:=Tryz.zeroValue241
 g17:=by kernel_rfl
 g18:=by kernel_rfl
 g19:=by kernel_rfl
 i0:=by kernel_rfl
 i2:=by kernel_rfl
 i3:=by kernel_rfl
 i4:=by kernel_rfl
 i5:=by kernel_rfl
 i9:=by kernel_rfl
 i20:=by kernel_rfl
 i37:=by kernel_rfl
 i46:=by kernel_rfl
 i51:=by kernel_rfl
 i53:=by kernel_rfl
 i171:=by kernel_rfl
 i173:=by kernel_rfl
 i212:=by kernel_rfl
 i232:=by kernel_rfl
 i233:=by kernel_rfl
 m17:=by kernel_rfl
 m18:=by kernel_rfl
 m19:=by kernel_rfl }
open Go.RowKit Go.Sort Go.Lib in
theorem Tryz.strconv_Itoa (n:Int)(h0:-9223372036854775808≤n)(h1:n≤9223372036854775807) (w:World) (htab:Lib.TabIs Tryz.prog w "internal/strconv.uint64pow10" .u64 Lib.pow10Tab) :
    Calls Tryz.prog 218 #[.int .i64 n] w fun e w'=>e=.returned (.string ⟨(Lib.itoa n).toArray⟩)∧∃ k os,w'=grow (w.drewN k) os:=Any.strconv_Itoa Tryz.laysM171 n h0 h1 w htab
def Tryz.laysM173_ren:Go.Shelf.Ren:=⟨fun | 173=>165 | 246=>187 | 283=>206 | 284=>207 | 285=>208 | 286=>209 | 129=>220 | 317=>219 | 318=>221 | 319=>222 | 320=>223 | 337=>226 | 338=>227 | n=>n,fun | 2=>2 | 3=>3 | 9=>9 | 4=>4 | 171=>217 | 0=>0 | 53=>134 | 37=>130 | 5=>5 | 173=>220 | 212=>232 | 51=>103 | 20=>20 | 213=>233 | 46=>177 | 232=>240 | 233=>241 | n=>n,fun | 17=>3 | 18=>4 | 19=>5 | n=>n⟩
theorem Tryz.laysM173:Go.Proofs.LaysM.n173 Tryz.prog Tryz.laysM173_ren:={
 mixed:=by kernel_rfl
 f129:=Tryz.func220.trans (congrArg some (by kernel_rfl))
 f173:=Tryz.func165.trans (congrArg some (by kernel_rfl))
 f246:=Tryz.func187.trans (congrArg some (by kernel_rfl))
 f283:=Tryz.func206.trans (congrArg some (by kernel_rfl))
 f284:=Tryz.func207.trans (congrArg some (by kernel_rfl))
 f285:=Tryz.func208.trans (congrArg some (by kernel_rfl))
 f286:=Tryz.func209.trans (congrArg some (by kernel_rfl))
 f317:=Tryz.func219.trans (congrArg some (by kernel_rfl))
 f318:=Tryz.func221.trans (congrArg some (by kernel_rfl))
 f319:=Tryz.func222.trans (congrArg some (by kernel_rfl))
 f320:=Tryz.func223.trans (congrArg some (by kernel_rfl))
 f337:=Tryz.func226.trans (congrArg some (by kernel_rfl))
 f338:=Tryz.func227.trans (congrArg some (by kernel_rfl))
 t0:=Tryz.underlying0
 a0:=Tryz.isAgg0
 z0:=Tryz.sizeOf0
 v0:=Tryz.zeroValue0
 t2:=Tryz.underlying2
 a2:=Tryz.isAgg2
 z2:=Tryz.sizeOf2
 v2:=Tryz.zeroValue2
 t3:=Tryz.underlying3
 a3:=Tryz.isAgg3
 z3:=Tryz.sizeOf3
 v3:=Tryz.zeroValue3
 t4:=Tryz.underlying4
 a4:=Tryz.isAgg4
 z4:=Tryz.sizeOf4
 v4:=Tryz.zeroValue4
 t5:=Tryz.underlying5
 a5:=Tryz.isAgg5
 z5:=Tryz.sizeOf5
 v5:=Tryz.zeroValue5
 t9:=Tryz.underlying9
 a9:=Tryz.isAgg9
 z9:=Tryz.sizeOf9
 v9:=Tryz.zeroValue9
 t20:=Tryz.underlying20
 a20:=Tryz.isAgg20
 z20:=Tryz.sizeOf20
 v20:=Tryz.zeroValue20
 t37:=Tryz.underlying130
 a37:=Tryz.isAgg130
 z37:=Tryz.sizeOf130
 v37:=Tryz.zeroValue130
 t46:=Tryz.underlying177
 a46:=Tryz.isAgg177
 z46:=Tryz.sizeOf177
 v46:=Tryz.zeroValue177
 t51:=Tryz.underlying103
 a51:=Tryz.isAgg103
 z51:=Tryz.sizeOf103
 v51:=Tryz.zeroValue103
 t53:=Tryz.underlying134
 a53:=Tryz.isAgg134
 z53:=Tryz.sizeOf134
 v53:=Tryz.zeroValue134
 t171:=Tryz.underlying217
 a171:=Tryz.isAgg217
 z171:=Tryz.sizeOf217
 v171:=Tryz.zeroValue217
 t173:=Tryz.underlying220
 a173:=Tryz.isAgg220
 z173:=Tryz.sizeOf220
 v173:=Tryz.zeroValue220
 t212:=Tryz.underlying232
 a212:=Tryz.isAgg232
 z212:=Tryz.sizeOf232
 v212:=Tryz.zeroValue232
 t213:=Tryz.underlying233
 a213:=Tryz.isAgg233
 z213:=Tryz.sizeOf233
 t232:=Tryz.underlying240
 a232:=Tryz.isAgg240
 z232:=Tryz.sizeOf240
 v232:=Tryz.zeroValue240
 t233:=Tryz.underlying241
 a233:=Tryz.isAgg241
 z233:=Tryz.sizeOf241
 v233:=Tryz.zeroValue241
 g17:=by kernel_rfl
 g18:=by kernel_rfl
 g19:=by kernel_rfl
 i0:=by kernel_rfl
 i2:=by kernel_rfl
 i3:=by kernel_rfl
 i4:=by kernel_rfl
 i5:=by kernel_rfl
 i9:=by kernel_rfl
 i20:=by kernel_rfl
 i37:=by kernel_rfl
 i46:=by kernel_rfl
 i51:=by kernel_rfl
 i53:=by kernel_rfl
 i171:=by kernel_rfl
 i173:=by kernel_rfl
 i212:=by kernel_rfl
 i232:=by kernel_rfl
 i233:=by kernel_rfl
 m17:=by kernel_rfl
 m18:=by kernel_rfl
 m19:=by kernel_rfl }
open Go.RowKit Go.Sort Go.Lib in
theorem Tryz.strconv_FormatInt_10 (n:Int)(h0:-9223372036854775808≤n)(h1:n≤9223372036854775807) (w:World) (htab:Lib.TabIs Tryz.prog w "internal/strconv.uint64pow10" .u64 Lib.pow10Tab) :
    Calls Tryz.prog 165 #[.int .i64 n,.int .i64 10] w fun e w'=>e=.returned (.string ⟨(Lib.itoa n).toArray⟩)∧∃ k os,w'=grow (w.drewN k) os:=Any.strconv_FormatInt_10 Tryz.laysM173 n h0 h1 w htab
def Tryz.laysC174_ren:Go.Shelf.Ren:=⟨fun | 174=>164 | 247=>185 | 245=>186 | 287=>192 | 279=>202 | 280=>203 | 281=>204 | 282=>205 | 321=>210 | 322=>211 | 316=>216 | 171=>218 | 205=>217 | 243=>225 | 246=>187 | 283=>206 | 284=>207 | 285=>208 | 286=>209 | 129=>220 | 317=>219 | 318=>221 | 319=>222 | 320=>223 | 337=>226 | 338=>227 | n=>n,fun | 9=>9 | 3=>3 | 2=>2 | 75=>169 | 85=>170 | 4=>4 | 167=>212 | 5=>5 | 53=>134 | 175=>184 | 46=>177 | 168=>213 | 37=>130 | 0=>0 | 210=>230 | 21=>21 | 127=>209 | 145=>238 | 143=>236 | 171=>217 | 173=>220 | 212=>232 | 51=>103 | 20=>20 | 213=>233 | 232=>240 | 233=>241 | 80=>121 | n=>n,fun | 15=>1 | 16=>2 | 17=>3 | 18=>4 | 19=>5 | n=>n⟩
theorem Tryz.laysC174:Go.Proofs.LaysC.n174 Tryz.prog Tryz.laysC174_ren:={
 mixed:=by kernel_rfl
 f129:=Tryz.func220.trans (congrArg some (by kernel_rfl))
 f171:=Tryz.func218.trans (congrArg some (by kernel_rfl))
 f174:=Tryz.func164.trans (congrArg some (by kernel_rfl))
 f205:=Tryz.func217.trans (congrArg some (by kernel_rfl))
 f243:=Tryz.func225.trans (congrArg some (by kernel_rfl))
 f245:=Tryz.func186.trans (congrArg some (by kernel_rfl))
 f246:=Tryz.func187.trans (congrArg some (by kernel_rfl))
 f247:=Tryz.func185.trans (congrArg some (by kernel_rfl))
 f279:=Tryz.func202.trans (congrArg some (by kernel_rfl))
 f280:=Tryz.func203.trans (congrArg some (by kernel_rfl))
 f281:=Tryz.func204.trans (congrArg some (by kernel_rfl))
 f282:=Tryz.func205.trans (congrArg some (by kernel_rfl))
 f283:=Tryz.func206.trans (congrArg some (by kernel_rfl))
 f284:=Tryz.func207.trans (congrArg some (by kernel_rfl))
 f285:=Tryz.func208.trans (congrArg some (by kernel_rfl))
 f286:=Tryz.func209.trans (congrArg some (by kernel_rfl))
 f287:=Tryz.func192.trans (congrArg some (by kernel_rfl))
 f316:=Tryz.func216.trans (congrArg some (by kernel_rfl))
 f317:=Tryz.func219.trans (congrArg some (by kernel_rfl))
 f318:=Tryz.func221.trans (congrArg some (by kernel_rfl))
 f319:=Tryz.func222.trans (congrArg some (by kernel_rfl))
 f320:=Tryz.func223.trans (congrArg some (by kernel_rfl))
 f321:=Tryz.func210.trans (congrArg some (by kernel_rfl))
 f322:=Tryz.func211.trans (congrArg some (by kernel_rfl))
 f337:=Tryz.func226.trans (congrArg some (by kernel_rfl))
 f338:=Tryz.func227.trans (congrArg some (by kernel_rfl))
 t0:=Tryz.underlying0
 a0:=Tryz.isAgg0
 z0:=Tryz.sizeOf0
 v0:=Tryz.zeroValue0
 t2:=Tryz.underlying2
 a2:=Tryz.isAgg2
 z2:=Tryz.sizeOf2
 v2:=Tryz.zeroValue2
 t3:=Tryz.underlying3
 a3:=Tryz.isAgg3
 z3:=Tryz.sizeOf3
 v3:=Tryz.zeroValue3
 t4:=Tryz.underlying4
 a4:=Tryz.isAgg4
 z4:=Tryz.sizeOf4
 v4:=Tryz.zeroValue4
 t5:=Tryz.underlying5
 a5:=Tryz.isAgg5
 z5:=Tryz.sizeOf5
 v5:=Tryz.zeroValue5
 t9:=Tryz.underlying9
 a9:=Tryz.isAgg9
 z9:=Tryz.sizeOf9
 v9:=Tryz.zeroValue9
 t20:=Tryz.underlying20
 a20:=Tryz.isAgg20
 z20:=Tryz.sizeOf20
 v20:=Tryz.zeroValue20
 t21:=Tryz.underlying21
 a21:=Tryz.isAgg21
 z21:=Tryz.sizeOf21
 v21:=Tryz.zeroValue21
 t37:=Tryz.underlying130
 a37:=Tryz.isAgg130
 z37:=Tryz.sizeOf130
 v37:=Tryz.zeroValue130
 t46:=Tryz.underlying177
 a46:=Tryz.isAgg177
 z46:=Tryz.sizeOf177
 v46:=Tryz.zeroValue177
 t51:=Tryz.underlying103
 a51:=Tryz.isAgg103
 z51:=Tryz.sizeOf103
 v51:=Tryz.zeroValue103
 t53:=Tryz.underlying134
 a53:=Tryz.isAgg134
 z53:=Tryz.sizeOf134
 v53:=Tryz.zeroValue134
 t75:=Tryz.underlying169
 a75:=Tryz.isAgg169
 z75:=Tryz.sizeOf169
 v75:=Tryz.zeroValue169
 t85:=Tryz.underlying170
 a85:=Tryz.isAgg170
 z85:=Tryz.sizeOf170
 v85:=Tryz.zeroValue170
 t127:=Tryz.underlying209
 a127:=Tryz.isAgg209
 z127:=Tryz.sizeOf209
 v127:=Tryz.zeroValue209
 t143:=Tryz.underlying236
 a143:=Tryz.isAgg236
 z143:=Tryz.sizeOf236
 v143:=Tryz.zeroValue236
 t145:=Tryz.underlying238
 a145:=Tryz.isAgg238
 z145:=Tryz.sizeOf238
 v145:=Tryz.zeroValue238
 t167:=Tryz.underlying212
 a167:=Tryz.isAgg212
 z167:=Tryz.sizeOf212
 v167:=Tryz.zeroValue212
 t168:=Tryz.underlying213
 a168:=Tryz.isAgg213
 z168:=Tryz.sizeOf213
 v168:=Tryz.zeroValue213
 t171:=Tryz.underlying217
 a171:=Tryz.isAgg217
 z171:=Tryz.sizeOf217
 v171:=Tryz.zeroValue217
 t173:=Tryz.underlying220
 a173:=Tryz.isAgg220
 z173:=Tryz.sizeOf220
 v173:=Tryz.zeroValue220
 t175:=Tryz.underlying184
 a175:=Tryz.isAgg184
 z175:=Tryz.sizeOf184
 v175:=Tryz.zeroValue184
 t210:=Tryz.underlying230
 a210:=Tryz.isAgg230
 z210:=Tryz.sizeOf230
 v210:=Tryz.zeroValue230
 t212:=Tryz.underlying232
 a212:=Tryz.isAgg232
 z212:=Tryz.sizeOf232
 v212:=Tryz.zeroValue232
 t213:=Tryz.underlying233
 a213:=Tryz.isAgg233
 z213:=Tryz.sizeOf233
 t232:=Tryz.underlying240
 a232:=Tryz.isAgg240
 z232:=Tryz.sizeOf240
 v232:=Tryz.zeroValue240
 t233:=Tryz.underlying241
 a233:=Tryz.isAgg241
 z233:=Tryz.sizeOf241
 v233:=Tryz.zeroValue241
 g15:=by kernel_rfl
 g16:=by kernel_rfl
 g17:=by kernel_rfl
 g18:=by kernel_rfl
 g19:=by kernel_rfl
 t80:=Tryz.underlying121
 a80:=Tryz.isAgg121
 z80:=Tryz.sizeOf121
 v80:=Tryz.zeroValue121
 i0:=by kernel_rfl
 i2:=by kernel_rfl
 i3:=by kernel_rfl
 i4:=by kernel_rfl
 i5:=by kernel_rfl
 i9:=by kernel_rfl
 i20:=by kernel_rfl
 i21:=by kernel_rfl
 i37:=by kernel_rfl
 i46:=by kernel_rfl
 i51:=by kernel_rfl
 i53:=by kernel_rfl
 i75:=by kernel_rfl
 i80:=by kernel_rfl
 i85:=by kernel_rfl
 i127:=by kernel_rfl
 i143:=by kernel_rfl
 i145:=by kernel_rfl
 i167:=by kernel_rfl
 i168:=by kernel_rfl
 i171:=by kernel_rfl
 i173:=by kernel_rfl
 i175:=by kernel_rfl
 i210:=by kernel_rfl
 i212:=by kernel_rfl
 i232:=by kernel_rfl
 i233:=by kernel_rfl
 m15:=by kernel_rfl
 m16:=by kernel_rfl
 m17:=by kernel_rfl
 m18:=by kernel_rfl
 m19:=by kernel_rfl
 c0:=by kernel_rfl
 c2:=by kernel_rfl
 c3:=by kernel_rfl
 c4:=by kernel_rfl
 c5:=by kernel_rfl
 c9:=by kernel_rfl
 c20:=by kernel_rfl
 c21:=by kernel_rfl
 c37:=by kernel_rfl
 c46:=by kernel_rfl
 c51:=by kernel_rfl
 c53:=by kernel_rfl
 c75:=by kernel_rfl
 c80:=by kernel_rfl
 c85:=by kernel_rfl
 c127:=by kernel_rfl
 c143:=by kernel_rfl
 c145:=by kernel_rfl
 c167:=by kernel_rfl
 c168:=by kernel_rfl
 c171:=by kernel_rfl
 c173:=by kernel_rfl
 c175:=by kernel_rfl
 c210:=by kernel_rfl
 c212:=by kernel_rfl
 c213:=by kernel_rfl
 c232:=by kernel_rfl
 c233:=by kernel_rfl }
open Go.RowKit in
theorem Tryz.strconv_ParseInt_10_at64_ok (s:ByteArray) (hmax:s.size≤9223372036854775806) (v:Int) (h:Lib.parseIntB 64 s.data.toList=.ok v) (w:World) :
    Calls Tryz.prog 164 #[.string s,.int .i64 10,.int .i64 64] w fun e w'=>e=.returned (.tuple #[.int .i64 v,.nilIface])∧(w'=w∨∃ t,w'=Lib.bytesWorld w 5 t):=Any.strconv_ParseInt_10_at64_ok Tryz.laysC174 s hmax v h w
def Tryz.laysPu14_ren:Go.Shelf.Ren:=⟨fun | 14=>176 | 16=>192 | 17=>186 | 19=>210 | 20=>211 | 21=>202 | 22=>203 | 23=>204 | 24=>205 | 25=>216 | 27=>218 | 26=>217 | 28=>225 | 29=>187 | 30=>206 | 31=>207 | 32=>208 | 33=>209 | 35=>220 | 34=>219 | 36=>221 | 37=>222 | 38=>223 | 39=>226 | 40=>227 | n=>n,fun | 9=>9 | 3=>3 | 22=>134 | 24=>169 | 25=>184 | 4=>4 | 34=>212 | 5=>5 | 36=>177 | 37=>130 | 0=>0 | 39=>213 | 21=>21 | 44=>230 | 47=>209 | 50=>238 | 48=>236 | 2=>2 | 52=>217 | 55=>220 | 59=>232 | 60=>103 | 20=>20 | 61=>233 | 65=>240 | 66=>241 | 67=>121 | n=>n,fun | 0=>1 | 1=>2 | 2=>3 | 3=>4 | 4=>5 | n=>n⟩
theorem Tryz.laysPu14:Go.Proofs.LaysPu.n14 Tryz.prog Tryz.laysPu14_ren:={
 mixed:=by kernel_rfl
 f14:=Tryz.func176.trans (congrArg some (by kernel_rfl))
 f16:=Tryz.func192.trans (congrArg some (by kernel_rfl))
 f17:=Tryz.func186.trans (congrArg some (by kernel_rfl))
 f19:=Tryz.func210.trans (congrArg some (by kernel_rfl))
 f20:=Tryz.func211.trans (congrArg some (by kernel_rfl))
 f21:=Tryz.func202.trans (congrArg some (by kernel_rfl))
 f22:=Tryz.func203.trans (congrArg some (by kernel_rfl))
 f23:=Tryz.func204.trans (congrArg some (by kernel_rfl))
 f24:=Tryz.func205.trans (congrArg some (by kernel_rfl))
 f25:=Tryz.func216.trans (congrArg some (by kernel_rfl))
 f26:=Tryz.func217.trans (congrArg some (by kernel_rfl))
 f27:=Tryz.func218.trans (congrArg some (by kernel_rfl))
 f28:=Tryz.func225.trans (congrArg some (by kernel_rfl))
 f29:=Tryz.func187.trans (congrArg some (by kernel_rfl))
 f30:=Tryz.func206.trans (congrArg some (by kernel_rfl))
 f31:=Tryz.func207.trans (congrArg some (by kernel_rfl))
 f32:=Tryz.func208.trans (congrArg some (by kernel_rfl))
 f33:=Tryz.func209.trans (congrArg some (by kernel_rfl))
 f34:=Tryz.func219.trans (congrArg some (by kernel_rfl))
 f35:=Tryz.func220.trans (congrArg some (by kernel_rfl))
 f36:=Tryz.func221.trans (congrArg some (by kernel_rfl))
 f37:=Tryz.func222.trans (congrArg some (by kernel_rfl))
 f38:=Tryz.func223.trans (congrArg some (by kernel_rfl))
 f39:=Tryz.func226.trans (congrArg some (by kernel_rfl))
 f40:=Tryz.func227.trans (congrArg some (by kernel_rfl))
 t0:=Tryz.underlying0
 a0:=Tryz.isAgg0
 z0:=Tryz.sizeOf0
 v0:=Tryz.zeroValue0
 i0:=by kernel_rfl
 t2:=Tryz.underlying2
 a2:=Tryz.isAgg2
 z2:=Tryz.sizeOf2
 v2:=Tryz.zeroValue2
 i2:=by kernel_rfl
 t3:=Tryz.underlying3
 a3:=Tryz.isAgg3
 z3:=Tryz.sizeOf3
 v3:=Tryz.zeroValue3
 i3:=by kernel_rfl
 t4:=Tryz.underlying4
 a4:=Tryz.isAgg4
 z4:=Tryz.sizeOf4
 v4:=Tryz.zeroValue4
 i4:=by kernel_rfl
 t5:=Tryz.underlying5
 a5:=Tryz.isAgg5
 z5:=Tryz.sizeOf5
 v5:=Tryz.zeroValue5
 i5:=by kernel_rfl
 t9:=Tryz.underlying9
 a9:=Tryz.isAgg9
 z9:=Tryz.sizeOf9
 v9:=Tryz.zeroValue9
 i9:=by kernel_rfl
 t20:=Tryz.underlying20
 a20:=Tryz.isAgg20
 z20:=Tryz.sizeOf20
 v20:=Tryz.zeroValue20
 i20:=by kernel_rfl
 t21:=Tryz.underlying21
 a21:=Tryz.isAgg21
 z21:=Tryz.sizeOf21
 v21:=Tryz.zeroValue21
 i21:=by kernel_rfl
 t22:=Tryz.underlying134
 a22:=Tryz.isAgg134
 z22:=Tryz.sizeOf134
 v22:=Tryz.zeroValue134
 i22:=by kernel_rfl
 t24:=Tryz.underlying169
 a24:=Tryz.isAgg169
 z24:=Tryz.sizeOf169
 v24:=Tryz.zeroValue169
 i24:=by kernel_rfl
 t25:=Tryz.underlying184
 a25:=Tryz.isAgg184
 z25:=Tryz.sizeOf184
 v25:=Tryz.zeroValue184
 i25:=by kernel_rfl
 t34:=Tryz.underlying212
 a34:=Tryz.isAgg212
 z34:=Tryz.sizeOf212
 v34:=Tryz.zeroValue212
 i34:=by kernel_rfl
 c34:=by kernel_rfl
 t36:=Tryz.underlying177
 a36:=Tryz.isAgg177
 z36:=Tryz.sizeOf177
 v36:=Tryz.zeroValue177
 i36:=by kernel_rfl
 t37:=Tryz.underlying130
 a37:=Tryz.isAgg130
 z37:=Tryz.sizeOf130
 v37:=Tryz.zeroValue130
 i37:=by kernel_rfl
 t39:=Tryz.underlying213
 a39:=Tryz.isAgg213
 z39:=Tryz.sizeOf213
 v39:=Tryz.zeroValue213
 i39:=by kernel_rfl
 t44:=Tryz.underlying230
 a44:=Tryz.isAgg230
 z44:=Tryz.sizeOf230
 v44:=Tryz.zeroValue230
 i44:=by kernel_rfl
 t47:=Tryz.underlying209
 a47:=Tryz.isAgg209
 z47:=Tryz.sizeOf209
 v47:=Tryz.zeroValue209
 i47:=by kernel_rfl
 t48:=Tryz.underlying236
 a48:=Tryz.isAgg236
 z48:=Tryz.sizeOf236
 v48:=Tryz.zeroValue236
 i48:=by kernel_rfl
 t50:=Tryz.underlying238
 a50:=Tryz.isAgg238
 z50:=Tryz.sizeOf238
 v50:=Tryz.zeroValue238
 i50:=by kernel_rfl
 t52:=Tryz.underlying217
 a52:=Tryz.isAgg217
 z52:=Tryz.sizeOf217
 v52:=Tryz.zeroValue217
 i52:=by kernel_rfl
 t55:=Tryz.underlying220
 a55:=Tryz.isAgg220
 z55:=Tryz.sizeOf220
 v55:=Tryz.zeroValue220
 i55:=by kernel_rfl
 t59:=Tryz.underlying232
 a59:=Tryz.isAgg232
 z59:=Tryz.sizeOf232
 v59:=Tryz.zeroValue232
 i59:=by kernel_rfl
 t60:=Tryz.underlying103
 a60:=Tryz.isAgg103
 z60:=Tryz.sizeOf103
 v60:=Tryz.zeroValue103
 i60:=by kernel_rfl
 t61:=Tryz.underlying233
 a61:=Tryz.isAgg233
 z61:=Tryz.sizeOf233
 t65:=Tryz.underlying240
 a65:=Tryz.isAgg240
 z65:=Tryz.sizeOf240
 v65:=Tryz.zeroValue240
 i65:=by kernel_rfl
 t66:=Tryz.underlying241
 a66:=Tryz.isAgg241
 z66:=Tryz.sizeOf241
 v66:=Tryz.zeroValue241
 i66:=by kernel_rfl
 t67:=Tryz.underlying121
 a67:=Tryz.isAgg121
 z67:=Tryz.sizeOf121
 v67:=Tryz.zeroValue121
 i67:=by kernel_rfl
 g0:=by kernel_rfl
 m0:=by kernel_rfl
 g1:=by kernel_rfl
 m1:=by kernel_rfl
 g2:=by kernel_rfl
 m2:=by kernel_rfl
 g3:=by kernel_rfl
 m3:=by kernel_rfl
 g4:=by kernel_rfl
 m4:=by kernel_rfl }
open Go.RowKit in
theorem Tryz.strconv_ParseUint_10_at32_ok (s:ByteArray) (hmax:s.size≤9223372036854775806) (u:Nat) (h:Lib.parseUintB 32 s.data.toList=.ok u) (w:World) :
    Calls Tryz.prog 176 #[.string s,.int .i64 10,.int .i64 32] w fun e w'=>e=.returned (.tuple #[.int .u64 u,.nilIface])∧(w'=w∨w'=Lib.bytesWorld w 5 s):=Any.strconv_ParseUint_10_at32_ok Tryz.laysPu14 s hmax u h w
def Tryz.lays145_ren:Go.Shelf.Ren:=⟨fun | 145=>118 | 220=>140 | 219=>155 | 217=>168 | 225=>169 | 224=>170 | 267=>171 | 266=>189 | 314=>190 | n=>n,fun | 9=>9 | 4=>4 | 59=>123 | 3=>3 | 5=>5 | 46=>177 | 146=>202 | 51=>103 | n=>n,fun | 1=>0 | n=>n⟩
theorem Tryz.lays145:Go.Proofs.Lays.n145 Tryz.prog Tryz.lays145_ren:={
 mixed:=by kernel_rfl
 f145:=Tryz.func118.trans (congrArg some (by kernel_rfl))
 f217:=Tryz.func168.trans (congrArg some (by kernel_rfl))
 f219:=Tryz.func155.trans (congrArg some (by kernel_rfl))
 f220:=Tryz.func140.trans (congrArg some (by kernel_rfl))
 f224:=Tryz.func170.trans (congrArg some (by kernel_rfl))
 f225:=Tryz.func169.trans (congrArg some (by kernel_rfl))
 f266:=Tryz.func189.trans (congrArg some (by kernel_rfl))
 f267:=Tryz.func171.trans (congrArg some (by kernel_rfl))
 f314:=Tryz.func190.trans (congrArg some (by kernel_rfl))
 t3:=Tryz.underlying3
 a3:=Tryz.isAgg3
 z3:=Tryz.sizeOf3
 v3:=Tryz.zeroValue3
 t4:=Tryz.underlying4
 a4:=Tryz.isAgg4
 z4:=Tryz.sizeOf4
 v4:=Tryz.zeroValue4
 t5:=Tryz.underlying5
 a5:=Tryz.isAgg5
 z5:=Tryz.sizeOf5
 v5:=Tryz.zeroValue5
 t9:=Tryz.underlying9
 a9:=Tryz.isAgg9
 z9:=Tryz.sizeOf9
 v9:=Tryz.zeroValue9
 t46:=Tryz.underlying177
 a46:=Tryz.isAgg177
 z46:=Tryz.sizeOf177
 v46:=Tryz.zeroValue177
 t51:=Tryz.underlying103
 a51:=Tryz.isAgg103
 z51:=Tryz.sizeOf103
 v51:=Tryz.zeroValue103
 t59:=Tryz.underlying123
 a59:=Tryz.isAgg123
 z59:=Tryz.sizeOf123
 v59:=Tryz.zeroValue123
 t146:=Tryz.underlying202
 a146:=Tryz.isAgg202
 z146:=Tryz.sizeOf202
 v146:=Tryz.zeroValue202
 g1:=by kernel_rfl }
open Go.RowKit Go.Lib in
theorem Tryz.strings_Cut (s sep:ByteArray) (m:Int) (w:World) (hs:s.size<4294967281) (hm:w.cell? ⟨0,0,none⟩=some (.int .i64 m)) :
    Calls Tryz.prog 118 #[.string s,.string sep] w fun e w'=>e=.returned (.tuple #[.string ⟨(Lib.cut s.data.toList sep.data.toList).1.toArray⟩,.string ⟨(Lib.cut s.data.toList sep.data.toList).2.1.toArray⟩,.bool (Lib.cut s.data.toList sep.data.toList).2.2])∧∃ n,w'=w.drewN n:=Any.strings_Cut Tryz.lays145 s sep m w hs hm
def Tryz.laysM145_ren:Go.Shelf.Ren:=⟨fun | 145=>118 | 220=>140 | 219=>155 | 217=>168 | 225=>169 | 224=>170 | 267=>171 | 266=>189 | 314=>190 | n=>n,fun | 9=>9 | 4=>4 | 59=>123 | 3=>3 | 5=>5 | 46=>177 | 146=>202 | 51=>103 | n=>n,fun | 1=>0 | n=>n⟩
theorem Tryz.laysM145:Go.Proofs.LaysM.n145 Tryz.prog Tryz.laysM145_ren:={
 mixed:=by kernel_rfl
 f145:=Tryz.func118.trans (congrArg some (by kernel_rfl))
 f217:=Tryz.func168.trans (congrArg some (by kernel_rfl))
 f219:=Tryz.func155.trans (congrArg some (by kernel_rfl))
 f220:=Tryz.func140.trans (congrArg some (by kernel_rfl))
 f224:=Tryz.func170.trans (congrArg some (by kernel_rfl))
 f225:=Tryz.func169.trans (congrArg some (by kernel_rfl))
 f266:=Tryz.func189.trans (congrArg some (by kernel_rfl))
 f267:=Tryz.func171.trans (congrArg some (by kernel_rfl))
 f314:=Tryz.func190.trans (congrArg some (by kernel_rfl))
 t3:=Tryz.underlying3
 a3:=Tryz.isAgg3
 z3:=Tryz.sizeOf3
 v3:=Tryz.zeroValue3
 t4:=Tryz.underlying4
 a4:=Tryz.isAgg4
 z4:=Tryz.sizeOf4
 v4:=Tryz.zeroValue4
 t5:=Tryz.underlying5
 a5:=Tryz.isAgg5
 z5:=Tryz.sizeOf5
 v5:=Tryz.zeroValue5
 t9:=Tryz.underlying9
 a9:=Tryz.isAgg9
 z9:=Tryz.sizeOf9
 v9:=Tryz.zeroValue9
 t46:=Tryz.underlying177
 a46:=Tryz.isAgg177
 z46:=Tryz.sizeOf177
 v46:=Tryz.zeroValue177
 t51:=Tryz.underlying103
 a51:=Tryz.isAgg103
 z51:=Tryz.sizeOf103
 v51:=Tryz.zeroValue103
 t59:=Tryz.underlying123
 a59:=Tryz.isAgg123
 z59:=Tryz.sizeOf123
 v59:=Tryz.zeroValue123
 t146:=Tryz.underlying202
 a146:=Tryz.isAgg202
 z146:=Tryz.sizeOf202
 v146:=Tryz.zeroValue202
 g1:=by kernel_rfl
 i3:=by kernel_rfl
 i4:=by kernel_rfl
 i5:=by kernel_rfl
 i9:=by kernel_rfl
 i46:=by kernel_rfl
 i51:=by kernel_rfl
 i59:=by kernel_rfl
 i146:=by kernel_rfl
 m1:=by kernel_rfl
 s1_3:=fun w h=>Go.Proofs.cell_of_shapedOpen_int (zero:=#[.int .i64 0]) (t:=3) h (of_decide_eq_true (by kernel_rfl)) (by kernel_rfl) rfl (by kernel_rfl) (by kernel_rfl) Tryz.underlying3 }
def Tryz.lays105_ren:Go.Shelf.Ren:=⟨fun | 105=>180 | 212=>196 | 99=>197 | 165=>198 | 166=>179 | 170=>199 | 169=>181 | 263=>213 | 264=>214 | 206=>175 | 240=>195 | 241=>215 | 276=>212 | 277=>224 | n=>n,fun | 9=>9 | 3=>3 | 4=>4 | 20=>20 | 0=>0 | 46=>177 | 109=>206 | 5=>5 | 72=>188 | 76=>193 | 51=>103 | 146=>202 | 53=>134 | 148=>226 | 70=>186 | 37=>130 | 75=>169 | 127=>209 | 164=>223 | 80=>121 | n=>n,fun | n=>n⟩
theorem Tryz.lays105:Go.Proofs.Lays.n105 Tryz.prog Tryz.lays105_ren:={
 mixed:=by kernel_rfl
 f99:=Tryz.func197.trans (congrArg some (by kernel_rfl))
 f105:=Tryz.func180.trans (congrArg some (by kernel_rfl))
 f165:=Tryz.func198.trans (congrArg some (by kernel_rfl))
 f166:=Tryz.func179.trans (congrArg some (by kernel_rfl))
 f169:=Tryz.func181.trans (congrArg some (by kernel_rfl))
 f170:=Tryz.func199.trans (congrArg some (by kernel_rfl))
 f206:=Tryz.func175.trans (congrArg some (by kernel_rfl))
 f212:=Tryz.func196.trans (congrArg some (by kernel_rfl))
 f240:=Tryz.func195.trans (congrArg some (by kernel_rfl))
 f241:=Tryz.func215.trans (congrArg some (by kernel_rfl))
 f263:=Tryz.func213.trans (congrArg some (by kernel_rfl))
 f264:=Tryz.func214.trans (congrArg some (by kernel_rfl))
 f276:=Tryz.func212.trans (congrArg some (by kernel_rfl))
 f277:=Tryz.func224.trans (congrArg some (by kernel_rfl))
 t0:=Tryz.underlying0
 a0:=Tryz.isAgg0
 z0:=Tryz.sizeOf0
 v0:=Tryz.zeroValue0
 t3:=Tryz.underlying3
 a3:=Tryz.isAgg3
 z3:=Tryz.sizeOf3
 v3:=Tryz.zeroValue3
 t4:=Tryz.underlying4
 a4:=Tryz.isAgg4
 z4:=Tryz.sizeOf4
 v4:=Tryz.zeroValue4
 t5:=Tryz.underlying5
 a5:=Tryz.isAgg5
 z5:=Tryz.sizeOf5
 v5:=Tryz.zeroValue5
 t9:=Tryz.underlying9
 a9:=Tryz.isAgg9
 z9:=Tryz.sizeOf9
 v9:=Tryz.zeroValue9
 t20:=Tryz.underlying20
 a20:=Tryz.isAgg20
 z20:=Tryz.sizeOf20
 v20:=Tryz.zeroValue20
 t37:=Tryz.underlying130
 a37:=Tryz.isAgg130
 z37:=Tryz.sizeOf130
 v37:=Tryz.zeroValue130
 t46:=Tryz.underlying177
 a46:=Tryz.isAgg177
 z46:=Tryz.sizeOf177
 v46:=Tryz.zeroValue177
 t51:=Tryz.underlying103
 a51:=Tryz.isAgg103
 z51:=Tryz.sizeOf103
 v51:=Tryz.zeroValue103
 t53:=Tryz.underlying134
 a53:=Tryz.isAgg134
 z53:=Tryz.sizeOf134
 v53:=Tryz.zeroValue134
 t70:=Tryz.underlying186
 a70:=Tryz.isAgg186
 z70:=Tryz.sizeOf186
 v70:=Tryz.zeroValue186
 t72:=Tryz.underlying188
 a72:=Tryz.isAgg188
 z72:=Tryz.sizeOf188
 v72:=Tryz.zeroValue188
 t75:=Tryz.underlying169
 a75:=Tryz.isAgg169
 z75:=Tryz.sizeOf169
 v75:=Tryz.zeroValue169
 t76:=Tryz.underlying193
 a76:=Tryz.isAgg193
 z76:=Tryz.sizeOf193
 v76:=Tryz.zeroValue193
 t109:=Tryz.underlying206
 a109:=Tryz.isAgg206
 z109:=Tryz.sizeOf206
 v109:=Tryz.zeroValue206
 t127:=Tryz.underlying209
 a127:=Tryz.isAgg209
 z127:=Tryz.sizeOf209
 v127:=Tryz.zeroValue209
 t146:=Tryz.underlying202
 a146:=Tryz.isAgg202
 z146:=Tryz.sizeOf202
 v146:=Tryz.zeroValue202
 t148:=Tryz.underlying226
 a148:=Tryz.isAgg226
 z148:=Tryz.sizeOf226
 v148:=Tryz.zeroValue226
 t164:=Tryz.underlying223
 a164:=Tryz.isAgg223
 z164:=Tryz.sizeOf223
 v164:=Tryz.zeroValue223 }
theorem Tryz.Builder_Extra_105:Builder.Extra Tryz.prog Tryz.lays105_ren:={
 sizeBuilder:=by kernel_rfl
 liesBuilder:=by kernel_rfl
 t5:=Tryz.underlying5
 a5:=Tryz.isAgg5
 z5:=Tryz.sizeOf5
 v5:=Tryz.zeroValue5
 infoByte:=by kernel_rfl
 cellsByte:=by kernel_rfl
 sizeByte:=by kernel_rfl
 neB5:=by decide }
open Go.RowKit Go.Lib in
theorem Tryz.strings_Repeat (s:ByteArray) (c:Nat) (w:World) (hc:c≤9223372036854775807) (hlen:s.size*c≤140737488355328) :
    Calls Tryz.prog 180 #[.string s,.int .i64 c] w fun e w'=>e=.returned (.string ⟨(Lib.repeatL s.data.toList c).toArray⟩)∧Below w.heap.size w w':=Any.strings_Repeat Tryz.lays105 Tryz.Builder_Extra_105 s c w hc hlen
end Go.Proofs
namespace Go.Proofs
open Go.Shelf Go.RowKit
theorem Tryz.WriteString_k (B b:Nat) (bs:List Value) (s:ByteArray) (w:World) (h:Lib.IsBuilderF 188 5 B b bs w) (hlen:bs.length+s.size≤140737488355328) (hBw:B≤w.heap.size) :
    Calls Tryz.prog 179 #[.pointer (some ⟨b,0,none⟩),.string s] w fun e w'=>e=.returned (.tuple #[.int .i64 s.size,.nilIface])∧(Lib.BuilderAtF 188 5 B b (.pointer (some ⟨b,0,none⟩)) (bs++Lib.strCells s) w'∧Below B w w'∧Lib.OthersKept 5 (some b) w w'):=Any.Builder_WriteString_k { Tryz.lays105 with } Tryz.Builder_Extra_105 B b bs s w h hlen hBw
end Go.Proofs
namespace Go.Proofs
open Go.Shelf Go.RowKit Go.Sort Go.Lib
set_option maxHeartbeats 6400000 in
set_option maxRecDepth 100000 in
theorem Tryz.internal_FormatUint (u:Nat)(h1:u<18446744073709551616) (w:World)
    (htab:Lib.TabIs Tryz.prog w "internal/strconv.uint64pow10" .u64 Lib.pow10Tab) :
    Calls Tryz.prog 194 #[.int .u64 u,.int .i64 10] w fun e w'=>e=.returned (.string ⟨(Lib.decDigits u).toArray⟩)∧∃ k os,w'=grow (w.drewN k) os:=by
 by_cases hs:u<100
 · go_enter Tryz.func194,Tryz.ntmps194
   go_wp2_with (go_at_call 206;refine (Tryz.internal_strconv_small u hs _).mono ?_;rintro e w' ⟨rfl,rfl⟩)
   go_ret
   exact ⟨rfl,0,#[],by simp [World.drewN_zero]⟩
 · have hu1:1≤u:=by omega
   have hnd20:Lib.nDigits u≤20:=by have:=Lib.numDigits_eq u hu1 h1;split at this <;> omega
   have hal:Tryz.prog.arrayLen 217=24:=by kernel_rfl
   have hsl1:∀ W,(Instr.sliceAt 217 (.pointer (some ⟨w.heap.size,0,none⟩)) none (some (.int .i64 (Lib.nDigits u:Int))) none).run Tryz.prog W=.ok (.slice (some ⟨w.heap.size,0,none⟩) (Lib.nDigits u) 24) W:=fun W=>by
    rw [run_sliceAt_array_h W 217 ⟨w.heap.size,0,none⟩ (by kernel_rfl) .i64 (Lib.nDigits u:Int) (by omega) (by rw [hal];omega)]
    go_simp
   have hH0:Holds (fun (b:UInt8)=>Value.int .u8 (b.toNat:Int)) (w.alloc (.cells Lib.zeros24 217)) w.heap.size 0 (Array.replicate (Lib.nDigits u) 0):=fun j hj=>by
    have hj':j<Lib.nDigits u:=by simpa using hj
    refine ⟨?_,World.frozen?_alloc_new _ _ _ _⟩
    rw [World.cell?_alloc_new,Lib.zeros24_at _ (by omega),getElem!_pos _ j hj]
    simp
   have hfmt:=Tryz.internal_strconv_formatBase10 w.heap.size 0 24 u (Array.replicate (Lib.nDigits u) 0) (w.alloc (.cells Lib.zeros24 217)) hH0 (by rw [Array.size_replicate];exact Lib.lt_pow_nDigits u) h1 (by rw [Array.size_replicate];omega)
   rw [Array.size_replicate] at hfmt
   have HH0:=Lib.hid hH0
   clear hH0 hal
   go_enter Tryz.func194,Tryz.ntmps194
   go_wp2_with (go_at_call 207;refine (Tryz.internal_strconv_numDigits u hu1 h1 _ (Lib.tabIs_alloc htab _)).mono ?_;rintro e w' ⟨rfl,rfl⟩)
   go_at_call 208
   refine hfmt.mono ?_
   rintro e w' ⟨rfl,k,v',dk,rfl,hF⟩
   have hcv:(convert 130 9 (.slice (some ⟨w.heap.size,0,none⟩) (Lib.nDigits u) 24)).run Tryz.prog ((putRow (fun (b:UInt8)=>Value.int .u8 (b.toNat:Int)) (w.alloc (.cells Lib.zeros24 217)) w.heap.size 0 dk).drewN k)=.ok (.string ⟨(Lib.decDigits u).toArray⟩) ((putRow (fun (b:UInt8)=>Value.int .u8 (b.toNat:Int)) (w.alloc (.cells Lib.zeros24 217)) w.heap.size 0 dk).drewN k):=by
    have h:=run_convert_bytes_back (P:=Tryz.prog) ((putRow (fun (b:UInt8)=>Value.int .u8 (b.toNat:Int)) (w.alloc (.cells Lib.zeros24 217)) w.heap.size 0 dk).drewN k) 130 9 5 ⟨w.heap.size,0,none⟩ 24 (Lib.decDigits u) (by kernel_rfl) (by kernel_rfl) (by kernel_rfl) (fun j hj=>by
     rw [Lib.row_is_numeral hF j hj,Lib.add_plain,World.cell?_drewN]
     exact cell?_putRow (fun (b:UInt8)=>Value.int .u8 (b.toNat:Int)) _ w.heap.size 0 _ dk HH0.out (by rw [hF.size,Array.size_replicate]) j (by rw [hF.size];rw [Lib.decDigits_length] at hj;exact hj))
    rw [Lib.decDigits_length] at h
    exact h
   go_wp2
   go_ret
   obtain ⟨os,eo⟩:=(by
    rw [alloc_eq_grow]
    obtain ⟨os',_,e⟩:=putRow_grow_new (fun (b:UInt8)=>Value.int .u8 (b.toNat:Int)) w #[.cells Lib.zeros24 217] w.heap.size 0 dk (Nat.le_refl _)
    exact ⟨os',by rw [e];rfl⟩:∃ os,(putRow (fun (b:UInt8)=>Value.int .u8 (b.toNat:Int)) (w.alloc (.cells Lib.zeros24 217)) w.heap.size 0 dk).drewN k=grow (w.drewN k) os)
   exact ⟨rfl,k,os,eo⟩
set_option maxRecDepth 100000 in
theorem Tryz.strconv_FormatUint (u:Nat)(h1:u<18446744073709551616) (w:World)
    (htab:Lib.TabIs Tryz.prog w "internal/strconv.uint64pow10" .u64 Lib.pow10Tab) :
    Calls Tryz.prog 178 #[.int .u64 u,.int .i64 10] w fun e w'=>e=.returned (.string ⟨(Lib.decDigits u).toArray⟩)∧∃ k os,w'=grow (w.drewN k) os:=by
 go_enter Tryz.func178,Tryz.ntmps178
 go_wp2_with (go_at_call 194;refine (Tryz.internal_FormatUint u h1 _ htab).mono ?_;rintro e w' ⟨rfl,k,os,rfl⟩)
 go_ret
 exact ⟨rfl,k,os,rfl⟩
end Go.Proofs
namespace Go.Proofs
open Go.RowKit Go.Shelf
attribute [local go_sem] Oper.semAt_some
def upto {α:Type} (f:Nat→α) (k:Nat):List α:=(List.range k).map f
theorem k2e {α:Type} (f:Nat→α) (k:Nat):upto f (k+1)=upto f k++[f k]:=by simp [upto,List.range_succ]
theorem q0i {α:Type} (f:Nat→α) (k:Nat):(upto f k).length=k:=by simp [upto]
def down {len:Nat} (h:0<len) (j:Nat):{ m:Nat // m<len }:=⟨len-1-j,by omega⟩
set_option maxRecDepth 100000 in
set_option maxHeartbeats 2000000 in
theorem q6e (F:Fence) (n:Nat)(h7:F.fn 193) (hro:F.round=none) (hn:1≤n) (l Bs len cap:Nat)(h1:0<len) (a:Addr) (z:Nat→Int) (hreach:len*4≤140737488351232) (Kp:World→World→Prop)
    (Bx:World→Prop) (hBx:∀ W,Bx W→W.cell? ⟨Bs,0,none⟩=some (.slice (some a) len cap)∧∀ j,j<len→W.cell? (a.add j)=some (.int .u32 (z j)))
    (hKp:∀ W W',Bx W→Kp W W'→Bx W') (J Jx:List { m:Nat // m<len }→World→Prop)
    (hY:∀ pre x W,J pre W→pre.length<len→YieldAt F (n-1) Tryz.prog l #[.int .i64 (x.1:Nat),.int .u32 (z x.1)] W fun e W' =>
     (e=.returned (.bool true)∧J (pre++[x]) W'∧Kp W W')∨(e=.returned (.bool false)∧Jx (pre++[x]) W'))
    (W:World) (hW:Bx W)(h0:J [] W) :
    CallsIn F n Tryz.prog 193 #[.func (.yield l) #[] #[],.pointer (some ⟨Bs,0,none⟩)] W fun e W'=>(∃ v,e=.returned v) ∧
     ((∃ ys,ys=upto (down h1) len∧J ys W')∨(∃ pre,(∃ k,k≤len∧pre=upto (down h1) k)∧Jx pre W')):=by
 refine callsIn_of_wp Tryz.func193 rfl h7 ?_ hro
 simp only [Tryz.ntmps193,List.size_toArray,List.length_cons,List.length_nil,Nat.reduceAdd,Nat.reduceSub,Array.replicate_succ,Array.replicate_zero,List.push_toArray,List.append_toArray,List.nil_append,List.cons_append]
 have hs:=(hBx W hW).1
 gi_wp2
 gi_loopw [3] (fun i wr=>∃ k:Nat,k≤len∧i=.int .i64 ((len:Int)-1-k)∧J (upto (down h1) k) wr∧Bx wr)
  (fun i _=>(intOf i+1).toNat)
 case atStart=>exact ⟨0,Nat.zero_le _,by simp,h0,hW⟩
 case round =>
  obtain ⟨k,hk,rfl,hJs,hnx⟩:=hrel
  have hs':=(hBx _ hnx).1
  by_cases hlt:k<len
  · obtain ⟨m,hm⟩:∃ m:Nat,m+k+1=len:=⟨len-1-k,by omega⟩
    have hcx':=(hBx _ hnx).2 m (by omega)
    have hi:((len:Int)-1-k)=(m:Int):=by omega
    have hmk:len-1-k=m:=by omega
    have hml:m<len:=by omega
    rw [hi]
    clear hBx hi
    obtain ⟨fn,tmps,assign,body,hy,hR⟩:=hY _ ⟨m,hml⟩ wr hJs (by rw [q0i];exact hlt)
    dsimp only at hy
    have hmk:=Lib.hid hmk
    gi_wp2
    refine hR.mono ?_
    rintro e W3 (⟨rfl,hJ3,hk3⟩ | ⟨rfl,hJx3⟩)
    · -- THE ROUND GOES ON
      gi_wp2
      go_roundw
      case rel=>exact ⟨k+1,by omega,by simp;omega,by rw [k2e,show down h1 k=⟨m,hml⟩ from Subtype.ext hmk.out];exact hJ3,hKp _ _ hnx hk3⟩
      case measure=>simp [intOf]
    · gi_wp2
      refine bodyPost_ret (results_none rfl _ _ _) rfl ?_
      exact ⟨⟨_,rfl⟩,.inr ⟨_,⟨k+1,by omega,by rw [k2e,show down h1 k=⟨m,hml⟩ from Subtype.ext hmk.out]⟩,hJx3⟩⟩
  · obtain rfl:k=len:=by omega
    have hi:((k:Int)-1-k)=-1:=by omega
    rw [hi]
    gi_wp2
    go_end0
    exact ⟨⟨_,rfl⟩,.inl ⟨_,rfl,hJs⟩⟩
set_option maxHeartbeats 1000000 in
theorem back_in (F:Fence) (n:Nat)(h5:F.fn 177) (hro:F.round=none) (a:Option Addr) (len cap:Nat) (w:World) :
    CallsIn F n Tryz.prog 177 #[.slice a len cap] w fun e w'=>e=.returned (.func (.func 193) #[] #[.pointer (some ⟨w.heap.size,0,none⟩)])∧w'=w.alloc (.cells #[.slice a len cap] 155):=by
 refine callsIn_of_wp Tryz.func177 rfl h5 ?_ hro
 simp only [Tryz.ntmps177,List.size_toArray,List.length_cons,List.length_nil,Nat.reduceAdd,Nat.reduceSub,Array.replicate_succ,Array.replicate_zero,List.push_toArray,List.append_toArray,List.nil_append,List.cons_append]
 gi_wp2
 go_ret
 exact ⟨rfl,rfl⟩
def Bx (Bs len cap:Nat) (a:Addr) (z:Nat→Int) (W:World):Prop:=W.cell? ⟨Bs,0,none⟩=some (.slice (some a) len cap)∧∀ j,j<len→W.cell? (a.add j)=some (.int .u32 (z j))
theorem add_blk (a:Addr) (n:Nat):(a.add n).block=a.block:=by unfold Addr.add;split <;> rfl
theorem Bx.below {Bs len cap:Nat} {a:Addr} {z:Nat→Int} {w W:World} (h:Bx Bs len cap a z w) (hB:Bs<w.heap.size) (ha:a.block<w.heap.size) (hb:Below w.heap.size w W):Bx Bs len cap a z W :=
 ⟨(hb.cell (p:=⟨Bs,0,none⟩) hB).trans h.1,fun j hj=>(hb.cell (p:=a.add j) (by rw [add_blk];exact ha)).trans (h.2 j hj)⟩
theorem back_stops (F:Fence) (n:Nat)(h7:F.fn 193) (hro:F.round=none) (hn:1≤n) (Bs len cap:Nat)(h1:0<len) (a:Addr) (z:Nat→Int) (hreach:len*4≤140737488351232) (w:World) (hB:Bs<w.heap.size) (ha:a.block<w.heap.size) (hbx:Bx Bs len cap a z w) :
    SeqStopsK F n Tryz.prog 193 #[.pointer (some ⟨Bs,0,none⟩)] (fun x:{ m:Nat // m<len }=>#[Value.int .i64 (x.1:Nat),Value.int .u32 (z x.1)]) (fun W W'=>Bx Bs len cap a z W→Bx Bs len cap a z W') (fun ys=>ys=upto (down h1) len) (fun _=>True) len w:=fun l J Jx W hW _ _ hY h0 =>
 (q6e F n h7 hro hn l Bs len cap h1 a z hreach _ (Bx Bs len cap a z) (fun W h=>h) (fun W W' h hk=>hk h) J Jx hY W (hbx.below hB ha hW) h0).mono fun e W' ⟨he,h⟩=>⟨he,h.imp id fun ⟨pre,_,hj⟩=>⟨pre,trivial,hj⟩⟩
end Go.Proofs
namespace Go.Proofs
open Go.RowKit Go.Shelf Go.Sort
attribute [local go_sem] Oper.semAt_some
theorem decD:∀ u:Nat,Lib.decDigits u=Gb.dec u:=by
 intro u
 induction u using Nat.strongRecOn with
 | _ u ih =>
  unfold Lib.decDigits Gb.dec
  split
  · rfl
  · rw [ih (u / 10) (by omega)]
def k2m (len:Nat) (z:Nat→Int) (m:Nat):List UInt8:=(if m+1<len then List.replicate (9-(Gb.dec (z m).toNat).length) 48 else [])++Gb.dec (z m).toNat
def txt (len:Nat) (z:Nat→Int) (pre:List { m:Nat // m<len }):List UInt8:=(pre.map fun x=>k2m len z x.1).flatten
theorem k9b {len:Nat} {z:Nat→Int} {pre:List { m:Nat // m<len }} {x:{ m:Nat // m<len }}:txt len z (pre++[x])=txt len z pre++k2m len z x.1:=by simp [txt]
theorem q5k {w W:World} {nm:String} {k:IntKind} {zs:List Int} (h:Lib.TabIs Tryz.prog w nm k zs) (hb:Below w.heap.size w W):Lib.TabIs Tryz.prog W nm k zs:=by
 unfold Lib.TabIs World.var? at *
 cases hg:Tryz.prog.globalNamed nm with
 | none=>rw [hg] at h;cases h
 | some g =>
  rw [hg] at h
  simp only [Option.bind_some] at h ⊢
  cases hh:w.heap[g]? with
  | none=>rw [hh] at h;cases h
  | some o=>rw [hb.block g (Array.getElem?_eq_some_iff.1 hh).1,hh];rw [hh] at h;exact h
theorem x9u {W W':World} {row:Option Nat} {b:Nat} {cs:Array Value} {T:TypeId} {fz:Nat × Nat} (h:W.heap[b]?=some (.cells cs T fz)) (hg:W.grownBy W' row) (hr:∀ r,row=some r→∃ o:Obj,W.heap[r]?=some o∧o.isCells=false):W'.heap[b]?=some (.cells cs T fz)∧some b≠row:=by
 have hne:some b≠row:=fun e=>by
  obtain ⟨o,ho,hc⟩:=hr b e.symm
  rw [h] at ho;cases ho;cases hc
 exact ⟨(hg.block b (Array.getElem?_eq_some_iff.1 h).1 hne).trans h,hne⟩
theorem j7y {W W':World} {row:Option Nat} {T e B b:Nat} {bs:List Value} (h:Lib.IsBuilderF T e B b bs W) (hg:W.grownBy W' row) (hr:∀ r,row=some r→∃ o:Obj,W.heap[r]?=some o∧o.isCells=false):Lib.IsBuilderF T e B b bs W':=by
 have at':∀ p,Lib.BuilderAtF T e B b p bs W→Lib.BuilderAtF T e B b p bs W':=by
  rintro p ⟨hB,v,hb,ho,hn⟩
  refine ⟨hB,v,(x9u hb hg hr).1,ho.kept hg ?_,hn⟩
  rcases ho.2 with ⟨rfl,_⟩ | ⟨g,cap,cur,fz,rfl,_,hgg,_⟩
  · exact .inl rfl
  · exact .inr (x9u hgg hg hr).2
 exact h.imp (at' _) (at' _)
theorem k5z {W W':World} (h:Below W.heap.size W W'):W.grownBy W' none:=⟨h.os,h.tape,h.output,h.size,fun k hk _=>h.block k hk⟩
theorem k0l {W W':World} {T e B b:Nat} {bs:List Value} (h:Lib.IsBuilderF T e B b bs W) (hb:Below W.heap.size W W'):Lib.IsBuilderF T e B b bs W':=j7y h (k5z hb) (fun r e=>by cases e)
theorem y7m (w:World) (k:Nat) (os:Array Obj):Below w.heap.size w (grow (w.drewN k) os) :=
 ⟨rfl,rfl,rfl,by simp [grow,World.drewN],fun b hb=>by
  show (w.heap++os)[b]?=_
  rw [Array.getElem?_append_left hb]⟩
theorem q5e {len:Nat} {z:Nat→Int} {m:Nat} (h:0≤z m∧z m<1000000000):(k2m len z m).length≤9:=by
 have:(Gb.dec (z m).toNat).length≤9:=Gb.dec_length (by omega) (by omega)
 unfold k2m
 split <;> simp <;> omega
theorem q4f {len:Nat} {z:Nat→Int} (hz:∀ j,j<len→0≤z j∧z j<1000000000):∀ pre:List { m:Nat // m<len },(txt len z pre).length≤pre.length*9
 | []=>Nat.le_refl _
 | x::pre=>by
  have h1:=q4f hz pre
  have h2:=q5e (len:=len) (hz x.1 x.2)
  have:txt len z (x::pre)=k2m len z x.1++txt len z pre:=by simp [txt]
  rw [this,List.length_append,List.length_cons];omega
theorem rep48 (n:Nat):Lib.repeatL [48] n=List.replicate n (48:UInt8):=by
 induction n with
 | zero=>rfl
 | succ n ih=>show 48::Lib.repeatL [48] n=_;rw [ih];rfl
set_option maxRecDepth 100000 in
set_option maxHeartbeats 4000000 in
theorem q9x (len cap:Nat) (hl:0<len) (hreach:len*9≤140737488355328) (a:Addr) (z:Nat→Int) (hz:∀ j,j<len→0≤z j∧z j<1000000000) (w:World) (ha:a.block<w.heap.size)
    (hc:∀ j,j<len→w.cell? (a.add j)=some (.int .u32 (z j))) (htab:Lib.TabIs Tryz.prog w "internal/strconv.uint64pow10" .u64 Lib.pow10Tab) :
    Calls Tryz.prog 159 #[.slice (some a) len cap] w fun e w'=>e=.returned (.string ⟨(txt len z (upto (down hl) len)).toArray⟩)∧Below w.heap.size w w':=by
 refine (callsIn_wide (n:=3)).1 ?_
 have h1:1≤3:=by omega
 refine callsIn_of_wp_marks Tryz.func159 rfl trivial ?_ rfl
 simp only [Tryz.ntmps159,List.size_toArray,List.length_cons,List.length_nil,Nat.reduceAdd,Nat.reduceSub,Array.replicate_succ,Array.replicate_zero,List.push_toArray,List.append_toArray,List.nil_append,List.cons_append]
 gi_wp2_with (refine ⟨trivial,?_⟩;gi_at_call 177;refine (back_in Fence.wide _ trivial rfl _ _ _ _).mono ?_;rintro e w' ⟨rfl,rfl⟩)
 obtain ⟨W0,hW0⟩:∃ W0,W0=((w.alloc (.cells #[.slice (some a) len cap] 155)).alloc (.cells #[.pointer none,.slice none 0 0] 188)).alloc (.cells #[.slice (some a) len cap] 155):=⟨_,rfl⟩
 rw [← hW0]
 have hsz:W0.heap.size=w.heap.size+1+1+1:=by rw [hW0];simp
 have hbel:Below w.heap.size w W0:=by rw [hW0];exact (((Below.refl _ w).alloc (Nat.le_refl _) _).alloc (by simp) _).alloc (by simp;omega) _
 have hb2:W0.heap[w.heap.size+1+1]?=some (.cells #[.slice (some a) len cap] 155 (0,0)):=by
  rw [hW0];have:=World.alloc_heap_new ((w.alloc (.cells #[.slice (some a) len cap] 155)).alloc (.cells #[.pointer none,.slice none 0 0] 188)) (.cells #[.slice (some a) len cap] 155);rwa [World.size_alloc,World.size_alloc] at this
 have hbb:W0.heap[w.heap.size+1]?=some (.cells #[.pointer none,.slice none 0 0] 188 (0,0)):=by
  rw [hW0,Below.heap_alloc _ _ _ (by simp)];have:=World.alloc_heap_new (w.alloc (.cells #[.slice (some a) len cap] 155)) (.cells #[.pointer none,.slice none 0 0] 188);rwa [World.size_alloc] at this
 have hb1:W0.heap[w.heap.size]?=some (.cells #[.slice (some a) len cap] 155 (0,0)):=by
  rw [hW0,Below.heap_alloc _ _ _ (by simp;omega),Below.heap_alloc _ _ _ (by simp)];exact World.alloc_heap_new _ _
 have hbx:Bx (w.heap.size+1+1) len cap a z W0:=⟨by simp [World.cell?,hb2],fun j hj=>(hbel.cell (p:=a.add j) (by rw [add_blk];exact ha)).trans (hc j hj)⟩
 have hbd:Lib.IsBuilderF 188 5 w.heap.size (w.heap.size+1) (Lib.byteCells (txt len z [])) W0:=Lib.IsBuilderF.of (.inl ⟨by omega,_,hbb,World.ownsRow_nil _ _ _ _,by simp [Value.ownBlock]⟩)
 clear hW0 hc
 refine wpIn_rangeFunc_ownF rfl (by omega) (gf:=193) (lb:=#[.pointer (some ⟨w.heap.size+1+1,0,none⟩)]) rfl trivial (enters_of Tryz.func193 (by kernel_rfl) rfl)
  (back_stops Fence.wide _ trivial rfl (by omega) (w.heap.size+1+1) len cap hl a z (by omega) W0 (by omega) (by omega) hbx) (fun h k x=>k (h x)) ?hKb (Below.refl _ _) (fun _=>rfl)
  (fun pre W=>Lib.IsBuilderF 188 5 w.heap.size (w.heap.size+1) (Lib.byteCells (txt len z pre)) W∧W.heap[w.heap.size]?=some (.cells #[.slice (some a) len cap] 155 (0,0))∧W.heap[w.heap.size+1+1]?=some (.cells #[.slice (some a) len cap] 155 (0,0))∧Below w.heap.size w W)
  (fun _ _ _=>False) ?hI ?hIx ⟨hbd,hb1,hb2,hbel⟩
  (fun x=>{ tmps:=#[.slice (some a) len cap,.pointer (some ⟨w.heap.size,0,none⟩),.string ⟨#[]⟩,.pointer (some ⟨w.heap.size+1,0,none⟩),.int .i64 (x.1:Nat),.int .u32 (z x.1),undef,.slice (some a) len cap,.int .i64 len,.bool false,.slice (some a) len cap,.func (.func 193) #[] #[.pointer (some ⟨w.heap.size+1+1,0,none⟩)],.int .i64 (x.1:Nat),.int .u32 (z x.1),undef,undef,undef,undef,undef,undef,undef,undef,undef,undef,undef,undef,undef,undef,undef,undef],defers:=[] }) ?assign ?body ?done ?stop
 case hKb =>
  intro W l o o' hlB ho hoc _ ⟨hx1,hx2⟩
  exact ⟨cell_kept hx1 (grownBy_putObj' _ l o') (fun r e=>by cases e;exact ⟨_,ho,hoc⟩),fun j hj=>cell_kept (hx2 j hj) (grownBy_putObj' _ l o') (fun r e=>by cases e;exact ⟨_,ho,hoc⟩)⟩
 case hI =>
  rintro s W W' row ⟨i1,i2,i3,i4⟩ hg hr
  have hr':∀ r,row=some r→∃ o:Obj,W.heap[r]?=some o∧o.isCells=false:=fun r e=>(hr r e).2
  exact ⟨j7y i1 hg hr',(x9u i2 hg hr').1,(x9u i3 hg hr').1,i4.grown hg i4.size (fun k e=>by have:=(hr k e).1;omega)⟩
 case hIx=>intro c s W W' row h;exact h.elim
 case assign =>
  intro l x W K hK
  gi_wp2
  exact hK
 case body =>
  rintro l pre ⟨m,hm⟩ W ⟨i1,i2,i3,i4⟩ hlt
  obtain ⟨u,hu⟩:∃ u:Nat,z m=u:=⟨(z m).toNat,by have:=hz m hm;omega⟩
  have hu9:u<1000000000:=by have:=hz m hm;omega
  have hpl:=q4f hz pre
  have htab':=q5k htab i4
  dsimp only
  rw [hu]
  have hdl:(Lib.decDigits u).length≤9:=by rw [decD];exact Gb.dec_length (by omega) (by omega)
  have hq:(Lib.byteCells (txt len z pre)).length+(ByteArray.mk (Lib.decDigits u).toArray).size≤140737488355328:=by
   rw [Lib.byteCells_length]
   show _+(Lib.decDigits u).toArray.size≤_
   simp only [List.size_toArray];omega
  have hbc:∃ cs T,W.heap[w.heap.size+1]?=some (.cells cs T (0,0)):=by
   rcases i1 with ⟨_,v,h,_⟩ | ⟨_,v,h,_⟩
   · exact ⟨_,_,h⟩
   · exact ⟨_,_,h⟩
  have fin:∀ (W':World) (bs:List Value) (a':Act),Below w.heap.size W W'→Lib.OthersKept 5 (some (w.heap.size+1)) W W'→Lib.IsBuilderF 188 5 w.heap.size (w.heap.size+1) bs W'→bs=Lib.byteCells (txt len z (pre++[⟨m,hm⟩])) →
      ownPostK (fun W W'=>Bx (w.heap.size+1+1) len cap a z W→Bx (w.heap.size+1+1) len cap a z W') (fun pre W=>Lib.IsBuilderF 188 5 w.heap.size (w.heap.size+1) (Lib.byteCells (txt len z pre)) W∧W.heap[w.heap.size]?=some (.cells #[.slice (some a) len cap] 155 (0,0))∧W.heap[w.heap.size+1+1]?=some (.cells #[.slice (some a) len cap] 155 (0,0))∧Below w.heap.size w W) (fun _ _ _=>False) (pre++[⟨m,hm⟩]) W .normal a' W':=by
   rintro W' bs a' g1 g2 g3 rfl
   have e2:=g2 _ _ i2 (by simp) (by rintro c fz e;cases e)
   have e3:=g2 _ _ i3 (by simp) (by rintro c fz e;cases e)
   refine ⟨⟨g1.size,fun k o hk ho=>g2 k o hk (fun e=>?_) (fun c fz e=>by rw [e] at ho;cases ho)⟩,fun hx=>⟨by simp [World.cell?,e3],fun j hj=>(g1.cell (p:=a.add j) (by rw [add_blk];exact ha)).trans (hx.2 j hj)⟩,g3,e2,e3,i4.trans g1⟩
   cases e
   obtain ⟨cs,T,h⟩:=hbc
   rw [h] at hk;cases hk;cases ho
  have step0:∀ {w1:World},Below W.heap.size W w1→Below w.heap.size W w1∧Lib.OthersKept 5 (some (w.heap.size+1)) W w1:=fun {w1} hb=>⟨hb.mono i4.size,fun k o hk _ _=>(hb.block k (Array.getElem?_eq_some_iff.1 hk).1).trans hk⟩
  have bytes:∀ (l1 l2:List UInt8),Lib.byteCells l1++Lib.strCells ⟨l2.toArray⟩=Lib.byteCells (l1++l2):=fun l1 l2=>by simp [Lib.byteCells,Lib.strCells]
  have hpc:k2m len z m=(if m+1<len then List.replicate (9-(Gb.dec u).length) 48 else [])++Gb.dec u:=by unfold k2m;rw [hu,Int.toNat_natCast]
  by_cases hlast:m+1<len
  · obtain ⟨q,hqq⟩:∃ q:Nat,(9:Int)-((Lib.decDigits u).length:Int)=q:=⟨9-(Lib.decDigits u).length,by omega⟩
    have hr1:(ByteArray.mk #[48]).size*q≤140737488355328:=by show 1*q≤_;omega
    have hsc:Lib.strCells ⟨(Lib.repeatL [48] q).toArray⟩=Lib.byteCells (List.replicate q 48):=by rw [rep48];simp [Lib.strCells,Lib.byteCells]
    have hr2:(Lib.byteCells (txt len z pre)).length+(ByteArray.mk (Lib.repeatL [48] q).toArray).size≤140737488355328:=by
     rw [Lib.byteCells_length]
     show _+(Lib.repeatL [48] q).toArray.size≤_
     rw [rep48,List.size_toArray,List.length_replicate];omega
    have hr3:(Lib.byteCells (txt len z pre)++Lib.strCells ⟨(Lib.repeatL [48] q).toArray⟩).length+(ByteArray.mk (Lib.decDigits u).toArray).size≤140737488355328:=by
     rw [hsc,List.length_append,Lib.byteCells_length,Lib.byteCells_length,List.length_replicate]
     show _+(Lib.decDigits u).toArray.size≤_
     simp only [List.size_toArray];omega
    have hsc:=Lib.hid hsc
    gi_wp2_with (first
     | (refine ⟨trivial,?_⟩;gi_at_call 178;refine (CallsIn.inRound l (callsIn_wide.2 (Tryz.strconv_FormatUint u (by omega) W htab'))).mono ?_;rintro e w1 ⟨rfl,k,os,hw1⟩;have hb:Below W.heap.size W w1:=(by rw [hw1];exact y7m _ _ _);clear hw1;have j1:=k0l i1 hb;have j2:w1.cell? ⟨w.heap.size,0,none⟩=some (.slice (some a) len cap):=(by simp [World.cell?,hb.block _ (Array.getElem?_eq_some_iff.1 i2).1,i2]))
     | (refine ⟨trivial,?_⟩;gi_at_call 180;refine (CallsIn.inRound l (callsIn_wide.2 (Tryz.strings_Repeat ⟨#[48]⟩ q w1 (by omega) hr1))).mono ?_;rintro e w3 ⟨rfl,r1⟩;have j3:=k0l j1 r1)
     | (refine ⟨trivial,?_⟩;gi_at_call 179;refine (CallsIn.inRound l (callsIn_wide.2 (Tryz.WriteString_k w.heap.size (w.heap.size+1) _ ⟨(Lib.repeatL [48] q).toArray⟩ w3 j3 hr2 (Nat.le_trans i4.size (Nat.le_trans hb.size r1.size))))).mono ?_;rintro e w4 ⟨rfl,k1,k2,k3⟩;clear j3)
     | (refine ⟨trivial,?_⟩;gi_at_call 179;refine (CallsIn.inRound l (callsIn_wide.2 (Tryz.WriteString_k w.heap.size (w.heap.size+1) _ ⟨(Lib.decDigits u).toArray⟩ w4 (.inr k1) hr3 (Nat.le_trans i4.size (Nat.le_trans hb.size (Nat.le_trans r1.size k2.size)))))).mono ?_;rintro e w5 ⟨rfl,n1,n2,n3⟩))
    obtain ⟨s1,s2⟩:=step0 hb
    have t1:Below w.heap.size W w3:=s1.trans (r1.mono (Nat.le_trans i4.size hb.size))
    have t2:Lib.OthersKept 5 (some (w.heap.size+1)) W w3:=s2.trans (fun k o hk _ _=>(r1.block k (Array.getElem?_eq_some_iff.1 hk).1).trans hk)
    exact fin w5 _ _ ((t1.trans k2).trans n2) ((t2.trans k3).trans n3) (.inr n1) (by
     rw [hsc.out,show Lib.byteCells (txt len z pre)++Lib.byteCells (List.replicate q 48)=Lib.byteCells (txt len z pre++List.replicate q 48) by simp [Lib.byteCells],bytes,k9b,hpc,if_pos hlast,decD,show 9-(Gb.dec u).length=q by rw [decD] at hqq;omega]
     rw [List.append_assoc])
  · gi_wp2_with (first
     | (refine ⟨trivial,?_⟩;gi_at_call 178;refine (CallsIn.inRound l (callsIn_wide.2 (Tryz.strconv_FormatUint u (by omega) W htab'))).mono ?_;rintro e w1 ⟨rfl,k,os,hw1⟩;have hb:Below W.heap.size W w1:=(by rw [hw1];exact y7m _ _ _);clear hw1;have j1:=k0l i1 hb;have j2:w1.cell? ⟨w.heap.size,0,none⟩=some (.slice (some a) len cap):=(by simp [World.cell?,hb.block _ (Array.getElem?_eq_some_iff.1 i2).1,i2]))
     | (refine ⟨trivial,?_⟩;gi_at_call 179;refine (CallsIn.inRound l (callsIn_wide.2 (Tryz.WriteString_k w.heap.size (w.heap.size+1) _ _ _ j1 hq (Nat.le_trans i4.size hb.size)))).mono ?_;rintro e w2 ⟨rfl,k1,k2,k3⟩))
    obtain ⟨s1,s2⟩:=step0 hb
    exact fin w2 _ _ (s1.trans k2) (s2.trans k3) (.inr k1) (by rw [bytes,k9b,hpc,if_neg hlast,decD];rfl)
 case done =>
  rintro D ys W hD rfl ⟨i1,i2,i3,i4⟩ hK
  gi_wp2_with (refine ⟨trivial,?_⟩;gi_at_call 181;refine (callsIn_wide.2 (Tryz.Builder_String_any_k w.heap.size (w.heap.size+1) _ W i1 i4.size)).mono ?_;rintro e w' ⟨rfl,_,k2,k3⟩;have hK':=k3 D _ hK (by simp;omega) (by simp))
  refine ⟨by simp,.inl ⟨_,_,rfl,run_takeDeferred hK',?_⟩⟩
  exact ⟨_,results_tmp rfl _ _ _,rfl,(i4.trans k2).trans (belowK_b (w:=w) (Nat.le_refl _) _ D _ _ (by omega) hK' rfl rfl)⟩
 case stop =>
  rintro D c pre W _ _ h _
  exact h.elim
end Go.Proofs
namespace Gev
open Go Gb Go.Proofs
variable {E:Env}
theorem v1b {α:Type} {l:List α} {i:Nat} (h:i<l.length):∃ c,l[i]?=some c:=⟨l[i],List.getElem?_eq_getElem h⟩
theorem v0w {h w:Nat} (h0:0<h) (hw:w<1000000000):dec (w+1000000000*h)=dec h++(List.replicate (9-(dec w).length) 48++dec w):=by
 have hl:(dec w).length≤9:=dec_length (by omega) (by omega)
 obtain ⟨t,et⟩:∃ t,t=9-(dec w).length:=⟨_,rfl⟩
 rw [← et]
 have hz:∀ t,dval (List.replicate t 48)=0:=fun t=>by
  induction t with
  | zero=>rfl
  | succ t ih=>rw [List.replicate_succ,k0d,ih];simp
 have hdz:Dg (List.replicate t 48):=fun c hc=>by rw [List.eq_of_mem_replicate hc];decide
 have hN:k2g (dec h++(List.replicate t 48++dec w)):=by
  refine ⟨by simp [x0k],(z8x h).append (hdz.append (z8x w)),fun _=>?_⟩
  rw [k6a (x0k h)]
  exact j7m (by omega)
 have e:=hN.eq_dec
 rw [e]
 congr 1
 rw [y0g,y0g,hz,z0x,z0x,List.length_append,List.length_replicate,show t+(dec w).length=9 by omega]
 omega
theorem j3k {n:Nat} (hl:0<(words n).length):∀ k,1≤k→k≤(words n).length→∀ H:Nat,wv ((words n).drop ((words n).length-k))=H→txt (words n).length (fun j=>(words n).getD j 0) (upto (down hl) k)=dec H
 | 0,h,_,_,_=>by omega
 | k+1,_,hk,H,hH=>by
  rw [k2e,k9b]
  obtain ⟨m,hm⟩:∃ m,m+k+1=(words n).length:=⟨(words n).length-k-1,by omega⟩
  have em:(down hl k).1=m:=by show (words n).length-1-k=m;omega
  rw [em]
  rw [show (words n).length-(k+1)=m by omega,J6 _ _ (by omega)] at hH
  have hb:=(B2 n).getD m
  obtain ⟨x,ex⟩:∃ x:Nat,(words n).getD m 0=x:=⟨((words n).getD m 0).toNat,by omega⟩
  obtain ⟨h,eh,h1,h2⟩:=k9f (n:=n) (i:=m) (by omega)
  rw [ex,eh] at hH
  unfold k2m
  simp only
  rw [ex,Int.toNat_natCast]
  rcases Nat.eq_zero_or_pos k with rfl | hk0
  · have:=h2 (by omega)
    subst this
    rw [if_neg (by omega),List.nil_append,show upto (down hl) 0=[] from rfl,show txt (words n).length (fun j=>(words n).getD j 0) []=[] from rfl,List.nil_append,show H=x by omega]
  · have hp:=h1 (by omega)
    rw [j3k hl k hk0 (by omega) h (by rw [show (words n).length-k=m+1 by omega];exact eh),if_pos (by omega),show H=x+1000000000*h by omega,v0w hp (by omega)]
theorem q5m:Fn E J1 [.c (.list [])] (.c (.str ⟨#[48]⟩)) :=
 fnMk [.t true] (by kernel_rfl) (by kernel_rfl) (aO (beT (a:=(0:Int)) (b:=0) rfl)) (by kernel_rfl)
theorem v2l (htab:∀ w,E.Gd w→Lib.TabIs Tryz.prog w "internal/strconv.uint64pow10" .u64 Lib.pow10Tab) {n K:Nat} (h:n<10 ^ K) (hK:K≤Lim+1):Fn E J1 [.c (.list (Wr (words n)))] (.c (.str (B (dec n)))):=by
 have hwl:=z3q h
 rw [K3] at hK
 by_cases h0:n=0
 · subst h0
   rw [J9,z1y]
   exact q5m
 · have hl:0<(words n).length:=z5g (fun e=>h0 (z2g.1 e))
   refine ⟨K4 (by kernel_rfl),.c _,fun w ext cargs hg hB hx hcl ha=>?_⟩
   obtain ⟨v,rfl⟩:∃ v,cargs=#[v]:=by
    match cargs,hcl with
    | ⟨[v]⟩,_=>exact ⟨v,rfl⟩
   have hc0:=ha 0 v _ rfl rfl
   cases hc0 with
   | c hr =>
    generalize hxs:Wr (words n)=xs at hr
    cases hr with
    | list A c xs sz u hc hA hx' hu hd =>
     subst hxs
     obtain ⟨a,rfl,hab,_⟩:=hA (by intro e;have h9:=congrArg List.length e;rw [A7,List.length_nil] at h9;omega)
     have hsz:sz=1:=by
      obtain ⟨x,hx0⟩:=v1b (l:=words n) (i:=0) hl
      rw [← hx' _ (List.mem_of_getElem? (q0m hx0))];rfl
     subst hsz
     rw [A7]
     have hcell:∀ j,j<(words n).length→w.cell? (a.add j)=some (.int .u32 ((words n).getD j 0)):=by
      intro j hj
      have g:=D2 hj
      have e1:=hu a j _ 0 _ rfl g rfl
      have e2:=hd j _ 0 _ g rfl
      rw [Nat.mul_one,Nat.add_zero] at e1
      rw [e1]
      generalize u j 0=q at e2
      cases e2;rfl
     have hz:∀ j,j<(words n).length→0≤(words n).getD j 0∧(words n).getD j 0<1000000000:=fun j _=>(B2 n).getD j
     refine Calls.mono (q9x (words n).length c hl (by omega) a (fun j=>(words n).getD j 0) hz w hab hcell (htab w hg)) ?_
     rintro e w' ⟨rfl,hb⟩
     have hk:=Kept.of_below hb
     refine ⟨_,rfl,E.hs w _ (fun b hb'=>hk.heap b (Nat.lt_of_lt_of_le hb' hB) id) hk.size hg,hk,?_⟩
     rw [j3k hl (words n).length hl (Nat.le_refl _) n (by rw [Nat.sub_self,List.drop_zero,B1])]
     exact .c (.str _)
end Gev
namespace Gev
open Go Gb Go.Proofs Go.Sort
variable {E:Env}
structure Laid (E:Env):Prop where
 tab:∀ w,E.Gd w→Go.Lib.TabIs Tryz.prog w "internal/strconv.uint64pow10" .u64 Go.Lib.pow10Tab
 max:∀ w,E.Gd w→∃ m,w.cell? ⟨0,0,none⟩=some (.int .i64 m)
theorem j1t (z:Int):Go.Lib.itoa z=decZ z:=by
 by_cases h:z<0
 · obtain ⟨u,rfl⟩:∃ u:Nat,z=-(u:Int):=⟨z.natAbs,by omega⟩
   rw [Go.Lib.itoa_neg u (by omega),z0c h,decD,Int.natAbs_neg,Int.natAbs_natCast]
 · obtain ⟨u,rfl⟩:∃ u:Nat,z=u:=⟨z.natAbs,by omega⟩
   rw [Go.Lib.itoa_nonneg,z7n,decD]
theorem y8w {Γ:Ctx} (l:List UInt8):RepA DD Γ (.string ⟨l.toArray⟩) (.c (.str (B l))):=.c (.str _)
theorem q7b (L:Laid E) (z:Int) (hz:-9223372036854775808≤z∧z≤9223372036854775807):Fn E x0d [.c (.i64 z)] (.c (.str (B (decZ z)))) :=
 z2h (ds:=[.i64 z]) (vs:=[.int .i64 z]) E.hs (K4 (by kernel_rfl)) (.c _) rfl fun w hg _=>by
  refine Calls.mono (Tryz.strconv_Itoa z hz.1 hz.2 w (L.tab w hg)) ?_
  rintro e w' ⟨rfl,k,os,rfl⟩
  exact ⟨_,rfl,Kept.of_below (y7m _ _ _),fun ext=>by rw [j1t];exact y8w _⟩
theorem k9u (L:Laid E) (z:Int) (hz:-9223372036854775808≤z∧z≤9223372036854775807):Fn E z1p [.c (.i64 z),.c (.i64 10)] (.c (.str (B (decZ z)))) :=
 z2h (ds:=[.i64 z,.i64 10]) (vs:=[.int .i64 z,.int .i64 10]) E.hs (K4 (by kernel_rfl)) (.c _) rfl fun w hg _=>by
  refine Calls.mono (Tryz.strconv_FormatInt_10 z hz.1 hz.2 w (L.tab w hg)) ?_
  rintro e w' ⟨rfl,k,os,rfl⟩
  exact ⟨_,rfl,Kept.of_below (y7m _ _ _),fun ext=>by rw [j1t];exact y8w _⟩
theorem k9t (l p:List UInt8):Fn E X8 [.c (.str (B l)),.c (.str (B p))] (.tup [.c (.str (B (if p.isPrefixOf l then l.drop p.length else l))),.c (.bool (p.isPrefixOf l))]) :=
 z2h (ds:=[.str (B l),.str (B p)]) (vs:=[.string (B l),.string (B p)]) E.hs (K4 (by kernel_rfl)) (AV.isData_ok rfl) rfl fun w hg _=>by
  refine Calls.mono (Tryz.strings_CutPrefix (B l) (B p) w) ?_
  rintro e w' ⟨rfl,rfl⟩
  refine ⟨_,rfl,Kept.refl _ _,fun ext=>?_⟩
  rw [z6j,z6j]
  refine .tup [_,_] _ rfl fun i v a h1 h2=>?_
  match i,h1,h2 with
  | 0,h1,h2=>cases h1;cases h2;exact y8w _
  | 1,h1,h2=>cases h1;cases h2;exact .c (.bool _)
theorem v1f (L:Laid E) (s sep:List UInt8) (hs:s.length<4000000000):Fn E z3r [.c (.str (B s)),.c (.str (B sep))] (.tup [.c (.str (B (Go.Lib.cut s sep).1)),.c (.str (B (Go.Lib.cut s sep).2.1)),.c (.bool (Go.Lib.cut s sep).2.2)]) :=
 z2h (ds:=[.str (B s),.str (B sep)]) (vs:=[.string (B s),.string (B sep)]) E.hs (K4 (by kernel_rfl)) (AV.isData_ok rfl) rfl fun w hg _=>by
  obtain ⟨m,hm⟩:=L.max w hg
  refine Calls.mono (Tryz.strings_Cut (B s) (B sep) m w (by rw [C5];omega) hm) ?_
  rintro e w' ⟨rfl,n,rfl⟩
  refine ⟨_,rfl,Kept.of_drewN w n,fun ext=>?_⟩
  rw [z6j,z6j]
  refine .tup [_,_,_] _ rfl fun i v a h1 h2=>?_
  match i,h1,h2 with
  | 0,h1,h2=>cases h1;cases h2;exact y8w _
  | 1,h1,h2=>cases h1;cases h2;exact y8w _
  | 2,h1,h2=>cases h1;cases h2;exact .c (.bool _)
theorem x5p (b:UInt8) (l:List UInt8):Go.Lib.index (b::l) [47]=if b=47 then 0 else if Go.Lib.index l [47]=-1 then -1 else Go.Lib.index l [47]+1:=by
 show (if [47].isPrefixOf (b::l) then 0 else if Go.Lib.index l [47] == -1 then -1 else Go.Lib.index l [47]+1)=_
 have:[47].isPrefixOf (b::l)=((47:UInt8) == b):=by show ((47:UInt8) == b && [].isPrefixOf l)=_;simp
 rw [this]
 by_cases hb:b=47
 · subst hb;simp
 · rw [beq_eq_false_iff_ne.2 (fun e=>hb e.symm),if_neg (by simp),if_neg hb]
   simp only [beq_iff_eq]
theorem j7w:∀ {p:List UInt8},(47:UInt8) ∉ p→Go.Lib.index p [47]=-1
 | [],_=>rfl
 | b::l,h=>by
  have h1:b≠47:=fun e=>h (by rw [e];simp)
  have h2:=j7w (p:=l) (fun e=>h (by simp [e]))
  rw [x5p,if_neg h1,if_pos h2]
theorem j2e {q:List UInt8}:∀ {p:List UInt8},(47:UInt8) ∉ p→Go.Lib.index (p++47::q) [47]=p.length
 | [],_=>by rw [List.nil_append,x5p,if_pos rfl];rfl
 | b::l,h=>by
  have h1:b≠47:=fun e=>h (by rw [e];simp)
  have h2:=j2e (q:=q) (p:=l) (fun e=>h (by simp [e]))
  rw [List.cons_append,x5p,if_neg h1,h2,if_neg (by omega),List.length_cons];rfl
theorem v0t {p q:List UInt8} (h:(47:UInt8) ∉ p):Go.Lib.cut (p++47::q) [47]=(p,q,true):=by
 unfold Go.Lib.cut
 rw [j2e h,if_pos (by omega),Int.toNat_natCast,List.take_left,List.length_singleton,List.drop_append,List.drop_eq_nil_of_le (by omega),List.nil_append,show p.length+1-p.length=1 by omega];rfl
theorem cut_no {p:List UInt8} (h:(47:UInt8) ∉ p):Go.Lib.cut p [47]=(p,[],false):=by
 unfold Go.Lib.cut
 rw [j7w h,if_neg (by omega)]
theorem k9c {M:Nat} (hM:1000000000≤M):∀ (l:List UInt8) (acc:Nat),Dg l→acc*10 ^ l.length+dval l<1000000000→Go.Lib.parseUintM M acc l=.ok (acc*10 ^ l.length+dval l)
 | [],acc,_,_=>by show Go.Lib.NumEnd.ok acc=_;rw [q6n];simp
 | c::r,acc,hd,hb=>by
  have hc:=hd c (by simp)
  rw [k0d,List.length_cons,Nat.pow_succ] at hb ⊢
  have hp:1≤10 ^ r.length:=Nat.pow_pos (by decide)
  have e:acc*(10 ^ r.length*10)+((c.toNat-48)*10 ^ r.length+dval r)=(acc*10+(c.toNat-48))*10 ^ r.length+dval r:=by grind
  rw [e] at hb ⊢
  have hle:(acc*10+(c.toNat-48))≤(acc*10+(c.toNat-48))*10 ^ r.length:=Nat.le_mul_of_pos_right _ hp
  unfold Go.Lib.parseUintM
  rw [if_pos hc,if_neg (by omega),if_neg (by omega)]
  exact k9c hM r _ (fun x hx=>hd x (by simp [hx])) hb
theorem k5i {l:List UInt8} (hd:Dg l) (hl:l.length≤9):dval l<1000000000:=by
 have h1:=x7x hd
 have h2:(10:Nat) ^ l.length≤10 ^ 9:=Nat.pow_le_pow_right (by decide) hl
 omega
theorem k9v (l:List UInt8) (hd:Dg l)(h1:1≤l.length)(h9:l.length≤9):Fn E z5n [.c (.str (B l)),.c (.i64 10),.c (.i64 32)] (.tup [.c (.u64 (dval l:Int)),.undef]) :=
 z2h (ds:=[.str (B l),.i64 10,.i64 32]) (vs:=[.string (B l),.int .i64 10,.int .i64 32]) E.hs (K4 (by kernel_rfl)) (AV.isData_ok rfl) rfl fun w hg _=>by
  have hp:Go.Lib.parseUintB 32 (B l).data.toList=.ok (dval l):=by
   rw [z6j]
   unfold Go.Lib.parseUintB
   rw [if_neg (by intro e;rw [e] at h1;simp at h1),k9c (by decide) l 0 hd (by have:=k5i hd h9;omega)]
   simp
  refine Calls.mono (Tryz.strconv_ParseUint_10_at32_ok (B l) (by rw [C5];omega) _ hp w) ?_
  rintro e w' ⟨rfl,hw⟩
  have hk:Kept (fun _=>False) w w':=by
   rcases hw with rfl | rfl
   · exact Kept.refl _ _
   · exact Kept.of_below (Go.Lib.bytesWorld_below w 5 (B l))
  refine ⟨_,rfl,hk,fun ext=>?_⟩
  refine .tup [_,_] _ rfl fun i v a h1 h2=>?_
  match i,h1,h2 with
  | 0,h1,h2=>cases h1;cases h2;exact .c (.int _ _)
  | 1,h1,h2=>cases h1;cases h2;exact .undef _
theorem j4h (z:Int) (hl:(decZ z).length≤9):Fn E z2o [.c (.str (B (decZ z))),.c (.i64 10),.c (.i64 64)] (.tup [.c (.i64 z),.undef]) :=
 z2h (ds:=[.str (B (decZ z)),.i64 10,.i64 64]) (vs:=[.string (B (decZ z)),.int .i64 10,.int .i64 64]) E.hs (K4 (by kernel_rfl)) (AV.isData_ok rfl) rfl fun w hg _=>by
  have hla:(dec z.natAbs).length≤9:=Nat.le_trans (by unfold decZ;split <;> simp) hl
  have hn:=k5i (z8x z.natAbs) hla
  rw [z0x] at hn
  have hu:Go.Lib.parseUintB 64 (dec z.natAbs)=.ok z.natAbs:=by
   unfold Go.Lib.parseUintB
   rw [if_neg (x0k _),k9c (by decide) _ 0 (z8x _) (by rw [z0x];omega),z0x]
   simp
  have hp:Go.Lib.parseIntB 64 (B (decZ z)).data.toList=.ok z:=by
   rw [z6j]
   by_cases h:z<0
   · rw [z0c h]
     unfold Go.Lib.parseIntB
     simp only
     rw [if_pos (.inr rfl),hu]
     simp only
     rw [if_neg (by simp),if_neg (by omega),if_pos (show UInt8.toNat 45=45 from rfl)]
     congr 1;omega
   · rw [J0 (by omega)]
     cases hd:dec z.natAbs with
     | nil=>exact absurd hd (x0k _)
     | cons c r =>
      have hc:=z8x z.natAbs c (by rw [hd];simp)
      unfold Go.Lib.parseIntB
      simp only
      rw [if_neg (by omega),← hd,hu]
      simp only
      rw [if_neg (by omega),if_neg (by omega),if_neg (by omega)]
      congr 1;omega
  refine Calls.mono (Tryz.strconv_ParseInt_10_at64_ok (B (decZ z)) (by rw [C5];omega) _ hp w) ?_
  rintro e w' ⟨rfl,hw⟩
  have hk:Kept (fun _=>False) w w':=by
   rcases hw with rfl | ⟨t,rfl⟩
   · exact Kept.refl _ _
   · exact Kept.of_below (Go.Lib.bytesWorld_below w 5 t)
  refine ⟨_,rfl,hk,fun ext=>?_⟩
  refine .tup [_,_] _ rfl fun i v a h1 h2=>?_
  match i,h1,h2 with
  | 0,h1,h2=>cases h1;cases h2;exact .c (.int _ _)
  | 1,h1,h2=>cases h1;cases h2;exact .undef _
end Gev
namespace Go.Proofs
open Go.RowKit Go.Shelf Go.Sort Go.MapKept
set_option maxRecDepth 100000
theorem u110:Tryz.prog.underlying 110=some (.map 5 109):=by kernel_rfl
theorem u5:Tryz.prog.underlying 5=some (.int .u8):=by kernel_rfl
theorem k4u (w:World) (es:Array MapEntry) (c:Nat) (k:Int) (v:Value) (hf:Instr.findNow (.int .u8) (.int .u8 k) es.toList 0=some none) :
    (Instr.mapUpdate 110 (.map (some w.heap.size)) (.int .u8 k) v).run Tryz.prog (w.alloc (.map es c))=.ok () (w.alloc (.map (es.push { key:=.int .u8 k,val:=v,born:=c }) (c+1))):=by
 have hb:(w.alloc (.map es c)).heap[w.heap.size]?=some (.map es c):=World.alloc_heap_new w _
 have hs:({ (w.alloc (.map es c)) with heap:=(w.alloc (.map es c)).heap.setIfInBounds w.heap.size (.map (es.push { key:=.int .u8 k,val:=v,born:=c }) (c+1)) }:World)=w.alloc (.map (es.push { key:=.int .u8 k,val:=v,born:=c }) (c+1)):=by
  show ({ w with heap:=(w.heap.push (.map es c)).setIfInBounds w.heap.size _ }:World)={ w with heap:=w.heap.push _ }
  have e:∀ (h:Array Obj) (x y:Obj),(h.push x).setIfInBounds h.size y=h.push y:=fun h x y=>by
   apply Array.ext'
   simp [List.set_append]
  rw [e]
 have hk:IsKey (TypeDesc.int IntKind.u8) (Value.int IntKind.u8 k):=rfl
 simp only [Instr.mapUpdate,Sem.run_bind,run_underlying u110,Result.andThen,Go.MapKept.run_getObj_map hb,Go.MapKept.run_checkKey u5 hk,Go.MapKept.run_findKey u5 hf,Go.MapKept.run_setObj_map _ hb,hs]
def opsMap:Array MapEntry:=#[{ key:=.int .u8 43,val:=.func (.func 134) #[] #[],born:=0 },{ key:=.int .u8 42,val:=.func (.func 135) #[] #[],born:=1 },{ key:=.int .u8 45,val:=.func (.func 136) #[] #[],born:=2 },{ key:=.int .u8 47,val:=.func (.func 138) #[] #[],born:=3 }]
theorem v1p (w:World):Calls Tryz.prog 117 #[] w fun e w'=>e=.returned (.map (some w.heap.size))∧w'=w.alloc (.map opsMap 4):=by
 have hmm:=@run_makeMap Tryz.prog
 have h1:=k4u w #[] 0 43 (.func (.func 134) #[] #[]) rfl
 have h2:=k4u w (#[{ key:=.int .u8 43,val:=.func (.func 134) #[] #[],born:=0 }]) 1 42 (.func (.func 135) #[] #[]) rfl
 have h3:=k4u w (#[{ key:=.int .u8 43,val:=.func (.func 134) #[] #[],born:=0 },{ key:=.int .u8 42,val:=.func (.func 135) #[] #[],born:=1 }]) 2 45 (.func (.func 136) #[] #[]) rfl
 have h4:=k4u w (#[{ key:=.int .u8 43,val:=.func (.func 134) #[] #[],born:=0 },{ key:=.int .u8 42,val:=.func (.func 135) #[] #[],born:=1 },{ key:=.int .u8 45,val:=.func (.func 136) #[] #[],born:=2 }]) 3 47 (.func (.func 138) #[] #[]) rfl
 go_enter Tryz.func117,Tryz.ntmps117
 go_wp2
 go_ret
 exact ⟨rfl,rfl⟩
theorem all_raw (w:World):Calls Tryz.prog 94 #[] w fun e w'=>e=.returned (.map (some w.heap.size))∧w'=w.alloc (.map opsMap 4):=by
 go_enter Tryz.func94,Tryz.ntmps94
 go_wp2_with (go_at_call 117;refine (v1p _).mono ?_;rintro e w' ⟨rfl,rfl⟩)
 go_ret
 exact ⟨rfl,rfl⟩
theorem run_look (w w1:World) (hb:w1.heap[w.heap.size]?=some (.map opsMap 4)) (k:Int) (f:Nat) (h:(k,f)∈[((43:Int),134),(42,135),(45,136),(47,138)]) :
    (Instr.lookup 110 (.map (some w.heap.size)) (.int .u8 k) false).run Tryz.prog w1=.ok (.func (.func f) #[] #[]) w1:=by
 have hk:IsKey (TypeDesc.int IntKind.u8) (Value.int IntKind.u8 k):=rfl
 have hf:∃ i,Instr.findNow (.int .u8) (.int .u8 k) opsMap.toList 0=some (some (i,.func (.func f) #[] #[])):=by
  simp only [List.mem_cons,Prod.mk.injEq,List.not_mem_nil,or_false] at h
  rcases h with ⟨rfl,rfl⟩ | ⟨rfl,rfl⟩ | ⟨rfl,rfl⟩ | ⟨rfl,rfl⟩
  · exact ⟨0,rfl⟩
  · exact ⟨1,rfl⟩
  · exact ⟨2,rfl⟩
  · exact ⟨3,rfl⟩
 obtain ⟨i,hf⟩:=hf
 simp [Instr.lookup,run_underlying u110,Result.andThen,Go.MapKept.run_getObj_map hb,Go.MapKept.run_checkKey u5 hk,Go.MapKept.run_findKey u5 hf]
end Go.Proofs
namespace Gev
open Go Gb Go.Proofs Go.Sort
variable {E:Env}
theorem v1z {Γ:Ctx} {v:Value} {s:ByteArray} (h:RepA DD Γ v (.c (.str s))):v=.string s:=by cases h with | c h=>cases h;rfl
theorem v1y {Γ:Ctx} {v:Value} {n:Int} (h:RepA DD Γ v (.c (.i64 n))):v=.int .i64 n:=by cases h with | c h=>cases h;rfl
theorem j6t {Γ:Ctx} {v:Value} {x y:ByteArray} (h:RepA DD Γ v (.agg [.str x,.str y])):v=.agg #[.string x,.string y]:=by
 cases h with
 | agg vs cs hl h =>
  match vs,hl with
  | ⟨[p,q]⟩,_ =>
   have h0:=h 0 p _ rfl rfl
   have h1:=h 1 q _ rfl rfl
   cases h0;cases h1;rfl
theorem j7e {Γ:Ctx} (x y:ByteArray):RepA DD Γ (.agg #[.string x,.string y]) (.agg [.str x,.str y]):=by
 refine .agg #[_,_] _ rfl fun j u d h1 h2=>?_
 match j,h1,h2 with
 | 0,h1,h2=>cases h1;cases h2;exact .str _
 | 1,h1,h2=>cases h1;cases h2;exact .str _
theorem q4l {a b x1 x2 y1 y2:ByteArray} (h:Fn E F_rational_both [.c (.str a),.c (.str b)] (.tup [.agg [.str x1,.str x2],.agg [.str y1,.str y2],.c (.i64 0)])) (w:World) (hg:E.Gd w) (hB:E.B0≤w.heap.size) :
    Calls Tryz.prog 73 #[.string a,.string b] w fun e w'=>e=.returned (.tuple #[.agg #[.string x1,.string x2],.agg #[.string y1,.string y2],.int .i64 0])∧E.Gd w'∧Kept (fun _=>False) w w':=by
 refine Calls.mono (h.calls w (fun _=>False) #[.string a,.string b] hg hB (fun _ h=>h.elim) rfl fun i v x h1 h2=>?_) ?_
 · match i,h1,h2 with
   | 0,h1,h2=>cases h1;cases h2;exact .c (.str _)
   | 1,h1,h2=>cases h1;cases h2;exact .c (.str _)
 · rintro e w' ⟨v,rfl,k1,k2,k3⟩
   refine ⟨?_,k1,k2⟩
   cases k3 with
   | tup vs us hl h =>
    match vs,hl with
    | [p,q,r],_ =>
     have h0:=j6t (h 0 p _ rfl rfl)
     have h1:=j6t (h 1 q _ rfl rfl)
     have h2:=v1y (h 2 r _ rfl rfl)
     subst h0 h1 h2;rfl
theorem q6g {f:Nat} {x1 x2 y1 y2 z1 z2:ByteArray} (h:Fn E f [.agg [.str x1,.str x2],.agg [.str y1,.str y2]] (.agg [.str z1,.str z2])) (w:World) (hg:E.Gd w) (hB:E.B0≤w.heap.size) :
    Calls Tryz.prog f #[.agg #[.string x1,.string x2],.agg #[.string y1,.string y2]] w fun e w'=>e=.returned (.agg #[.string z1,.string z2])∧E.Gd w'∧Kept (fun _=>False) w w':=by
 refine Calls.mono (h.calls w (fun _=>False) #[_,_] hg hB (fun _ h=>h.elim) rfl fun i v x h1 h2=>?_) ?_
 · match i,h1,h2 with
   | 0,h1,h2=>cases h1;cases h2;exact j7e _ _
   | 1,h1,h2=>cases h1;cases h2;exact j7e _ _
 · rintro e w' ⟨v,rfl,k1,k2,k3⟩
   rw [j6t k3];exact ⟨rfl,k1,k2⟩
theorem q4m {z1 z2 t:ByteArray} (h:Fn E F_rational_frac_text [.agg [.str z1,.str z2]] (.c (.str t))) (w:World) (hg:E.Gd w) (hB:E.B0≤w.heap.size) :
    Calls Tryz.prog 95 #[.agg #[.string z1,.string z2]] w fun e w'=>e=.returned (.string t)∧E.Gd w'∧Kept (fun _=>False) w w':=by
 refine Calls.mono (h.calls w (fun _=>False) #[_] hg hB (fun _ h=>h.elim) rfl fun i v x h1 h2=>?_) ?_
 · match i,h1,h2 with
   | 0,h1,h2=>cases h1;cases h2;exact j7e _ _
 · rintro e w' ⟨v,rfl,k1,k2,k3⟩
   rw [v1z k3];exact ⟨rfl,k1,k2⟩
end Gev
namespace Go.Proofs
open Go.RowKit Go.Shelf Go.Sort Gev
theorem q4u (W:World) (o:Obj):Kept (fun _=>False) W (W.drew.alloc o):=⟨fun b hb h=>(Kept.alloc (fun _=>False) W.drew o).heap b hb h,(Kept.alloc (fun _=>False) W.drew o).size,rfl,rfl,rfl⟩
theorem q0r {Gd:World→Prop} {B0:Nat} (hs:Stable B0 Gd) {w W2 w3:World} {x1 x2 y1 y2:ByteArray} {n:Nat} (hg:Gd w) (hB:B0≤w.heap.size) (k2:Kept (fun _=>False) w W2) (hw:w3=W2.drew.alloc (.map opsMap 4)) {op:Int} {f:Nat} (hop:(op,f)∈[((43:Int),134),(42,135),(45,136),(47,138)])
    (a0:W2.cell? ⟨n,0,none⟩=some (.string x1)) (a1:W2.cell? ⟨n,1,none⟩=some (.string x2)) (b0:W2.cell? ⟨n+1,0,none⟩=some (.string y1)) (b1:W2.cell? ⟨n+1,1,none⟩=some (.string y2)) :
    (Instr.lookup 110 (.map (some W2.heap.size)) (.int .u8 op) false).run Tryz.prog w3=.ok (.func (.func f) #[] #[]) w3∧w3.cell? ⟨n,0,none⟩=some (.string x1)∧w3.cell? ⟨n,1,none⟩=some (.string x2)∧w3.cell? ⟨n+1,0,none⟩=some (.string y1)∧w3.cell? ⟨n+1,1,none⟩=some (.string y2)∧Gd w3∧B0≤w3.heap.size∧Kept (fun _=>False) w w3:=by
 subst hw
 have k3:=q4u W2 (.map opsMap 4)
 have k:=k2.trans k3 (fun _ h=>False.elim h)
 exact ⟨run_look W2 _ (World.alloc_heap_new W2.drew _) op f hop,k3.cell a0 id,k3.cell a1 id,k3.cell b0 id,k3.cell b1 id,hs w _ (fun b hb=>k.heap b (Nat.lt_of_lt_of_le hb hB) id) k.size hg,Nat.le_trans hB k.size,k⟩
set_option maxRecDepth 100000 in
set_option maxHeartbeats 40000000 in
theorem q4k (Gd:World→Prop) (B0:Nat) (hs:Stable B0 Gd) (op:Int) (f:Nat) (hop:(op,f)∈[((43:Int),134),(42,135),(45,136),(47,138)]) (a b x1 x2 y1 y2 z1 z2 t:ByteArray)(h47:op=47→¬ y1=(⟨#[48]⟩:ByteArray))
    (ef:∀ args w,(callFunc f args).run Tryz.prog w=.ok (.enter f args) w)
    (hb:∀ w,Gd w→B0≤w.heap.size→Calls Tryz.prog 73 #[.string a,.string b] w fun e w'=>e=.returned (.tuple #[.agg #[.string x1,.string x2],.agg #[.string y1,.string y2],.int .i64 0])∧Gd w'∧Kept (fun _=>False) w w')
    (hf:∀ w,Gd w→B0≤w.heap.size→Calls Tryz.prog f #[.agg #[.string x1,.string x2],.agg #[.string y1,.string y2]] w fun e w'=>e=.returned (.agg #[.string z1,.string z2])∧Gd w'∧Kept (fun _=>False) w w')
    (ht:∀ w,Gd w→B0≤w.heap.size→Calls Tryz.prog 95 #[.agg #[.string z1,.string z2]] w fun e w'=>e=.returned (.string t)∧Gd w'∧Kept (fun _=>False) w w') (w:World) (hg:Gd w) (hB:B0≤w.heap.size) :
    Calls Tryz.prog 71 #[.int .u8 op,.string a,.string b] w fun e w'=>e=.returned (.tuple #[.string t,.int .i64 0])∧Kept (fun _=>False) w w':=by
 go_enter Tryz.func71,Tryz.ntmps71
 go_wp2_with (go_at_call 73;refine (hb _ hg hB).mono ?_;rintro e w1 ⟨rfl,g1,k1⟩)
 · rename_i _ hq
   exact absurd (bytes_ext (b:=(⟨#[48]⟩:ByteArray)) ((eq_of_beq hq).trans (by rw [toList_eq]))) (h47 (by assumption))
 all_goals
  obtain ⟨W2,hW2⟩:∃ W2,W2=(w1.alloc (.cells #[.string x1,.string x2] 88)).alloc (.cells #[.string y1,.string y2] 88):=⟨_,rfl⟩
  rw [← hW2]
  have a0:W2.cell? ⟨w1.heap.size,0,none⟩=some (.string x1):=by rw [hW2];simp
  have a1:W2.cell? ⟨w1.heap.size,1,none⟩=some (.string x2):=by rw [hW2];simp
  have b0:W2.cell? ⟨w1.heap.size+1,0,none⟩=some (.string y1):=by rw [hW2];simp
  have b1:W2.cell? ⟨w1.heap.size+1,1,none⟩=some (.string y2):=by rw [hW2];simp
  have k2:Kept (fun _=>False) w W2:=by rw [hW2];exact (k1.trans (Kept.alloc (fun _=>False) _ _) (fun _ h=>False.elim h)).trans (Kept.alloc (fun _=>False) _ _) (fun _ h=>False.elim h)
  have g2:Gd W2:=hs w _ (fun b hb=>k2.heap b (Nat.lt_of_lt_of_le hb hB) id) k2.size hg
  have hB2:=Nat.le_trans hB k2.size
  clear hW2
  try subst op
  go_region_with (first
   | (go_at_call 94;refine (all_raw _).mono ?_;rintro e w3 ⟨rfl,hw3⟩;obtain ⟨hl,a0',a1',b0',b1',g3,hB3,k3⟩:=q0r hs hg hB k2 hw3 hop a0 a1 b0 b1;clear hw3)
   | (go_at_call 95;refine (ht _ g4 hB4).mono ?_;rintro e w5 ⟨rfl,g5,k5⟩)
   | (refine (hf _ g3 hB3).mono ?_;rintro e w4 ⟨rfl,g4,k4⟩;have hB4:=Nat.le_trans hB3 k4.size))
  all_goals
   go_wp2
   go_ret2
   exact ⟨rfl,(k3.trans k4 (fun _ h=>False.elim h)).trans k5 (fun _ h=>False.elim h)⟩
end Go.Proofs
namespace Gev
open Go Gb Go.Proofs
variable {E:Env}
theorem q4v (op:Int) (f:Nat) (hop:(op,f)∈[((43:Int),X4),(42,P3),(45,N0),(47,N1)]) (a b x1 x2 y1 y2 z1 z2 t:BA)
    (hb:Fn E F_rational_both [.c (.str a),.c (.str b)] (.tup [.agg [.str x1,.str x2],.agg [.str y1,.str y2],.c (.i64 0)]))(h47:op=47→¬ y1=B [48])
    (hf:Fn E f [.agg [.str x1,.str x2],.agg [.str y1,.str y2]] (.agg [.str z1,.str z2])) (ht:Fn E F_rational_frac_text [.agg [.str z1,.str z2]] (.c (.str t))):Fn E Z6 [.c (.u8 op),.c (.str a),.c (.str b)] (.tup [.c (.str t),.c (.i64 0)]) :=
 z2h (ds:=[.u8 op,.str a,.str b]) (vs:=[.int .u8 op,.string a,.string b]) E.hs (K4 (by kernel_rfl)) (AV.isData_ok rfl) rfl fun w hg hB=>by
  refine Calls.mono (q4k E.Gd E.B0 E.hs op f hop a b x1 x2 y1 y2 z1 z2 t h47 hf.enters (q4l hb) (q6g hf) (q4m ht) w hg hB) ?_
  rintro e w' ⟨rfl,hk⟩
  refine ⟨_,rfl,hk,fun ext=>?_⟩
  refine .tup [_,_] _ rfl fun i v a h1 h2=>?_
  match i,h1,h2 with
  | 0,h1,h2=>cases h1;cases h2;exact .c (.str _)
  | 1,h1,h2=>cases h1;cases h2;exact .c (.int _ _)
theorem q7a (L:Laid E) (s sep:List UInt8) (hs:s.length<4200000000):Fn E z3r [.c (.str (B s)),.c (.str (B sep))] (.tup [.c (.str (B (Go.Lib.cut s sep).1)),.c (.str (B (Go.Lib.cut s sep).2.1)),.c (.bool (Go.Lib.cut s sep).2.2)]) :=
 z2h (ds:=[.str (B s),.str (B sep)]) (vs:=[.string (B s),.string (B sep)]) E.hs (K4 (by kernel_rfl)) (AV.isData_ok rfl) rfl fun w hg _=>by
  obtain ⟨m,hm⟩:=L.max w hg
  refine Calls.mono (Tryz.strings_Cut (B s) (B sep) m w (by rw [C5];omega) hm) ?_
  rintro e w' ⟨rfl,n,rfl⟩
  refine ⟨_,rfl,Kept.of_drewN w n,fun ext=>?_⟩
  rw [z6j,z6j]
  refine .tup [_,_,_] _ rfl fun i v a h1 h2=>?_
  match i,h1,h2 with
  | 0,h1,h2=>cases h1;cases h2;exact y8w _
  | 1,h1,h2=>cases h1;cases h2;exact y8w _
  | 2,h1,h2=>cases h1;cases h2;exact .c (.bool _)
theorem v1e (L:Laid E):Lib E where
 parseUint l h1 h2 h3:=k9v l h1 h2 h3
 cutPrefix l p _ _:=k9t l p
 cutYes p q hp hl:=by
  have h:=q7a L (p++47::q) [47] (by simp;omega)
  rw [v0t hp] at h;exact h
 cutNo p hp hl:=by
  have h:=v1f L p [47] hl
  rw [cut_no hp] at h;exact h
 parseInt z hz:=j4h z hz
 formatInt z hz:=k9u L z hz
 itoa z hz:=q7b L z hz
 apply op f hop a b x1 x2 y1 y2 z1 z2 t hb h47 hf ht:=q4v op f hop a b x1 x2 y1 y2 z1 z2 t hb h47 hf ht
 text n K h hK:=v2l L.tab h hK
def k4i (w:World) (own:Nat→Prop) (k:Nat) (xs:RW) (vs:List Value):Prop :=
 vs.length=xs.length*k∧(∀ x∈xs,x.length=k)∧∀ (i:Nat) x (j:Nat) d,xs[i]?=some x→x[j]?=some d→∃ u,vs[i*k+j]?=some u∧RepD w own u d
theorem k4i.one {w:World} {own:Nat→Prop} {k:Nat} {xs:RW} {vs:List Value} (h:k4i w own k xs vs) (u:Value) (hu:u∈vs):u.oneCell'=true:=by
 obtain ⟨n,hn⟩:=List.getElem?_of_mem hu
 obtain ⟨h1,h2,h3⟩:=h
 have hlt:=(List.getElem?_eq_some_iff.1 hn).1
 rw [h1] at hlt
 have hk:0<k:=by
  rcases Nat.eq_zero_or_pos k with e | e
  · subst e;simp at hlt
  · exact e
 have hi:n / k<xs.length:=by
  rw [Nat.div_lt_iff_lt_mul hk];exact hlt
 have hj:n % k<k:=Nat.mod_lt _ hk
 have hx:=List.getElem?_eq_getElem hi
 have hxl:=h2 _ (List.getElem_mem hi)
 have hd:=List.getElem?_eq_getElem (l:=xs[n / k]) (i:=n % k) (by omega)
 obtain ⟨u',e1,e2⟩:=h3 _ _ _ _ hx hd
 have e:n / k*k+n % k=n:=by rw [Nat.mul_comm];exact Nat.div_add_mod n k
 rw [e,hn] at e1
 cases e1
 exact y0p e2
theorem j8o {Γ:Ctx} {B0:Nat} {Gd:World→Prop} (hs:Stable B0 Gd) (ho:Γ.objs=[]) (hG:Good DD B0 Gd Γ) {w':World} (hk:Kept (fun _=>False) Γ.w w') {T k:Nat} {ti:TI} (ht:DD.ty T=some ti)(h2:ti.size=k) {xs:RW} {vs:List Value} (hc:k4i Γ.w Γ.own k xs vs) {v:Value}
    (hr:w'.ownsRow Γ.w.heap.size T k v xs.length vs):∃ Γ':Ctx,Γ'.objs=[some (.vec T xs)]∧Γ'.w=w'∧Good DD B0 Gd Γ'∧Tr DD Γ Γ'∧RepA DD Γ' v (.vec 0 xs.length):=by
 obtain ⟨hc1,hc2,hc3⟩:=hc
 have hnone:∀ k,lk Γ.objs k=none:=fun k=>by rw [ho];rfl
 have hgd:Gd w':=hs _ _ (fun b hb=>hk.heap b (Nat.lt_of_lt_of_le hb hG.size) id) hk.size hG.gd
 have hlen:∀ x∈xs,x.length=ti.size:=fun x hx=>(hc2 x hx).trans h2.symm
 have mk:∀ (ob:Option Nat),(∀ b,ob=some b→Γ.w.heap.size≤b)→∀ Γ':Ctx,Γ'=⟨⟨fun k=>if k=0 then ob else none,Γ.S.g,Γ.S.ext⟩,[some (.vec T xs)],w'⟩→(∀ b,Γ'.mine b→Γ.w.heap.size≤b)∧(y5s DD Γ' 0 (.vec T xs)→Good DD B0 Gd Γ'∧Tr DD Γ Γ'):=by
  intro ob hob Γ' e
  have hm:∀ b,Γ'.mine b→Γ.w.heap.size≤b:=fun b ⟨k,o,h,_,hS⟩=>by
   subst e
   match k,h,hS with
   | 0,h,hS=>cases h;exact hob b hS
  refine ⟨hm,fun hob2=>?_⟩
  have hl:∀ k o,lk Γ'.objs k=some o→k=0∧o=.vec T xs:=fun k o h=>by
   subst e
   match k,h with
   | 0,h=>cases h;exact ⟨rfl,rfl⟩
  have hw:Γ'.w=w':=by subst e;rfl
  have hex:Γ'.S.ext=Γ.S.ext:=by subst e;rfl
  refine ⟨⟨fun k o h=>?_,fun k k' o o' b h h' _ _ _ _=>?_,fun b hb=>?_,fun b hb=>⟨?_,fun h=>?_⟩,?_,?_⟩,⟨by rw [hw];exact hk.mono fun _ h=>h.elim,hex,fun b hb=>.inr (hm b hb),fun k cs h=>?_,fun v k len h=>?_,fun v k i off h=>?_⟩⟩
  · obtain ⟨rfl,rfl⟩:=hl k o h;exact hob2
  · rw [(hl k o h).1,(hl k' o' h').1]
  · rcases hb with hb | hb
    · exact hG.own b (.inl (hex ▸ hb))
    · exact Nat.le_trans hG.size (hm b hb)
  · rw [hw];exact Nat.lt_of_lt_of_le (hG.ext b (hex ▸ hb)).1 hk.size
  · have:=hm b h;have:=(hG.ext b (hex ▸ hb)).1;omega
  · rw [hw];exact Nat.le_trans hG.size hk.size
  · rw [hw];exact hgd
  · rw [hnone] at h;cases h
  · obtain ⟨o,h1,_⟩:=x2q h
    rw [hnone] at h1;cases h1
  · obtain ⟨o,h1,_⟩:=y4s h
    rw [hnone] at h1;cases h1
 obtain ⟨_,hr⟩:=hr
 rcases hr with ⟨rfl,h0⟩ | ⟨g,cap,cur,rfl,hb,hg,hnc,_,hsz,hcur⟩
 · have hl0:xs=[]:=List.eq_nil_of_length_eq_zero h0
   subst hl0
   obtain ⟨a1,a2⟩:=(mk none (fun _ h=>by cases h) _ rfl).2 ⟨ti,ht,hlen,.inl ⟨rfl,rfl⟩⟩
   exact ⟨_,rfl,rfl,a1,a2,.vnil 0 T rfl rfl⟩
 · obtain ⟨m1,m2⟩:=mk (some g) (fun b h=>by cases h;exact hb) _ rfl
   obtain ⟨a1,a2⟩:=m2 ⟨ti,ht,hlen,.inr ⟨g,cur,cap,rfl,hg,by rw [h2];exact hsz,hnc,fun i x j d u h1 h3 h4=>by
    rw [h2] at h4
    obtain ⟨u',e1,e2⟩:=hc3 i x j d h1 h3
    have hlt:i*k+j<xs.length*k:=by rw [← hc1];exact (List.getElem?_eq_some_iff.1 e1).1
    rw [← Array.getElem?_toList,← List.getElem?_take_of_lt hlt,hcur,e1] at h4
    cases h4
    exact e2.mono (hk.mono fun _ h=>h.elim) fun b hb' ho'=>by
     rcases ho' with ho' | ho'
     · exact .inl ho'
     · have:=m1 b ho';omega⟩⟩
   exact ⟨_,rfl,rfl,a1,a2,.vec 0 xs.length cap g T ti xs cur rfl ht rfl (Nat.le_refl _) hg (by rw [h2];exact hsz) hnc⟩
theorem j3a {f T k:Nat} (hen:∀ cargs w,(callFunc f cargs).run PP w=.ok (.enter f cargs) w) (hti:(DD.ty T).map (·.size)=some k)
    (hsome:∀ (a:Addr) (n c:Nat) (news:List Value) (w:World),news.length=n*k→n≤100000→(∀ j u,news[j]?=some u→w.cell? (a.add j)=some u)→(∀ u∈news,u.oneCell'=true)→Calls PP f #[.slice (some a) n c] w fun e w'=>∃ v',e=.returned v'∧w'.ownsRow w.heap.size T k v' n news∧Go.RowKit.Below w.heap.size w w')
    (hnil:∀ (n c:Nat) (w:World),Calls PP f #[.slice none n c] w fun e w'=>e=.returned (.slice none 0 0)∧w'=w)
    (xs:RW) (hxk:∀ x∈xs,x.length=k) (hl:xs.length<100000):Rn E f [.c (.list xs)] [] (.vec 0 xs.length) [some (.vec T xs)]:=by
 obtain ⟨ti,ht,h2⟩:∃ ti,DD.ty T=some ti∧ti.size=k:=by
  cases ht:DD.ty T with
  | none=>rw [ht] at hti;cases hti
  | some ti=>rw [ht] at hti;exact ⟨ti,rfl,Option.some.inj hti⟩
 refine ⟨hen,fun Γ cargs ho hG hcl ha=>?_⟩
 obtain ⟨v,rfl⟩:∃ v,cargs=#[v]:=by
  match cargs,hcl with
  | ⟨[v]⟩,_=>exact ⟨v,rfl⟩
 have hc0:=ha 0 v _ rfl rfl
 cases hc0 with
 | c hr =>
  cases hr with
  | list A c xs sz u hc hA hx' hu hd =>
   cases A with
   | none =>
    have hl0:xs=[]:=by
     cases xs with
     | nil=>rfl
     | cons p l=>obtain ⟨a,h,_⟩:=hA (by intro e;cases e);cases h
    subst hl0
    refine Calls.mono (hnil _ c Γ.w) ?_
    rintro e w' ⟨rfl,rfl⟩
    obtain ⟨Γ',a1,a2,a3,a4,a5⟩:=j8o E.hs ho hG (Kept.refl _ _) ht h2 (xs:=[]) (vs:=[]) ⟨(Nat.zero_mul k).symm,hxk,fun i x j d h=>by cases h⟩ (v:=.slice none 0 0) ⟨(Nat.zero_mul k).symm,.inl ⟨rfl,rfl⟩⟩
    exact ⟨_,Γ',rfl,a1,a2,a3,a4,a5⟩
   | some a =>
    have hk0:xs≠[]→k=sz:=fun hne=>by
     obtain ⟨x,hx⟩:=List.exists_mem_of_ne_nil xs hne
     rw [← hxk x hx,hx' x hx]
    have hcells:k4i Γ.w Γ.own k xs ((List.range (xs.length*k)).map fun n=>u (n / k) (n % k)):=by
     refine ⟨by simp,hxk,fun i x j d h1 h3=>?_⟩
     have hi:=(List.getElem?_eq_some_iff.1 h1).1
     have hj:j<k:=by rw [← hxk x (List.mem_of_getElem? h1)];exact (List.getElem?_eq_some_iff.1 h3).1
     have hlt:i*k+j<xs.length*k:=O4 hi hj
     refine ⟨u i j,?_,hd i x j d h1 h3⟩
     rw [List.getElem?_map,List.getElem?_range hlt]
     show some (u ((i*k+j) / k) ((i*k+j) % k))=_
     rw [show i*k+j=j+i*k by omega,Nat.add_mul_div_right _ _ (by omega),Nat.div_eq_of_lt hj,Nat.zero_add,Nat.add_mul_mod_self_right,Nat.mod_eq_of_lt hj]
    refine Calls.mono (hsome a xs.length c _ Γ.w hcells.1 (by omega) (fun n w0 hn=>?_) hcells.one) ?_
    · have hlt:=(List.getElem?_eq_some_iff.1 hn).1
      rw [List.length_map,List.length_range] at hlt
      rw [List.getElem?_map,List.getElem?_range hlt] at hn
      cases hn
      have hk:0<k:=by
       rcases Nat.eq_zero_or_pos k with e | e
       · subst e;simp at hlt
       · exact e
      have hi:n / k<xs.length:=by rw [Nat.div_lt_iff_lt_mul hk];exact hlt
      have hj:n % k<k:=Nat.mod_lt _ hk
      have hx:=List.getElem?_eq_getElem hi
      have hxl:=hxk _ (List.getElem_mem hi)
      have hdd:=List.getElem?_eq_getElem (l:=xs[n / k]) (i:=n % k) (by omega)
      have:=hu a _ _ _ _ rfl hx hdd
      rw [← hk0 (fun e=>by subst e;simp at hi)] at this
      rw [show n / k*k+n % k=n by rw [Nat.mul_comm];exact Nat.div_add_mod n k] at this
      exact this
    · rintro e w' ⟨v',rfl,hown,hb⟩
      obtain ⟨Γ',a1,a2,a3,a4,a5⟩:=j8o E.hs ho hG (Kept.of_below hb) ht h2 hcells hown
      exact ⟨_,Γ',rfl,a1,a2,a3,a4,a5⟩
end Gev
namespace Go.Proofs
open Go.RowKit Go.Shelf Go.Sort Go.Lib Gev
set_option maxHeartbeats 2000000 in
set_option maxRecDepth 100000 in
theorem q4o (a:Addr) (n c:Nat) (news:List Value) (w:World) (hl:news.length=n*1) (hn:n≤100000) (hc:∀ j u,news[j]?=some u→w.cell? (a.add j)=some u)(h1:∀ u∈news,u.oneCell'=true) :
    Calls Tryz.prog 26 #[.slice (some a) n c] w fun e w'=>∃ v',e=.returned v'∧w'.ownsRow w.heap.size 32 1 v' n news∧Below w.heap.size w w':=by
 have t22:Tryz.prog.underlying 37=some (.slice 32):=by kernel_rfl
 have q22:∀ (w:World) (a:Option Addr) (n c n' c':Nat),(binOp .eql 37 (.slice a n c) (.slice none n' c')).run Tryz.prog w=.ok (.bool a.isNone) w:=fun w a n c n' c'=>Lib.run_eql_slice_nil w _ _ a n c n' c' t22
 obtain ⟨i0,hi,hz0,hz1,hz2⟩:=info_parts (by kernel_rfl:(Tryz.prog.info? 32).map (fun i=>(i.zero,i.size,i.bytes))=some (some (.string ⟨#[]⟩),1,16))
 have A:Aside (∀ j u,news[j]?=some u→w.cell? (a.add j)=some u):=hc
 clear hc
 go_enter Tryz.func26,Tryz.ntmps26
 go_wp2_with (at_builtin;refine wpList_append_own _ rfl _ _ 37 rfl w.heap.size 32 i0 (.string ⟨#[]⟩) 1 16 t22 hi hz0 hz1 hz2 rfl (by decide) _ _ _ rfl (World.ownsRow_made w #[] 0 (Nat.le_refl _) (Nat.zero_le _) (by simp)) a n c news rfl ?qc1 ?qc2 ?qc3 ?qc4 ?qc5 ?qc6 ?_)
 case qc1=>exact hl
 case qc2=>exact fun j u hj=>Lib.cell?_alloc_some _ (A.out j u hj)
 case qc3=>exact h1
 case qc4=>rw [Nat.zero_add];unfold maxLen;omega
 case qc5=>rw [Nat.zero_add];omega
 case qc6=>simp
 intro v' w1 hown hgrow hnil
 go_wp2
 go_ret
 refine ⟨v',rfl,by simpa using hown,?_⟩
 exact ((Below.refl _ w).alloc (Nat.le_refl _) _).grown hgrow (by simp) (by intro k hk;simp [Value.ownBlock] at hk;omega)
set_option maxRecDepth 100000 in
theorem k9h (n c:Nat) (w:World):Calls Tryz.prog 26 #[.slice none n c] w fun e w'=>e=.returned (.slice none 0 0)∧w'=w:=by
 have t22:Tryz.prog.underlying 37=some (.slice 32):=by kernel_rfl
 have q22:∀ (w:World) (a:Option Addr) (n c n' c':Nat),(binOp .eql 37 (.slice a n c) (.slice none n' c')).run Tryz.prog w=.ok (.bool a.isNone) w:=fun w a n c n' c'=>Lib.run_eql_slice_nil w _ _ a n c n' c' t22
 go_enter Tryz.func26,Tryz.ntmps26
 go_wp2
 go_ret
 exact ⟨rfl,rfl⟩
set_option maxHeartbeats 2000000 in
set_option maxRecDepth 100000 in
theorem q4p (a:Addr) (n c:Nat) (news:List Value) (w:World) (hl:news.length=n*1) (hn:n≤100000) (hc:∀ j u,news[j]?=some u→w.cell? (a.add j)=some u)(h1:∀ u∈news,u.oneCell'=true) :
    Calls Tryz.prog 43 #[.slice (some a) n c] w fun e w'=>∃ v',e=.returned v'∧w'.ownsRow w.heap.size 37 1 v' n news∧Below w.heap.size w w':=by
 have t22:Tryz.prog.underlying 22=some (.slice 37):=by kernel_rfl
 have q22:∀ (w:World) (a:Option Addr) (n c n' c':Nat),(binOp .eql 22 (.slice a n c) (.slice none n' c')).run Tryz.prog w=.ok (.bool a.isNone) w:=fun w a n c n' c'=>Lib.run_eql_slice_nil w _ _ a n c n' c' t22
 obtain ⟨i0,hi,hz0,hz1,hz2⟩:=info_parts (by kernel_rfl:(Tryz.prog.info? 37).map (fun i=>(i.zero,i.size,i.bytes))=some (some (.slice none 0 0),1,24))
 have A:Aside (∀ j u,news[j]?=some u→w.cell? (a.add j)=some u):=hc
 clear hc
 go_enter Tryz.func43,Tryz.ntmps43
 go_wp2_with (at_builtin;refine wpList_append_own _ rfl _ _ 22 rfl w.heap.size 37 i0 (.slice none 0 0) 1 24 t22 hi hz0 hz1 hz2 rfl (by decide) _ _ _ rfl (World.ownsRow_made w #[] 0 (Nat.le_refl _) (Nat.zero_le _) (by simp)) a n c news rfl ?qc1 ?qc2 ?qc3 ?qc4 ?qc5 ?qc6 ?_)
 case qc1=>exact hl
 case qc2=>exact fun j u hj=>Lib.cell?_alloc_some _ (A.out j u hj)
 case qc3=>exact h1
 case qc4=>rw [Nat.zero_add];unfold maxLen;omega
 case qc5=>rw [Nat.zero_add];omega
 case qc6=>simp
 intro v' w1 hown hgrow hnil
 go_wp2
 go_ret
 refine ⟨v',rfl,by simpa using hown,?_⟩
 exact ((Below.refl _ w).alloc (Nat.le_refl _) _).grown hgrow (by simp) (by intro k hk;simp [Value.ownBlock] at hk;omega)
set_option maxRecDepth 100000 in
theorem k9i (n c:Nat) (w:World):Calls Tryz.prog 43 #[.slice none n c] w fun e w'=>e=.returned (.slice none 0 0)∧w'=w:=by
 have t22:Tryz.prog.underlying 22=some (.slice 37):=by kernel_rfl
 have q22:∀ (w:World) (a:Option Addr) (n c n' c':Nat),(binOp .eql 22 (.slice a n c) (.slice none n' c')).run Tryz.prog w=.ok (.bool a.isNone) w:=fun w a n c n' c'=>Lib.run_eql_slice_nil w _ _ a n c n' c' t22
 go_enter Tryz.func43,Tryz.ntmps43
 go_wp2
 go_ret
 exact ⟨rfl,rfl⟩
end Go.Proofs
namespace Gev
open Go
inductive TyD (P:Program):TypeId→List DV→Prop
 | int {t:TypeId} {k:IntKind} (n:Int) (h:P.underlying t=some (.int k)) (hw:(Lit.int k n).wf=true):TyD P t [.int k n]
 | bool {t:TypeId} (b:Bool) (h:P.underlying t=some .bool):TyD P t [.bool b]
 | str {t:TypeId} (s:BA) (h:P.underlying t=some .string):TyD P t [.str s]
 | slice {t e:TypeId} (xs:RW) (h:P.underlying t=some (.slice e)) (hx:∀ x∈xs,TyD P e x) (hl:xs.length≤maxLen):TyD P t [.list xs]
 | struct {t:TypeId} {fs:Array Field} (ds:List DV) (h:P.underlying t=some (.struct fs)) (hl:ds.length=P.cellsOf t) (hp:∀ f∈fs.toList,TyD P f.type ((ds.drop f.offset).take (P.cellsOf f.type))):TyD P t ds
def j3t (P:Program):Nat→List Field→Option Nat
 | o,[]=>some o
 | o,f::fs=>if f.offset=o then j3t P (o+P.cellsOf f.type) fs else none
def plainT (P:Program):Nat→TypeId→Bool
 | 0,_=>false
 | k+1,t=>match P.underlying t with
  | some .bool=>true
  | some (.int _)=>true
  | some .string=>true
  | some (.slice e)=>decide (0<P.cellsOf e) && plainT P k e
  | some (.struct fs)=>decide (j3t P 0 fs.toList=some (P.cellsOf t)) && fs.toList.all fun f=>plainT P k f.type
  | _=>false
theorem j3i {α β:Type} {f:α→Option β}:∀ {l:List α} {r:List β},l.mapM f=some r→r.length=l.length∧∀ (i:Nat) x,l[i]?=some x→∃ y,r[i]?=some y∧f x=some y
 | [],r,h=>by simp at h;subst h;exact ⟨rfl,fun i x h=>by simp at h⟩
 | a::l,r,h=>by
  simp only [List.mapM_cons,Option.bind_eq_bind,Option.bind_eq_some_iff,Option.pure_def,Option.some.injEq] at h
  obtain ⟨b,hb,bs,hbs,rfl⟩:=h
  obtain ⟨h1,h2⟩:=j3i hbs
  refine ⟨by simp [h1],fun i x hx=>?_⟩
  cases i with
  | zero=>simp at hx;subst hx;exact ⟨b,rfl,hb⟩
  | succ i=>exact h2 i x (by simpa using hx)
theorem x9x {α:Type} {p:Nat→α→Prop}:∀ n,(∀ i,i<n→∃ x,p i x)→∃ xs:List α,xs.length=n∧∀ (i:Nat) x,xs[i]?=some x→p i x
 | 0,_=>⟨[],rfl,fun i x h=>by simp at h⟩
 | n+1,h=>by
  obtain ⟨xs,h1,h2⟩:=x9x n fun i hi=>h i (by omega)
  obtain ⟨x,hx⟩:=h n (by omega)
  refine ⟨xs++[x],by simp [h1],fun i y hy=>?_⟩
  by_cases hi:i<n
  · exact h2 i y (by rwa [List.getElem?_append_left (by omega)] at hy)
  · have hlt:=(List.getElem?_eq_some_iff.1 hy).1
    simp [h1] at hlt
    have e:i=n:=by omega
    subst e
    rw [List.getElem?_append_right (by omega),h1,Nat.sub_self] at hy
    cases hy;exact hx
theorem q2e {w:World} {base:Nat} {a:Addr} {n:Nat} {cs:List Value} (h:w.cells? base a n=some cs):cs.length=n∧∀ (j:Nat) v,cs[j]?=some v→w.cell? (a.add j)=some v:=by
 unfold World.cells? at h
 split at h
 · obtain ⟨h1,h2⟩:=j3i h
   rw [List.length_range] at h1
   refine ⟨h1,fun j v hj=>?_⟩
   have hlt:=(List.getElem?_eq_some_iff.1 hj).1
   obtain ⟨y,hy,e⟩:=h2 j j (by rw [List.getElem?_range (by omega)])
   rw [hj] at hy;cases hy;exact e
 · cases h
section
variable {P:Program} {w:World} {own:Nat→Prop}
def k4z (w:World) (own:Nat→Prop) (cs:List Value) (ds:List DV):Prop:=ds.length=cs.length∧∀ (j:Nat) v e,cs[j]?=some v→ds[j]?=some e→RepD w own v e
theorem y7i {v:Value} {d:DV} (h:RepD w own v d):k4z w own [v] [d]:=⟨rfl,fun j v e h1 h2=>by
 cases j with
 | zero=>cases h1;cases h2;exact h
 | succ j=>simp at h1⟩
theorem j7d {cs cs':List Value} {ds ds':List DV} (h:k4z w own cs ds) (k:k4z w own cs' ds'):k4z w own (cs++cs') (ds++ds'):=by
 refine ⟨by simp [h.1,k.1],fun j v e h1 h2=>?_⟩
 by_cases hj:j<cs.length
 · rw [List.getElem?_append_left hj] at h1
   rw [List.getElem?_append_left (by rw [h.1];exact hj)] at h2
   exact h.2 j v e h1 h2
 · rw [List.getElem?_append_right (by omega)] at h1
   rw [List.getElem?_append_right (by rw [h.1];omega),h.1] at h2
   exact k.2 _ v e h1 h2
theorem k2r {cs:List Value}:∀ (fs:List Field) (o n:Nat),j3t P o fs=some n→n=cs.length →
    (∀ f∈fs,∃ ds,TyD P f.type ds∧k4z w own ((cs.drop f.offset).take (P.cellsOf f.type)) ds) →
    ∃ ds,k4z w own (cs.drop o) ds∧o≤n∧∀ f∈fs,o≤f.offset∧TyD P f.type ((ds.drop (f.offset-o)).take (P.cellsOf f.type))
 | [],o,n,h,hn,_=>by
  cases h
  subst hn
  exact ⟨[],by rw [List.drop_length];exact ⟨rfl,fun j v e h _=>by simp at h⟩,Nat.le_refl _,fun f h=>by cases h⟩
 | f::fs,o,n,h,hn,hf=>by
  unfold j3t at h
  split at h
  · rename_i ho
    obtain ⟨ds,h1,hle,h2⟩:=k2r fs _ n h hn fun g hg=>hf g (by simp [hg])
    obtain ⟨d0,t0,r0⟩:=hf f (by simp)
    have hl0:d0.length=P.cellsOf f.type:=by rw [r0.1,List.length_take,List.length_drop];omega
    refine ⟨d0++ds,?_,by omega,fun g hg=>?_⟩
    · have e:cs.drop o=(cs.drop o).take (P.cellsOf f.type)++cs.drop (o+P.cellsOf f.type):=by
       rw [← List.drop_drop,List.take_append_drop]
      rw [e]
      exact j7d (ho ▸ r0) h1
    · rcases List.mem_cons.1 hg with rfl | hg
      · refine ⟨by omega,?_⟩
        rw [ho,Nat.sub_self,List.drop_zero,List.take_left' hl0];exact t0
      · obtain ⟨hle2,ht⟩:=h2 g hg
        refine ⟨by omega,?_⟩
        have e:g.offset-o=d0.length+(g.offset-(o+P.cellsOf f.type)):=by omega
        rw [e,List.drop_append]
        rwa [List.drop_eq_nil_of_le (by omega),List.nil_append,Nat.add_sub_cancel_left]
  · cases h
theorem k9a {H:Type} {enc:TypeId × Value→H} {base:Nat} {sp:Nat→Bool} {held:Bool} (hown:∀ b,b<w.heap.size→¬ own b):∀ (k fuel:Nat) (t:TypeId) (cs:List Value) (x:DataW H × List MemPlace),plainT P k t=true→DataW.trod enc P w base sp held fuel t cs=some x→∃ ds,TyD P t ds∧k4z w own cs ds
 | 0,fuel,t,cs,x,hp,_=>by simp [plainT] at hp
 | k+1,fuel,t,cs,x,hp,h=>by
  unfold plainT at hp
  cases hu:P.underlying t with
  | none=>rw [hu] at hp;cases hp
  | some u =>
   rw [hu] at hp
   cases u with
   | bool =>
    obtain ⟨b,rfl,_⟩:=DataW.trod_bool hu h
    exact ⟨_,.bool b hu,y7i (.bool b)⟩
   | int q =>
    obtain ⟨n,rfl,_,hw⟩:=DataW.trod_int hu h
    exact ⟨_,.int n hu hw,y7i (.int q n)⟩
   | string =>
    obtain ⟨s,rfl,_,_⟩:=DataW.trod_string hu h
    exact ⟨_,.str s hu,y7i (.str s)⟩
   | slice e =>
    simp only [Bool.and_eq_true,decide_eq_true_eq] at hp
    rcases DataW.trod_slice hu h with ⟨rfl,_⟩ | ⟨a,len,cap,elems,rest,n,_,rfl,_,_,hlc,hcm,hel,hall,_⟩
    · exact ⟨_,.slice [] hu (fun _ h=>by cases h) (Nat.zero_le _),y7i (.list none 0 [] 0 (fun _ _=>.nilIface) (Nat.le_refl _) (fun h=>absurd rfl h) (fun _ h=>by cases h) (fun _ _ _ _ _ h=>by cases h) (fun _ _ _ _ h=>by simp at h))⟩
    · have hch:∀ i,i<len→∃ ds,TyD P e ds∧ds.length=P.cellsOf e∧∀ (j:Nat) d,ds[j]?=some d→∃ v,w.cell? (a.add (i*P.cellsOf e+j))=some v∧RepD w own v d:=by
       intro i hi
       have h1:=hall i hi
       rw [List.getElem?_eq_getElem (by omega)] at h1
       obtain ⟨cs',hcs,ht⟩:=Option.bind_eq_some_iff.1 h1
       obtain ⟨hcl,hcg⟩:=q2e hcs
       obtain ⟨ds,h2,h3⟩:=k9a hown k n e cs' _ hp.2 ht
       refine ⟨ds,h2,h3.1.trans hcl,fun j d hj=>?_⟩
       have hjl:=(List.getElem?_eq_some_iff.1 hj).1
       rw [h3.1] at hjl
       have e1:=List.getElem?_eq_getElem hjl
       refine ⟨cs'[j],?_,h3.2 j _ d e1 hj⟩
       rw [← x2s];exact hcg j _ e1
      obtain ⟨xs,hxl,hxs⟩:=x9x len hch
      have hblk:xs≠[]→a.block<w.heap.size:=fun hne=>by
       have hpos:0<xs.length:=List.length_pos_iff.2 hne
       have hx0:=hxs 0 xs[0] (List.getElem?_eq_getElem hpos)
       obtain ⟨_,hl0,hc0⟩:=hx0
       obtain ⟨v,hv,_⟩:=hc0 0 _ (List.getElem?_eq_getElem (by omega))
       have:=q2r hv
       rwa [O7] at this
      refine ⟨_,.slice xs hu (fun x hx=>?_) (by rw [hxl];omega),y7i ?_⟩
      · obtain ⟨i,hi⟩:=List.getElem?_of_mem hx
        exact (hxs i x hi).1
      · rw [← hxl]
        refine .list (some a) cap xs (P.cellsOf e) (fun i j=>(w.cell? (a.add (i*P.cellsOf e+j))).getD .nilIface) (by omega) (fun hne=>⟨a,rfl,hblk hne,hown _ (hblk hne)⟩) (fun x hx=>?_) (fun a' i x j d ha' hi hj=>?_) (fun i x j d hi hj=>?_)
        · obtain ⟨i,hi⟩:=List.getElem?_of_mem hx
          exact (hxs i x hi).2.1
        · cases ha'
          obtain ⟨v,hv,_⟩:=(hxs i x hi).2.2 j d hj
          rw [hv];rfl
        · obtain ⟨v,hv,hr⟩:=(hxs i x hi).2.2 j d hj
          rw [hv];exact hr
   | struct fs =>
    simp only [Bool.and_eq_true,decide_eq_true_eq,List.all_eq_true] at hp
    obtain ⟨xs,n,_,_,hcl,hxl,hall⟩:=DataW.trod_struct hu h
    obtain ⟨ds,h1,_,h2⟩:=k2r (P:=P) (w:=w) (own:=own) (cs:=cs) fs.toList 0 (P.cellsOf t) hp.1 hcl.symm (fun f hf=>by
     obtain ⟨i,hi⟩:=List.getElem?_of_mem hf
     rw [Array.getElem?_toList] at hi
     have h3:=hall i f hi
     have hil:=(Array.getElem?_eq_some_iff.1 hi).1
     rw [List.getElem?_eq_getElem (by omega)] at h3
     exact k9a hown k n f.type _ _ (hp.2 f hf) h3)
    rw [List.drop_zero] at h1
    exact ⟨ds,.struct ds hu (h1.1.trans hcl) (fun f hf=>by have:=(h2 f hf).2;rwa [Nat.sub_zero] at this),h1⟩
   | _=>cases hp
end
end Gev
namespace Gev
open Go Go.Proofs
def Told (w:World):Prop:=Go.Lib.TabIs Tryz.prog w "internal/strconv.uint64pow10" .u64 Go.Lib.pow10Tab∧∃ m,w.cell? ⟨0,0,none⟩=some (.int .i64 m)
theorem gTab:Tryz.prog.globalNamed "internal/strconv.uint64pow10"=some 3:=by kernel_rfl
theorem q0f:Stable 4 Told:=by
 rintro w w' hb _ ⟨h1,m,h2⟩
 refine ⟨?_,m,?_⟩
 · unfold Go.Lib.TabIs World.var? at h1 ⊢
   rw [gTab] at h1 ⊢
   simp only [Option.bind_some] at h1 ⊢
   rw [hb 3 (by omega)];exact h1
 · unfold World.cell? at h2 ⊢
   rw [hb 0 (by omega)];exact h2
noncomputable def E0:Env:=⟨4,Told,q0f⟩
theorem laid0:Laid E0:=⟨fun _ h=>h.1,fun _ h=>h.2⟩
theorem lib0:Lib E0:=v1e laid0
theorem q5r {w:World} (h:Told w):4≤w.heap.size:=by
 obtain ⟨h1,_⟩:=h
 unfold Go.Lib.TabIs World.var? at h1
 rw [gTab] at h1
 simp only [Option.bind_some] at h1
 cases hb:w.heap[3]? with
 | none=>rw [hb] at h1;cases h1
 | some o=>exact (Array.getElem?_eq_some_iff.1 hb).1
inductive AvOf (P:Program):TypeId→AV→Prop
 | agg {t:TypeId} {fs:Array Field} {ds:List DV} (h:P.underlying t=some (.struct fs)) (hd:TyD P t ds):AvOf P t (.agg ds)
 | one {t:TypeId} {d:DV} (hd:TyD P t [d]):AvOf P t (.c d)
def AvsOf (P:Program):List TypeId→List AV→Prop
 | [],[]=>True
 | t::ts,a::us=>AvOf P t a∧AvsOf P ts us
 | _,_=>False
theorem q9w {P:Program} {w:World} {own:Nat→Prop} {H:Type} {enc:TypeId × Value→H} {base b0:Nat} {sp:Nat→Bool} {held:Bool} (hown:∀ b,b<w.heap.size→¬ own b) {k:Nat} {t:TypeId} {v:Value} {d:DataW H} {ps:List MemPlace} (hp:plainT P k t=true) (hv:Value.okWide P w .any b0 t v)
    (h:DataW.Trod enc P w base sp held t v d ps):∃ a,AvOf P t a∧RepA DD ⟨⟨fun _=>none,fun _ _=>none,own⟩,[],w⟩ v a:=by
 obtain ⟨fuel,h⟩:=h
 obtain ⟨ds,h1,h2⟩:=k9a hown k fuel t _ _ hp h
 have hmine:∀ {b},(Ctx.mk ⟨fun _=>none,fun _ _=>none,own⟩ [] w).own b→own b:=fun h=>h.elim id fun h=>(x3i h).elim
 have one:∀ e,ds=[e]→v.cells.toList=[v]→∃ a,AvOf P t a∧RepA DD ⟨⟨fun _=>none,fun _ _=>none,own⟩,[],w⟩ v a:=fun e he hc=>by
  subst he
  rw [hc] at h2
  exact ⟨.c e,.one h1,.c ((h2.2 0 v e rfl rfl).mono (Kept.refl _ _) fun b _ hb=>hmine hb)⟩
 cases h1 with
 | int n hu hw =>
  obtain ⟨n,hc,_⟩:=DataW.trod_int hu h
  refine one _ rfl ?_
  cases v <;> simp_all [Value.cells,Value.okWide,Cell.okWide,Cell.ok]
 | bool b hu =>
  obtain ⟨n,hc,_⟩:=DataW.trod_bool hu h
  refine one _ rfl ?_
  cases v <;> simp_all [Value.cells,Value.okWide,Cell.okWide,Cell.ok]
 | str s hu =>
  obtain ⟨s,rfl⟩:=Go.WideShapes.okWide_string hu hv
  exact one _ rfl rfl
 | slice xs hu hx hl =>
  obtain ⟨a,l,c,rfl⟩:=Go.WideShapes.okWide_slice hu hv
  exact one _ rfl rfl
 | struct ds hu hl hp' =>
  obtain ⟨cs,rfl,hsz⟩:=Go.WideShapes.okWide_struct hu hv
  refine ⟨.agg ds,.agg hu (.struct ds hu hl hp'),.agg cs ds ?_ fun j u d hj hd=>?_⟩
  · have:=h2.1;simpa [Value.cells] using this.symm
  · exact (h2.2 j u d (by simpa [Value.cells] using hj) hd).mono (Kept.refl _ _) fun b _ hb=>hmine hb
theorem j3g {P:Program} {w:World} {own:Nat→Prop} {H:Type} {enc:TypeId × Value→H} {base b0:Nat} {sp:Nat→Bool} {held:Bool} (hown:∀ b,b<w.heap.size→¬ own b) {k:Nat}:∀ {ts:List TypeId} {vs:List Value} {ds:List (DataW H)} {ps:List MemPlace},ts.all (plainT P k)=true→(∀ (j:Nat) t v,ts[j]?=some t→vs[j]?=some v→Value.okWide P w .any b0 t v) →
    DataW.TrodAll enc P w base sp held ts vs ds ps→∃ us,AvsOf P ts us∧vs.length=us.length∧∀ (i:Nat) v a,vs[i]?=some v→us[i]?=some a→RepA DD ⟨⟨fun _=>none,fun _ _=>none,own⟩,[],w⟩ v a
 | [],[],[],ps,_,_,_=>⟨[],trivial,rfl,fun i v a h=>by simp at h⟩
 | t::ts,v::vs,d::ds,ps,hp,hv,h=>by
  rw [List.all_cons,Bool.and_eq_true] at hp
  obtain ⟨p,q,h1,h2,_⟩:=h
  obtain ⟨a,a1,a2⟩:=q9w hown hp.1 (hv 0 t v rfl rfl) h1
  obtain ⟨us,b1,b2,b3⟩:=j3g hown hp.2 (fun j t v h1 h2=>hv (j+1) t v h1 h2) h2
  refine ⟨a::us,⟨a1,b1⟩,by simp [b2],fun i v a h1 h2=>?_⟩
  cases i with
  | zero=>cases h1;cases h2;exact a2
  | succ i=>exact b3 i v a h1 h2
 | [],_::_,_,_,_,_,h=>by simp [DataW.TrodAll] at h
 | [],[],_::_,_,_,_,h=>by simp [DataW.TrodAll] at h
 | _::_,[],_,_,_,_,h=>by simp [DataW.TrodAll] at h
 | _::_,_::_,[],_,_,_,h=>by simp [DataW.TrodAll] at h
theorem x5g {H:Type} {enc:TypeId × Value→H} {P:Program} (hl:laidOutB P=true) {W W':World} (hb:Go.RowKit.Below W.heap.size W W'):∀ {ts:List TypeId} {vs:List Value} {ds:List (DataW H)} {ps:List MemPlace},(ts.all fun t=>P.readableRec t && decide (t<P.types.size))=true→(∀ x∈ps,x.block<W.heap.size) →
    DataW.TrodAll enc P W 0 (fun _=>true) true ts vs ds ps→DataW.TrodAll enc P W' 0 (fun b=>decide (b<W.heap.size)) true ts vs ds ps
 | [],[],[],ps,_,_,h=>h
 | t::ts,v::vs,d::ds,ps,hp,hlt,h=>by
  rw [List.all_cons,Bool.and_eq_true,Bool.and_eq_true,decide_eq_true_eq] at hp
  obtain ⟨p,q,h1,h2,rfl⟩:=h
  exact ⟨p,q,Go.RowKit.Below.trod hl hp.1.1 hp.1.2 h1 hb (fun x hx=>hlt x (by simp [hx])),x5g hl hb hp.2 (fun x hx=>hlt x (by simp [hx])) h2,rfl⟩
 | [],_::_,_,_,_,_,h=>by simp [DataW.TrodAll] at h
 | [],[],_::_,_,_,_,h=>by simp [DataW.TrodAll] at h
 | _::_,[],_,_,_,_,h=>by simp [DataW.TrodAll] at h
 | _::_,_::_,[],_,_,_,h=>by simp [DataW.TrodAll] at h
end Gev
namespace Gev
open Go Go.Proofs Go.ChangeShapes Go.WideShapes Go.ChangeAt Go.RowKit
variable {H:Type} {enc:TypeId × Value→H}
theorem j6v {C:Checked} {os:Os} {f:FuncId} {fn:Func} {s:ChangeSpec} {conds:List PathCond} {apart fresh handsOn again:Bool} {X:World→Prop} (hX:∀ (w w':World),w.heap=w'.heap→X w→X w')
    (own:ownKnob C.prog.godebug=none) (started:os.Started) (noInit:C.prog.inits.idxOf? f=none) (hfn:C.prog.funcs[f]?=some fn)
    (witness:∃ (w:World) (tape:Tape) (i:Input),w.os=os∧(w.forCall tape i).Shaped C.prog∧i.vars=[]∧Input.okWide C.prog (w.forCall tape i) .any w.heap.size f i ∧
     ((s.pre enc C.prog fn conds apart (w.forCall tape i).memory i.args∧X (w.forCall tape i).memory)∧sizedMet enc C.prog fn (OpenSpec.ofChange s) apart (w.forCall tape i).memory i.args)∧Assume.holds {} C.prog (lone (Frame.enter C.prog f i.args .normal) [] (w.forCall tape i)))
    (contract:∀ (W:World) (base:Nat) (args:Array Value) (ds gs:List (DataW H)) (before:List MemPlace),
     (∀ (j:Nat) t v,fn.params[j]?=some t→args[j]?=some v→Value.okWide C.prog W .any base t v) →
     DataW.Whole enc C.prog fn.params.toList s.vars apart W args.toList ds gs before→X W→W.ShapedOpen C.prog →
     Calls C.prog f args W fun e W'=>∃ v,e=.returned v∧s.post enc C.prog fn apart fresh handsOn again W args v W') :
    ReturnsInHanded {} C os f .any (fun w args=>(s.pre enc C.prog fn conds apart w args∧X w)∧sizedMet enc C.prog fn (OpenSpec.ofChange s) apart w args) (s.post enc C.prog fn apart fresh handsOn again):=by
 refine returnsInHanded_of_calls own started noInit witness ?_
 intro w tape i _ hsh _ hok hpre _
 obtain ⟨_,_,_,fn',hfn',_,_,_,_,hval⟩:=hok
 obtain rfl:fn'=fn:=Option.some.inj (hfn'.symm.trans hfn)
 obtain ⟨⟨⟨ds,gs,before,hw,_⟩,hx⟩,_⟩:=hpre
 have hw':=DataW.Whole.of_heap (w':=w.forCall tape i) (by rfl) hw
 refine (contract (w.forCall tape i) w.heap.size i.args ds gs before hval hw' (hX _ _ (by rfl) hx) hsh).mono fun e W' ⟨v,he,hp⟩=>?_
 subst he
 exact ChangeSpec.post_blind hp
abbrev laidL:List (String × DataW Unit):=[("math/bits.deBruijn32tab",YtfjcadbekkfddaaGreatDoor.Rows.laid_math_bits_deBruijn32tab),("math/bits.deBruijn64tab",YtfjcadbekkfddaaGreatDoor.Rows.laid_math_bits_deBruijn64tab),("internal/strconv.uint64pow10",YtfjcadbekkfddaaGreatDoor.Rows.laid_internal_strconv_uint64pow10),("strconv.ErrRange",YtfjcadbekkfddaaGreatDoor.Rows.laid_strconv_ErrRange),("strconv.ErrSyntax",YtfjcadbekkfddaaGreatDoor.Rows.laid_strconv_ErrSyntax)]
abbrev laidK:List LaidKind:=[.data,.data,.data,.sentinel,.sentinel]
theorem own0:ownKnob Tryz.prog.godebug=none:=by kernel_rfl
theorem q6z:laidOutB Tryz.prog=true:=by kernel_rfl
theorem door_met (os:Os) (args:Array Value):laidMetH Tryz.prog laidL ((World.doorLaid Tryz.prog 400 os).forCall (fun _ _=>0) ⟨#[],args,[]⟩).memory :=
 laidMetH_of_parts3 (fuel:=8) (laidMet_of_run' 8 (by kernel_rfl) (by kernel_rfl)) (by kernel_rfl) (by kernel_rfl)
theorem j2f {P:Program} {x:String × DataW Unit} {r:List (String × DataW Unit)} {w:World} (h:laidMet P (x::r) w):laidMet P r w:=by
 obtain ⟨ps,hv,hnd,hrows⟩:=h
 obtain ⟨n,d⟩:=x
 obtain ⟨g,t,cs,fuel,p,q,_,_,_,_,hq,rfl⟩:=hv
 exact ⟨q,hq,List.Nodup.sublist (List.sublist_append_right _ _) hnd,fun b off hm=>hrows b off (List.mem_append_right _ hm)⟩
theorem v2p {W:World} (h:laidMetH Tryz.prog laidL W) (hs:W.ShapedOpen Tryz.prog):Told W:=by
 refine ⟨?_,Tryz.laysM145.s1_3 W hs⟩
 rw [MakeChecks.laidMetH_plain _ _ _ (by kernel_rfl)] at h
 exact Go.Lib.tabIs_of_head (g:=3) gTab (t:=232) (e:=134) (n:=20) (by kernel_rfl) (by kernel_rfl) (by kernel_rfl) (by kernel_rfl) (by kernel_rfl) (j2f (j2f h):laidMet Tryz.prog (("internal/strconv.uint64pow10",Go.Lib.tabData .u64 Go.Lib.pow10Tab)::_) W)
theorem q8b {W:World}:∀ b,b<W.heap.size→¬ (fun _:Nat=>False) b:=fun _ _ h=>h
set_option maxRecDepth 100000 in
theorem law_lifted (f:FuncId) (fn:Func) (s:ChangeSpec) (os:Os) (started:os.Started) (hfn:Tryz.checked.prog.funcs[f]?=some fn) (noInit:Tryz.checked.prog.inits.idxOf? f=none) (hres:fn.resultTypes=#[4]) (hv:s.vars=[])
    (hs:∀ ds:List (DataW H),ds.length=fn.params.size→s.fn H ds={ results:=[.lit (.bool true)],args:=ds }) (hp:fn.params.toList.all (plainT Tryz.prog 10)=true) (hr:(fn.params.toList.all fun t=>Tryz.prog.readableRec t && decide (t<Tryz.prog.types.size))=true)
    (witness:∃ (w:World) (tape:Tape) (i:Input),w.os=os∧(w.forCall tape i).Shaped Tryz.checked.prog∧i.vars=[]∧Input.okWide Tryz.checked.prog (w.forCall tape i) .any w.heap.size f i ∧
     ((s.pre enc Tryz.checked.prog fn [] false (w.forCall tape i).memory i.args∧laidMetH Tryz.prog laidL (w.forCall tape i).memory)∧sizedMet enc Tryz.checked.prog fn (OpenSpec.ofChange s) false (w.forCall tape i).memory i.args)∧Assume.holds {} Tryz.checked.prog (lone (Frame.enter Tryz.checked.prog f i.args .normal) [] (w.forCall tape i)))
    (law:∀ us,AvsOf Tryz.prog fn.params.toList us→Fn E0 f us (.c (.bool true))) :
    ReturnsInHanded {} Tryz.checked os f .any (fun w args=>(s.pre enc Tryz.checked.prog fn [] false w args∧laidMetH Tryz.prog laidL w)∧sizedMet enc Tryz.checked.prog fn (OpenSpec.ofChange s) false w args) (s.post enc Tryz.checked.prog fn false true false false):=by
 refine j6v (fun _ _ hh h=>h.of_heap hh) own0 started noInit hfn witness fun W base args ds gs before hval hW hL hsh=>?_
 have hW':=hW
 obtain ⟨p,q,hA,hV,rfl,_,_⟩:=hW
 rw [hv] at hV
 obtain ⟨rfl,rfl⟩:=trodVars_none hV
 have hT:=v2p hL hsh
 have hlt:∀ y∈p,y.block<W.heap.size:=fun y hy=>hW'.lt y (List.mem_append_left _ hy)
 obtain ⟨us,u1,u2,u3⟩:=j3g q8b hp (fun j t v h1 h2=>hval j t v (by rw [← Array.getElem?_toList];exact h1) (by rw [← Array.getElem?_toList];exact h2)) hA
 have hdl:ds.length=fn.params.size:=by
  have:∀ {ts:List TypeId} {vs:List Value} {ds:List (DataW H)} {ps:List MemPlace},DataW.TrodAll enc Tryz.checked.prog W 0 (fun _=>true) true ts vs ds ps→ds.length=ts.length:=by
   intro ts
   induction ts with
   | nil=>intro vs ds ps h;cases vs <;> cases ds <;> simp_all [DataW.TrodAll]
   | cons t ts ih =>
    intro vs ds ps h
    cases vs with
    | nil=>cases ds <;> simp [DataW.TrodAll] at h
    | cons v vs=>cases ds with
     | nil=>simp [DataW.TrodAll] at h
     | cons d ds=>obtain ⟨_,_,_,h2,_⟩:=h;simp [ih h2]
  rw [this hA];simp
 refine Calls.mono ((law us u1).calls W (fun _=>False) args hT (q5r hT) (fun _ h=>h.elim) (by rw [← u2];simp) fun i v a h1 h2=>u3 i v a (by rw [Array.getElem?_toList];exact h1) h2) ?_
 rintro e W' ⟨v,rfl,_,k1,k2⟩
 have hb:Below W.heap.size W W':=⟨k1.os,k1.tape,k1.output,k1.size,fun b hb=>k1.heap b hb id⟩
 have hvv:v=.bool true:=by cases k2 with | c k2=>cases k2;rfl
 subst hvv
 refine ⟨_,rfl,ds,[],p++[],[],p,[],hW',?_,?_,?_,hb.frame _,fun h=>by cases h⟩
 · rw [List.append_nil,hs ds hdl,hres];exact trodAll_mk1 (shut_bool (by kernel_rfl) true)
 · rw [List.append_nil,hs ds hdl];exact x5g q6z hb hr hlt hA
 · rw [List.append_nil,hs ds hdl,hv];rfl
end Gev
