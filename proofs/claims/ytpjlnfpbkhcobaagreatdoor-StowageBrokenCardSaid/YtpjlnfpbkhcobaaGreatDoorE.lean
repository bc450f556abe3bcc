/- A part of the proof: see the last text of this claim. -/
import Derived.Test.YtpjlnfpbkhcobaaGreatDoorD
import Derived.Shelf.Strings.Builder1
import Derived.Shelf.Strings.Builder2
import Derived.Shelf.Small.Wraps
import Derived.Shelf.Strings.BuilderF
import Derived.Shelf.Strings.BuilderK
import Derived.Shelf.Strconv.Itoa0
import Derived.Shelf.Strconv.Itoa1
import Derived.Shelf.LaysM
import Derived.Shelf.Strconv.Itoa2
import Derived.Shelf.Strconv.Itoa3
import Derived.Shelf.Strconv.Itoa4
import Derived.Shelf.Strconv.ParseIntEmpty
import Derived.Shelf.Strconv.Clone
import Derived.Shelf.Strconv.SyntaxError
import Derived.Shelf.LaysC
import Derived.Shelf.Strconv.ToError
import Derived.Shelf.Strconv.Lower
import Derived.Shelf.Strconv.ParseUint10
import Derived.Shelf.Strconv.ParseUint10Empty
import Derived.Shelf.Strconv.ParseUint10Any
import Derived.Shelf.Strconv.ParseInt10
import Derived.Shelf.Strconv.RangeError
import Derived.Shelf.Strconv.ToErrorRange
import Derived.Shelf.Strconv.ParseUintEmpty
import Derived.Shelf.Strconv.ParseUint10b64
import Derived.Shelf.Strconv.ParseUint10b32
import Derived.Shelf.Strconv.ParseUint10b16
import Derived.Shelf.Strconv.ParseUint10b8
import Derived.Shelf.Strconv.ParseUint10At
import Derived.Shelf.Strconv.ParseInt10At64
import Derived.Shelf.Strconv.ParseInt10At32
import Derived.Shelf.Strconv.ParseInt10At16
import Derived.Shelf.Strconv.ParseInt10At8
import Derived.Shelf.Strconv.ParseInt10All
import Derived.Shelf.Strconv.ParseIntPublic10
import Derived.Ground.MpProg
import Derived.Shelf.Pu.ParseUintPublic10
import Derived.Shelf.Strings.Search1
import Derived.Shelf.Strings.Search2
import Derived.Shelf.Strings.Cut
import Derived.Shelf.Strings.Shaped
import Derived.Shelf.Strings.Prefix
import Derived.Shelf.Bits.Mul64
import Derived.Shelf.Strings.Repeat
import Derived.Ground.Names2Prog
import Derived.Shelf.Slices.SearchI
import Derived.Ground.SlgnProg
import Derived.Shelf.SlicesE.Clone
import Derived.Test.YtpjlnfpbkhcobaaGreatDoorProg
import Derived.Lib.Walk
import Derived.Lib.ItoaMem
import Derived.WalkKit
import Derived.BigCall
import Derived.BigGuard
import Derived.RangeFuncNested
import Derived.RangeFuncBound
import Derived.RangeFuncCalls
import Derived.RangeFuncLeaves
import Derived.Shelf.Abstract
import Derived.Shelf.RegionOpen
import Derived.OwnWalkIn
import Derived.TacticsInMore
import Derived.LoopNIn
import Derived.LoopIn
import Derived.RangeFuncFrom
import Derived.RangeFuncBox
import Derived.MapKept
import Derived.RangeFuncRecord
import Derived.Deep.RegionWith
import Derived.RegionTactic
import Derived.ChangeAlike
import GoSem.ClaimChange
import Derived.WideShapes
import Derived.ChangeArms
import Derived.Test.YtpjlnfpbkhcobaaGreatDoorRows
import Derived.Lib.LaidTab
import Derived.ProofKit
import Derived.LaidMore
import Derived.Stop.Joined
import Derived.SizedLaws
set_option linter.unusedSectionVars false
set_option linter.unusedVariables false
set_option linter.unusedSimpArgs false
namespace Gev
open Go Gb
variable {E:Env}
attribute [local irreducible] Sz
def fI {α:Type} (f:Nat→α→Int):Nat→List α→Int
 | _,[]=>-1
 | i,a::l=>if f i a=0 then fI f (i+1) l else i
theorem j0n {α:Type} {n F k:Nat} {l:List α} (f:Nat→α→Int) (st:Nat→St) {oe:Out} {fin:St} {G:Int→Int→St} (hend:Lp E n F k (st l.length) oe fin)
    (hstep:∀ i a,l[i]?=some a→(f i a=0→∀ o s,Lp E n F k (st (i+1)) o s→Lp E n F k (st i) o s)∧(f i a≠0→Lp E n F k (st i) .ret (G i (f i a)))):∀ d i:Nat,i+d=l.length →
    (fE f i (l.drop i)=0∧fI f i (l.drop i)=-1∧Lp E n F k (st i) oe fin)∨(fE f i (l.drop i)≠0∧Lp E n F k (st i) .ret (G (fI f i (l.drop i)) (fE f i (l.drop i))))
 | 0,i,hi=>by
  have e:i=l.length:=by omega
  rw [e,List.drop_length]; exact .inl ⟨rfl,rfl,hend⟩
 | d+1,i,hi=>by
  obtain ⟨a,ha⟩:=z1g (l:=l) (i:=i) (by omega)
  rw [j4k ha]
  show (fE f i (a::l.drop (i+1))=0∧_)∨_
  unfold fE fI
  by_cases h0:f i a=0
  · rw [if_pos h0,if_pos h0]
    rcases j0n f st hend hstep d (i+1) (by omega) with ⟨h1,h2,h3⟩ | ⟨h1,h2⟩
    · exact .inl ⟨h1,h2,(hstep i a ha).1 h0 _ _ h3⟩
    · exact .inr ⟨h1,(hstep i a ha).1 h0 _ _ h2⟩
  · rw [if_neg h0,if_neg h0]; exact .inr ⟨h0,(hstep i a ha).2 h0⟩
noncomputable def chkE (ps:List Pc) (hs:List Hd) (rs:List Ru):Int:=if chkC ps hs=0 then (if rs.length > 16 then 8 else fE (fR ps hs rs) 0 rs) else chkC ps hs
noncomputable def chkN (ps:List Pc) (hs:List Hd) (rs:List Ru):Int:=if chkC ps hs=0 then (if rs.length > 16 then -1 else fI (fR ps hs rs) 0 rs) else -1
structure Sp (ps:List Pc) (hs:List Hd) (rs:List Ru):Prop where
 sh:Sh ps hs
 nr:rs.length≤17
 r:∀ r∈rs,ShR r
def Pb (ps:List Pc) (hs:List Hd) (rs:List Ru):List DV:=[.list (Ps ps),.list (Hs hs),.list (Rs rs)]
theorem z8a (hlib:Lib E) {ps:List Pc} {hs:List Hd} {rs:List Ru} (h:Sp ps hs rs):Fn E I2 [.agg (Pb ps hs rs)] (.tup [.c (.i64 (chkN ps hs rs)),.c (.i64 (chkE ps hs rs))]):=by
 have hC:=k1t hlib h.sh
 have n1:=h.sh.np
 have n2:=h.sh.nh
 have n3:=h.nr
 have l3:=y0n rs
 unfold chkN chkE
 by_cases c0:chkC ps hs=0
 rotate_left
 · rw [if_neg c0,if_neg c0]; exact q4l hC c0
 rw [if_pos c0,if_pos c0]
 by_cases c1:rs.length > 16
 · rw [if_pos c1,if_pos c1]; exact q4m hC c0 (by omega)
 rw [if_neg c1,if_neg c1]
 have:=j0n (E:=E) (l:=rs) (fR ps hs rs) (fun i=>z2a ((Rs rs).length:Int) (i:Nat) (Ps ps) (Hs hs) (Rs rs)) (G:=fun i v=>y4t (Ps ps) (Hs hs) (Rs rs) i v) (n:=1) (F:=I2) (k:=0) (oe:=.exit 0) (fin:=y4u (Ps ps) (Hs hs) (Rs rs)) (k0x (by omega)) (fun i a ha=>by
  have hi:=C1 ha
  have hf:=q1e hlib (ps:=ps) (hs:=hs) (by omega) (by omega) (by omega) ha (h.r a (List.mem_of_getElem? ha))
  exact ⟨fun e o s ih=>k8z (by omega) hf e (wi (by omega)) ih,fun e=>k0w (by omega) hf e⟩) rs.length 0 (by omega)
 rw [List.drop_zero] at this
 rcases this with ⟨h1,h2,h3⟩ | ⟨h1,h2⟩
 · rw [h1,h2]; exact q4o hC c0 (by omega) h3
 · exact q4n hC c0 (by omega) h2
structure Sl (l:List Sw):Prop where
 n:l.length≤1000
 u:∀ a∈l,-9223372036854775808≤a.un∧a.un≤9223372036854775807
noncomputable def rgtB (ps:List Pc) (hs:List Hd) (rs:List Ru) (l:List Sw):Bool:=decide (chkE ps hs rs=0∧stwC ps hs l=0)
theorem y9c (hlib:Lib E) {ps:List Pc} {hs:List Hd} {rs:List Ru} {l:List Sw} (h:Sp ps hs rs) (hl:Sl l):Fn E Y6 [.agg (Pb ps hs rs),.c (.list (Ss l))] (.c (.bool (rgtB ps hs rs l))):=by
 have hC:=z8a hlib h
 have hS:=x0m hlib h.sh hl.n hl.u
 unfold rgtB
 by_cases c0:chkE ps hs rs=0
 · by_cases c1:stwC ps hs l=0
   · rw [decide_eq_true ⟨c0,c1⟩]; exact q5y hC c0 hS c1
   · rw [decide_eq_false fun h=>c1 h.2]; exact q5z hC c0 hS c1
 · rw [decide_eq_false fun h=>c0 h.1]; exact q6a hC c0
theorem k5m {ps:List Pc} {hs:List Hd} {rs:List Ru} (h:chkE ps hs rs=0):chkC ps hs=0∧rs.length≤16∧fE (fR ps hs rs) 0 rs=0:=by
 unfold chkE at h
 by_cases c0:chkC ps hs=0
 · rw [if_pos c0] at h
   by_cases c1:rs.length > 16
   · rw [if_pos c1] at h; cases h
   · rw [if_neg c1] at h; exact ⟨c0,by omega,h⟩
 · rw [if_neg c0] at h; exact absurd h c0
theorem v9b {ps:List Pc} {hs:List Hd} {rs:List Ru} {i:Nat} {r:Ru} (h:fR ps hs rs i r=0):(r.fs.all ok1=true∧emp r.lo=true∧emp r.hi=true)∧(1≤r.kd∧r.kd≤4)∧(r.kd=1→r.fs.length=hs.length)∧(r.kd≠1→fO ps hs r=0)∧(rs.take i).any (fun x=>x.nm == r.nm)=false:=by
 unfold fR at h
 by_cases c1:r.fs.all ok1=true∧emp r.lo=true∧emp r.hi=true
 rotate_left
 · rw [if_neg c1] at h; cases h
 rw [if_pos c1] at h
 by_cases c2:nmB r.nm=true
 rotate_left
 · rw [if_neg c2] at h; cases h
 rw [if_pos c2] at h
 by_cases c3:(rs.take i).any (fun x=>x.nm == r.nm)=true
 · rw [if_pos c3] at h; cases h
 rw [if_neg c3] at h
 by_cases c4:r.kd < 1∨r.kd > 4
 · rw [if_pos c4] at h; cases h
 rw [if_neg c4] at h
 have c3':(rs.take i).any (fun x=>x.nm == r.nm)=false:=by cases e:(rs.take i).any (fun x=>x.nm == r.nm) with | true=>exact absurd e c3 | false=>rfl
 by_cases c5:r.kd=1
 · rw [if_pos c5] at h
   by_cases c6:r.fs.length=hs.length∧r.a=0∧r.b=0
   · exact ⟨c1,by omega,fun _=>c6.1,fun e=>absurd c5 e,c3'⟩
   · rw [if_neg c6] at h; cases h
 · rw [if_neg c5] at h
   by_cases c6:r.fs.length > 0∨r.lo≠[]∨r.hi≠[]
   · rw [if_pos c6] at h; cases h
   · rw [if_neg c6] at h; exact ⟨c1,by omega,fun e=>absurd e c5,fun _=>h,c3'⟩
structure Rr (ps:List Pc) (hs:List Hd) (r:Ru):Prop where
 f:r.fs.length=hs.length
 o:∀ x∈r.fs,ok1 x=true
 s:ShR r
 lo:emp r.lo=true
 hi:emp r.hi=true
theorem Rr.of {ps:List Pc} {hs:List Hd} {rs:List Ru} (h:Sp ps hs rs) (h0:chkE ps hs rs=0) {i:Nat} {r:Ru} (hi:rs[i]?=some r) (hk:r.kd=1):Rr ps hs r:=by
 have hz:=x7t (k5m h0).2.2 i r hi
 rw [Nat.zero_add] at hz
 have:=v9b hz
 exact ⟨this.2.2.1 hk,List.all_eq_true.1 this.1.1,h.r r (List.mem_of_getElem? hi),this.1.2.1,this.1.2.2⟩
theorem v2b (hlib:Lib E) {a b:Rat} {K L:Nat} (ha:Sz a K) (hb:Sz b L) (h:K+L+1≤Lim):Fn E x4q [Sq a,Sq b] (Sq (a+b)):=v6d (x9f hlib ha hb h)
theorem y7d (hlib:Lib E) {a b:Rat} {K L:Nat} (ha:Sz a K) (hb:Sz b L) (h:K+L+1≤Lim):Fn E z0a [Sq a,Sq b] (Sq (a - b)):=v6f (q3b hlib ha hb h)
theorem x2z (hlib:Lib E) {a b:Rat} {K L:Nat} (ha:Sz a K) (hb:Sz b L) (h:K+L≤Lim):Fn E y3u [Sq a,Sq b] (Sq (a*b)):=v6e (x9g hlib ha hb h)
theorem y5c (hlib:Lib E) {a b:Rat} {K L:Nat} (ha:Sz a K) (hb:Sz b L) (h:K+L≤Lim):Fn E O4 [Sq a,Sq b] (.c (.i64 (cmpQ a b))):=x4h (y3o hlib ha hb h)
noncomputable def sumS (ps:List Pc) (hs:List Hd) (fs:List (List UInt8)) (l:List Sw):Rat:=(hs.zip fs).foldl (fun s x=>s+rdv x.2*(lad ps hs (inH l x.1.id)).m) 0
theorem w8o {α β:Type} {a:List α} {b:List β} {i:Nat} {x:α × β} (h:(a.zip b)[i]?=some x):a[i]?=some x.1∧b[i]?=some x.2:=by
 rw [List.getElem?_zip_eq_some] at h
 exact h
theorem x3a (hlib:Lib E) (hc:Cs E) {ps:List Pc} {hs:List Hd} {r:Ru} {rs:RW} {l:List Sw} (h:Rg ps hs l) (h0:stwC ps hs l=0) (hl:Sl l) (hr:Rr ps hs r) :
    Fn E z2k [.agg [.list (Ps ps),.list (Hs hs),.list rs],.agg r.d,.c (.list (Ss l))] (Sq (sumS ps hs r.fs l))∧Sz (sumS ps hs r.fs l) 1000000:=by
 have n2:=h.sh.nh
 have l2:=z0k hs
 have hL:=y4e
 have hf:=hr.f
 have hz:(B (decQ 0))=(⟨#[48]⟩:BA):=by rw [j8j]; rfl
 have hlen:(hs.zip r.fs).length=hs.length:=by rw [List.length_zip]; omega
 have:=I9 (E:=E) (l:=hs.zip r.fs) (n:=2) (F:=z2k) (k:=0) (fun (s:Rat) x=>s+rdv x.2*(lad ps hs (inH l x.1.id)).m) (fun i s=>Sz s (1+100100*i))
  (fun i s=>y2m (Ss l) (B (decQ s)) (Hs hs) ((Hs hs).length:Int) (i:Nat) (Ps ps) (Hs hs) rs (B r.nm) r.kd (R1 r.fs) (B r.lo) (B r.hi) r.a r.b) (oe:=.exit 0)
  (fin:=fun s=>y9d (Ps ps) (Hs hs) rs (B r.nm) r.kd (R1 r.fs) (B r.lo) (B r.hi) r.a r.b (B (decQ s))) (fun s _=>k9n (by omega))
  (fun i a s ha hs'=>by
   have hi:=C1 ha
   obtain ⟨g1,g2⟩:=w8o ha
   have hm:=List.mem_of_getElem? g1
   have z:=w7t (j8u h a.1.id)
   have ok:=hr.o _ (List.mem_of_getElem? g2)
   have sf:=z2w ok (hr.s.2.1 _ (List.mem_of_getElem? g2))
   have q:=x2z hlib sf z.1 (by omega)
   rw [y1u ok] at q
   exact ⟨(hs'.add (sf.mul z.1)).mono (by omega),fun o st ih=>j7x (by omega) (by omega) (A5 (z0b g1)) (v2w hlib hc h h0 hl.u (w7s hm)) (A5 (x0l g2)) q (v2b hlib hs' (sf.mul z.1) (by omega)) (wi (by omega)) ih⟩)
  (hs.zip r.fs).length 0 0 (by omega) Sz.zero
 rw [List.drop_zero] at this
 refine ⟨v6g ?_,this.1.mono (by omega)⟩
 have h2:=this.2
 rw [hz] at h2
 exact h2
end Gev
namespace Gev
open Go Gb
variable {E:Env}
attribute [local irreducible] Sz
noncomputable def exS (r:Ru) (s:Rat):Rat:=if r.hi≠[]∧cmpQ s (rdv r.hi) > 0 then s - rdv r.hi else if r.lo≠[]∧cmpQ s (rdv r.lo) < 0 then s - rdv r.lo else 0
theorem x4i (hlib:Lib E) {ps:List Pc} {hs:List Hd} {r:Ru} (hr:Rr ps hs r) {s:Rat} (hs':Sz s 1000000):Fn E X1 [.agg r.d,Sq s] (Sq (exS r s))∧Sz (exS r s) 1000100:=by
 have hL:=y4e
 have z0:(AV.c (.str (⟨#[48]⟩:BA)))=Sq 0:=x5r
 have kh:r.hi≠[]→(Fn E O4 [Sq s,.c (.str (B r.hi))] (.c (.i64 (cmpQ s (rdv r.hi))))∧Fn E z0a [Sq s,.c (.str (B r.hi))] (Sq (s - rdv r.hi)))∧Sz (s - rdv r.hi) 1000100:=fun e=>by
  have o:=x7s hr.hi e
  have z:=z2w o hr.s.2.2.2.1
  have a:=y5c hlib hs' z (by omega)
  have b:=y7d hlib hs' z (by omega)
  rw [y1u o] at a b
  exact ⟨⟨a,b⟩,(hs'.sub z).mono (by omega)⟩
 have kl:r.lo≠[]→(Fn E O4 [Sq s,.c (.str (B r.lo))] (.c (.i64 (cmpQ s (rdv r.lo))))∧Fn E z0a [Sq s,.c (.str (B r.lo))] (Sq (s - rdv r.lo)))∧Sz (s - rdv r.lo) 1000100:=fun e=>by
  have o:=x7s hr.lo e
  have z:=z2w o hr.s.2.2.1
  have a:=y5c hlib hs' z (by omega)
  have b:=y7d hlib hs' z (by omega)
  rw [y1u o] at a b
  exact ⟨⟨a,b⟩,(hs'.sub z).mono (by omega)⟩
 unfold exS
 by_cases c1:r.hi=[]
 · rw [if_neg fun h=>h.1 c1]
   by_cases c2:r.lo=[]
   · rw [if_neg fun h=>h.1 c2,← z0]; exact ⟨q0t (G6.2 c1) (G6.2 c2),Sz.zero.mono (by omega)⟩
   · have k:=kl c2
     by_cases c3:cmpQ s (rdv r.lo) < 0
     · rw [if_pos ⟨c2,c3⟩]; exact ⟨q0r (G6.2 c1) (fun h=>c2 (G6.1 h)) k.1.1 c3 k.1.2,k.2⟩
     · rw [if_neg fun h=>c3 h.2,← z0]; exact ⟨q0s (G6.2 c1) (fun h=>c2 (G6.1 h)) k.1.1 c3,Sz.zero.mono (by omega)⟩
 · have k':=kh c1
   by_cases c0:cmpQ s (rdv r.hi) > 0
   · rw [if_pos ⟨c1,c0⟩]; exact ⟨q0n (fun h=>c1 (G6.1 h)) k'.1.1 c0 k'.1.2,k'.2⟩
   rw [if_neg fun h=>c0 h.2]
   by_cases c2:r.lo=[]
   · rw [if_neg fun h=>h.1 c2,← z0]; exact ⟨q0q (fun h=>c1 (G6.1 h)) k'.1.1 c0 (G6.2 c2),Sz.zero.mono (by omega)⟩
   · have k:=kl c2
     by_cases c3:cmpQ s (rdv r.lo) < 0
     · rw [if_pos ⟨c2,c3⟩]; exact ⟨q0o (fun h=>c1 (G6.1 h)) k'.1.1 c0 (fun h=>c2 (G6.1 h)) k.1.1 c3 k.1.2,k.2⟩
     · rw [if_neg fun h=>c3 h.2,← z0]; exact ⟨q0p (fun h=>c1 (G6.1 h)) k'.1.1 c0 (fun h=>c2 (G6.1 h)) k.1.1 c3,Sz.zero.mono (by omega)⟩
noncomputable def smE (ps:List Pc) (hs:List Hd) (rs:List Ru) (rule:Int) (l:List Sw):Int :=
 if rgtB ps hs rs l=true then (if rule < 0∨rule≥rs.length then 7 else if ((rs[rule.toNat]?).map Ru.kd).getD 0=1 then 0 else 10) else 1
def ruAt (rs:List Ru) (rule:Int):Ru:=(rs[rule.toNat]?).getD ⟨[],0,[],[],[],0,0⟩
noncomputable def sumT (ps:List Pc) (hs:List Hd) (rs:List Ru) (rule:Int) (l:List Sw):List UInt8:=if smE ps hs rs rule l=0 then decQ (sumS ps hs (ruAt rs rule).fs l) else []
noncomputable def excT (ps:List Pc) (hs:List Hd) (rs:List Ru) (rule:Int) (l:List Sw):List UInt8:=if smE ps hs rs rule l=0 then decQ (exS (ruAt rs rule) (sumS ps hs (ruAt rs rule).fs l)) else []
theorem k4s {ps:List Pc} {hs:List Hd} {rs:List Ru} {l:List Sw} (h:Sp ps hs rs) (hl:Sl l) (hg:rgtB ps hs rs l=true):chkE ps hs rs=0∧stwC ps hs l=0∧Rg ps hs l:=by
 unfold rgtB at hg
 have:=of_decide_eq_true hg
 exact ⟨this.1,this.2,Rg.of h.sh hl.n this.2⟩
theorem j6z {ps:List Pc} {hs:List Hd} {rs:List Ru} {rule:Int} {l:List Sw} (h:smE ps hs rs rule l=0):rgtB ps hs rs l=true∧¬ rule < 0∧¬ rule≥rs.length∧rs[rule.toNat]?=some (ruAt rs rule)∧(ruAt rs rule).kd=1:=by
 unfold smE at h
 cases c0:rgtB ps hs rs l with
 | false=>rw [c0] at h; cases h
 | true =>
  rw [c0,if_pos rfl] at h
  by_cases c1:rule < 0∨rule≥rs.length
  · rw [if_pos c1] at h; cases h
  rw [if_neg c1] at h
  obtain ⟨r,hr⟩:=z1g (l:=rs) (i:=rule.toNat) (by omega)
  have e:ruAt rs rule=r:=by unfold ruAt; rw [hr]; rfl
  rw [hr] at h
  rw [e]
  by_cases c2:r.kd=1
  · exact ⟨rfl,by omega,by omega,hr,c2⟩
  · rw [show ((if ((some r).map Ru.kd).getD 0=1 then (0:Int) else 10))=10 from if_neg c2] at h; cases h
theorem x4j (hlib:Lib E) (hc:Cs E) {ps:List Pc} {hs:List Hd} {rs:List Ru} {rule:Int} {l:List Sw} (h:Sp ps hs rs) (hl:Sl l) :
    Fn E z0p [.agg (Pb ps hs rs),.c (.i64 rule),.c (.list (Ss l))] (.tup [.c (.str (B (sumT ps hs rs rule l))),.c (.i64 (smE ps hs rs rule l))]):=by
 have hR:=y9c hlib h hl
 have l3:=y0n rs
 by_cases h0:smE ps hs rs rule l=0
 · obtain ⟨g0,g1,g2,g3,g4⟩:=j6z h0
   rw [g0] at hR
   obtain ⟨k1,k2,k3⟩:=k4s h hl g0
   unfold sumT
   rw [if_pos h0,h0]
   exact q1l hR g1 (by omega) (by omega) (z5h g3) g4 (x3a hlib hc k3 k2 hl (Rr.of h k1 g3 g4)).1
 · unfold sumT
   rw [if_neg h0]
   unfold smE at h0 ⊢
   cases c0:rgtB ps hs rs l with
   | false=>rw [c0] at hR; rw [if_neg (by simp)]; exact q1m hR
   | true =>
    rw [c0] at hR
    rw [c0,if_pos rfl] at h0
    rw [if_pos rfl]
    by_cases c1:rule < 0
    · rw [if_pos (.inl c1)]; exact q1i hR c1
    by_cases c2:rule≥rs.length
    · rw [if_pos (.inr c2)]; exact q1j hR c1 (by omega)
    rw [if_neg fun h=>h.elim c1 c2] at h0 ⊢
    obtain ⟨r,hr⟩:=z1g (l:=rs) (i:=rule.toNat) (by omega)
    rw [hr] at h0 ⊢
    by_cases c3:r.kd=1
    · exact absurd (if_pos c3) h0
    · rw [show ((if ((some r).map Ru.kd).getD 0=1 then (0:Int) else 10))=10 from if_neg c3]
      exact q1k hR c1 (by omega) (by omega) (z5h hr) c3
theorem k4y (hlib:Lib E) (hc:Cs E) {ps:List Pc} {hs:List Hd} {rs:List Ru} {rule:Int} {l:List Sw} (h:Sp ps hs rs) (hl:Sl l) :
    Fn E y9j [.agg (Pb ps hs rs),.c (.i64 rule),.c (.list (Ss l))] (.tup [.c (.str (B (sumT ps hs rs rule l))),.c (.i64 (smE ps hs rs rule l))]):=v6c (x4j hlib hc h hl)
theorem x4f (hlib:Lib E) (hc:Cs E) {ps:List Pc} {hs:List Hd} {rs:List Ru} {rule:Int} {l:List Sw} (h:Sp ps hs rs) (hl:Sl l) :
    Fn E z7s [.agg (Pb ps hs rs),.c (.i64 rule),.c (.list (Ss l))] (.tup [.c (.str (B (excT ps hs rs rule l))),.c (.i64 (smE ps hs rs rule l))]):=by
 have hS:=x4j hlib hc (rule:=rule) h hl
 unfold excT
 by_cases h0:smE ps hs rs rule l=0
 · obtain ⟨g0,g1,g2,g3,g4⟩:=j6z h0
   obtain ⟨k1,k2,k3⟩:=k4s h hl g0
   have hr:=Rr.of h k1 g3 g4
   unfold sumT at hS
   rw [if_pos h0,h0] at hS
   rw [if_pos h0,h0]
   exact q0j hS rfl (by omega) (z5h g3) (x4i hlib hr (x3a hlib hc (rs:=[]) k3 k2 hl hr).2).1
 · rw [if_neg h0]; exact q0i hS h0
end Gev
namespace Gev
open Go Gb
variable {E:Env}
attribute [local irreducible] Sz
def y3f (ps:List Pc) (id:Int):Int:=(pcAt ps id).cl
theorem y3d {ps:List Pc} {hs rs:RW} {id:Int} (hn:ps.length≤1000) (h:¬ ixP ps id < 0):Fn E z3o [.agg [.list (Ps ps),.list hs,.list rs],.c (.i64 id)] (.c (.i64 (y3f ps id))):=by
 have t:=(j1b (E:=E) (c0_0:=id) (l:=ps) (fun p=>p.id == id) (by omega) fun a _=>by
  by_cases e:a.id=id
  · rw [show (a.id == id)=true by simp [e]]; exact j7h e
  · rw [show (a.id == id)=false by simp [e]]; exact j7i e).sub [1] (by decide) rfl (objs:=[some (.cells [.c (.list (Ps ps)),.c (.list hs),.c (.list rs)]),some (.cells [.c (.i64 id)])]) (by intro i hi; match i,hi with | 0,_=>rfl) (by simp [Ob.plain]) rfl rfl
 have g:=X6 (z3b h)
 exact q5a t (by unfold ixP at h; omega) g
def aptB (ps:List Pc) (r:Ru) (l:List Sw):Bool:=l.any fun a=>l.any fun b=>a.ho == b.ho && (y3f ps a.pa == r.a && y3f ps b.pa == r.b)
def nevB (ps:List Pc) (r:Ru) (l:List Sw):Bool:=l.any fun s=>s.ho == r.b && y3f ps s.pa == r.a
def whoB (ps:List Pc) (r:Ru) (l:List Sw):Bool:=decide ((pcAt ps r.a).un - unS l r.a > 0)
theorem j3e {α:Type} {l:List α} {p:α→Bool} (h:∀ j a,0≤j→l[j]?=some a→p a=false):l.any p=false:=by
 rw [List.any_eq_false]; intro a ha
 obtain ⟨j,hj⟩:=List.mem_iff_getElem?.1 ha
 rw [h j a (Nat.zero_le _) hj]; simp
theorem j3f {α:Type} {l:List α} {p:α→Bool} {j:Nat} {a:α} (h:l[j]?=some a) (hp:p a=true):l.any p=true:=List.any_eq_true.2 ⟨a,List.mem_of_getElem? h,hp⟩
theorem q0l {ps:List Pc} {hs:List Hd} {rs:RW} {r:Ru} {l:List Sw} (h:Rg ps hs l):Fn E C7 [.agg [.list (Ps ps),.list (Hs hs),.list rs],.agg r.d,.c (.list (Ss l))] (.c (.bool (aptB ps r l))):=by
 have n1:=h.sh.np
 have hln:=h.ln
 have hq:=y5y l
 have inner:∀ (i:Nat) (a:Sw),l[i]?=some a →
     ((l.any fun b=>a.ho == b.ho && (y3f ps a.pa == r.a && y3f ps b.pa == r.b))=false∧Lp E 3 C7 1 (K7 (Ss l) (Ss l) ((Ss l).length:Int) (i:Nat) (Ss l) ((Ss l).length:Int) 0 (Ps ps) (Hs hs) rs (B r.nm) r.kd (R1 r.fs) (B r.lo) (B r.hi) r.a r.b a.ho a.pa a.un) (.exit 2) (z9v (Ss l) (Ss l) ((Ss l).length:Int) (i:Nat) (Ps ps) (Hs hs) rs (B r.nm) r.kd (R1 r.fs) (B r.lo) (B r.hi) r.a r.b a.ho a.pa a.un)) ∨
     ((l.any fun b=>a.ho == b.ho && (y3f ps a.pa == r.a && y3f ps b.pa == r.b))=true∧Lp E 3 C7 1 (K7 (Ss l) (Ss l) ((Ss l).length:Int) (i:Nat) (Ss l) ((Ss l).length:Int) 0 (Ps ps) (Hs hs) rs (B r.nm) r.kd (R1 r.fs) (B r.lo) (B r.hi) r.a r.b a.ho a.pa a.un) .ret (z9u (Ps ps) (Hs hs) rs (B r.nm) r.kd (R1 r.fs) (B r.lo) (B r.hi) r.a r.b a.ho a.pa a.un)):=fun i a ha=>by
  have ka:=y3d (E:=E) (hs:=Hs hs) (rs:=rs) (by omega) (h.st a (List.mem_of_getElem? ha)).1
  have:=I3 (E:=E) (l:=l) (n:=3) (F:=C7) (k:=1) (fun _ b=>a.ho == b.ho && (y3f ps a.pa == r.a && y3f ps b.pa == r.b)) (fun j=>K7 (Ss l) (Ss l) ((Ss l).length:Int) (i:Nat) (Ss l) ((Ss l).length:Int) (j:Nat) (Ps ps) (Hs hs) rs (B r.nm) r.kd (R1 r.fs) (B r.lo) (B r.hi) r.a r.b a.ho a.pa a.un)
   (oe:=.exit 2) (fin:=z9v (Ss l) (Ss l) ((Ss l).length:Int) (i:Nat) (Ps ps) (Hs hs) rs (B r.nm) r.kd (R1 r.fs) (B r.lo) (B r.hi) r.a r.b a.ho a.pa a.un) (fun _ _ o s=>o=.ret∧s=z9u (Ps ps) (Hs hs) rs (B r.nm) r.kd (R1 r.fs) (B r.lo) (B r.hi) r.a r.b a.ho a.pa a.un) (k1i (by omega))
   (fun j b hb hf o s ih=>by
    have hj:=C1 hb
    have kb:=y3d (E:=E) (hs:=Hs hs) (rs:=rs) (by omega) (h.st b (List.mem_of_getElem? hb)).1
    by_cases c1:a.ho=b.ho
    · by_cases c2:y3f ps a.pa=r.a
      · by_cases c3:y3f ps b.pa=r.b
        · exfalso; simp [c1,c2,c3] at hf
        · exact k9k (by omega) (by omega) (A5 (z0c hb)) c1 ka c2 kb c3 (wi (by omega)) ih
      · exact k9l (by omega) (by omega) (A5 (z0c hb)) c1 ka c2 (wi (by omega)) ih
    · exact k9m (by omega) (by omega) (A5 (z0c hb)) c1 (wi (by omega)) ih)
   (fun j b hb hf=>by
    have hj:=C1 hb
    have kb:=y3d (E:=E) (hs:=Hs hs) (rs:=rs) (by omega) (h.st b (List.mem_of_getElem? hb)).1
    simp only [Bool.and_eq_true,beq_iff_eq] at hf
    exact ⟨_,_,⟨rfl,rfl⟩,k1h (by omega) (by omega) (A5 (z0c hb)) hf.1 ka hf.2.1 kb hf.2.2⟩) l.length 0 (by omega)
  rcases this with ⟨h1,h2⟩ | ⟨j,b,o,s,h1,h2,h3,h4,⟨rfl,rfl⟩,h5⟩
  · exact .inl ⟨j3e h1,h2⟩
  · exact .inr ⟨j3f h2 h3,h5⟩
 have:=I3 (E:=E) (l:=l) (n:=2) (F:=C7) (k:=0) (fun _ a=>l.any fun b=>a.ho == b.ho && (y3f ps a.pa == r.a && y3f ps b.pa == r.b)) (fun j=>z2c (Ss l) (Ss l) ((Ss l).length:Int) (j:Nat) (Ps ps) (Hs hs) rs (B r.nm) r.kd (R1 r.fs) (B r.lo) (B r.hi) r.a r.b)
     (oe:=.exit 0) (fin:=y5b (Ps ps) (Hs hs) rs (B r.nm) r.kd (R1 r.fs) (B r.lo) (B r.hi) r.a r.b) (fun _ _ o s=>o=.ret∧s=y5a (Ps ps) (Hs hs) rs (B r.nm) r.kd (R1 r.fs) (B r.lo) (B r.hi) r.a r.b) (k1g (by omega))
     (fun i a ha hf o s ih=>by
      have hi:=C1 ha
      rcases inner i a ha with ⟨h1,h2⟩ | ⟨h1,h2⟩
      · exact k9j (by omega) (by omega) (A5 (z0c ha)) h2 (wi (by omega)) ih
      · exact absurd (h1.symm.trans hf) (by simp))
     (fun i a ha hf=>by
      have hi:=C1 ha
      rcases inner i a ha with ⟨h1,h2⟩ | ⟨h1,h2⟩
      · exact absurd (h1.symm.trans hf) (by simp)
      · exact ⟨_,_,⟨rfl,rfl⟩,k1f (by omega) (by omega) (A5 (z0c ha)) h2⟩) l.length 0 (by omega)
 unfold aptB
 rcases this with ⟨h1,h2⟩ | ⟨j,b,o,s,h1,h2,h3,h4,⟨rfl,rfl⟩,h5⟩
 · rw [j3e h1]; exact q4z h2
 · rw [j3f h2 h3]; exact q4y h5
theorem q1f {ps:List Pc} {hs:List Hd} {rs:RW} {r:Ru} {l:List Sw} (h:Rg ps hs l):Fn E z6i [.agg [.list (Ps ps),.list (Hs hs),.list rs],.agg r.d,.c (.list (Ss l))] (.c (.bool (nevB ps r l))):=by
 have n1:=h.sh.np
 have hln:=h.ln
 have t:=j0r (E:=E) (c0_0:=B r.nm) (c0_1:=r.kd) (c0_2:=R1 r.fs) (c0_3:=B r.lo) (c0_4:=B r.hi) (c0_5:=r.a) (c0_6:=r.b) (c1_0:=Ps ps) (c1_1:=Hs hs) (c1_2:=rs) (l:=l) (fun s=>s.ho == r.b && y3f ps s.pa == r.a) (by omega) fun a ha=>by
  have ka:=y3d (E:=E) (hs:=Hs hs) (rs:=rs) (by omega) (h.st a ha).1
  by_cases c1:a.ho=r.b
  · by_cases c2:y3f ps a.pa=r.a
    · rw [show (a.ho == r.b && y3f ps a.pa == r.a)=true by simp [c1,c2]]; exact j7m c1 ka c2
    · rw [show (a.ho == r.b && y3f ps a.pa == r.a)=false by simp [c2]]; exact j7n c1 ka c2
  · rw [show (a.ho == r.b && y3f ps a.pa == r.a)=false by simp [c1]]; exact j7o c1
 exact q5n (t.swap rfl rfl rfl rfl)
theorem q1n {ps:List Pc} {hs:List Hd} {rs:RW} {r:Ru} {l:List Sw} (h:Rg ps hs l) (hr:¬ ixP ps r.a < 0):Fn E M2 [.agg [.list (Ps ps),.list (Hs hs),.list rs],.agg r.d,.c (.list (Ss l))] (.c (.bool (whoB ps r l))):=by
 have n1:=h.sh.np
 have hln:=h.ln
 have hq:=y5y l
 have t:=(j1h (E:=E) (c0_0:=B r.nm) (c0_1:=r.kd) (c0_2:=R1 r.fs) (c0_3:=B r.lo) (c0_4:=B r.hi) (c0_5:=r.a) (c0_6:=r.b) (l:=ps) (fun p=>p.id == r.a) (by omega) fun a _=>by
  by_cases e:a.id=r.a
  · rw [show (a.id == r.a)=true by simp [e]]; exact j7y e
  · rw [show (a.id == r.a)=false by simp [e]]; exact j7z e).sub [1] (by decide) rfl (objs:=[some (.cells [.c (.list (Ps ps)),.c (.list (Hs hs)),.c (.list rs)]),some (.cells [.c (.str (B r.nm)),.c (.i64 r.kd),.c (.list (R1 r.fs)),.c (.str (B r.lo)),.c (.str (B r.hi)),.c (.i64 r.a),.c (.i64 r.b)])]) (by intro i hi; match i,hi with | 0,_=>rfl) (by simp [Ob.plain]) rfl rfl
 have g:=X6 (z3b hr)
 have hun:=j0l h.ok (List.mem_of_getElem? (z3b hr))
 have h2:=I9 (E:=E) (l:=l) (n:=2) (F:=M2) (k:=0) (fun (b:Int) a=>b - if a.pa=r.a then a.un else 0) (fun i b=>-9*i≤b∧b≤9)
  (fun i b=>z2d b (Ss l) ((Ss l).length:Int) (i:Nat) (Ps ps) (Hs hs) rs (B r.nm) r.kd (R1 r.fs) (B r.lo) (B r.hi) r.a r.b) (oe:=.exit 0) (fin:=fun b=>y5d (Ps ps) (Hs hs) rs (B r.nm) r.kd (R1 r.fs) (B r.lo) (B r.hi) r.a r.b b) (fun b hb=>k1j (by omega))
  (fun i a b ha hb=>by
   have hi:=C1 ha
   have hu:=h.st a (List.mem_of_getElem? ha)
   by_cases e:a.pa=r.a
   · rw [if_pos e]
     exact ⟨by omega,fun o s ih=>k9o (by omega) (by omega) (A5 (z0c ha)) e (wi (by omega)) (wi (by omega)) ih⟩
   · rw [if_neg e]
     exact ⟨by omega,fun o s ih=>by
      rw [Int.sub_zero] at ih
      exact k9p (by omega) (by omega) (A5 (z0c ha)) e (wi (by omega)) ih⟩)
  l.length 0 (pcAt ps r.a).un (by omega) ⟨by omega,by omega⟩
 have e:∀ (l:List Sw) b,l.foldl (fun (b:Int) a=>b - if a.pa=r.a then a.un else 0) b=b - unS l r.a:=by
  intro l
  induction l with
  | nil=>intro b; show b=b - 0; omega
  | cons a l ih=>intro b; rw [List.foldl_cons,ih]; unfold unS; rw [List.map_cons,List.sum_cons]; omega
 rw [List.drop_zero,e] at h2
 unfold whoB
 by_cases c:(pcAt ps r.a).un - unS l r.a > 0
 · rw [decide_eq_true c]; exact q6d t (by unfold ixP at hr; omega) g h2.2 c
 · rw [decide_eq_false c]; exact q6e t (by unfold ixP at hr; omega) g h2.2 c
end Gev
namespace Gev
open Go Gb
variable {E:Env}
attribute [local irreducible] Sz
theorem q6b (hlib:Lib E) {a:Rat} {K:Nat} (ha:Sz a K) (h:K+1≤Lim):Fn E x2e [Sq a] (.c (.i64 (cmpQ a 0))):=by
 have:=y5c hlib ha Sz.zero h
 rw [← x5r] at this
 exact v2c this
noncomputable def sumB (ps:List Pc) (hs:List Hd) (r:Ru) (l:List Sw):Bool:=decide (cmpQ (exS r (sumS ps hs r.fs l)) 0≠0)
noncomputable def brk (ps:List Pc) (hs:List Hd) (r:Ru) (l:List Sw):Bool:=if r.kd=1 then sumB ps hs r l else if r.kd=2 then aptB ps r l else if r.kd=3 then nevB ps r l else whoB ps r l
theorem q6c (hlib:Lib E) (hc:Cs E) {ps:List Pc} {hs:List Hd} {r:Ru} {rs:RW} {l:List Sw} (h:Rg ps hs l) (h0:stwC ps hs l=0) (hl:Sl l) (hr:Rr ps hs r) :
    Fn E z0j [.agg [.list (Ps ps),.list (Hs hs),.list rs],.agg r.d,.c (.list (Ss l))] (.c (.bool (sumB ps hs r l))):=by
 have hL:=y4e
 obtain ⟨s1,s2⟩:=x3a hlib hc (rs:=rs) h h0 hl hr
 obtain ⟨e1,e2⟩:=x4i hlib hr s2
 have k:=q6b hlib e2 (by omega)
 unfold sumB
 by_cases c:cmpQ (exS r (sumS ps hs r.fs l)) 0=0
 · rw [decide_eq_false (fun h=>h c)]; exact j2z s1 e1 k c
 · rw [decide_eq_true c]; exact j2y s1 e1 k c
def I1 (l:List Int):RW:=l.map fun i=>[.i64 i]
theorem k1p (l:List Int):(I1 l).length=l.length:=by simp [I1]
noncomputable def brF (ps:List Pc) (hs:List Hd) (l:List Sw) (b:List Int) (x:Ru × Nat):List Int:=if brk ps hs x.1 l=true then b++[(x.2:Int)] else b
noncomputable def brI (ps:List Pc) (hs:List Hd) (rs:List Ru) (l:List Sw):List Int:=rs.zipIdx.foldl (brF ps hs l) []
theorem x3c {α:Type} {a:List α} {i:Nat} {x:α × Nat} (h:a.zipIdx[i]?=some x):a[i]?=some x.1∧x.2=i:=by
 rw [List.getElem?_zipIdx] at h
 obtain ⟨y,h1,h2⟩:=Option.map_eq_some_iff.1 h
 rw [← h2]; exact ⟨h1,by simp⟩
theorem u1a {ps:List Pc} {hs:List Hd} {r:Ru} (h:fO ps hs r=0) (h2:r.kd≠2) (h3:r.kd≠3):¬ ixP ps r.a < 0:=by
 unfold fO at h
 rw [if_neg h2,if_neg h3] at h
 by_cases c:r.b=0
 · rw [if_pos c] at h
   by_cases c2:(ps.any fun p=>p.id == r.a)=true
   · intro e
     have:=z4e.1 e
     rw [this] at c2; cases c2
   · rw [if_neg c2] at h; cases h
 · rw [if_neg c] at h; cases h
theorem x4g (hlib:Lib E) (hc:Cs E) {ps:List Pc} {hs:List Hd} {rs:List Ru} {l:List Sw} (h:Sp ps hs rs) (hl:Sl l) (hg:rgtB ps hs rs l=true) :
    Fn E D3 [.agg (Pb ps hs rs),.c (.list (Ss l))] (.c (.list (I1 (brI ps hs rs l)))):=by
 obtain ⟨k1,k2,k3⟩:=k4s h hl hg
 have l3:=y0n rs
 have n3:=h.nr
 have hz:rs.zipIdx.length=rs.length:=by simp
 have happ:∀ (b:List Int) (i:Int),(I1 b).take b.length++[[DV.i64 i]]=I1 (b++[i]):=fun b i=>by
  rw [show b.length=(I1 b).length from (k1p b).symm,List.take_length]; unfold I1; rw [List.map_append]; rfl
 have:=I9 (E:=E) (l:=rs.zipIdx) (n:=2) (F:=D3) (k:=0) (brF ps hs l) (fun i b=>b.length≤i)
  (fun i b=>F5 (Ss l) b.length (Rs rs) ((Rs rs).length:Int) (i:Nat) (Ps ps) (Hs hs) (Rs rs) (I1 b)) (oe:=.exit 0) (fin:=fun b=>y3r (Ps ps) (Hs hs) (Rs rs) b.length (I1 b)) (fun b hb=>x8t (by omega))
  (fun i x b hx hb=>by
   have hi:=C1 hx
   obtain ⟨g1,g2⟩:=x3c hx
   have g:=z5h g1
   have hz:=x7t (k5m k1).2.2 i x.1 g1
   rw [Nat.zero_add] at hz
   have hf:=v9b hz
   have b1:(i:Int) < ((Rs rs).length:Int):=by omega
   have b2:(0:Int)≤(i:Nat):=by omega
   have hsz:(b.length+1)*8≤140737488355328∧b.length+1≤140737488355328:=by omega
   have hl1:∀ j:Int,b.length+1=(b++[j]).length:=fun j=>by simp
   unfold brF
   rw [g2]
   refine ⟨?_,fun o s ih=>?_⟩
   · split
     · rw [List.length_append]; exact Nat.succ_le_succ hb
     · exact Nat.le_succ_of_le hb
   by_cases d1:x.1.kd=1
   · have hd:x.1.d=[.str (B x.1.nm),.i64 1,.list (R1 x.1.fs),.str (B x.1.lo),.str (B x.1.hi),.i64 x.1.a,.i64 x.1.b]:=by unfold Ru.d; rw [d1]
     have c:=q6c hlib hc (rs:=Rs rs) k3 k2 hl (Rr.of h k1 g1 d1)
     rw [hd] at g c
     have e:brk ps hs x.1 l=sumB ps hs x.1 l:=by unfold brk; rw [if_pos d1]
     rw [e] at ih
     cases c1:sumB ps hs x.1 l with
     | true=>rw [c1] at c ih; rw [if_pos rfl] at ih; exact k4z b1 b2 (A5 g) c hsz (happ b _) (hl1 _) (wi (by omega)) ih
     | false=>rw [c1] at c ih; rw [if_neg (by simp)] at ih; exact k5a b1 b2 (A5 g) c (wi (by omega)) ih
   by_cases d2:x.1.kd=2
   · have hd:x.1.d=[.str (B x.1.nm),.i64 2,.list (R1 x.1.fs),.str (B x.1.lo),.str (B x.1.hi),.i64 x.1.a,.i64 x.1.b]:=by unfold Ru.d; rw [d2]
     have c:=q0l (E:=E) (r:=x.1) (rs:=Rs rs) k3
     rw [hd] at g c
     have e:brk ps hs x.1 l=aptB ps x.1 l:=by unfold brk; rw [if_neg d1,if_pos d2]
     rw [e] at ih
     cases c1:aptB ps x.1 l with
     | true=>rw [c1] at c ih; rw [if_pos rfl] at ih; exact k5b b1 b2 (A5 g) c hsz (happ b _) (hl1 _) (wi (by omega)) ih
     | false=>rw [c1] at c ih; rw [if_neg (by simp)] at ih; exact k5c b1 b2 (A5 g) c (wi (by omega)) ih
   by_cases d3:x.1.kd=3
   · have hd:x.1.d=[.str (B x.1.nm),.i64 3,.list (R1 x.1.fs),.str (B x.1.lo),.str (B x.1.hi),.i64 x.1.a,.i64 x.1.b]:=by unfold Ru.d; rw [d3]
     have c:=q1f (E:=E) (r:=x.1) (rs:=Rs rs) k3
     rw [hd] at g c
     have e:brk ps hs x.1 l=nevB ps x.1 l:=by unfold brk; rw [if_neg d1,if_neg d2,if_pos d3]
     rw [e] at ih
     cases c1:nevB ps x.1 l with
     | true=>rw [c1] at c ih; rw [if_pos rfl] at ih; exact k5d b1 b2 (A5 g) c hsz (happ b _) (hl1 _) (wi (by omega)) ih
     | false=>rw [c1] at c ih; rw [if_neg (by simp)] at ih; exact k5e b1 b2 (A5 g) c (wi (by omega)) ih
   · have d4:x.1.kd=4:=by omega
     have hd:x.1.d=[.str (B x.1.nm),.i64 4,.list (R1 x.1.fs),.str (B x.1.lo),.str (B x.1.hi),.i64 x.1.a,.i64 x.1.b]:=by unfold Ru.d; rw [d4]
     have c:=q1n (E:=E) (r:=x.1) (rs:=Rs rs) k3 (u1a (hf.2.2.2.1 d1) d2 d3)
     rw [hd] at g c
     have e:brk ps hs x.1 l=whoB ps x.1 l:=by unfold brk; rw [if_neg d1,if_neg d2,if_neg d3]
     rw [e] at ih
     cases c1:whoB ps x.1 l with
     | true=>rw [c1] at c ih; rw [if_pos rfl] at ih; exact k5f b1 b2 (A5 g) c hsz (happ b _) (hl1 _) (wi (by omega)) ih
     | false=>rw [c1] at c ih; rw [if_neg (by simp)] at ih; exact k5g b1 b2 (A5 g) c (wi (by omega)) ih)
  rs.zipIdx.length 0 [] (by omega) (Nat.le_refl _)
 rw [List.drop_zero] at this
 exact q0m this.2 (by rw [show (List.foldl (brF ps hs l) [] rs.zipIdx).length=(I1 (brI ps hs rs l)).length from (k1p _).symm]; exact List.take_length)
noncomputable def brR (ps:List Pc) (hs:List Hd) (rs:List Ru) (l:List Sw):List Int:=if rgtB ps hs rs l=true then brI ps hs rs l else []
noncomputable def brE (ps:List Pc) (hs:List Hd) (rs:List Ru) (l:List Sw):Int:=if rgtB ps hs rs l=true then 0 else 1
noncomputable def kpB (ps:List Pc) (hs:List Hd) (rs:List Ru) (l:List Sw):Bool:=rgtB ps hs rs l && ((brI ps hs rs l).isEmpty && !hs.any (ovH ps hs l))
theorem x4e (hlib:Lib E) (hc:Cs E) {ps:List Pc} {hs:List Hd} {rs:List Ru} {l:List Sw} (h:Sp ps hs rs) (hl:Sl l) :
    Fn E z7r [.agg (Pb ps hs rs),.c (.list (Ss l))] (.tup [.c (.list (I1 (brR ps hs rs l))),.c (.i64 (brE ps hs rs l))]):=by
 have hR:=y9c hlib h hl
 unfold brR brE
 cases c0:rgtB ps hs rs l with
 | false=>rw [c0] at hR; rw [if_neg (by simp),if_neg (by simp)]; exact q0f hR
 | true=>rw [c0] at hR; rw [if_pos rfl,if_pos rfl]; exact q0e hR (x4g hlib hc h hl c0)
theorem y9b (hlib:Lib E) (hc:Cs E) {ps:List Pc} {hs:List Hd} {rs:List Ru} {l:List Sw} (h:Sp ps hs rs) (hl:Sl l) :
    Fn E z1t [.agg (Pb ps hs rs),.c (.list (Ss l))] (.c (.bool (kpB ps hs rs l))):=by
 have hR:=y9c hlib h hl
 unfold kpB
 cases c0:rgtB ps hs rs l with
 | false=>rw [c0] at hR; exact q4t hR
 | true =>
  rw [c0] at hR
  obtain ⟨k1,k2,k3⟩:=k4s h hl c0
  have hB:=x4g hlib hc h hl c0
  have hO:=k6z hlib hc h.sh hl.n hl.u
  rw [if_pos k2] at hO
  have hlen:=k1p (brI ps hs rs l)
  cases hb:brI ps hs rs l with
  | cons a b=>rw [hb] at hB hlen; exact q4q hR hB (by rw [hlen,List.length_cons]; omega)
  | nil =>
   rw [hb] at hB hlen
   cases ho:hs.any (ovH ps hs l) with
   | true=>exact q4s hR hB (by rw [hlen]; simp) hO (fun e=>by rw [z4e.1 e] at ho; cases ho)
   | false=>exact q4r hR hB (by rw [hlen]; simp) hO (z4e.2 ho)
end Gev
namespace Gev
open Go Gb
variable {E:Env}
attribute [local irreducible] Sz
theorem u0s (a:Rat):cmpQ a 0=cmpI a.num 0:=by
 unfold cmpQ
 rw [show (0:Rat).num=0 from rfl,show (0:Rat).den=1 from rfl,Int.zero_mul]
 simp
theorem x6s (a:Rat):Fn E V5 [.agg (Qr a)] (.c (.i64 (cmpQ a 0))):=by rw [u0s]; exact v9w a
theorem z6a {x:List UInt8} (h:x.length≤40):Fn E D9 [.c (.str (B x))] (.agg (Qr (rdv x))):=q6n (by have:=x2f; omega)
theorem Y0 {x:List UInt8} (h:x.length≤40):Fn E G0 [.c (.str (B x))] (.c (.bool (ok1 x))):=u2o (by have:=x2f; omega)
theorem j5a {a:Int} {b:Bool} (h:decide (1≤a∧a≤1073741824)=b):Fn E z6m [.c (.i64 a)] (.c (.bool b)):=by
 subst h
 by_cases h1:a≥1
 · by_cases h2:a≤1073741824
   · rw [decide_eq_true ⟨h1,h2⟩]; exact w1b h1 h2
   · rw [decide_eq_false fun h=>h2 h.2]; exact w1c h1 h2
 · rw [decide_eq_false fun h=>h1 h.1]; exact w1d h1
theorem k5y {s:List UInt8} {b:Bool} (h:nmB s=b):Fn E z0x [.c (.str (B s))] (.c (.bool b)):=by
 subst h
 unfold nmB
 have hs:=U5 s
 by_cases h1:1≤s.length
 · by_cases h2:s.length≤64
   · rw [decide_eq_true ⟨h1,h2⟩]; exact v5d (by omega) (by omega)
   · rw [decide_eq_false fun h=>h2 h.2]; exact v5e (by omega) (by omega)
 · rw [decide_eq_false fun h=>h1 h.1]; exact v5f (by omega)
theorem y4q {ps:List Pc} {hs:RW} {id:Int} (hl:ps.length≤1000):Fn E J7 [.agg [.list (Ps ps),.list hs],.c (.i64 id)] (.c (.i64 (ixP ps id))):=by
 have hq:=z3q ps
 have h:=I3 (E:=E) (l:=ps) (fun _ p=>p.id == id) (fun i=>z3s id (i:Nat) (Ps ps) hs) (fun j _ o s=>o=.ret∧s=y6l (Ps ps) hs (j:Nat)) (k4c (by omega))
  (fun i a ha hb o s ih=>by
   have hi:=C1 ha
   exact j2j (by omega) (by omega) (A5 (X6 ha)) (by simpa using hb) (wi (by omega)) ih)
  (fun i a ha hb=>by
   have hi:=C1 ha
   exact ⟨_,_,⟨rfl,rfl⟩,k4b (by omega) (by omega) (A5 (X6 ha)) (by simpa using hb)⟩) ps.length 0 (by omega)
 unfold ixP
 rcases h with ⟨h1,h2⟩ | ⟨j,a,o,s,h1,h2,h3,h4,⟨rfl,rfl⟩,h5⟩
 · rw [z7m fun j a hj h=>h1 j a hj h]; exact q9v h2
 · rw [z7n (p:=fun p:Pc=>p.id == id) h2 h3 fun j a hj hk h=>h4 j a hj hk h]; exact q9u h5
theorem j4z {hs:List Hd} {ps:RW} {id:Int} (hl:hs.length≤1000):Fn E X8 [.agg [.list ps,.list (Hs hs)],.c (.i64 id)] (.c (.i64 (ixH hs id))):=by
 have hq:=z0k hs
 have h:=I3 (E:=E) (l:=hs) (fun _ p=>p.id == id) (fun i=>z7c id (i:Nat) ps (Hs hs)) (fun j _ o s=>o=.ret∧s=x0r ps (Hs hs) (j:Nat)) (j2f (by omega))
  (fun i a ha hb o s ih=>by
   have hi:=C1 ha
   exact j9z (by omega) (by omega) (A5 (z0b ha)) (by simpa using hb) (wi (by omega)) ih)
  (fun i a ha hb=>by
   have hi:=C1 ha
   exact ⟨_,_,⟨rfl,rfl⟩,j2e (by omega) (by omega) (A5 (z0b ha)) (by simpa using hb)⟩) hs.length 0 (by omega)
 unfold ixH
 rcases h with ⟨h1,h2⟩ | ⟨j,a,o,s,h1,h2,h3,h4,⟨rfl,rfl⟩,h5⟩
 · rw [z7m fun j a hj h=>h1 j a hj h]; exact w1a h2
 · rw [z7n (p:=fun p:Hd=>p.id == id) h2 h3 fun j a hj hk h=>h4 j a hj hk h]; exact w0z h5
theorem w3i {ps:List Pc} {hs:List Hd} (h:Sh ps hs):Fn E D8 [.agg [.list (Ps ps),.list (Hs hs)]] (.c (.bool (decide (ps.all okP=true∧hs.all okH=true)))):=by
 have l1:=z3q ps
 have l2:=z0k hs
 have n1:=h.np
 have n2:=h.nh
 have t0:=I3 (E:=E) (l:=ps) (fun _ a=>!okP a) (fun i=>Z0 (i:Nat) (Ps ps) (Hs hs)) (fun _ _ o s=>o=.ret∧s=z5m (Ps ps) (Hs hs)) (k0n (by omega))
  (fun i a ha hb o s ih=>by
   have hi:=C1 ha; have sz:=h.p a (List.mem_of_getElem? ha)
   unfold okP at hb
   simp only [List.all_cons,List.all_nil,Bool.and_true,Bool.not_eq_false',Bool.and_eq_true] at hb
   have v1:=Y0 (E:=E) sz.1
   have v2:=Y0 (E:=E) sz.2.1
   have v3:=Y0 (E:=E) sz.2.2
   rw [hb.1] at v1; rw [hb.2.1] at v2; rw [hb.2.2] at v3
   exact k8s (by omega) (by omega) (A5 (X6 ha)) v1 v2 v3 (wi (by omega)) ih)
  (fun i a ha hb=>by
   have hi:=C1 ha; have sz:=h.p a (List.mem_of_getElem? ha)
   have g:=A5 (X6 ha)
   have b1:(i:Int) < ((Ps ps).length:Int):=by omega
   have b2:(0:Int)≤(i:Nat):=by omega
   unfold okP at hb
   have v1:=Y0 (E:=E) sz.1
   have v2:=Y0 (E:=E) sz.2.1
   have v3:=Y0 (E:=E) sz.2.2
   refine ⟨_,_,⟨rfl,rfl⟩,?_⟩
   cases c1:ok1 a.ma with
   | false=>rw [c1] at v1; exact k0m b1 b2 g v1
   | true =>
    rw [c1] at v1
    cases c2:ok1 a.vo with
    | false=>rw [c2] at v2; exact k0l b1 b2 g v1 v2
    | true =>
     rw [c2] at v2
     cases c3:ok1 a.wo with
     | false=>rw [c3] at v3; exact k0k b1 b2 g v1 v2 v3
     | true=>exfalso; simp [c1,c2,c3] at hb) ps.length 0 (by omega)
 have t1:=I3 (E:=E) (l:=hs) (fun _ a=>!okH a) (fun i=>U3 (i:Nat) (Ps ps) (Hs hs)) (fun _ _ o s=>o=.ret∧s=z0l (Ps ps) (Hs hs)) (k0t (by omega))
  (fun i a ha hb o s ih=>by
   have hi:=C1 ha; have sz:=h.h a (List.mem_of_getElem? ha)
   unfold okH at hb
   simp only [List.all_cons,List.all_nil,Bool.and_true,Bool.not_eq_false',Bool.and_eq_true] at hb
   have v1:=Y0 (E:=E) sz.1
   have v2:=Y0 (E:=E) sz.2.1
   have v3:=Y0 (E:=E) sz.2.2.1
   have v4:=Y0 (E:=E) sz.2.2.2.1
   have v5:=Y0 (E:=E) sz.2.2.2.2
   rw [hb.1] at v1; rw [hb.2.1] at v2; rw [hb.2.2.1] at v3; rw [hb.2.2.2.1] at v4; rw [hb.2.2.2.2] at v5
   exact k8t (by omega) (by omega) (A5 (z0b ha)) v1 v2 v3 v4 v5 (wi (by omega)) ih)
  (fun i a ha hb=>by
   have hi:=C1 ha; have sz:=h.h a (List.mem_of_getElem? ha)
   have g:=A5 (z0b ha)
   have b1:(i:Int) < ((Hs hs).length:Int):=by omega
   have b2:(0:Int)≤(i:Nat):=by omega
   unfold okH at hb
   have v1:=Y0 (E:=E) sz.1
   have v2:=Y0 (E:=E) sz.2.1
   have v3:=Y0 (E:=E) sz.2.2.1
   have v4:=Y0 (E:=E) sz.2.2.2.1
   have v5:=Y0 (E:=E) sz.2.2.2.2
   refine ⟨_,_,⟨rfl,rfl⟩,?_⟩
   cases c1:ok1 a.ro with
   | false=>rw [c1] at v1; exact k0s b1 b2 g v1
   | true =>
   rw [c1] at v1
   cases c2:ok1 a.mo with
   | false=>rw [c2] at v2; exact k0r b1 b2 g v1 v2
   | true =>
   rw [c2] at v2
   cases c3:ok1 a.x with
   | false=>rw [c3] at v3; exact k0q b1 b2 g v1 v2 v3
   | true =>
   rw [c3] at v3
   cases c4:ok1 a.y with
   | false=>rw [c4] at v4; exact k0p b1 b2 g v1 v2 v3 v4
   | true =>
   rw [c4] at v4
   cases c5:ok1 a.z with
   | false=>rw [c5] at v5; exact k0o b1 b2 g v1 v2 v3 v4 v5
   | true=>exfalso; simp [c1,c2,c3,c4,c5] at hb) hs.length 0 (by omega)
 rcases t0 with ⟨h1,h2⟩ | ⟨j,a,o,s,h1,h2,h3,h4,⟨rfl,rfl⟩,h5⟩
 · have a1:ps.all okP=true:=List.all_eq_true.2 fun a ha=>(List.mem_iff_getElem?.1 ha).elim fun j hj=>by simpa using h1 j a (Nat.zero_le _) hj
   rcases t1 with ⟨k1,k2⟩ | ⟨j,a,o,s,k1,k2,k3,k4,⟨rfl,rfl⟩,k5⟩
   · have a2:hs.all okH=true:=List.all_eq_true.2 fun a ha=>(List.mem_iff_getElem?.1 ha).elim fun j hj=>by simpa using k1 j a (Nat.zero_le _) hj
     rw [decide_eq_true ⟨a1,a2⟩]; exact q3t h2 k2
   · rw [decide_eq_false fun h=>by { rw [List.all_eq_true.1 h.2 a (List.mem_of_getElem? k2)] at k3; cases k3 }]; exact q3s h2 k5
 · rw [decide_eq_false fun h=>by { rw [List.all_eq_true.1 h.1 a (List.mem_of_getElem? h2)] at h3; cases h3 }]; exact q3r h5
end Gev
namespace Gev
open Go Gb
variable {E:Env}
attribute [local irreducible] Sz
theorem r47_L0 {ps:List Pc} {hs:RW} (hp:∀ p∈ps,ShP p) (hl:ps.length < 1000) :
    (fE (fP ps) 0 ps=0∧Lp E 1 B6 0 (H5 0 (Ps ps) hs) (.exit 0) (y8i (Ps ps) hs)) ∨
    (fE (fP ps) 0 ps≠0∧Lp E 1 B6 0 (H5 0 (Ps ps) hs) .ret (K6 (Ps ps) hs (fE (fP ps) 0 ps))):=by
 have hq:=z3q ps
 refine x5t (E:=E) (l:=ps) (fP ps) (fun i=>H5 (i:Nat) (Ps ps) hs) (G:=fun v=>K6 (Ps ps) hs v) (k8l (by omega)) (fun i a ha=>?_) ps.length 0 (by omega)
 have hi:=C1 ha
 have hm:=List.mem_of_getElem? ha
 have hs1:=hp a hm
 have m1:=z6a (E:=E) hs1.1
 have m2:=z6a (E:=E) hs1.2.1
 have m3:=z6a (E:=E) hs1.2.2
 have s1:=x6s (E:=E) (rdv a.ma)
 have s2:=x6s (E:=E) (rdv a.vo)
 have s3:=x6s (E:=E) (rdv a.wo)
 have g:=A5 (X6 ha)
 have b1:(i:Int) < ((Ps ps).length:Int):=by omega
 have b2:(0:Int)≤(i:Int):=by omega
 unfold fP
 by_cases c1:1≤a.id∧a.id≤1073741824
 rotate_left
 · rw [if_neg c1]; exact outp (by decide) (k8k b1 b2 g (j5a (decide_eq_false c1)))
 have w1:=j5a (E:=E) (decide_eq_true c1)
 rw [if_pos c1]
 by_cases c2:1≤a.un
 rotate_left
 · rw [if_neg fun h=>c2 h.1]; exact outp (by decide) (k8b b1 b2 g w1 (by omega))
 by_cases c2':a.un≤9
 rotate_left
 · rw [if_neg fun h=>c2' h.2]; exact outp (by decide) (k8c b1 b2 g w1 (by omega) (by omega))
 rw [if_pos ⟨c2,c2'⟩]
 have u1:¬ a.un < 1:=by omega
 have u2:¬ a.un > 9:=by omega
 by_cases c3:1≤a.cl
 rotate_left
 · rw [if_neg fun h=>c3 h.1]; exact outp (by decide) (k8d b1 b2 g w1 u1 u2 (by omega))
 by_cases c3':a.cl≤9
 rotate_left
 · rw [if_neg fun h=>c3' h.2]; exact outp (by decide) (k8e b1 b2 g w1 u1 u2 (by omega) (by omega))
 rw [if_pos ⟨c3,c3'⟩]
 have u3:¬ a.cl < 1:=by omega
 have u4:¬ a.cl > 9:=by omega
 by_cases c4:cmpQ (rdv a.ma) 0≤0
 · rw [if_pos c4]; exact outp (by decide) (k8f b1 b2 g w1 u1 u2 u3 u4 m1 s1 c4)
 rw [if_neg c4]
 by_cases c5:cmpQ (rdv a.vo) 0≤0
 · rw [if_pos c5]; exact outp (by decide) (k8g b1 b2 g w1 u1 u2 u3 u4 m1 s1 c4 m2 s2 c5)
 rw [if_neg c5]
 by_cases c6:cmpQ (rdv a.wo) 0 < 0
 · rw [if_pos c6]; exact outp (by decide) (k8h b1 b2 g w1 u1 u2 u3 u4 m1 s1 c4 m2 s2 c5 m3 s3 c6)
 rw [if_neg c6]
 cases c7:nmB a.nm with
 | false=>rw [if_neg (by simp)]; exact outp (by decide) (k8j b1 b2 g w1 u1 u2 u3 u4 m1 s1 c4 m2 s2 c5 m3 s3 c6 (k5y c7))
 | true =>
  rw [if_pos rfl]
  have w7:=k5y (E:=E) c7
  by_cases c8:0 < i
  · rw [if_pos c8]
    obtain ⟨q,hq'⟩:=z1g (l:=ps) (i:=i - 1) (by omega)
    rw [hq']
    show (((if q.id≥a.id then (5:Int) else 0)=0)→_)∧_
    by_cases c9:q.id≥a.id
    · rw [show ((if ((some q).map Pc.id).getD 0≥a.id then (5:Int) else 0))=5 from if_pos c9,if_pos c9]; exact outp (by decide) (k8i b1 b2 g w1 u1 u2 u3 u4 m1 s1 c4 m2 s2 c5 m3 s3 c6 w7 (by omega) (by omega) (A5 (X6 hq')) c9 (wi (by omega)))
    · rw [show ((if ((some q).map Pc.id).getD 0≥a.id then (5:Int) else 0))=0 from if_neg c9,if_neg c9]; exact inp fun o s ih=>j5s b1 b2 g w1 u1 u2 u3 u4 m1 s1 c4 m2 s2 c5 m3 s3 c6 w7 (by omega) (by omega) (A5 (X6 hq')) c9 (wi (by omega)) (wi (by omega)) ih
  · rw [if_neg c8]
    exact inp fun o s ih=>j5t b1 b2 g w1 u1 u2 u3 u4 m1 s1 c4 m2 s2 c5 m3 s3 c6 w7 (by omega) (wi (by omega)) ih
theorem r47_L1 {hs:List Hd} {ps:RW} (hp:∀ p∈hs,ShH p) (hl:hs.length < 1000) :
    (fE (fH hs) 0 hs=0∧Lp E 1 B6 1 (M6 0 ps (Hs hs)) (.exit 2) (y8j ps (Hs hs))) ∨
    (fE (fH hs) 0 hs≠0∧Lp E 1 B6 1 (M6 0 ps (Hs hs)) .ret (z0s ps (Hs hs) (fE (fH hs) 0 hs))):=by
 have hq:=z0k hs
 refine x5t (E:=E) (l:=hs) (fH hs) (fun i=>M6 (i:Nat) ps (Hs hs)) (G:=fun v=>z0s ps (Hs hs) v) (k8r (by omega)) (fun i a ha=>?_) hs.length 0 (by omega)
 have hi:=C1 ha
 have hm:=List.mem_of_getElem? ha
 have hs1:=hp a hm
 have m1:=z6a (E:=E) hs1.1
 have m2:=z6a (E:=E) hs1.2.1
 have s1:=x6s (E:=E) (rdv a.ro)
 have s2:=x6s (E:=E) (rdv a.mo)
 have g:=A5 (z0b ha)
 have b1:(i:Int) < ((Hs hs).length:Int):=by omega
 have b2:(0:Int)≤(i:Int):=by omega
 unfold fH
 by_cases c1:1≤a.id∧a.id≤1073741824
 rotate_left
 · rw [if_neg c1]; exact outp (by decide) (k8q b1 b2 g (j5a (decide_eq_false c1)))
 have w1:=j5a (E:=E) (decide_eq_true c1)
 rw [if_pos c1]
 by_cases c4:cmpQ (rdv a.ro) 0 < 0
 · rw [if_pos c4]; exact outp (by decide) (k8m b1 b2 g w1 m1 s1 c4)
 rw [if_neg c4]
 by_cases c5:cmpQ (rdv a.mo) 0 < 0
 · rw [if_pos c5]; exact outp (by decide) (k8n b1 b2 g w1 m1 s1 c4 m2 s2 c5)
 rw [if_neg c5]
 cases c7:nmB a.nm with
 | false=>rw [if_neg (by simp)]; exact outp (by decide) (k8p b1 b2 g w1 m1 s1 c4 m2 s2 c5 (k5y c7))
 | true =>
  rw [if_pos rfl]
  have w7:=k5y (E:=E) c7
  by_cases c8:0 < i
  · rw [if_pos c8]
    obtain ⟨q,hq'⟩:=z1g (l:=hs) (i:=i - 1) (by omega)
    rw [hq']
    show (((if q.id≥a.id then (5:Int) else 0)=0)→_)∧_
    by_cases c9:q.id≥a.id
    · rw [show ((if ((some q).map Hd.id).getD 0≥a.id then (5:Int) else 0))=5 from if_pos c9,if_pos c9]; exact outp (by decide) (k8o b1 b2 g w1 m1 s1 c4 m2 s2 c5 w7 (by omega) (by omega) (A5 (z0b hq')) c9 (wi (by omega)))
    · rw [show ((if ((some q).map Hd.id).getD 0≥a.id then (5:Int) else 0))=0 from if_neg c9,if_neg c9]; exact inp fun o s ih=>j5u b1 b2 g w1 m1 s1 c4 m2 s2 c5 w7 (by omega) (by omega) (A5 (z0b hq')) c9 (wi (by omega)) (wi (by omega)) ih
  · rw [if_neg c8]
    exact inp fun o s ih=>j5v b1 b2 g w1 m1 s1 c4 m2 s2 c5 w7 (by omega) (wi (by omega)) ih
theorem v7m {ps:List Pc} {hs:List Hd} (h:Sh ps hs):Fn E B6 [.agg [.list (Ps ps),.list (Hs hs)]] (.c (.i64 (chkC ps hs))):=by
 have hN:=w3i (E:=E) h
 obtain ⟨n1,n2,hp,hh⟩:=h
 have l1:=z3q ps
 have l2:=z0k hs
 unfold chkC
 by_cases o1:ps.all okP=true∧hs.all okH=true
 rotate_left
 · rw [decide_eq_false o1] at hN; rw [if_neg o1]; exact v5c hN
 rw [decide_eq_true o1] at hN
 rw [if_pos o1]
 by_cases c1:ps.length > 6
 · rw [if_pos (.inl c1)]; exact v4x hN (by omega)
 by_cases c2:hs.length > 6
 · rw [if_pos (.inr c2)]; exact v4y hN (by omega) (by omega)
 rw [if_neg (fun h=>h.elim c1 c2)]
 rcases r47_L0 (E:=E) (hs:=Hs hs) hp (by omega) with ⟨o3,h3⟩ | ⟨o3,h3⟩
 rotate_left
 · rw [if_neg o3]; exact v4z hN (by omega) (by omega) h3
 rw [if_pos o3]
 rcases r47_L1 (E:=E) (ps:=Ps ps) hh (by omega) with ⟨o4,h4⟩ | ⟨o4,h4⟩
 · rw [o4]; exact v5b hN (by omega) (by omega) h3 h4
 · exact v5a hN (by omega) (by omega) h3 h4
end Gev
namespace Gev
open Go Gb
variable {E:Env}
attribute [local irreducible] Sz
theorem w6k (a b:Sw):Fn E z2u [.agg a.d,.agg b.d] (.c (.bool (decide (ordS a b < 0)))):=by
 unfold ordS
 by_cases c1:a.ho < b.ho
 · have h:cmpI a.ho b.ho < 0:=y2v.2 c1
   rw [if_neg (by omega),decide_eq_true h]; exact q9z c1
 · by_cases c2:a.ho=b.ho
   · rw [if_pos (j3s c2)]
     by_cases c3:a.pa < b.pa
     · rw [decide_eq_true (y2v.2 c3)]; exact v0a c1 c2 c3
     · rw [decide_eq_false fun h=>c3 (y2v.1 h)]; exact v0b c1 c2 c3
   · have h:cmpI a.ho b.ho > 0:=v8o.2 (by omega)
     rw [if_neg (by omega),decide_eq_false (by omega)]; exact v0c c1 c2
theorem v2k {l:List Sw} {j:Nat} {b:Sw} {id:Int} (h:l[j]?=some b):unS (l.take (j+1)) id=unS (l.take j) id+if b.pa=id then b.un else 0:=by
 have:l.take (j+1)=l.take j++[b]:=by rw [List.take_add_one,h]; rfl
 rw [this]
 unfold unS
 rw [List.map_append,List.sum_append,List.map_cons,List.sum_cons,List.map_nil,List.sum_nil,Int.add_zero]
theorem v2j {id:Int}:∀ {l:List Sw},(∀ a∈l,0≤a.un)→0≤unS l id
 | [],_=>by show (0:Int)≤0; omega
 | a::l,h=>by
  have h1:=v2j (id:=id) (l:=l) fun x hx=>h x (List.mem_cons_of_mem _ hx)
  have h2:=h a List.mem_cons_self
  unfold unS at h1 ⊢
  rw [List.map_cons,List.sum_cons]
  split <;> omega
theorem w5e {l:List Sw} {id:Int} (h:∀ a∈l,0≤a.un) {j:Nat}:∀ d,unS (l.take j) id≤unS (l.take (j+d)) id
 | 0=>Int.le_refl _
 | d+1=>by
  have ih:=w5e (id:=id) h (j:=j) d
  cases e:l[j+d]? with
  | none =>
   rw [← Nat.add_assoc,List.take_of_length_le (i:=j+d+1) (by have:=List.getElem?_eq_none_iff.1 e; omega)]
   rwa [List.take_of_length_le (i:=j+d) (List.getElem?_eq_none_iff.1 e)] at ih
  | some b =>
   rw [← Nat.add_assoc,v2k e]
   have:=h b (List.mem_of_getElem? e)
   split <;> omega
theorem j9i {ps hs:RW} {l:List Sw} {i:Nat} {a:Sw} {u:Int} (ha:l[i]?=some a) (hl:l.length≤1000) (hu0:0≤u∧u≤9) (hu:∀ j b,j≤i→l[j]?=some b→1≤b.un∧b.un≤9223372036854775807):∀ d j:Nat,j+d=i+1→unS (l.take j) a.pa≤u→0≤unS (l.take j) a.pa →
    (unS (l.take (i+1)) a.pa≤u∧Lp E 1 C3 1 (P9 (Ss l) (i:Nat) (u - unS (l.take j) a.pa) (j:Nat) ps hs) (.exit 2) (y1h (Ss l) (i:Nat) ps hs)) ∨
    (unS (l.take (i+1)) a.pa > u∧Lp E 1 C3 1 (P9 (Ss l) (i:Nat) (u - unS (l.take j) a.pa) (j:Nat) ps hs) .ret (y1g ps hs))
 | 0,j,hj,h1,_=>by
  have e:j=i+1:=by omega
  subst e
  exact .inl ⟨h1,k4l (by omega)⟩
 | d+1,j,hj,h1,h0=>by
  have hlt:=C1 ha
  obtain ⟨b,hb⟩:=z1g (l:=l) (i:=j) (by omega)
  have hub:=hu j b (by omega) hb
  have g:=A5 (z0c ha)
  have gb:=A5 (z0c hb)
  have hs1:=v2k (id:=a.pa) hb
  by_cases c:b.pa=a.pa
  · rw [if_pos c] at hs1
    by_cases c2:b.un > u - unS (l.take j) a.pa
    · refine .inr ⟨?_,k4k (by omega) (by omega) gb (by omega) g c c2⟩
      have hm:unS ((l.take (i+1)).take (j+1)) a.pa≤unS ((l.take (i+1)).take (j+1+d)) a.pa:=w5e (fun x hx=>by
       obtain ⟨k,hk⟩:=List.mem_iff_getElem?.1 hx
       rw [List.getElem?_take] at hk
       split at hk
       · have:=hu k x (by omega) hk; omega
       · cases hk) d
      rw [List.take_take,List.take_take,Nat.min_eq_left (by omega),Nat.min_eq_left (by omega),show j+1+d=i+1 by omega] at hm
      omega
    · have ih:=j9i (ps:=ps) (hs:=hs) ha hl hu0 hu d (j+1) (by omega) (by omega) (by omega)
      rw [hs1] at ih
      rcases ih with ⟨k1,k2⟩ | ⟨k1,k2⟩
      · exact .inl ⟨k1,x2s (by omega) (by omega) gb (by omega) g c c2 (wi (by omega)) (wi (by omega)) k2⟩
      · exact .inr ⟨k1,x2s (by omega) (by omega) gb (by omega) g c c2 (wi (by omega)) (wi (by omega)) k2⟩
  · rw [if_neg c,Int.add_zero] at hs1
    have ih:=j9i (ps:=ps) (hs:=hs) ha hl hu0 hu d (j+1) (by omega) (by omega) (by omega)
    rw [hs1] at ih
    rcases ih with ⟨k1,k2⟩ | ⟨k1,k2⟩
    · exact .inl ⟨k1,x2t (by omega) (by omega) gb (by omega) g c (wi (by omega)) k2⟩
    · exact .inr ⟨k1,x2t (by omega) (by omega) gb (by omega) g c (wi (by omega)) k2⟩
theorem j1n {ps:List Pc} {hs:List Hd} {l:List Sw} (h:Sh ps hs) (hl:l.length≤1000) (hu:∀ a∈l,-9223372036854775808≤a.un∧a.un≤9223372036854775807):Fn E C3 [.agg [.list (Ps ps),.list (Hs hs)],.c (.list (Ss l))] (.c (.i64 (stwC ps hs l))):=by
 have hC:=v7m (E:=E) h
 unfold stwC
 by_cases c0:chkC ps hs=0
 rotate_left
 · rw [if_neg c0]; exact q9w hC c0
 rw [if_pos c0]
 have hq:=y5y l
 have n1:=h.np
 have n2:=h.nh
 have:=j0o (E:=E) (l:=l) (fS ps hs l) (fun i=>M3 (Ss l) (i:Nat) (Ps ps) (Hs hs)) (G:=fun v=>Z6 (Ps ps) (Hs hs) v) (n:=1) (F:=C3) (k:=0) (oe:=.exit 0) (fin:=y6m (Ps ps) (Hs hs)) (k4j (by omega)) (fun i a ha hpre=>?_) l.length 0 (by omega) (fun j b hj=>by omega)
 · rcases this with ⟨h1,h2⟩ | ⟨h1,h2⟩
   · rw [List.drop_zero] at h1; rw [h1]; exact q9y hC c0 h2
   · rw [List.drop_zero] at h2; exact q9x hC c0 h2
 have hi:=C1 ha
 have g:=A5 (z0c ha)
 have b1:(i:Int) < ((Ss l).length:Int):=by omega
 have b2:(0:Int)≤(i:Int):=by omega
 have p1:=y4q (E:=E) (ps:=ps) (hs:=Hs hs) (id:=a.pa) (by omega)
 have p2:=j4z (E:=E) (hs:=hs) (ps:=Ps ps) (id:=a.ho) (by omega)
 unfold fS
 by_cases c1:ixP ps a.pa < 0
 · rw [if_pos c1]; exact outp (by decide) (k4d b1 b2 g p1 c1)
 rw [if_neg c1]
 by_cases c2:ixH hs a.ho < 0
 · rw [if_pos c2]; exact outp (by decide) (k4e b1 b2 g p1 c1 p2 c2)
 rw [if_neg c2]
 by_cases c3:a.un < 1
 · rw [if_pos c3]; exact outp (by decide) (k4f b1 b2 g p1 c1 p2 c2 c3)
 rw [if_neg c3]
 have gp:=X6 (z3b c1)
 have hun:=j0l c0 (List.mem_of_getElem? (z3b c1))
 have hu2:∀ j b,j≤i→l[j]?=some b→1≤b.un∧b.un≤9223372036854775807:=fun j b hj hb=>by
  by_cases e:j=i
  · rw [e,ha] at hb; cases hb; exact ⟨by omega,(hu a (List.mem_of_getElem? ha)).2⟩
  · exact ⟨(v9c (hpre j b (by omega) hb)).2.2.1,(hu b (List.mem_of_getElem? hb)).2⟩
 have t:=j9i (E:=E) (ps:=Ps ps) (hs:=Hs hs) ha hl (u:=(pcAt ps a.pa).un) (by omega) hu2 (i+1) 0 (by omega) (by show (0:Int)≤_; omega) (by show (0:Int)≤0; omega)
 rw [show (pcAt ps a.pa).un - unS (l.take 0) a.pa=(pcAt ps a.pa).un from Int.sub_zero _] at t
 have hge:a.un≤unS (l.take (i+1)) a.pa:=by
  rw [v2k ha,if_pos rfl]
  have:=v2j (id:=a.pa) (l:=l.take i) fun x hx=>by
   obtain ⟨k,hk⟩:=List.mem_iff_getElem?.1 hx
   rw [List.getElem?_take] at hk
   split at hk
   · have:=hu2 k x (by omega) hk; omega
   · cases hk
  omega
 have fin:∀ {P Q:Prop},(unS (l.take (i+1)) a.pa≤(pcAt ps a.pa).un→((if a.un > (pcAt ps a.pa).un then (12:Int) else if unS (l.take (i+1)) a.pa > (pcAt ps a.pa).un then 12 else 0)=0))∧(unS (l.take (i+1)) a.pa > (pcAt ps a.pa).un→((if a.un > (pcAt ps a.pa).un then (12:Int) else if unS (l.take (i+1)) a.pa > (pcAt ps a.pa).un then 12 else 0)=12)):=fun {P Q}=>by
  refine ⟨fun k=>?_,fun k=>?_⟩
  · rw [if_neg (by omega),if_neg (by omega)]
  · by_cases c:a.un > (pcAt ps a.pa).un
    · rw [if_pos c]
    · rw [if_neg c,if_pos k]
 by_cases c8:0 < i
 · obtain ⟨q,hq'⟩:=z1g (l:=l) (i:=i - 1) (by omega)
   have po:=w6k (E:=E) q a
   rw [hq']
   by_cases c4:ordS q a≥0
   · rw [decide_eq_false (by omega)] at po
     rw [if_pos ⟨c8,c4⟩]; exact outp (by decide) (k4h b1 b2 g p1 c1 p2 c2 c3 (by omega) (by omega) (A5 (z0c hq')) po (wi (by omega)))
   rw [decide_eq_true (by omega)] at po
   rw [if_neg fun h=>c4 h.2]
   rcases t with ⟨k1,k2⟩ | ⟨k1,k2⟩
   · rw [(fin (P:=True) (Q:=True)).1 k1]; exact inp fun o s ih=>j2k b1 b2 g p1 c1 p2 c2 c3 (by omega) (by omega) (A5 (z0c hq')) po (by omega) gp k2 (wi (by omega)) (wi (by omega)) ih
   · rw [(fin (P:=True) (Q:=True)).2 k1]; exact outp (by decide) (k4g b1 b2 g p1 c1 p2 c2 c3 (by omega) (by omega) (A5 (z0c hq')) po (by omega) gp k2 (wi (by omega)))
 · rw [if_neg fun h=>c8 h.1]
   rcases t with ⟨k1,k2⟩ | ⟨k1,k2⟩
   · rw [(fin (P:=True) (Q:=True)).1 k1]; exact inp fun o s ih=>j2l b1 b2 g p1 c1 p2 c2 c3 (by omega) (by omega) gp k2 (wi (by omega)) ih
   · rw [(fin (P:=True) (Q:=True)).2 k1]; exact outp (by decide) (k4i b1 b2 g p1 c1 p2 c2 c3 (by omega) (by omega) gp k2)
end Gev
namespace Gev
open Go Gb
variable {E:Env}
attribute [local irreducible] Sz
abbrev qb (q:Rat):Bool:=decide (q.num < 0)
abbrev qn (q:Rat):RW:=Wr (words q.num.natAbs)
abbrev qd (q:Rat):RW:=Wr (words q.den)
theorem j8s {β:Type} (f:β→Sw→β) (id:Int):∀ (l:List Sw) (b:β),(inH l id).foldl f b=l.foldl (fun b a=>if a.ho=id then f b a else b) b
 | [],b=>rfl
 | a::l,b=>by
  unfold inH
  rw [List.filter_cons,List.foldl_cons]
  by_cases e:a.ho=id
  · rw [if_pos (by simp [e]),if_pos e,List.foldl_cons]; exact j8s f id l _
  · rw [if_neg (by simp [e]),if_neg e]; exact j8s f id l b
theorem w8c {ps:List Pc} {hs:List Hd} {l:List Sw} (h:Rg ps hs l) {id:Int} (h0:id≠0):Fn E z1r [.agg [.list (Ps ps),.list (Hs hs)],.c (.list (Ss l)),.c (.i64 id)] (.agg (lad ps hs (inH l id)).d):=by
 have hq:=y5y l
 have n1:=h.sh.np
 have n2:=h.sh.nh
 have hln:=h.ln
 have hL:=y4e
 have:=I9 (E:=E) (l:=l) (n:=8) (F:=z1r) (k:=0) (fun t a=>if a.ho=id then ladN ps hs t a else t) (fun i t=>t.Z (1+100*i))
  (fun i t=>z9e (Ss l) id (i:Nat) (Ps ps) (Hs hs) ⟨#[]⟩ ⟨#[]⟩ ⟨#[]⟩ ⟨#[]⟩ ⟨#[]⟩ ⟨#[]⟩ (qb t.m) (qn t.m) (qd t.m) (qb t.v) (qn t.v) (qd t.v) (qb t.w) (qn t.w) (qd t.w) (qb t.x) (qn t.x) (qd t.x) (qb t.y) (qn t.y) (qd t.y) (qb t.z) (qn t.z) (qd t.z)) (oe:=.exit 0)
  (fin:=fun t=>x2w (Ps ps) (Hs hs) ⟨#[]⟩ ⟨#[]⟩ ⟨#[]⟩ ⟨#[]⟩ ⟨#[]⟩ ⟨#[]⟩ (qb t.m) (qn t.m) (qd t.m) (qb t.v) (qn t.v) (qd t.v) (qb t.w) (qn t.w) (qd t.w) (qb t.x) (qn t.x) (qd t.x) (qb t.y) (qn t.y) (qd t.y) (qb t.z) (qn t.z) (qd t.z)) (fun t _=>j6i (by omega))
  (fun i a t ha ht=>by
   have hi:=C1 ha
   have hm:=List.mem_of_getElem? ha
   have e1:1+100*(i+1)=1+100*i+100:=by omega
   by_cases e:a.ho=id
   · rw [if_pos e]
     refine ⟨by have:=v9e h hm ht; rwa [e1],fun o s ih=>?_⟩
     obtain ⟨t1,t2,t3,t4,t5,t6⟩:=ht
     obtain ⟨h1,h2,h3,h4⟩:=h.st a hm
     obtain ⟨_,u,m,v,w,x,y,z⟩:=w1k h hm
     have s1:=h.sh.p _ (List.mem_of_getElem? (z3b h1))
     have s2:=h.sh.h _ (List.mem_of_getElem? (j4d h2))
     exact q3v (by omega) h0 (by omega) (A5 (z0c ha)) e (y4q (by omega)) (by omega) (X6 (z3b h1)) (j4z (by omega)) (by omega) (z0b (j4d h2)) (q8y (by omega))
      (z6a s1.1) (j1m u m (by omega)) (k3q t1 (u.mul m) (by omega)) (z6a s1.2.1) (j1m u v (by omega)) (k3q t2 (u.mul v) (by omega)) (z6a s1.2.2) (j1m u w (by omega)) (k3q t3 (u.mul w) (by omega))
      (z6a s2.2.2.1) (j1m (u.mul m) x (by omega)) (k3q t4 ((u.mul m).mul x) (by omega)) (z6a s2.2.2.2.1) (j1m (u.mul m) y (by omega)) (k3q t5 ((u.mul m).mul y) (by omega)) (z6a s2.2.2.2.2) (j1m (u.mul m) z (by omega)) (k3q t6 ((u.mul m).mul z) (by omega)) (wi (by omega)) ih
   · rw [if_neg e]
     obtain ⟨t1,t2,t3,t4,t5,t6⟩:=ht
     have k:1+100*i≤1+100*(i+1):=by omega
     exact ⟨⟨t1.mono k,t2.mono k,t3.mono k,t4.mono k,t5.mono k,t6.mono k⟩,fun o s ih=>q3u (by omega) h0 (by omega) (A5 (z0c ha)) e (wi (by omega)) ih⟩)
  l.length 0 LD.o (by omega) LD.o_sz
 rw [List.drop_zero,← j8s] at this
 obtain ⟨⟨t1,t2,t3,t4,t5,t6⟩,h2⟩:=this
 exact w4f (q8y (z:=0) (by decide)) h2 (q2b t1 (by omega)) (q2b t2 (by omega)) (q2b t3 (by omega)) (q2b t4 (by omega)) (q2b t5 (by omega)) (q2b t6 (by omega))
theorem u4g {l:List Hd} {i:Nat} {p:Hd} (h:fH l i p=0):1≤p.id:=by
 unfold fH at h
 by_cases c1:1≤p.id∧p.id≤1073741824
 · exact c1.1
 · rw [if_neg c1] at h; cases h
theorem w2j {ps:List Pc} {hs:List Hd} (h:chkC ps hs=0) {a:Hd} (ha:a∈hs):1≤a.id:=by
 obtain ⟨j,hj⟩:=List.mem_iff_getElem?.1 ha
 exact u4g (x7t (k5l h).2.2.2.2.2 j a hj)
theorem u2q {ps:List Pc} {hs:List Hd} {l:List Sw} (h:Rg ps hs l) (h0:stwC ps hs l=0) (hu:∀ a∈l,-9223372036854775808≤a.un∧a.un≤9223372036854775807) {a:Hd} (ha:a∈hs) :
    Fn E x7l [.agg [.list (Ps ps),.list (Hs hs)],.c (.list (Ss l)),.c (.i64 a.id)] (.tup [.agg (lad ps hs (inH l a.id)).d,.c (.i64 0)]):=by
 have n2:=h.sh.nh
 have:=w2j h.ok ha
 exact w0y (j1n h.sh h.ln hu) h0 (j4z (by omega)) (w7s ha) (w8c h (by omega))
theorem q8z {ps:List Pc} {hs:List Hd} {l:List Sw} (h:Sh ps hs) (hl:l.length≤1000) (hu:∀ a∈l,-9223372036854775808≤a.un∧a.un≤9223372036854775807) :
    Fn E H7 [.agg [.list (Ps ps),.list (Hs hs)],.c (.list (Ss l))] (if stwC ps hs l=0 then .tup [.c (.i64 (ix (ovH ps hs l) hs)),.c (.i64 0)] else .tup [.c (.i64 0),.c (.i64 1)]):=by
 have hS:=j1n (E:=E) h hl hu
 by_cases h0:stwC ps hs l=0
 rotate_left
 · rw [if_neg h0]; exact j2g hS h0
 rw [if_pos h0]
 have hr:=Rg.of h hl h0
 have n2:=h.nh
 have hL:=y4e
 have l2:=z0k hs
 have key:∀ a∈hs,Fn E z1r [.agg [.list (Ps ps),.list (Hs hs)],.c (.list (Ss l)),.c (.i64 a.id)] (.agg (lad ps hs (inH l a.id)).d)∧Fn E D9 [.c (.str (B a.mo))] (.agg (Qr (rdv a.mo)))∧Fn E D9 [.c (.str (B (decQ (lad ps hs (inH l a.id)).m)))] (.agg (Qr (lad ps hs (inH l a.id)).m)) ∧
     Fn E K1 [.agg (Qr (rdv a.mo)),.agg (Qr (lad ps hs (inH l a.id)).m)] (.c (.bool (decide (cmpQ (lad ps hs (inH l a.id)).m (rdv a.mo) > 0))))∧Fn E D9 [.c (.str (B a.ro))] (.agg (Qr (rdv a.ro)))∧Fn E D9 [.c (.str (B (decQ (lad ps hs (inH l a.id)).v)))] (.agg (Qr (lad ps hs (inH l a.id)).v)) ∧
     Fn E K1 [.agg (Qr (rdv a.ro)),.agg (Qr (lad ps hs (inH l a.id)).v)] (.c (.bool (decide (cmpQ (lad ps hs (inH l a.id)).v (rdv a.ro) > 0)))):=fun a ha=>by
  obtain ⟨a1,a2,_⟩:=w6f hr.ok ha
  have sz:=h.h a ha
  have z:=w7t (j8u hr a.id)
  have hp:=w2j hr.ok ha
  have t1:=q6n (E:=E) (l:=decQ (lad ps hs (inH l a.id)).m) (by have:=z.1.len; omega)
  have t2:=q6n (E:=E) (l:=decQ (lad ps hs (inH l a.id)).v) (by have:=z.2.1.len; omega)
  rw [k5z] at t1 t2
  refine ⟨w8c hr (by omega),z6a sz.2.1,t1,?_,z6a sz.1,t2,?_⟩
  · have:=j4x (E:=E) (z2w a2 sz.2.1) z.1 (by omega)
    rwa [show decide (rdv a.mo < (lad ps hs (inH l a.id)).m)=decide (cmpQ (lad ps hs (inH l a.id)).m (rdv a.mo) > 0) from decide_eq_decide.2 q6g.symm] at this
  · have:=j4x (E:=E) (z2w a1 sz.1) z.2.1 (by omega)
    rwa [show decide (rdv a.ro < (lad ps hs (inH l a.id)).v)=decide (cmpQ (lad ps hs (inH l a.id)).v (rdv a.ro) > 0) from decide_eq_decide.2 q6g.symm] at this
 have:=I3 (E:=E) (l:=hs) (n:=1) (F:=H7) (k:=0) (oe:=.exit 0) (fin:=y0o (Ps ps) (Hs hs)) (fun _ a=>ovH ps hs l a) (fun i=>X3 (Ss l) (i:Nat) (Ps ps) (Hs hs)) (fun j _ o s=>o=.ret∧s=z6b (Ps ps) (Hs hs) (j:Nat)) (x5b (by omega))
  (fun i a ha hb o s ih=>by
   have hi:=C1 ha
   obtain ⟨k1,k2,k3,k4,k5,k6,k7⟩:=key a (List.mem_of_getElem? ha)
   unfold ovH at hb
   have hb:=of_decide_eq_false hb
   rw [decide_eq_false fun h=>hb (.inl h)] at k4
   rw [decide_eq_false fun h=>hb (.inr h)] at k7
   exact x8h (by omega) (by omega) (A5 (z0b ha)) k1 k2 k3 k4 k5 k6 k7 (wi (by omega)) ih)
  (fun i a ha hb=>by
   have hi:=C1 ha
   obtain ⟨k1,k2,k3,k4,k5,k6,k7⟩:=key a (List.mem_of_getElem? ha)
   unfold ovH at hb
   have hb:=of_decide_eq_true hb
   refine ⟨_,_,⟨rfl,rfl⟩,?_⟩
   by_cases c:cmpQ (lad ps hs (inH l a.id)).m (rdv a.mo) > 0
   · rw [decide_eq_true c] at k4; exact x4z (by omega) (by omega) (A5 (z0b ha)) k1 k2 k3 k4
   · rw [decide_eq_false c] at k4
     rw [decide_eq_true (hb.resolve_left c)] at k7
     exact x5a (by omega) (by omega) (A5 (z0b ha)) k1 k2 k3 k4 k5 k6 k7) hs.length 0 (by omega)
 rcases this with ⟨h1,h2⟩ | ⟨j,a,o,s,h1,h2,h3,h4,⟨rfl,rfl⟩,h5⟩
 · rw [z7m fun j a hj h=>h1 j a hj h]; exact j2i hS h0 h2
 · rw [z7n h2 h3 fun j a hj hk h=>h4 j a hj hk h]; exact j2h hS h0 h5
end Gev
namespace Gev
open Go Gb
variable {E:Env}
attribute [local irreducible] Sz
theorem y5l {n:Int} {b:Bool} (h:clB n=b):Fn E Y5 [.c (.i64 n)] (.c (.bool b)):=by
 subst h
 unfold clB
 by_cases h1:n≥1
 · by_cases h2:n≤9
   · rw [decide_eq_true ⟨h1,h2⟩]; exact v5r h1 h2
   · rw [decide_eq_false fun h=>h2 h.2]; exact v5s h1 h2
 · rw [decide_eq_false fun h=>h1 h.1]; exact v5t h1
theorem u4f:emp []=true:=rfl
theorem k2s {x:List UInt8} (h:x≠[]):emp x=ok1 x:=by
 unfold emp
 cases x with
 | nil=>exact absurd rfl h
 | cons a x=>rfl
theorem w3j {r:Ru} (hr:ShR r):Fn E I7 [.agg r.d] (.c (.bool (decide (r.fs.all ok1=true∧emp r.lo=true∧emp r.hi=true)))):=by
 have hq:=z6g r.fs
 have h8:=hr.1
 have h:=I3 (E:=E) (l:=r.fs) (n:=1) (F:=I7) (k:=0) (oe:=.exit 0) (fin:=y4s (B r.nm) r.kd (R1 r.fs) (B r.lo) (B r.hi) r.a r.b) (fun _ a=>!ok1 a) (fun i=>z1z (i:Nat) (B r.nm) r.kd (R1 r.fs) (B r.lo) (B r.hi) r.a r.b) (fun _ _ o s=>o=.ret∧s=y4r (B r.nm) r.kd (R1 r.fs) (B r.lo) (B r.hi) r.a r.b) (k0v (by omega))
  (fun i a ha hb o s ih=>by
   have hi:=C1 ha
   have v:=Y0 (E:=E) (hr.2.1 a (List.mem_of_getElem? ha))
   rw [show ok1 a=true by simpa using hb] at v
   exact k8y (by omega) (by omega) (A5 (x0l ha)) v (wi (by omega)) ih)
  (fun i a ha hb=>by
   have hi:=C1 ha
   have v:=Y0 (E:=E) (hr.2.1 a (List.mem_of_getElem? ha))
   rw [show ok1 a=false by simpa using hb] at v
   exact ⟨_,_,⟨rfl,rfl⟩,k0u (by omega) (by omega) (A5 (x0l ha)) v⟩) r.fs.length 0 (by omega)
 have v1:=Y0 (E:=E) hr.2.2.1
 have v2:=Y0 (E:=E) hr.2.2.2.1
 rcases h with ⟨h1,h2⟩ | ⟨j,a,o,s,h1,h2,h3,h4,⟨rfl,rfl⟩,h5⟩
 rotate_left
 · rw [decide_eq_false fun h=>by { rw [List.all_eq_true.1 h.1 a (List.mem_of_getElem? h2)] at h3; cases h3 }]; exact q3z h5
 have a1:r.fs.all ok1=true:=List.all_eq_true.2 fun a ha=>(List.mem_iff_getElem?.1 ha).elim fun j hj=>by simpa using h1 j a (Nat.zero_le _) hj
 by_cases c1:r.lo=[]
 · by_cases c2:r.hi=[]
   · rw [decide_eq_true ⟨a1,by rw [c1]; rfl,by rw [c2]; rfl⟩]; exact q4a h2 (G6.2 c1) (G6.2 c2)
   · have:=q4b h2 (G6.2 c1) (fun h=>c2 (G6.1 h)) v2
     rw [show decide (r.fs.all ok1=true∧emp r.lo=true∧emp r.hi=true)=ok1 r.hi by rw [k2s c2,c1,a1]; simp [u4f]]
     exact this
 · cases c3:ok1 r.lo with
   | false=>rw [c3] at v1; rw [decide_eq_false fun h=>by { rw [k2s c1,c3] at h; cases h.2.1 }]; exact q4e h2 (fun h=>c1 (G6.1 h)) v1
   | true =>
    rw [c3] at v1
    by_cases c2:r.hi=[]
    · rw [decide_eq_true ⟨a1,by rw [k2s c1]; exact c3,by rw [c2]; rfl⟩]; exact q4c h2 (fun h=>c1 (G6.1 h)) v1 (G6.2 c2)
    · have:=q4d h2 (fun h=>c1 (G6.1 h)) v1 (fun h=>c2 (G6.1 h)) v2
      rw [show decide (r.fs.all ok1=true∧emp r.lo=true∧emp r.hi=true)=ok1 r.hi by rw [k2s c2,k2s c1,c3,a1]; simp]
      exact this
noncomputable def bndB (r:Ru):Bool:=if r.kd=1 then !decide ((r.lo=[]∧r.hi=[])∨(r.lo≠[]∧r.hi≠[]∧cmpQ (rdv r.lo) (rdv r.hi) > 0)) else if r.kd=2 then clB r.a && (clB r.b && decide (r.a < r.b)) else if r.kd=3 then clB r.a else decide (r.b=0)
theorem w6m {r:Ru} (hr:ShR r) (h2:emp r.lo=true) (h3:emp r.hi=true):Fn E J8 [.agg r.d] (.c (.bool (bndB r))):=by
 unfold bndB
 by_cases k1:r.kd=1
 · rw [if_pos k1]
   by_cases c1:r.lo=[]
   · by_cases c2:r.hi=[]
     · rw [decide_eq_true (.inl ⟨c1,c2⟩)]; exact v0k k1 (G6.2 c1) (G6.2 c2)
     · rw [decide_eq_false (fun h=>h.elim (fun h=>c2 h.2) fun h=>h.1 c1)]; exact v0j k1 (G6.2 c1) fun h=>c2 (G6.1 h)
   · by_cases c2:r.hi=[]
     · rw [decide_eq_false (fun h=>h.elim (fun h=>c1 h.1) fun h=>h.2.1 c2)]; exact v0h k1 (fun h=>c1 (G6.1 h)) (G6.2 c2)
     · have l:=v0i (E:=E) (s0:=B r.nm) (r0:=R1 r.fs) (i1:=r.a) (i2:=r.b) k1 (fun h=>c1 (G6.1 h)) (fun h=>c2 (G6.1 h)) (z6a hr.2.2.2.1) (z6a hr.2.2.1) (j4x (z2w (x7s h3 c2) hr.2.2.2.1) (z2w (x7s h2 c1) hr.2.2.1) (by have:=x2f; omega))
       have e:decide ((r.lo=[]∧r.hi=[])∨(r.lo≠[]∧r.hi≠[]∧cmpQ (rdv r.lo) (rdv r.hi) > 0))=decide (rdv r.hi < rdv r.lo):=by
        apply decide_eq_decide.2
        rw [q6g]
        exact ⟨fun h=>h.elim (fun h=>absurd h.1 c1) fun h=>h.2.2,fun h=>.inr ⟨c1,c2,h⟩⟩
       rw [e]; exact l
 rw [if_neg k1]
 by_cases k2:r.kd=2
 · rw [if_pos k2]
   cases c1:clB r.a with
   | false=>exact v0o k1 k2 (y5l c1)
   | true =>
    cases c2:clB r.b with
    | false=>exact v0n k1 k2 (y5l c1) (y5l c2)
    | true =>
     by_cases c3:r.a < r.b
     · rw [decide_eq_true c3]; exact v0l k1 k2 (y5l c1) (y5l c2) c3
     · rw [decide_eq_false c3]; exact v0m k1 k2 (y5l c1) (y5l c2) c3
 rw [if_neg k2]
 by_cases k3:r.kd=3
 · rw [if_pos k3]; exact v0p k1 k2 k3 (y5l rfl)
 · rw [if_neg k3]
   by_cases c:r.b=0
   · rw [decide_eq_true c]; exact v0q k1 k2 k3 c
   · rw [decide_eq_false c]; exact q3y k1 k2 k3 c
end Gev
namespace Gev
open Go Gb
variable {E:Env}
attribute [local irreducible] Sz
theorem w8s {α:Type} {l:List α} {p:α→Bool} (h:∀ j a,0≤j→l[j]?=some a→p a=false):l.any p=false:=by
 rw [List.any_eq_false]; intro a ha
 obtain ⟨j,hj⟩:=List.mem_iff_getElem?.1 ha
 rw [h j a (Nat.zero_le _) hj]; simp
theorem w8t {α:Type} {l:List α} {p:α→Bool} {j:Nat} {a:α} (h:l[j]?=some a) (hp:p a=true):l.any p=true:=List.any_eq_true.2 ⟨a,List.mem_of_getElem? h,hp⟩
theorem v7v {α:Type} {l:List α} {i j:Nat} {a:α} (h:(l.take i)[j]?=some a):j < i∧l[j]?=some a:=by
 rw [List.getElem?_take] at h
 split at h
 · exact ⟨by assumption,h⟩
 · cases h
theorem w9p {ps:List Pc} {hs:List Hd} {rs:List Ru} {i:Nat} {r:Ru} (n1:ps.length≤1000) (n2:hs.length≤1000) (n3:rs.length≤1000) (hi:rs[i]?=some r) (hr:ShR r):Fn E D6 [.agg [.list (Ps ps),.list (Hs hs),.list (Rs rs)],.c (.i64 (i:Nat))] (.c (.i64 (fR ps hs rs i r))):=by
 have hlt:=C1 hi
 have b1:(0:Int)≤(i:Nat):=by omega
 have g:=A5 (z5h hi)
 have l2:=z0k hs
 have l3:=y0n rs
 have hnm:=U5 r.nm
 have v:=w3j (E:=E) hr
 unfold fR
 by_cases c1:r.fs.all ok1=true∧emp r.lo=true∧emp r.hi=true
 rotate_left
 · rw [decide_eq_false c1] at v; rw [if_neg c1]; exact v1o b1 g v
 rw [decide_eq_true c1] at v
 rw [if_pos c1]
 by_cases c4:r.nm.length < 1
 · rw [if_neg (by unfold nmB; simp; omega)]; exact v5u b1 g v (by omega)
 by_cases c5:r.nm.length > 64
 · rw [if_neg (by unfold nmB; simp; omega)]; exact v5v b1 g v (by omega) (by omega)
 rw [if_pos (by unfold nmB; simp; omega)]
 have d1:¬ ((B r.nm).size:Int) < 1:=by omega
 have d2:¬ ((B r.nm).size:Int) > 64:=by omega
 have hlen:(rs.take i).length=i:=by rw [List.length_take]; omega
 have t:=I3 (E:=E) (l:=rs.take i) (n:=2) (F:=D6) (k:=0) (oe:=.exit 0) (fin:=y8n (Ps ps) (Hs hs) (Rs rs) (B r.nm) r.kd (R1 r.fs) (B r.lo) (B r.hi) r.a r.b) (fun _ a=>a.nm == r.nm) (fun j=>z5p (i:Nat) (j:Nat) (Ps ps) (Hs hs) (Rs rs) (B r.nm) r.kd (R1 r.fs) (B r.lo) (B r.hi) r.a r.b)
  (fun _ _ o s=>o=.ret∧s=y8m (Ps ps) (Hs hs) (Rs rs) (B r.nm) r.kd (R1 r.fs) (B r.lo) (B r.hi) r.a r.b) (k8x (by omega))
  (fun j a ha hb o s ih=>by
   obtain ⟨hj,ha'⟩:=v7v ha
   exact j6s (by omega) (by omega) (A5 (z5h ha')) (fun h=>by rw [y5o h] at hb; simp at hb) (wi (by omega)) ih)
  (fun j a ha hb=>by
   obtain ⟨hj,ha'⟩:=v7v ha
   exact ⟨_,_,⟨rfl,rfl⟩,k8w (by omega) (by omega) (A5 (z5h ha')) (by rw [show a.nm=r.nm by simpa using hb])⟩) (rs.take i).length 0 (by omega)
 rcases t with ⟨t1,t⟩ | ⟨j,a,o,s,t1,t2,t3,t4,⟨rfl,rfl⟩,t⟩
 rotate_left
 · rw [if_pos (w8t t2 t3)]; exact v5w b1 g v d1 d2 t
 rw [if_neg (by rw [w8s t1]; simp)]
 by_cases c7:r.kd < 1
 · rw [if_pos (.inl c7)]; exact v5x b1 g v d1 d2 t c7
 by_cases c8:r.kd > 4
 · rw [if_pos (.inr c8)]; exact v5y b1 g v d1 d2 t c7 c8
 rw [if_neg fun h=>h.elim c7 c8]
 have hf:=z6g r.fs
 have kb:=w6m (E:=E) hr c1.2.1 c1.2.2
 by_cases c9:r.kd=1
 · rw [if_pos c9]
   by_cases c10:r.fs.length=hs.length
   rotate_left
   · rw [if_neg fun h=>c10 h.1]; exact v5z b1 g v d1 d2 t c7 c8 c9 (by omega)
   have c10':((R1 r.fs).length:Int)=((Hs hs).length:Int):=by omega
   by_cases c11:r.a=0
   rotate_left
   · rw [if_neg fun h=>c11 h.2.1]; exact v6a b1 g v d1 d2 t c7 c8 c9 c10' c11
   by_cases c12:r.b=0
   rotate_left
   · rw [if_neg fun h=>c12 h.2.2]; exact v6b b1 g v d1 d2 t c7 c8 c9 c10' c11 c12
   rw [if_pos ⟨c10,c11,c12⟩]
   unfold bndB at kb
   rw [if_pos c9] at kb
   by_cases c13:r.lo=[]∧r.hi=[]
   · rw [if_pos c13]
     rw [decide_eq_true (.inl c13)] at kb
     exact k4r b1 g v d1 d2 t c7 c8 c9 c10' c11 c12 kb
   rw [if_neg c13]
   by_cases c14:r.lo≠[]∧r.hi≠[]∧cmpQ (rdv r.lo) (rdv r.hi) > 0
   · rw [if_pos c14]
     rw [decide_eq_true (.inr c14)] at kb
     exact k4r b1 g v d1 d2 t c7 c8 c9 c10' c11 c12 kb
   · rw [if_neg c14]
     rw [decide_eq_false fun h=>h.elim c13 c14] at kb
     exact v1f b1 g v d1 d2 t c7 c8 c9 c10' c11 c12 kb (by omega) (by omega)
 rw [if_neg c9]
 by_cases c10:r.fs.length=0
 rotate_left
 · rw [if_pos (.inl (by omega))]; exact v1g b1 g v d1 d2 t c7 c8 c9 (by omega)
 have c10':((R1 r.fs).length:Int)=0:=by omega
 by_cases c11:r.lo=[]
 rotate_left
 · rw [if_pos (.inr (.inl c11))]; exact v1h b1 g v d1 d2 t c7 c8 c9 c10' (fun h=>c11 (G6.1 h))
 by_cases c12:r.hi=[]
 rotate_left
 · rw [if_pos (.inr (.inr c12))]; exact v1i b1 g v d1 d2 t c7 c8 c9 c10' (G6.2 c11) (fun h=>c12 (G6.1 h))
 rw [if_neg fun h=>h.elim (fun h=>by omega) fun h=>h.elim (fun h=>h c11) fun h=>h c12]
 unfold bndB at kb
 rw [if_neg c9] at kb
 unfold fO
 by_cases k2:r.kd=2
 · rw [if_pos k2] at kb
   rw [if_pos k2]
   by_cases a1:r.a≥r.b
   · rw [if_pos a1]
     rw [show (clB r.a && (clB r.b && decide (r.a < r.b)))=false by rw [decide_eq_false (by omega:¬ r.a < r.b)]; simp] at kb
     exact y2g b1 g v d1 d2 t c7 c8 c9 c10' (G6.2 c11) (G6.2 c12) kb
   rw [if_neg a1]
   rw [decide_eq_true (by omega:r.a < r.b),Bool.and_true] at kb
   cases a2:clB r.a with
   | false=>rw [a2] at kb; rw [if_neg (by simp)]; exact y2g b1 g v d1 d2 t c7 c8 c9 c10' (G6.2 c11) (G6.2 c12) kb
   | true =>
    rw [if_pos rfl]
    cases a3:clB r.b with
    | false=>rw [a2,a3] at kb; rw [if_neg (by simp)]; exact y2g b1 g v d1 d2 t c7 c8 c9 c10' (G6.2 c11) (G6.2 c12) kb
    | true=>rw [a2,a3] at kb; rw [if_pos rfl]; exact v1n b1 g v d1 d2 t c7 c8 c9 c10' (G6.2 c11) (G6.2 c12) kb (by omega) (by omega)
 rw [if_neg k2] at kb
 rw [if_neg k2]
 by_cases k3:r.kd=3
 · rw [if_pos k3] at kb
   rw [if_pos k3]
   have hh:=j4z (E:=E) (hs:=hs) (ps:=Ps ps) (id:=r.b) n2
   cases a2:clB r.a with
   | false=>rw [a2] at kb; rw [if_neg (by simp)]; exact y2g b1 g v d1 d2 t c7 c8 c9 c10' (G6.2 c11) (G6.2 c12) kb
   | true =>
    rw [a2] at kb
    rw [if_pos rfl]
    cases a3:(hs.any fun h=>h.id == r.b) with
    | false=>rw [if_neg (by simp)]; exact v1j b1 g v d1 d2 t c7 c8 c9 c10' (G6.2 c11) (G6.2 c12) kb k3 hh (z4e.2 a3)
    | true=>rw [if_pos rfl]; exact v1k b1 g v d1 d2 t c7 c8 c9 c10' (G6.2 c11) (G6.2 c12) kb k3 hh (fun e=>by rw [z4e.1 e] at a3; cases a3) (by omega)
 rw [if_neg k3] at kb
 rw [if_neg k3]
 have hh:=y4q (E:=E) (ps:=ps) (hs:=Hs hs) (id:=r.a) n1
 by_cases a1:r.b=0
 · rw [if_pos a1]
   rw [decide_eq_true a1] at kb
   cases a3:(ps.any fun h=>h.id == r.a) with
   | false=>rw [if_neg (by simp)]; exact v1l b1 g v d1 d2 t c7 c8 c9 c10' (G6.2 c11) (G6.2 c12) kb k3 (by omega) hh (z4e.2 a3)
   | true=>rw [if_pos rfl]; exact v1m b1 g v d1 d2 t c7 c8 c9 c10' (G6.2 c11) (G6.2 c12) kb k3 (by omega) hh (fun e=>by rw [z4e.1 e] at a3; cases a3)
 · rw [if_neg a1]
   rw [decide_eq_false a1] at kb
   exact y2g b1 g v d1 d2 t c7 c8 c9 c10' (G6.2 c11) (G6.2 c12) kb
theorem v7n {ps:List Pc} {hs:List Hd} {rs:List Ru} (h:Sp ps hs rs):Fn E U7 [.agg (Pb ps hs rs)] (.tup [.c (.i64 (chkN ps hs rs)),.c (.i64 (chkE ps hs rs))]):=by
 have hC:=v7m (E:=E) h.sh
 have n1:=h.sh.np
 have n2:=h.sh.nh
 have n3:=h.nr
 have l3:=y0n rs
 unfold chkN chkE
 by_cases c0:chkC ps hs=0
 rotate_left
 · rw [if_neg c0,if_neg c0]; exact v5g hC c0
 rw [if_pos c0,if_pos c0]
 by_cases c1:rs.length > 16
 · rw [if_pos c1,if_pos c1]; exact v5h hC c0 (by omega)
 rw [if_neg c1,if_neg c1]
 have:=j0n (E:=E) (l:=rs) (fR ps hs rs) (fun i=>z5n (i:Nat) (Ps ps) (Hs hs) (Rs rs)) (G:=fun i v=>y8k (Ps ps) (Hs hs) (Rs rs) i v) (n:=1) (F:=U7) (k:=0) (oe:=.exit 0) (fin:=y8l (Ps ps) (Hs hs) (Rs rs)) (k8v (by omega)) (fun i a ha=>by
  have hi:=C1 ha
  have hf:=w9p (E:=E) (ps:=ps) (hs:=hs) (by omega) (by omega) (by omega) ha (h.r a (List.mem_of_getElem? ha))
  exact ⟨fun e o s ih=>j6j (by omega) hf e (wi (by omega)) ih,fun e=>k8u (by omega) hf e⟩) rs.length 0 (by omega)
 rw [List.drop_zero] at this
 rcases this with ⟨h1,h2,h3⟩ | ⟨h1,h2⟩
 · rw [h1,h2]; exact v5j hC c0 (by omega) h3
 · exact v5i hC c0 (by omega) h2
end Gev
namespace Gev
open Go Gb
variable {E:Env}
attribute [local irreducible] Sz
theorem v7o {ps:List Pc} {hs:List Hd} {rs:List Ru} {l:List Sw} (h:Sp ps hs rs) (hl:Sl l):Fn E z4s [.agg (Pb ps hs rs),.c (.list (Ss l))] (.c (.bool (rgtB ps hs rs l))):=by
 have hC:=v7n (E:=E) h
 have hS:=j1n (E:=E) h.sh hl.n hl.u
 unfold rgtB
 by_cases c0:chkE ps hs rs=0
 · by_cases c1:stwC ps hs l=0
   · rw [decide_eq_true ⟨c0,c1⟩]; exact v5o hC c0 hS c1
   · rw [decide_eq_false fun h=>c1 h.2]; exact v5p hC c0 hS c1
 · rw [decide_eq_false fun h=>c0 h.1]; exact v5q hC c0
theorem w8d {ps:List Pc} {hs:List Hd} {r:Ru} {rs:RW} {l:List Sw} (h:Rg ps hs l) (h0:stwC ps hs l=0) (hl:Sl l) (hr:Rr ps hs r) :
    Fn E z6n [.agg [.list (Ps ps),.list (Hs hs),.list rs],.agg r.d,.c (.list (Ss l))] (.agg (Qr (sumS ps hs r.fs l)))∧Sz (sumS ps hs r.fs l) 1000000:=by
 have n2:=h.sh.nh
 have l2:=z0k hs
 have hL:=y4e
 have hf:=hr.f
 have hlen:(hs.zip r.fs).length=hs.length:=by rw [List.length_zip]; omega
 have:=I9 (E:=E) (l:=hs.zip r.fs) (n:=4) (F:=z6n) (k:=0) (fun (s:Rat) x=>s+rdv x.2*(lad ps hs (inH l x.1.id)).m) (fun i s=>Sz s (1+100100*i))
  (fun i s=>y6t (Ss l) (i:Nat) (Ps ps) (Hs hs) rs (B r.nm) r.kd (R1 r.fs) (B r.lo) (B r.hi) r.a r.b false (qb s) (qn s) (qd s)) (oe:=.exit 0)
  (fin:=fun s=>x2x (Ps ps) (Hs hs) rs (B r.nm) r.kd (R1 r.fs) (B r.lo) (B r.hi) r.a r.b false (qb s) (qn s) (qd s)) (fun s _=>j6t (by omega))
  (fun i a s ha hs'=>by
   have hi:=C1 ha
   obtain ⟨g1,g2⟩:=w8o ha
   have hm:=List.mem_of_getElem? g1
   have z:=w7t (j8u h a.1.id)
   have ok:=hr.o _ (List.mem_of_getElem? g2)
   have sl:=hr.s.2.1 _ (List.mem_of_getElem? g2)
   have sf:=z2w ok sl
   have t1:=q6n (E:=E) (l:=decQ (lad ps hs (inH l a.1.id)).m) (by have:=z.1.len; omega)
   rw [k5z] at t1
   exact ⟨(hs'.add (sf.mul z.1)).mono (by omega),fun o st ih=>q4f (by omega) (by omega) (A5 (z0b g1)) (u2q h h0 hl.u hm) (A5 (x0l g2)) (z6a sl) t1 (j1m sf z.1 (by omega)) (k3q hs' (sf.mul z.1) (by omega)) (wi (by omega)) ih⟩)
  (hs.zip r.fs).length 0 0 (by omega) Sz.zero
 rw [List.drop_zero] at this
 exact ⟨w4m (q8y (z:=0) (by decide)) this.2,this.1.mono (by omega)⟩
theorem q9b {ps:List Pc} {hs:List Hd} {r:Ru} {rs:RW} {l:List Sw} (h:Rg ps hs l) (h0:stwC ps hs l=0) (hl:Sl l) (hr:Rr ps hs r) :
    Fn E Z9 [.agg [.list (Ps ps),.list (Hs hs),.list rs],.agg r.d,.c (.list (Ss l))] (.agg (Qr (exS r (sumS ps hs r.fs l))))∧Sz (exS r (sumS ps hs r.fs l)) 1000100:=by
 have hL:=y4e
 obtain ⟨s1,hs'⟩:=w8d (E:=E) (rs:=rs) h h0 hl hr
 generalize sumS ps hs r.fs l=s at s1 hs' ⊢
 have z0:=q8y (E:=E) (z:=0) (by decide)
 have kh:r.hi≠[]→(Fn E K1 [.agg (Qr (rdv r.hi)),.agg (Qr s)] (.c (.bool (decide (cmpQ s (rdv r.hi) > 0))))∧Fn E y1t [.agg (Qr s),.agg (Qr (rdv r.hi))] (.agg (Qr (s - rdv r.hi))))∧Sz (s - rdv r.hi) 1000100:=fun e=>by
  have z:=z2w (x7s hr.hi e) hr.s.2.2.2.1
  have:=j4x (E:=E) z hs' (by omega)
  rw [show decide (rdv r.hi < s)=decide (cmpQ s (rdv r.hi) > 0) from decide_eq_decide.2 q6g.symm] at this
  exact ⟨⟨this,u2n hs' z (by omega)⟩,(hs'.sub z).mono (by omega)⟩
 have kl:r.lo≠[]→(Fn E K1 [.agg (Qr s),.agg (Qr (rdv r.lo))] (.c (.bool (decide (cmpQ s (rdv r.lo) < 0))))∧Fn E y1t [.agg (Qr s),.agg (Qr (rdv r.lo))] (.agg (Qr (s - rdv r.lo))))∧Sz (s - rdv r.lo) 1000100:=fun e=>by
  have z:=z2w (x7s hr.lo e) hr.s.2.2.1
  have:=j4x (E:=E) hs' z (by omega)
  rw [show decide (s < rdv r.lo)=decide (cmpQ s (rdv r.lo) < 0) from decide_eq_decide.2 v8p.symm] at this
  exact ⟨⟨this,u2n hs' z (by omega)⟩,(hs'.sub z).mono (by omega)⟩
 have nh:=z6a (E:=E) hr.s.2.2.2.1
 have nl:=z6a (E:=E) hr.s.2.2.1
 have hzz:Sz (0:Rat) 1000100:=Sz.zero.mono (by omega)
 unfold exS
 by_cases c1:r.hi=[]
 · rw [if_neg fun h=>h.1 c1]
   by_cases c2:r.lo=[]
   · rw [if_neg fun h=>h.1 c2]; exact ⟨v1e s1 (G6.2 c1) (G6.2 c2) z0,hzz⟩
   · have k:=kl c2
     by_cases c3:cmpQ s (rdv r.lo) < 0
     · rw [decide_eq_true c3] at k; rw [if_pos ⟨c2,c3⟩]; exact ⟨v1c s1 (G6.2 c1) (fun h=>c2 (G6.1 h)) nl k.1.1 k.1.2,k.2⟩
     · rw [decide_eq_false c3] at k; rw [if_neg fun h=>c3 h.2]; exact ⟨v1d s1 (G6.2 c1) (fun h=>c2 (G6.1 h)) nl k.1.1 z0,hzz⟩
 · have k':=kh c1
   by_cases c0:cmpQ s (rdv r.hi) > 0
   · rw [decide_eq_true c0] at k'; rw [if_pos ⟨c1,c0⟩]; exact ⟨v0y s1 (fun h=>c1 (G6.1 h)) nh k'.1.1 k'.1.2,k'.2⟩
   rw [decide_eq_false c0] at k'
   rw [if_neg fun h=>c0 h.2]
   by_cases c2:r.lo=[]
   · rw [if_neg fun h=>h.1 c2]; exact ⟨v1b s1 (fun h=>c1 (G6.1 h)) nh k'.1.1 (G6.2 c2) z0,hzz⟩
   · have k:=kl c2
     by_cases c3:cmpQ s (rdv r.lo) < 0
     · rw [decide_eq_true c3] at k; rw [if_pos ⟨c2,c3⟩]; exact ⟨v0z s1 (fun h=>c1 (G6.1 h)) nh k'.1.1 (fun h=>c2 (G6.1 h)) nl k.1.1 k.1.2,k.2⟩
     · rw [decide_eq_false c3] at k; rw [if_neg fun h=>c3 h.2]; exact ⟨v1a s1 (fun h=>c1 (G6.1 h)) nh k'.1.1 (fun h=>c2 (G6.1 h)) nl k.1.1 z0,hzz⟩
theorem q2c {ps:List Pc} {hs:List Hd} {rs:List Ru} {rule:Int} {l:List Sw} (h:Sp ps hs rs) (hl:Sl l) :
    Fn E z1s [.agg (Pb ps hs rs),.c (.i64 rule),.c (.list (Ss l))] (.c (.i64 (smE ps hs rs rule l))):=by
 have hR:=v7o (E:=E) h hl
 have l3:=y0n rs
 unfold smE
 cases c0:rgtB ps hs rs l with
 | false=>rw [c0] at hR; rw [if_neg (by simp)]; exact q4k hR
 | true =>
  rw [c0] at hR
  rw [if_pos rfl]
  by_cases c1:rule < 0
  · rw [if_pos (.inl c1)]; exact q4g hR c1
  by_cases c2:rule≥rs.length
  · rw [if_pos (.inr c2)]; exact q4h hR c1 (by omega)
  rw [if_neg fun h=>h.elim c1 c2]
  obtain ⟨r,hr⟩:=z1g (l:=rs) (i:=rule.toNat) (by omega)
  rw [hr]
  by_cases c3:r.kd=1
  · rw [show ((if ((some r).map Ru.kd).getD 0=1 then (0:Int) else 10))=0 from if_pos c3]
    exact q4j hR c1 (by omega) (by omega) (z5h hr) c3
  · rw [show ((if ((some r).map Ru.kd).getD 0=1 then (0:Int) else 10))=10 from if_neg c3]
    exact q4i hR c1 (by omega) (by omega) (z5h hr) c3
theorem u4z {ps:List Pc} {hs:List Hd} {rs:List Ru} {rule:Int} {l:List Sw} (h:Sp ps hs rs) (hl:Sl l) :
    Fn E x3r [.agg (Pb ps hs rs),.c (.i64 rule),.c (.list (Ss l))] (.tup [.c (.str (B (sumT ps hs rs rule l))),.c (.i64 (smE ps hs rs rule l))]):=by
 have hS:=q2c (E:=E) (rule:=rule) h hl
 have hL:=y4e
 unfold sumT
 by_cases h0:smE ps hs rs rule l=0
 · obtain ⟨g0,g1,g2,g3,g4⟩:=j6z h0
   obtain ⟨k1,k2,k3⟩:=k4s h hl g0
   have s:=w8d (E:=E) (rs:=Rs rs) k3 k2 hl (Rr.of h k1 g3 g4)
   rw [if_pos h0]
   rw [h0] at hS ⊢
   exact w4l hS rfl (by omega) (z5h g3) s.1 (q2b s.2 (by omega))
 · rw [if_neg h0]; exact w4k hS h0
theorem w6l {ps:List Pc} {hs:List Hd} {rs:List Ru} {rule:Int} {l:List Sw} (h:Sp ps hs rs) (hl:Sl l) :
    Fn E y5w [.agg (Pb ps hs rs),.c (.i64 rule),.c (.list (Ss l))] (.tup [.c (.str (B (excT ps hs rs rule l))),.c (.i64 (smE ps hs rs rule l))]):=by
 have hS:=q2c (E:=E) (rule:=rule) h hl
 have hL:=y4e
 unfold excT
 by_cases h0:smE ps hs rs rule l=0
 · obtain ⟨g0,g1,g2,g3,g4⟩:=j6z h0
   obtain ⟨k1,k2,k3⟩:=k4s h hl g0
   have s:=q9b (E:=E) (rs:=Rs rs) k3 k2 hl (Rr.of h k1 g3 g4)
   rw [if_pos h0]
   rw [h0] at hS ⊢
   exact v0g hS rfl (by omega) (z5h g3) s.1 (q2b s.2 (by omega))
 · rw [if_neg h0]; exact v0f hS h0
end Gev
namespace Gev
open Go Gb
variable {E:Env}
attribute [local irreducible] Sz
def inB (ps:List Pc) (l:List Sw) (id c:Int):Bool:=l.any fun s=>s.ho == id && y3f ps s.pa == c
theorem q9c {ps:List Pc} {hs:List Hd} {rs:RW} {l:List Sw} (h:Rg ps hs l) (id c:Int):Fn E X5 [.agg [.list (Ps ps),.list (Hs hs),.list rs],.c (.list (Ss l)),.c (.i64 id),.c (.i64 c)] (.c (.bool (inB ps l id c))):=by
 have n1:=h.sh.np
 have hln:=h.ln
 have hq:=y5y l
 have:=I3 (E:=E) (l:=l) (n:=1) (F:=X5) (k:=0) (oe:=.exit 0) (fin:=x5d (Ps ps) (Hs hs) rs) (fun _ s=>s.ho == id && y3f ps s.pa == c) (fun j=>z6u (Ss l) id c (j:Nat) (Ps ps) (Hs hs) rs) (fun _ _ o s=>o=.ret∧s=x5c (Ps ps) (Hs hs) rs) (q0c (by omega))
  (fun i a ha hb o s ih=>by
   have hi:=C1 ha
   have h1:=(h.st a (List.mem_of_getElem? ha)).1
   by_cases c1:a.ho=id
   · have c2:¬ y3f ps a.pa=c:=fun e=>by simp [c1,e] at hb
     exact v1p (by omega) (by omega) (A5 (z0c ha)) c1 (y4q (by omega)) (by omega) (X6 (z3b h1)) c2 (wi (by omega)) ih
   · exact v1q (by omega) (by omega) (A5 (z0c ha)) c1 (wi (by omega)) ih)
  (fun i a ha hb=>by
   have hi:=C1 ha
   have h1:=(h.st a (List.mem_of_getElem? ha)).1
   simp only [Bool.and_eq_true,beq_iff_eq] at hb
   exact ⟨_,_,⟨rfl,rfl⟩,q0b (by omega) (by omega) (A5 (z0c ha)) hb.1 (y4q (by omega)) (by omega) (X6 (z3b h1)) hb.2⟩) l.length 0 (by omega)
 unfold inB
 rcases this with ⟨h1,h2⟩ | ⟨j,b,o,s,h1,h2,h3,h4,⟨rfl,rfl⟩,h5⟩
 · rw [j3e h1]; exact w6v h2
 · rw [j3f h2 h3]; exact w6u h5
theorem apt_in {ps:List Pc} {hs:List Hd} {r:Ru} {l:List Sw} (h:Rg ps hs l):aptB ps r l=hs.any fun x=>inB ps l x.id r.a && inB ps l x.id r.b:=by
 unfold aptB inB
 rw [Bool.eq_iff_iff,List.any_eq_true,List.any_eq_true]
 constructor
 · rintro ⟨a,ha,h1⟩
   obtain ⟨b,hb,h2⟩:=List.any_eq_true.1 h1
   simp only [Bool.and_eq_true,beq_iff_eq] at h2
   obtain ⟨k,k1,k2⟩:=q8m (h.st a ha).2.1
   have k2:k.id=a.ho:=by simpa using k2
   refine ⟨k,List.mem_of_getElem? k1,?_⟩
   rw [Bool.and_eq_true,List.any_eq_true,List.any_eq_true]
   exact ⟨⟨a,ha,by simp [k2,h2.2.1]⟩,⟨b,hb,by simp [k2,h2.1,h2.2.2]⟩⟩
 · rintro ⟨k,hk,h1⟩
   rw [Bool.and_eq_true,List.any_eq_true,List.any_eq_true] at h1
   obtain ⟨⟨a,ha,h2⟩,b,hb,h3⟩:=h1
   simp only [Bool.and_eq_true,beq_iff_eq] at h2 h3
   exact ⟨a,ha,List.any_eq_true.2 ⟨b,hb,by simp [h2.1,h2.2,h3.1,h3.2]⟩⟩
theorem w6n {ps:List Pc} {hs:List Hd} {rs:RW} {r:Ru} {l:List Sw} (h:Rg ps hs l) (h0:stwC ps hs l=0) (hl:Sl l) (hr:r.kd=1→Rr ps hs r) (hp:r.kd≠1→r.kd≠2→r.kd≠3→¬ ixP ps r.a < 0) :
    Fn E F0 [.agg [.list (Ps ps),.list (Hs hs),.list rs],.agg r.d,.c (.list (Ss l))] (.c (.bool (brk ps hs r l))):=by
 have n1:=h.sh.np
 have n2:=h.sh.nh
 have hln:=h.ln
 have hq:=y5y l
 have l2:=z0k hs
 unfold brk
 by_cases d1:r.kd=1
 · rw [if_pos d1]
   have k:=(q9b (E:=E) (rs:=rs) h h0 hl (hr d1)).1
   have s:=x6s (E:=E) (exS r (sumS ps hs r.fs l))
   unfold sumB
   by_cases c:cmpQ (exS r (sumS ps hs r.fs l)) 0=0
   · rw [decide_eq_false (fun h=>h c)]; exact v0s d1 k s c
   · rw [decide_eq_true c]; exact v0r d1 k s c
 rw [if_neg d1]
 by_cases d2:r.kd=2
 · rw [if_pos d2,apt_in h]
   have:=I3 (E:=E) (l:=hs) (n:=2) (F:=F0) (k:=0) (oe:=.exit 0) (fin:=y6r (Ps ps) (Hs hs) rs (B r.nm) r.kd (R1 r.fs) (B r.lo) (B r.hi) r.a r.b) (fun _ x=>inB ps l x.id r.a && inB ps l x.id r.b) (fun j=>z0i (Ss l) (j:Nat) (Ps ps) (Hs hs) rs (B r.nm) r.kd (R1 r.fs) (B r.lo) (B r.hi) r.a r.b)
    (fun _ _ o s=>o=.ret∧s=y6q (Ps ps) (Hs hs) rs (B r.nm) r.kd (R1 r.fs) (B r.lo) (B r.hi) r.a r.b) (k4p (by omega))
    (fun i a ha hb o s ih=>by
     have hi:=C1 ha
     have k1:=q9c (E:=E) (rs:=rs) h a.id r.a
     have k2:=q9c (E:=E) (rs:=rs) h a.id r.b
     cases c1:inB ps l a.id r.a with
     | false=>rw [c1] at k1; exact j2q (by omega) (by omega) (A5 (z0b ha)) k1 (wi (by omega)) ih
     | true =>
      rw [c1] at k1
      cases c2:inB ps l a.id r.b with
      | false=>rw [c2] at k2; exact j2p (by omega) (by omega) (A5 (z0b ha)) k1 k2 (wi (by omega)) ih
      | true=>exfalso; simp [c1,c2] at hb)
    (fun i a ha hb=>by
     have hi:=C1 ha
     have k1:=q9c (E:=E) (rs:=rs) h a.id r.a
     have k2:=q9c (E:=E) (rs:=rs) h a.id r.b
     simp only [Bool.and_eq_true] at hb
     rw [hb.1] at k1
     rw [hb.2] at k2
     exact ⟨_,_,⟨rfl,rfl⟩,k4o (by omega) (by omega) (A5 (z0b ha)) k1 k2⟩) hs.length 0 (by omega)
   rcases this with ⟨h1,h2⟩ | ⟨j,b,o,s,h1,h2,h3,h4,⟨rfl,rfl⟩,h5⟩
   · rw [j3e h1]; exact v0v d1 (by omega) d2 h2
   · rw [j3f h2 h3]; exact v0u d1 (by omega) d2 h5
 rw [if_neg d2]
 by_cases d3:r.kd=3
 · rw [if_pos d3]; exact v0t d1 d3 (q9c h r.b r.a)
 rw [if_neg d3]
 have hx:=hp d1 d2 d3
 have g:=X6 (z3b hx)
 have hun:=j0l h.ok (List.mem_of_getElem? (z3b hx))
 have h2:=I9 (E:=E) (l:=l) (n:=2) (F:=F0) (k:=1) (fun (b:Int) a=>b - if a.pa=r.a then a.un else 0) (fun i b=>-9*i≤b∧b≤9)
  (fun i b=>z3u (Ss l) b (i:Nat) (Ps ps) (Hs hs) rs (B r.nm) r.kd (R1 r.fs) (B r.lo) (B r.hi) r.a r.b) (oe:=.exit 2) (fin:=fun b=>y6s (Ps ps) (Hs hs) rs (B r.nm) r.kd (R1 r.fs) (B r.lo) (B r.hi) r.a r.b b) (fun b hb=>k4q (by omega))
  (fun i a b ha hb=>by
   have hi:=C1 ha
   have hu:=h.st a (List.mem_of_getElem? ha)
   by_cases e:a.pa=r.a
   · rw [if_pos e]
     exact ⟨by omega,fun o s ih=>j2r (by omega) (by omega) (A5 (z0c ha)) e (wi (by omega)) (wi (by omega)) ih⟩
   · rw [if_neg e]
     exact ⟨by omega,fun o s ih=>by
      rw [Int.sub_zero] at ih
      exact j2s (by omega) (by omega) (A5 (z0c ha)) e (wi (by omega)) ih⟩)
  l.length 0 (pcAt ps r.a).un (by omega) ⟨by omega,by omega⟩
 have e:∀ (l:List Sw) b,l.foldl (fun (b:Int) a=>b - if a.pa=r.a then a.un else 0) b=b - unS l r.a:=by
  intro l
  induction l with
  | nil=>intro b; show b=b - 0; omega
  | cons a l ih=>intro b; rw [List.foldl_cons,ih]; unfold unS; rw [List.map_cons,List.sum_cons]; omega
 rw [List.drop_zero,e] at h2
 unfold whoB
 by_cases c:(pcAt ps r.a).un - unS l r.a > 0
 · rw [decide_eq_true c]; exact v0w d1 d3 d2 (y4q (by omega)) (by omega) g h2.2 c
 · rw [decide_eq_false c]; exact v0x d1 d3 d2 (y4q (by omega)) (by omega) g h2.2 c
theorem q9a {ps:List Pc} {hs:List Hd} {rs:List Ru} {l:List Sw} (h:Sp ps hs rs) (hl:Sl l) :
    Fn E V7 [.agg (Pb ps hs rs),.c (.list (Ss l))] (.tup [.c (.list (I1 (brR ps hs rs l))),.c (.i64 (brE ps hs rs l))]):=by
 have hR:=v7o (E:=E) h hl
 unfold brR brE
 cases c0:rgtB ps hs rs l with
 | false=>rw [c0] at hR; rw [if_neg (by simp),if_neg (by simp)]; exact v0e hR
 | true =>
  rw [c0] at hR
  rw [if_pos rfl,if_pos rfl]
  obtain ⟨k1,k2,k3⟩:=k4s h hl c0
  have l3:=y0n rs
  have n3:=h.nr
  have hz:rs.zipIdx.length=rs.length:=by simp
  have happ:∀ (b:List Int) (i:Int),(I1 b).take b.length++[[DV.i64 i]]=I1 (b++[i]):=fun b i=>by
   rw [show b.length=(I1 b).length from (k1p b).symm,List.take_length]; unfold I1; rw [List.map_append]; rfl
  have:=I9 (E:=E) (l:=rs.zipIdx) (n:=1) (F:=V7) (k:=0) (brF ps hs l) (fun i b=>b.length≤i)
   (fun i b=>z3t (Ss l) b.length (i:Nat) (Ps ps) (Hs hs) (Rs rs) (I1 b)) (oe:=.exit 0) (fin:=fun b=>y6n (Ps ps) (Hs hs) (Rs rs) b.length (I1 b)) (fun b hb=>k4m (by omega))
   (fun i x b hx hb=>by
    have hi:=C1 hx
    obtain ⟨g1,g2⟩:=x3c hx
    have hz:=x7t (k5m k1).2.2 i x.1 g1
    rw [Nat.zero_add] at hz
    have hf:=v9b hz
    have c:=w6n (E:=E) (rs:=Rs rs) k3 k2 hl (fun d=>Rr.of h k1 g1 d) (fun d1 d2 d3=>u1a (hf.2.2.2.1 d1) d2 d3)
    unfold brF
    rw [g2]
    refine ⟨?_,fun o s ih=>?_⟩
    · split
      · rw [List.length_append]; exact Nat.succ_le_succ hb
      · exact Nat.le_succ_of_le hb
    · cases c1:brk ps hs x.1 l with
      | true=>rw [c1] at c ih; rw [if_pos rfl] at ih; exact j2m (by omega) (by omega) (A5 (z5h g1)) c (by omega) (happ b _) (by simp) (wi (by omega)) ih
      | false=>rw [c1] at c ih; rw [if_neg (by simp)] at ih; exact j2n (by omega) (by omega) (A5 (z5h g1)) c (wi (by omega)) ih)
   rs.zipIdx.length 0 [] (by omega) (Nat.le_refl _)
  rw [List.drop_zero] at this
  exact v0d hR this.2 (by rw [show (List.foldl (brF ps hs l) [] rs.zipIdx).length=(I1 (brI ps hs rs l)).length from (k1p _).symm]; exact List.take_length)
theorem w9o {ps:List Pc} {hs:List Hd} {rs:List Ru} {l:List Sw} (h:Sp ps hs rs) (hl:Sl l) :
    Fn E y0g [.agg (Pb ps hs rs),.c (.list (Ss l))] (.c (.bool (kpB ps hs rs l))):=by
 have hB:=q9a (E:=E) h hl
 unfold kpB
 unfold brR brE at hB
 cases c0:rgtB ps hs rs l with
 | false=>rw [c0] at hB; rw [if_neg (by simp),if_neg (by simp)] at hB; exact v5k hB (by decide)
 | true =>
  rw [c0,if_pos rfl,if_pos rfl] at hB
  obtain ⟨k1,k2,k3⟩:=k4s h hl c0
  have hO:=q8z (E:=E) h.sh hl.n hl.u
  rw [if_pos k2] at hO
  have hlen:=k1p (brI ps hs rs l)
  cases hb:brI ps hs rs l with
  | cons a b=>rw [hb] at hB hlen; exact v5l hB rfl (by rw [hlen,List.length_cons]; omega)
  | nil =>
   rw [hb] at hB hlen
   cases ho:hs.any (ovH ps hs l) with
   | true=>exact v5n hB rfl (by rw [hlen]; simp) hO (fun e=>by rw [z4e.1 e] at ho; cases ho)
   | false=>exact v5m hB rfl (by rw [hlen]; simp) hO (z4e.2 ho)
end Gev
namespace Gev
open Go Gb
variable {E:Env}
attribute [local irreducible] Sz
def fewP (p:Pc):Bool:=decide (p.ma.length≤40∧p.vo.length≤40∧p.wo.length≤40∧p.nm.length≤70)
def fewH (h:Hd):Bool:=decide (h.ro.length≤40∧h.mo.length≤40∧h.x.length≤40∧h.y.length≤40∧h.z.length≤40∧h.nm.length≤70)
def fewR (r:Ru):Bool:=decide ((r.nm.length≤70∧r.lo.length≤40∧r.hi.length≤40∧r.fs.length≤8)∧∀ x∈r.fs,x.length≤40)
def fewC (ps:List Pc) (hs:List Hd):Bool:=decide (ps.all fewP=true∧hs.all fewH=true∧ps.length≤7∧hs.length≤7)
def fewA (ps:List Pc) (hs:List Hd) (rs:List Ru):Bool:=decide (rs.all fewR=true∧fewC ps hs=true∧rs.length≤17)
theorem j4a {ps:List Pc} {hs:List Hd} {rs:List Ru} (h:fewA ps hs rs=true):Sp ps hs rs:=by
 obtain ⟨h1,h2,h3⟩:=of_decide_eq_true h
 obtain ⟨k1,k2,k3,k4⟩:=of_decide_eq_true h2
 refine ⟨⟨k3,k4,fun p hp=>?_,fun p hp=>?_⟩,h3,fun r hr=>?_⟩
 · have:=of_decide_eq_true (List.all_eq_true.1 k1 p hp); exact ⟨this.1,this.2.1,this.2.2.1⟩
 · have:=of_decide_eq_true (List.all_eq_true.1 k2 p hp); exact ⟨this.1,this.2.1,this.2.2.1,this.2.2.2.1,this.2.2.2.2.1⟩
 · have:=of_decide_eq_true (List.all_eq_true.1 h1 r hr); exact ⟨this.1.2.2.2,this.2,this.1.2.1,this.1.2.2.1,this.1.1⟩
theorem w5m {α:Type} {l:List α} {p:α→Bool} (h:∀ j a,0≤j→l[j]?=some a→(!p a)=false):l.all p=true :=
 List.all_eq_true.2 fun a ha=>(List.mem_iff_getElem?.1 ha).elim fun j hj=>by simpa using h j a (Nat.zero_le _) hj
theorem v9p {α:Type} {l:List α} {p:α→Bool} {j:Nat} {a:α} (h:l[j]?=some a) (hp:(!p a)=true):¬ l.all p=true:=fun k=>by
 rw [List.all_eq_true.1 k a (List.mem_of_getElem? h)] at hp; cases hp
theorem u4y {ps:List Pc} {hs:List Hd} (n1:ps.length≤9223372036854775807) (n2:hs.length≤9223372036854775807):Fn E G8 [.agg [.list (Ps ps),.list (Hs hs)]] (.c (.bool (fewC ps hs))):=by
 have l1:=z3q ps
 have l2:=z0k hs
 have t0:=I3 (E:=E) (l:=ps) (fun _ a=>!fewP a) (fun i=>z2n (i:Nat) (Ps ps) (Hs hs)) (fun _ _ o s=>o=.ret∧s=z7y (Ps ps) (Hs hs)) (j6a (by omega))
  (fun i a ha hb o s ih=>by
   have hi:=C1 ha
   have hb:fewP a=true:=by simpa using hb
   have hb:=of_decide_eq_true hb
   have s1:=U5 a.ma; have s2:=U5 a.vo; have s3:=U5 a.wo; have s4:=U5 a.nm
   exact q3p (by omega) (by omega) (A5 (X6 ha)) (by omega) (by omega) (by omega) (by omega) (wi (by omega)) ih)
  (fun i a ha hb=>by
   have hi:=C1 ha
   have g:=A5 (X6 ha)
   have b1:(i:Int) < ((Ps ps).length:Int):=by omega
   have b2:(0:Int)≤(i:Nat):=by omega
   have hb:fewP a=false:=by simpa using hb
   have hb:=of_decide_eq_false hb
   have s1:=U5 a.ma; have s2:=U5 a.vo; have s3:=U5 a.wo; have s4:=U5 a.nm
   refine ⟨_,_,⟨rfl,rfl⟩,?_⟩
   by_cases c1:((B a.ma).size:Int) > 40
   · exact j5w b1 b2 g c1
   by_cases c2:((B a.vo).size:Int) > 40
   · exact j5x b1 b2 g c1 c2
   by_cases c3:((B a.wo).size:Int) > 40
   · exact j5y b1 b2 g c1 c2 c3
   by_cases c4:((B a.nm).size:Int) > 70
   · exact j5z b1 b2 g c1 c2 c3 c4
   · exact absurd ⟨by omega,by omega,by omega,by omega⟩ hb) ps.length 0 (by omega)
 have t1:=I3 (E:=E) (l:=hs) (fun _ a=>!fewH a) (fun i=>z0h (i:Nat) (Ps ps) (Hs hs)) (fun _ _ o s=>o=.ret∧s=z3f (Ps ps) (Hs hs)) (j6h (by omega))
  (fun i a ha hb o s ih=>by
   have hi:=C1 ha
   have hb:fewH a=true:=by simpa using hb
   have hb:=of_decide_eq_true hb
   have s1:=U5 a.ro; have s2:=U5 a.mo; have s3:=U5 a.x; have s4:=U5 a.y; have s5:=U5 a.z; have s6:=U5 a.nm
   exact q3q (by omega) (by omega) (A5 (z0b ha)) (by omega) (by omega) (by omega) (by omega) (by omega) (by omega) (wi (by omega)) ih)
  (fun i a ha hb=>by
   have hi:=C1 ha
   have g:=A5 (z0b ha)
   have b1:(i:Int) < ((Hs hs).length:Int):=by omega
   have b2:(0:Int)≤(i:Nat):=by omega
   have hb:fewH a=false:=by simpa using hb
   have hb:=of_decide_eq_false hb
   have s1:=U5 a.ro; have s2:=U5 a.mo; have s3:=U5 a.x; have s4:=U5 a.y; have s5:=U5 a.z; have s6:=U5 a.nm
   refine ⟨_,_,⟨rfl,rfl⟩,?_⟩
   by_cases c1:((B a.ro).size:Int) > 40
   · exact j6b b1 b2 g c1
   by_cases c2:((B a.mo).size:Int) > 40
   · exact j6c b1 b2 g c1 c2
   by_cases c3:((B a.x).size:Int) > 40
   · exact j6d b1 b2 g c1 c2 c3
   by_cases c4:((B a.y).size:Int) > 40
   · exact j6e b1 b2 g c1 c2 c3 c4
   by_cases c5:((B a.z).size:Int) > 40
   · exact j6f b1 b2 g c1 c2 c3 c4 c5
   by_cases c6:((B a.nm).size:Int) > 70
   · exact j6g b1 b2 g c1 c2 c3 c4 c5 c6
   · exact absurd ⟨by omega,by omega,by omega,by omega,by omega,by omega⟩ hb) hs.length 0 (by omega)
 unfold fewC
 rcases t0 with ⟨h1,h2⟩ | ⟨j,a,o,s,h1,h2,h3,h4,⟨rfl,rfl⟩,h5⟩
 rotate_left
 · rw [decide_eq_false fun k=>v9p h2 h3 k.1]; exact w3z h5
 rcases t1 with ⟨k1,k2⟩ | ⟨j,a,o,s,k1,k2,k3,k4,⟨rfl,rfl⟩,k5⟩
 rotate_left
 · rw [decide_eq_false fun k=>v9p k2 k3 k.2.1]; exact w4a h2 k5
 by_cases c1:ps.length≤7
 · by_cases c2:hs.length≤7
   · rw [decide_eq_true ⟨w5m h1,w5m k1,c1,c2⟩]; exact w4b h2 k2 (by omega) (by omega)
   · rw [decide_eq_false fun k=>c2 k.2.2.2]; exact w4c h2 k2 (by omega) (by omega)
 · rw [decide_eq_false fun k=>c1 k.2.2.1]; exact w4d h2 k2 (by omega)
theorem v9x {ps:List Pc} {hs:List Hd} {rs:List Ru} (n1:ps.length≤9223372036854775807) (n2:hs.length≤9223372036854775807) (n3:rs.length≤9223372036854775807):Fn E G3 [.agg (Pb ps hs rs)] (.c (.bool (fewA ps hs rs))):=by
 have l3:=y0n rs
 have hC:=u4y (E:=E) n1 n2
 have inner:∀ (i:Nat) (r:Ru),r.fs.length≤8 →
     ((∀ x∈r.fs,x.length≤40)∧Lp E 2 G3 1 (z4i (i:Nat) 0 (Ps ps) (Hs hs) (Rs rs) (B r.nm) r.kd (R1 r.fs) (B r.lo) (B r.hi) r.a r.b) (.exit 2) (y6p (i:Nat) (Ps ps) (Hs hs) (Rs rs) (B r.nm) r.kd (R1 r.fs) (B r.lo) (B r.hi) r.a r.b)) ∨
     (¬ (∀ x∈r.fs,x.length≤40)∧Lp E 2 G3 1 (z4i (i:Nat) 0 (Ps ps) (Hs hs) (Rs rs) (B r.nm) r.kd (R1 r.fs) (B r.lo) (B r.hi) r.a r.b) .ret (y6o (Ps ps) (Hs hs) (Rs rs) (B r.nm) r.kd (R1 r.fs) (B r.lo) (B r.hi) r.a r.b)):=fun i r h8=>by
  have lf:=z6g r.fs
  have t:=I3 (E:=E) (l:=r.fs) (n:=2) (F:=G3) (k:=1) (oe:=.exit 2) (fin:=y6p (i:Nat) (Ps ps) (Hs hs) (Rs rs) (B r.nm) r.kd (R1 r.fs) (B r.lo) (B r.hi) r.a r.b) (fun _ x=>decide (40 < x.length)) (fun j=>z4i (i:Nat) (j:Nat) (Ps ps) (Hs hs) (Rs rs) (B r.nm) r.kd (R1 r.fs) (B r.lo) (B r.hi) r.a r.b)
   (fun _ _ o s=>o=.ret∧s=y6o (Ps ps) (Hs hs) (Rs rs) (B r.nm) r.kd (R1 r.fs) (B r.lo) (B r.hi) r.a r.b) (j6r (by omega))
   (fun j a ha hb o s ih=>by
    have hj:=C1 ha
    have hb:=of_decide_eq_false hb
    have s1:=U5 a
    exact q3x (by omega) (by omega) (A5 (x0l ha)) (by omega) (wi (by omega)) ih)
   (fun j a ha hb=>by
    have hj:=C1 ha
    have hb:=of_decide_eq_true hb
    have s1:=U5 a
    exact ⟨_,_,⟨rfl,rfl⟩,j6q (by omega) (by omega) (A5 (x0l ha)) (by omega)⟩) r.fs.length 0 (by omega)
  rcases t with ⟨h1,h2⟩ | ⟨j,a,o,s,h1,h2,h3,h4,⟨rfl,rfl⟩,h5⟩
  · exact .inl ⟨fun x hx=>by
     obtain ⟨j,hj⟩:=List.mem_iff_getElem?.1 hx
     have:=of_decide_eq_false (h1 j x (Nat.zero_le _) hj)
     omega,h2⟩
  · exact .inr ⟨fun k=>by
     have:=k a (List.mem_of_getElem? h2)
     have:=of_decide_eq_true h3
     omega,h5⟩
 have t0:=I3 (E:=E) (l:=rs) (fun _ a=>!fewR a) (fun i=>z1j (i:Nat) (Ps ps) (Hs hs) (Rs rs)) (fun _ _ o s=>o=.ret∧s=z5o (Ps ps) (Hs hs) (Rs rs)) (j6p (by omega))
  (fun i a ha hb o s ih=>by
   have hi:=C1 ha
   have hb:fewR a=true:=by simpa using hb
   have hb:=of_decide_eq_true hb
   have s1:=U5 a.nm; have s2:=U5 a.lo; have s3:=U5 a.hi; have s4:=z6g a.fs
   rcases inner i a hb.1.2.2.2 with ⟨k1,k2⟩ | ⟨k1,k2⟩
   · exact q3w (by omega) (by omega) (A5 (z5h ha)) (by omega) (by omega) (by omega) (by omega) k2 (wi (by omega)) ih
   · exact absurd hb.2 k1)
  (fun i a ha hb=>by
   have hi:=C1 ha
   have g:=A5 (z5h ha)
   have b1:(i:Int) < ((Rs rs).length:Int):=by omega
   have b2:(0:Int)≤(i:Nat):=by omega
   have hb:fewR a=false:=by simpa using hb
   have hb:=of_decide_eq_false hb
   have s1:=U5 a.nm; have s2:=U5 a.lo; have s3:=U5 a.hi; have s4:=z6g a.fs
   refine ⟨_,_,⟨rfl,rfl⟩,?_⟩
   by_cases c1:((B a.nm).size:Int) > 70
   · exact j6k b1 b2 g c1
   by_cases c2:((B a.lo).size:Int) > 40
   · exact j6l b1 b2 g c1 c2
   by_cases c3:((B a.hi).size:Int) > 40
   · exact j6m b1 b2 g c1 c2 c3
   by_cases c4:((R1 a.fs).length:Int) > 8
   · exact j6n b1 b2 g c1 c2 c3 c4
   rcases inner i a (by omega) with ⟨k1,k2⟩ | ⟨k1,k2⟩
   · exact absurd ⟨⟨by omega,by omega,by omega,by omega⟩,k1⟩ hb
   · exact j6o b1 b2 g c1 c2 c3 c4 k2) rs.length 0 (by omega)
 unfold fewA
 rcases t0 with ⟨h1,h2⟩ | ⟨j,a,o,s,h1,h2,h3,h4,⟨rfl,rfl⟩,h5⟩
 rotate_left
 · rw [decide_eq_false fun k=>v9p h2 h3 k.1]; exact w4g h5
 cases c0:fewC ps hs with
 | false=>rw [c0] at hC; rw [decide_eq_false fun k=>by { have:=k.2.1; cases this }]; exact w4j h2 hC
 | true =>
  rw [c0] at hC
  by_cases c1:rs.length≤17
  · rw [decide_eq_true ⟨w5m h1,rfl,c1⟩]; exact w4h h2 hC (by omega)
  · rw [decide_eq_false fun k=>c1 k.2.2]; exact w4i h2 hC (by omega)
end Gev
namespace Gev
open Go Gb
variable {E:Env}
attribute [local irreducible] Sz
theorem Ps_w (l:List Pc):∀ y∈Ps l,y.length=7:=fun y hy=>by obtain ⟨p,_,rfl⟩:=List.mem_map.1 hy; rfl
theorem Hs_w (l:List Hd):∀ y∈Hs l,y.length=7:=fun y hy=>by obtain ⟨p,_,rfl⟩:=List.mem_map.1 hy; rfl
theorem R1_w (l:List (List UInt8)):∀ y∈R1 l,y.length=1:=fun y hy=>by obtain ⟨p,_,rfl⟩:=List.mem_map.1 hy; rfl
theorem q7m (w:RW):((([]:RW).take 0)++w).take (0+w.length)=w:=by rw [Nat.zero_add,List.take_nil,List.nil_append,List.take_length]
theorem u2p {ps:List Pc} {hs:List Hd} (n1:ps.length≤1000) (n2:hs.length≤1000):Fn E x7k [.agg [.list (Ps ps),.list (Hs hs)]] (.agg [.list (Ps ps),.list (Hs hs)]):=by
 have l1:=z3q ps
 have l2:=z0k hs
 exact w0x (Ps_w ps) ⟨by omega,by omega⟩ (Hs_w hs) ⟨by omega,by omega⟩ rfl rfl rfl rfl (q7m _) (q7m _)
theorem u2r {ps:List Pc} {hs:List Hd} {rs:List Ru} (n1:ps.length≤1000) (n2:hs.length≤1000) (n3:rs.length≤1000) (n4:∀ r∈rs,r.fs.length≤1000):Fn E z1c [.agg (Pb ps hs rs)] (.agg (Pb ps hs rs)):=by
 have l3:=y0n rs
 have:=I9 (E:=E) (l:=rs) (n:=3) (F:=z1c) (k:=0) (fun (b:List Ru) r=>b++[r]) (fun i b=>b.length=i) (fun i b=>y4b (i:Nat) (Ps ps) (Hs hs) (Rs rs) (Ps ps) (Hs hs) b.length (Rs b)) (oe:=.exit 0) (fin:=fun b=>x0s (Ps ps) (Hs hs) (Rs rs) (Ps ps) (Hs hs) b.length (Rs b)) (fun b hb=>j2o (by omega))
  (fun i r b hr hb=>by
   have hi:=C1 hr
   have lf:=z6g r.fs
   have h4:=n4 r (List.mem_of_getElem? hr)
   refine ⟨by simp [hb],fun o s ih=>?_⟩
   exact q0a (by omega) (by omega) (A5 (z5h hr)) (R1_w r.fs) ⟨by omega,by omega⟩ ⟨by omega,by omega⟩ rfl rfl (q7m _)
    (r10:=Rs (b++[r])) (by rw [show b.length=(Rs b).length from (y0n b).symm,List.take_length]; unfold Rs; rw [List.map_append]; rfl) (n3:=(b++[r]).length) (by simp) (wi (by omega)) ih)
  rs.length 0 [] (by omega) rfl
 have e:∀ (l b:List Ru),l.foldl (fun (b:List Ru) r=>b++[r]) b=b++l:=by
  intro l
  induction l with
  | nil=>intro b; simp
  | cons a l ih=>intro b; rw [List.foldl_cons,ih]; simp
 rw [List.drop_zero,e,List.nil_append] at this
 exact w1e (u2p n1 n2) this.2 (by rw [show rs.length=(Rs rs).length from l3.symm,List.take_length])
theorem v8f {l:List Int} {i:Nat} {x:Int} (h:l[i]?=some x):(I1 l)[i]?=some [.i64 x]:=by simp [I1,h]
theorem v6s {a b:List Int} (ha:a.length≤1000) (hb:b.length≤1000):Fn E J6 [.c (.list (I1 a)),.c (.list (I1 b))] (.c (.bool (a == b))):=by
 have l1:=k1p a
 have l2:=k1p b
 by_cases hl:a.length=b.length
 rotate_left
 · rw [show (a == b)=false from by rw [beq_eq_false_iff_ne]; exact fun e=>hl (by rw [e])]
   exact j2u (by omega)
 have t:=I3 (E:=E) (l:=a) (fun i x=>!(b[i]? == some x)) (fun i=>Z2 (I1 a) (I1 b) ((I1 a).length:Int) (i:Nat)) (fun _ _ o s=>o=.ret∧s=y0t) (x5f (by omega))
  (fun i x hx hb' o s ih=>by
   have hi:=C1 hx
   have e:b[i]?=some x:=by simpa using hb'
   exact x8j (by omega) (by omega) (A5 (v8f hx)) (A5 (v8f e)) rfl (wi (by omega)) ih)
  (fun i x hx hb'=>by
   have hi:=C1 hx
   obtain ⟨y,hy⟩:=z1g (l:=b) (i:=i) (by omega)
   have e:¬ x=y:=fun e=>by rw [hy,e] at hb'; simp at hb'
   exact ⟨_,_,⟨rfl,rfl⟩,x5e (by omega) (by omega) (A5 (v8f hx)) (A5 (v8f hy)) e⟩) a.length 0 (by omega)
 rcases t with ⟨h1,h2⟩ | ⟨j,x,o,s,h1,h2,h3,h4,⟨rfl,rfl⟩,h5⟩
 · have e:a=b:=by
    apply List.ext_getElem?
    intro i
    by_cases hi:i < a.length
    · obtain ⟨x,hx⟩:=z1g hi
      have:=h1 i x (Nat.zero_le _) hx
      rw [hx]
      have e:b[i]?=some x:=by simpa using this
      exact e.symm
    · rw [List.getElem?_eq_none (by omega),List.getElem?_eq_none (by omega)]
   rw [show (a == b)=true from by simp [e]]
   exact j2w (by omega) h2
 · rw [show (a == b)=false from by
    rw [beq_eq_false_iff_ne]
    intro e
    rw [← e,h2] at h3
    simp at h3]
   exact j2v (by omega) h5
end Gev
namespace Gev
open Go Gb
variable {E:Env}
attribute [local irreducible] Sz
def drR (rs:List Ru) (nm:List UInt8):List Ru:=rs.filter fun r=>!(r.nm == nm)
theorem q4p (hlib:Lib E) (hc:Cs E) {ps:List Pc} {hs:List Hd} {rs:List Ru} {rule:Nat} {r:Ru} (h:Sp ps hs rs) (h0:chkE ps hs rs=0) (hr:rs[rule]?=some r) :
    Fn E z2v [.agg (Pb ps hs rs),.c (.i64 (rule:Nat))] (.tup [.agg (Pb ps hs (drR rs r.nm)),.c (.i64 0)]):=by
 have hC:=z8a hlib h
 have n1:=h.sh.np
 have n2:=h.sh.nh
 have n3:=h.nr
 have l3:=y0n rs
 have hlt:=C1 hr
 obtain ⟨w,k,d1,d2,d3⟩:=j0v (E:=E) (c1_0:=B r.nm) (l:=rs) (w0:=Rs rs) (fun i a ha=>z5h ha) (fun a=>a.nm == r.nm) (by omega) fun a _ objs ho=>by
  by_cases e:a.nm=r.nm
  · rw [show (a.nm == r.nm)=true by simp [e]]
    exact (q0g (E:=E) (i0:=a.kd) (r0:=R1 a.fs) (s1:=B a.lo) (s2:=B a.hi) (i1:=a.a) (i2:=a.b) (s3:=B r.nm) (by rw [e])).sub [1] (by decide) rfl (by intro i hi; match i,hi with | 0,_=>exact ho) (by simp [Ob.plain]) rfl rfl
  · rw [show (a.nm == r.nm)=false by simp [e]]
    exact (q0h (E:=E) (i0:=a.kd) (r0:=R1 a.fs) (s1:=B a.lo) (s2:=B a.hi) (i1:=a.a) (i2:=a.b) (s3:=B r.nm) (fun h=>e (y5o h))).sub [1] (by decide) rfl (by intro i hi; match i,hi with | 0,_=>exact ho) (by simp [Ob.plain]) rfl rfl
 have d2':w.take k=Rs (drR rs r.nm):=d2
 have hlen:(drR rs r.nm).length≤rs.length:=List.length_filter_le _ _
 have hget:∀ (i:Nat) a,i < k→(drR rs r.nm)[i]?=some a→w[i]?=some a.d:=fun i a hi ha=>by
  have:=z5h ha
  rw [← d2',List.getElem?_take,if_pos hi] at this
  exact this
 have hDk:(Rs (drR rs r.nm)).length=min k w.length:=by rw [← d2',List.length_take]
 have hDl:=y0n (drR rs r.nm)
 have big:∀ (v11 v13:RW),Rn E F4 [.vec 6 rs.length,.fn G2 [.ptr 2 0]] [some (.cells [.c (.list (Ps ps)),.c (.list (Hs hs)),.c (.list (Rs rs))]),some (.cells [.nils,.nils,.nils]),some (.cells [.c (.str (B r.nm))]),some (.fro v11),some (.fro v13),some (.cells [.c (.list (Ps ps)),.c (.list (Hs hs)),.c (.list [])]),some (.vec D1 (Rs rs))]
     (.vec 6 k) [some (.cells [.c (.list (Ps ps)),.c (.list (Hs hs)),.c (.list (Rs rs))]),some (.cells [.nils,.nils,.nils]),some (.cells [.c (.str (B r.nm))]),some (.fro v11),some (.fro v13),some (.cells [.c (.list (Ps ps)),.c (.list (Hs hs)),.c (.list [])]),some (.vec D1 w)]:=fun v11 v13 =>
  d1.put [6,2] (by decide) rfl rfl (by intro i hi; match i,hi with | 0,_=>rfl | 1,_=>rfl) (by intro i hi; match i,hi with | 0,_=>rfl | 1,_=>rfl) (by
   intro l hl
   match l with
   | 0=>rfl
   | 1=>rfl
   | 2=>exact absurd rfl (hl 1 (by simp))
   | 3=>rfl
   | 4=>rfl
   | 5=>rfl
   | 6=>exact absurd rfl (hl 0 (by simp))
   | l+7=>rfl) rfl rfl rfl rfl
 have hkl:k=(drR rs r.nm).length:=by omega
 have lp:=I9 (E:=E) (l:=drR rs r.nm) (n:=7) (F:=z2v) (k:=0) (fun (b:Unit) _=>b) (fun _ _=>True) (fun i _=>y0e ((k:Nat):Int) (i:Nat) (Ps ps) (Hs hs) (Rs rs) (B r.nm) (Ps ps) (Hs hs) (Ps ps) (Hs hs) k w) (oe:=.exit 0) (fin:=fun _=>y7c (Ps ps) (Hs hs) (Rs rs) (B r.nm) (Ps ps) (Hs hs) (Ps ps) (Hs hs) k w) (fun _ _=>k4w (by omega))
  (fun i a b ha _=>⟨trivial,fun o s ih=>by
   have hi:=C1 ha
   have hw:=hget i a (by omega) ha
   have hm:a∈rs:=(List.mem_filter.1 (List.mem_of_getElem? ha)).1
   have hf:=(h.r a hm).1
   refine j2x (r11:=R1 a.fs) (r12:=w) (by omega) ⟨by omega,by omega⟩ (A5 hw) (hc.ra a.fs (by omega)) (by rw [← z6g a.fs,List.take_length]) ?_ (wi (by omega)) ih
   rw [Int.toNat_natCast]
   apply List.ext_getElem?
   intro j
   by_cases e:j=i
   · subst e
     rw [List.getElem?_set_self (List.getElem?_eq_some_iff.1 hw).1,hw]; rfl
   · rw [List.getElem?_set_ne (by omega)]⟩)
  (drR rs r.nm).length 0 () (by omega) trivial
 exact v2a hC h0 (by omega) (by omega) (by omega) (A5 (z5h hr)) (hc.pc ps (by omega)) (hc.hd hs (by omega)) (hc.ru rs (by omega)) (big _ _) lp.2 (by rw [← z3q ps,List.take_length]) (by rw [← z0k hs,List.take_length]) d2'
end Gev
namespace Gev
open Go Gb
variable {E:Env}
attribute [local irreducible] Sz
def rowF (of:Nat→Nat→List UInt8) (np nh:Nat):List (List UInt8):=(List.range np).flatMap fun i=>(List.range nh).map (of i)
theorem y0k {n j k:Nat} (h:(List.range n)[j]?=some k):k=j:=by
 obtain ⟨h1,h2⟩:=List.getElem?_eq_some_iff.1 h
 rw [List.getElem_range] at h2; exact h2.symm
theorem y4m {α β:Type} (f:α→β):∀ (l:List α) (b:List β),l.foldl (fun b a=>b++[f a]) b=b++l.map f
 | [],b=>by simp
 | a::l,b=>by rw [List.foldl_cons,y4m f l]; simp
theorem y7z {α β:Type} (f:α→List β):∀ (l:List α) (b:List β),l.foldl (fun b a=>b++f a) b=b++l.flatMap f
 | [],b=>by simp
 | a::l,b=>by rw [List.foldl_cons,y7z f l]; simp
theorem y4f (b:List (List UInt8)) (x:List UInt8):((R1 b).take b.length)++[[.str (B x)]]=R1 (b++[x]):=by
 rw [show b.length=(R1 b).length from (z6g b).symm,List.take_length]; unfold R1; rw [List.map_append]; rfl
theorem w4n {a0:List UInt8} {ps:List Pc} {hs:List Hd} {c1_0:Int} {c4_0 c4_1:Nat} {w5 w6:RW} (of:Nat→Nat→List UInt8) (n1:ps.length≤1000) (n2:hs.length≤1000) (n3:c4_0≤1000) (n4:c4_1≤1000)
    (hf:∀ (i k:Nat) (objs:Objs),i < ps.length→k < hs.length→lk objs 0=some (.cells [.fn A0 []])→lk objs 1=some (.cells [.c (.i64 c1_0)])→Rn E U8 [.c (.i64 (i:Nat)),.c (.i64 (k:Nat)),.ptr 0 0,.ptr 1 0] objs (.c (.str (B (of i k)))) objs) :
    Rn E A1 [.c (.str (B a0)),.fn U8 [.ptr 0 0,.ptr 1 0],.ptr 2 0,.ptr 3 0,.ptr 4 0] [some (.cells [.fn A0 []]),some (.cells [.c (.i64 c1_0)]),some (.cells [.c (.list (Ps ps))]),some (.cells [.c (.list (Hs hs))]),some (.cells [.vec 5 c4_0,.vec 6 c4_1,.nils]),some (.vec A4 w5),some (.vec A2 w6)] (.tup [])
     [some (.cells [.fn A0 []]),some (.cells [.c (.i64 c1_0)]),some (.cells [.c (.list (Ps ps))]),some (.cells [.c (.list (Hs hs))]),some (.cells [.vec 7 (c4_0+1),.vec 8 (c4_1+1),.nils]),some .dead,some .dead,some (.vec A4 (w5.take c4_0++[[.list (R1 (rowF of ps.length hs.length))]])),some (.vec A2 (w6.take c4_1++[[.str (B a0)]]))]:=by
 have l1:=z3q ps
 have l2:=z0k hs
 have r1:(List.range ps.length).length=ps.length:=List.length_range
 have r2:(List.range hs.length).length=hs.length:=List.length_range
 have inner:∀ (i:Nat) (b:List (List UInt8)),i < ps.length→b.length≤1000*i→Lp E 8 A1 1 (z2b (B a0) b.length (i:Nat) ((Ps ps).length:Int) (i:Nat) ((Hs hs).length:Int) 0 c1_0 (Ps ps) (Hs hs) c4_0 c4_1 w5 w6 (R1 b)) (.exit 2)
     (z6v (B a0) ((Ps ps).length:Int) (i:Nat) c1_0 (Ps ps) (Hs hs) c4_0 c4_1 w5 w6 (b++(List.range hs.length).map (of i)).length (R1 (b++(List.range hs.length).map (of i)))):=fun i b hi hb=>by
  have:=I9 (E:=E) (l:=List.range hs.length) (n:=8) (F:=A1) (k:=1) (fun (b:List (List UInt8)) k=>b++[of i k]) (fun k b'=>b'.length≤1000*i+k)
   (fun k b=>z2b (B a0) b.length (i:Nat) ((Ps ps).length:Int) (i:Nat) ((Hs hs).length:Int) (k:Nat) c1_0 (Ps ps) (Hs hs) c4_0 c4_1 w5 w6 (R1 b)) (oe:=.exit 2) (fin:=fun b=>z6v (B a0) ((Ps ps).length:Int) (i:Nat) c1_0 (Ps ps) (Hs hs) c4_0 c4_1 w5 w6 b.length (R1 b)) (fun b _=>x7b (by omega))
   (fun k x b hx hb=>by
    have hk:=C1 hx
    have e:=y0k hx
    subst e
    exact ⟨by rw [List.length_append]; exact Nat.succ_le_succ hb,fun o s ih=>k0z (by omega) (hf i x _ hi (by omega) rfl rfl) (by omega) (y4f b _) (by simp) (wi (by omega)) ih⟩)
   hs.length 0 b (by omega) (by omega)
  rw [List.drop_zero,y4m] at this
  exact this.2
 have:=I9 (E:=E) (l:=List.range ps.length) (n:=7) (F:=A1) (k:=0) (fun (b:List (List UInt8)) i=>b++(List.range hs.length).map (of i)) (fun i b=>b.length≤1000*i)
  (fun i b=>z5w (B a0) b.length ((Ps ps).length:Int) (i:Nat) c1_0 (Ps ps) (Hs hs) c4_0 c4_1 w5 w6 (R1 b)) (oe:=.exit 0) (fin:=fun b=>y2l (B a0) c1_0 (Ps ps) (Hs hs) c4_0 c4_1 w5 w6 b.length (R1 b)) (fun b _=>x7a (by omega))
  (fun i x b hx hb=>by
   have hi:=C1 hx
   have e:=y0k hx
   subst e
   exact ⟨by rw [List.length_append,List.length_map]; omega,fun o s ih=>k0y (by omega) (inner x b (by omega) hb) (wi (by omega)) ih⟩)
  ps.length 0 [] (by omega) (by simp)
 rw [List.drop_zero,y7z,List.nil_append] at this
 exact y4v this.2 (by omega) (by omega) (by rw [show (List.flatMap _ _:List (List UInt8)).length=(R1 (rowF of ps.length hs.length)).length from (z6g _).symm]; exact List.take_length) rfl rfl rfl rfl
end Gev
namespace Gev
open Go Gb
variable {E:Env}
attribute [local irreducible] Sz
theorem w4o {a0:List UInt8} {ps:List Pc} {hs:List Hd} {c1_0:Int} {c4_0 c4_1:Nat} {w5 w6:RW} (of:Nat→Nat→List UInt8) (n1:ps.length≤1000) (n2:hs.length≤1000) (n3:c4_0≤1000) (n4:c4_1≤1000)
    (hf:∀ (i k:Nat) (objs:Objs),i < ps.length→k < hs.length→lk objs 0=some (.cells [.fn A0 []])→lk objs 1=some (.cells [.c (.i64 c1_0)])→lk objs 2=some (.cells [.c (.list (Ps ps))])→Rn E U9 [.c (.i64 (i:Nat)),.c (.i64 (k:Nat)),.ptr 0 0,.ptr 1 0,.ptr 2 0] objs (.c (.str (B (of i k)))) objs) :
    Rn E A1 [.c (.str (B a0)),.fn U9 [.ptr 0 0,.ptr 1 0,.ptr 2 0],.ptr 2 0,.ptr 3 0,.ptr 4 0] [some (.cells [.fn A0 []]),some (.cells [.c (.i64 c1_0)]),some (.cells [.c (.list (Ps ps))]),some (.cells [.c (.list (Hs hs))]),some (.cells [.vec 5 c4_0,.vec 6 c4_1,.nils]),some (.vec A4 w5),some (.vec A2 w6)] (.tup [])
     [some (.cells [.fn A0 []]),some (.cells [.c (.i64 c1_0)]),some (.cells [.c (.list (Ps ps))]),some (.cells [.c (.list (Hs hs))]),some (.cells [.vec 7 (c4_0+1),.vec 8 (c4_1+1),.nils]),some .dead,some .dead,some (.vec A4 (w5.take c4_0++[[.list (R1 (rowF of ps.length hs.length))]])),some (.vec A2 (w6.take c4_1++[[.str (B a0)]]))]:=by
 have l1:=z3q ps
 have l2:=z0k hs
 have r1:(List.range ps.length).length=ps.length:=List.length_range
 have r2:(List.range hs.length).length=hs.length:=List.length_range
 have inner:∀ (i:Nat) (b:List (List UInt8)),i < ps.length→b.length≤1000*i→Lp E 8 A1 1 (z1m (B a0) b.length (i:Nat) ((Ps ps).length:Int) (i:Nat) ((Hs hs).length:Int) 0 c1_0 (Ps ps) (Hs hs) c4_0 c4_1 w5 w6 (R1 b)) (.exit 2)
     (z6c (B a0) ((Ps ps).length:Int) (i:Nat) c1_0 (Ps ps) (Hs hs) c4_0 c4_1 w5 w6 (b++(List.range hs.length).map (of i)).length (R1 (b++(List.range hs.length).map (of i)))):=fun i b hi hb=>by
  have:=I9 (E:=E) (l:=List.range hs.length) (n:=8) (F:=A1) (k:=1) (fun (b:List (List UInt8)) k=>b++[of i k]) (fun k b'=>b'.length≤1000*i+k)
   (fun k b=>z1m (B a0) b.length (i:Nat) ((Ps ps).length:Int) (i:Nat) ((Hs hs).length:Int) (k:Nat) c1_0 (Ps ps) (Hs hs) c4_0 c4_1 w5 w6 (R1 b)) (oe:=.exit 2) (fin:=fun b=>z6c (B a0) ((Ps ps).length:Int) (i:Nat) c1_0 (Ps ps) (Hs hs) c4_0 c4_1 w5 w6 b.length (R1 b)) (fun b _=>x5k (by omega))
   (fun k x b hx hb=>by
    have hk:=C1 hx
    have e:=y0k hx
    subst e
    exact ⟨by rw [List.length_append]; exact Nat.succ_le_succ hb,fun o s ih=>x8o (by omega) (hf i x _ hi (by omega) rfl rfl rfl) (by omega) (y4f b _) (by simp) (wi (by omega)) ih⟩)
   hs.length 0 b (by omega) (by omega)
  rw [List.drop_zero,y4m] at this
  exact this.2
 have:=I9 (E:=E) (l:=List.range ps.length) (n:=7) (F:=A1) (k:=0) (fun (b:List (List UInt8)) i=>b++(List.range hs.length).map (of i)) (fun i b=>b.length≤1000*i)
  (fun i b=>z3y (B a0) b.length ((Ps ps).length:Int) (i:Nat) c1_0 (Ps ps) (Hs hs) c4_0 c4_1 w5 w6 (R1 b)) (oe:=.exit 0) (fin:=fun b=>y1a (B a0) c1_0 (Ps ps) (Hs hs) c4_0 c4_1 w5 w6 b.length (R1 b)) (fun b _=>x5g (by omega))
  (fun i x b hx hb=>by
   have hi:=C1 hx
   have e:=y0k hx
   subst e
   exact ⟨by rw [List.length_append,List.length_map]; omega,fun o s ih=>x8k (by omega) (inner x b (by omega) hb) (wi (by omega)) ih⟩)
  ps.length 0 [] (by omega) (by simp)
 rw [List.drop_zero,y7z,List.nil_append] at this
 exact y4w this.2 (by omega) (by omega) (by rw [show (List.flatMap _ _:List (List UInt8)).length=(R1 (rowF of ps.length hs.length)).length from (z6g _).symm]; exact List.take_length) rfl rfl rfl rfl
theorem w4p {a0:List UInt8} {ps:List Pc} {hs:List Hd} {c1_0:Int} {c4_0 c4_1:Nat} {w5 w6:RW} (of:Nat→Nat→List UInt8) (n1:ps.length≤1000) (n2:hs.length≤1000) (n3:c4_0≤1000) (n4:c4_1≤1000)
    (hf:∀ (i k:Nat) (objs:Objs),i < ps.length→k < hs.length→lk objs 0=some (.cells [.fn A0 []])→lk objs 1=some (.cells [.c (.i64 c1_0)])→lk objs 2=some (.cells [.c (.list (Ps ps))])→Rn E V0 [.c (.i64 (i:Nat)),.c (.i64 (k:Nat)),.ptr 0 0,.ptr 1 0,.ptr 2 0] objs (.c (.str (B (of i k)))) objs) :
    Rn E A1 [.c (.str (B a0)),.fn V0 [.ptr 0 0,.ptr 1 0,.ptr 2 0],.ptr 2 0,.ptr 3 0,.ptr 4 0] [some (.cells [.fn A0 []]),some (.cells [.c (.i64 c1_0)]),some (.cells [.c (.list (Ps ps))]),some (.cells [.c (.list (Hs hs))]),some (.cells [.vec 5 c4_0,.vec 6 c4_1,.nils]),some (.vec A4 w5),some (.vec A2 w6)] (.tup [])
     [some (.cells [.fn A0 []]),some (.cells [.c (.i64 c1_0)]),some (.cells [.c (.list (Ps ps))]),some (.cells [.c (.list (Hs hs))]),some (.cells [.vec 7 (c4_0+1),.vec 8 (c4_1+1),.nils]),some .dead,some .dead,some (.vec A4 (w5.take c4_0++[[.list (R1 (rowF of ps.length hs.length))]])),some (.vec A2 (w6.take c4_1++[[.str (B a0)]]))]:=by
 have l1:=z3q ps
 have l2:=z0k hs
 have r1:(List.range ps.length).length=ps.length:=List.length_range
 have r2:(List.range hs.length).length=hs.length:=List.length_range
 have inner:∀ (i:Nat) (b:List (List UInt8)),i < ps.length→b.length≤1000*i→Lp E 8 A1 1 (z1n (B a0) b.length (i:Nat) ((Ps ps).length:Int) (i:Nat) ((Hs hs).length:Int) 0 c1_0 (Ps ps) (Hs hs) c4_0 c4_1 w5 w6 (R1 b)) (.exit 2)
     (z6d (B a0) ((Ps ps).length:Int) (i:Nat) c1_0 (Ps ps) (Hs hs) c4_0 c4_1 w5 w6 (b++(List.range hs.length).map (of i)).length (R1 (b++(List.range hs.length).map (of i)))):=fun i b hi hb=>by
  have:=I9 (E:=E) (l:=List.range hs.length) (n:=8) (F:=A1) (k:=1) (fun (b:List (List UInt8)) k=>b++[of i k]) (fun k b'=>b'.length≤1000*i+k)
   (fun k b=>z1n (B a0) b.length (i:Nat) ((Ps ps).length:Int) (i:Nat) ((Hs hs).length:Int) (k:Nat) c1_0 (Ps ps) (Hs hs) c4_0 c4_1 w5 w6 (R1 b)) (oe:=.exit 2) (fin:=fun b=>z6d (B a0) ((Ps ps).length:Int) (i:Nat) c1_0 (Ps ps) (Hs hs) c4_0 c4_1 w5 w6 b.length (R1 b)) (fun b _=>x5l (by omega))
   (fun k x b hx hb=>by
    have hk:=C1 hx
    have e:=y0k hx
    subst e
    exact ⟨by rw [List.length_append]; exact Nat.succ_le_succ hb,fun o s ih=>x8p (by omega) (hf i x _ hi (by omega) rfl rfl rfl) (by omega) (y4f b _) (by simp) (wi (by omega)) ih⟩)
   hs.length 0 b (by omega) (by omega)
  rw [List.drop_zero,y4m] at this
  exact this.2
 have:=I9 (E:=E) (l:=List.range ps.length) (n:=7) (F:=A1) (k:=0) (fun (b:List (List UInt8)) i=>b++(List.range hs.length).map (of i)) (fun i b=>b.length≤1000*i)
  (fun i b=>z3z (B a0) b.length ((Ps ps).length:Int) (i:Nat) c1_0 (Ps ps) (Hs hs) c4_0 c4_1 w5 w6 (R1 b)) (oe:=.exit 0) (fin:=fun b=>y1b (B a0) c1_0 (Ps ps) (Hs hs) c4_0 c4_1 w5 w6 b.length (R1 b)) (fun b _=>x5h (by omega))
  (fun i x b hx hb=>by
   have hi:=C1 hx
   have e:=y0k hx
   subst e
   exact ⟨by rw [List.length_append,List.length_map]; omega,fun o s ih=>x8l (by omega) (inner x b (by omega) hb) (wi (by omega)) ih⟩)
  ps.length 0 [] (by omega) (by simp)
 rw [List.drop_zero,y7z,List.nil_append] at this
 exact y4x this.2 (by omega) (by omega) (by rw [show (List.flatMap _ _:List (List UInt8)).length=(R1 (rowF of ps.length hs.length)).length from (z6g _).symm]; exact List.take_length) rfl rfl rfl rfl
theorem w4q {a0:List UInt8} {ps:List Pc} {hs:List Hd} {r:Ru} {c4_0 c4_1:Nat} {w5 w6:RW} (of:Nat→Nat→List UInt8) (n1:ps.length≤1000) (n2:hs.length≤1000) (n3:c4_0≤1000) (n4:c4_1≤1000)
    (hf:∀ (i k:Nat) (objs:Objs),i < ps.length→k < hs.length→lk objs 0=some (.cells [.c (.list (Ps ps))])→lk objs 1=some (.cells [.c (.str (B r.nm)),.c (.i64 r.kd),.c (.list (R1 r.fs)),.c (.str (B r.lo)),.c (.str (B r.hi)),.c (.i64 r.a),.c (.i64 r.b)])→Rn E K9 [.c (.i64 (i:Nat)),.c (.i64 (k:Nat)),.ptr 0 0,.ptr 1 0] objs (.c (.str (B (of i k)))) objs) :
    Rn E A1 [.c (.str (B a0)),.fn K9 [.ptr 0 0,.ptr 1 0],.ptr 0 0,.ptr 2 0,.ptr 3 0] [some (.cells [.c (.list (Ps ps))]),some (.cells [.c (.str (B r.nm)),.c (.i64 r.kd),.c (.list (R1 r.fs)),.c (.str (B r.lo)),.c (.str (B r.hi)),.c (.i64 r.a),.c (.i64 r.b)]),some (.cells [.c (.list (Hs hs))]),some (.cells [.vec 4 c4_0,.vec 5 c4_1,.nils]),some (.vec A4 w5),some (.vec A2 w6)] (.tup [])
     [some (.cells [.c (.list (Ps ps))]),some (.cells [.c (.str (B r.nm)),.c (.i64 r.kd),.c (.list (R1 r.fs)),.c (.str (B r.lo)),.c (.str (B r.hi)),.c (.i64 r.a),.c (.i64 r.b)]),some (.cells [.c (.list (Hs hs))]),some (.cells [.vec 6 (c4_0+1),.vec 7 (c4_1+1),.nils]),some .dead,some .dead,some (.vec A4 (w5.take c4_0++[[.list (R1 (rowF of ps.length hs.length))]])),some (.vec A2 (w6.take c4_1++[[.str (B a0)]]))]:=by
 have l1:=z3q ps
 have l2:=z0k hs
 have r1:(List.range ps.length).length=ps.length:=List.length_range
 have r2:(List.range hs.length).length=hs.length:=List.length_range
 have inner:∀ (i:Nat) (b:List (List UInt8)),i < ps.length→b.length≤1000*i→Lp E 7 A1 1 (z1o (B a0) b.length (i:Nat) ((Ps ps).length:Int) (i:Nat) ((Hs hs).length:Int) 0 (Ps ps) (B r.nm) r.kd (R1 r.fs) (B r.lo) (B r.hi) r.a r.b (Hs hs) c4_0 c4_1 w5 w6 (R1 b)) (.exit 2)
     (z6e (B a0) ((Ps ps).length:Int) (i:Nat) (Ps ps) (B r.nm) r.kd (R1 r.fs) (B r.lo) (B r.hi) r.a r.b (Hs hs) c4_0 c4_1 w5 w6 (b++(List.range hs.length).map (of i)).length (R1 (b++(List.range hs.length).map (of i)))):=fun i b hi hb=>by
  have:=I9 (E:=E) (l:=List.range hs.length) (n:=7) (F:=A1) (k:=1) (fun (b:List (List UInt8)) k=>b++[of i k]) (fun k b'=>b'.length≤1000*i+k)
   (fun k b=>z1o (B a0) b.length (i:Nat) ((Ps ps).length:Int) (i:Nat) ((Hs hs).length:Int) (k:Nat) (Ps ps) (B r.nm) r.kd (R1 r.fs) (B r.lo) (B r.hi) r.a r.b (Hs hs) c4_0 c4_1 w5 w6 (R1 b)) (oe:=.exit 2) (fin:=fun b=>z6e (B a0) ((Ps ps).length:Int) (i:Nat) (Ps ps) (B r.nm) r.kd (R1 r.fs) (B r.lo) (B r.hi) r.a r.b (Hs hs) c4_0 c4_1 w5 w6 b.length (R1 b)) (fun b _=>x5m (by omega))
   (fun k x b hx hb=>by
    have hk:=C1 hx
    have e:=y0k hx
    subst e
    exact ⟨by rw [List.length_append]; exact Nat.succ_le_succ hb,fun o s ih=>x8q (by omega) (hf i x _ hi (by omega) rfl rfl) (by omega) (y4f b _) (by simp) (wi (by omega)) ih⟩)
   hs.length 0 b (by omega) (by omega)
  rw [List.drop_zero,y4m] at this
  exact this.2
 have:=I9 (E:=E) (l:=List.range ps.length) (n:=6) (F:=A1) (k:=0) (fun (b:List (List UInt8)) i=>b++(List.range hs.length).map (of i)) (fun i b=>b.length≤1000*i)
  (fun i b=>z4a (B a0) b.length ((Ps ps).length:Int) (i:Nat) (Ps ps) (B r.nm) r.kd (R1 r.fs) (B r.lo) (B r.hi) r.a r.b (Hs hs) c4_0 c4_1 w5 w6 (R1 b)) (oe:=.exit 0) (fin:=fun b=>y1c (B a0) (Ps ps) (B r.nm) r.kd (R1 r.fs) (B r.lo) (B r.hi) r.a r.b (Hs hs) c4_0 c4_1 w5 w6 b.length (R1 b)) (fun b _=>x5i (by omega))
  (fun i x b hx hb=>by
   have hi:=C1 hx
   have e:=y0k hx
   subst e
   exact ⟨by rw [List.length_append,List.length_map]; omega,fun o s ih=>x8m (by omega) (inner x b (by omega) hb) (wi (by omega)) ih⟩)
  ps.length 0 [] (by omega) (by simp)
 rw [List.drop_zero,y7z,List.nil_append] at this
 exact y4y this.2 (by omega) (by omega) (by rw [show (List.flatMap _ _:List (List UInt8)).length=(R1 (rowF of ps.length hs.length)).length from (z6g _).symm]; exact List.take_length) rfl rfl rfl rfl
theorem q2d {a0:List UInt8} {ps:List Pc} {hs:List Hd} {r:Ru} {c4_0 c4_1:Nat} {w5 w6:RW} (of:Nat→Nat→List UInt8) (n1:ps.length≤1000) (n2:hs.length≤1000) (n3:c4_0≤1000) (n4:c4_1≤1000)
    (hf:∀ (i k:Nat) (objs:Objs),i < ps.length→k < hs.length→lk objs 0=some (.cells [.c (.list (Ps ps))])→lk objs 1=some (.cells [.c (.str (B r.nm)),.c (.i64 r.kd),.c (.list (R1 r.fs)),.c (.str (B r.lo)),.c (.str (B r.hi)),.c (.i64 r.a),.c (.i64 r.b)])→Rn E J1 [.c (.i64 (i:Nat)),.c (.i64 (k:Nat)),.ptr 0 0,.ptr 1 0] objs (.c (.str (B (of i k)))) objs) :
    Rn E A1 [.c (.str (B a0)),.fn J1 [.ptr 0 0,.ptr 1 0],.ptr 0 0,.ptr 2 0,.ptr 3 0] [some (.cells [.c (.list (Ps ps))]),some (.cells [.c (.str (B r.nm)),.c (.i64 r.kd),.c (.list (R1 r.fs)),.c (.str (B r.lo)),.c (.str (B r.hi)),.c (.i64 r.a),.c (.i64 r.b)]),some (.cells [.c (.list (Hs hs))]),some (.cells [.vec 4 c4_0,.vec 5 c4_1,.nils]),some (.vec A4 w5),some (.vec A2 w6)] (.tup [])
     [some (.cells [.c (.list (Ps ps))]),some (.cells [.c (.str (B r.nm)),.c (.i64 r.kd),.c (.list (R1 r.fs)),.c (.str (B r.lo)),.c (.str (B r.hi)),.c (.i64 r.a),.c (.i64 r.b)]),some (.cells [.c (.list (Hs hs))]),some (.cells [.vec 6 (c4_0+1),.vec 7 (c4_1+1),.nils]),some .dead,some .dead,some (.vec A4 (w5.take c4_0++[[.list (R1 (rowF of ps.length hs.length))]])),some (.vec A2 (w6.take c4_1++[[.str (B a0)]]))]:=by
 have l1:=z3q ps
 have l2:=z0k hs
 have r1:(List.range ps.length).length=ps.length:=List.length_range
 have r2:(List.range hs.length).length=hs.length:=List.length_range
 have inner:∀ (i:Nat) (b:List (List UInt8)),i < ps.length→b.length≤1000*i→Lp E 7 A1 1 (z1p (B a0) b.length (i:Nat) ((Ps ps).length:Int) (i:Nat) ((Hs hs).length:Int) 0 (Ps ps) (B r.nm) r.kd (R1 r.fs) (B r.lo) (B r.hi) r.a r.b (Hs hs) c4_0 c4_1 w5 w6 (R1 b)) (.exit 2)
     (z6f (B a0) ((Ps ps).length:Int) (i:Nat) (Ps ps) (B r.nm) r.kd (R1 r.fs) (B r.lo) (B r.hi) r.a r.b (Hs hs) c4_0 c4_1 w5 w6 (b++(List.range hs.length).map (of i)).length (R1 (b++(List.range hs.length).map (of i)))):=fun i b hi hb=>by
  have:=I9 (E:=E) (l:=List.range hs.length) (n:=7) (F:=A1) (k:=1) (fun (b:List (List UInt8)) k=>b++[of i k]) (fun k b'=>b'.length≤1000*i+k)
   (fun k b=>z1p (B a0) b.length (i:Nat) ((Ps ps).length:Int) (i:Nat) ((Hs hs).length:Int) (k:Nat) (Ps ps) (B r.nm) r.kd (R1 r.fs) (B r.lo) (B r.hi) r.a r.b (Hs hs) c4_0 c4_1 w5 w6 (R1 b)) (oe:=.exit 2) (fin:=fun b=>z6f (B a0) ((Ps ps).length:Int) (i:Nat) (Ps ps) (B r.nm) r.kd (R1 r.fs) (B r.lo) (B r.hi) r.a r.b (Hs hs) c4_0 c4_1 w5 w6 b.length (R1 b)) (fun b _=>x5n (by omega))
   (fun k x b hx hb=>by
    have hk:=C1 hx
    have e:=y0k hx
    subst e
    exact ⟨by rw [List.length_append]; exact Nat.succ_le_succ hb,fun o s ih=>x8r (by omega) (hf i x _ hi (by omega) rfl rfl) (by omega) (y4f b _) (by simp) (wi (by omega)) ih⟩)
   hs.length 0 b (by omega) (by omega)
  rw [List.drop_zero,y4m] at this
  exact this.2
 have:=I9 (E:=E) (l:=List.range ps.length) (n:=6) (F:=A1) (k:=0) (fun (b:List (List UInt8)) i=>b++(List.range hs.length).map (of i)) (fun i b=>b.length≤1000*i)
  (fun i b=>z4b (B a0) b.length ((Ps ps).length:Int) (i:Nat) (Ps ps) (B r.nm) r.kd (R1 r.fs) (B r.lo) (B r.hi) r.a r.b (Hs hs) c4_0 c4_1 w5 w6 (R1 b)) (oe:=.exit 0) (fin:=fun b=>y1d (B a0) (Ps ps) (B r.nm) r.kd (R1 r.fs) (B r.lo) (B r.hi) r.a r.b (Hs hs) c4_0 c4_1 w5 w6 b.length (R1 b)) (fun b _=>x5j (by omega))
  (fun i x b hx hb=>by
   have hi:=C1 hx
   have e:=y0k hx
   subst e
   exact ⟨by rw [List.length_append,List.length_map]; omega,fun o s ih=>x8n (by omega) (inner x b (by omega) hb) (wi (by omega)) ih⟩)
  ps.length 0 [] (by omega) (by simp)
 rw [List.drop_zero,y7z,List.nil_append] at this
 exact y4z this.2 (by omega) (by omega) (by rw [show (List.flatMap _ _:List (List UInt8)).length=(R1 (rowF of ps.length hs.length)).length from (z6g _).symm]; exact List.take_length) rfl rfl rfl rfl
end Gev
namespace Gev
open Go Gb
variable {E:Env}
attribute [local irreducible] Sz
def RA (l:List (List (List UInt8))):RW:=l.map fun r=>[.list (R1 r)]
theorem u0h (l:List (List (List UInt8))):(RA l).length=l.length:=by simp [RA]
theorem k5i (b:List (List (List UInt8))) (x:List (List UInt8)):((RA b).take b.length)++[[.list (R1 x)]]=RA (b++[x]):=by
 rw [show b.length=(RA b).length from (u0h b).symm,List.take_length]; unfold RA; rw [List.map_append]; rfl
def onT (b:Bool) (x:List UInt8):List UInt8:=bif b then x else [48]
theorem q0d (b:Bool) (x:List UInt8):Fn E A0 [.c (.bool b),.c (.str (B x))] (.c (.str (B (onT b x)))):=by
 cases b with
 | true=>exact j7a
 | false=>exact j7b
theorem clo_3 (i k j:Nat) (objs:Objs) (h0:lk objs 0=some (.cells [.fn A0 []])) (h1:lk objs 1=some (.cells [.c (.i64 (j:Nat))])):Rn E U8 [.c (.i64 (i:Nat)),.c (.i64 (k:Nat)),.ptr 0 0,.ptr 1 0] objs (.c (.str (B (onT (i == j) [49])))) objs:=by
 have e:((i:Int) == (j:Int))=(i == j):=by rw [Bool.eq_iff_iff]; simp; omega
 have h:=j7c (E:=E) (i0:=(i:Nat)) (i1:=(k:Nat)) (i2:=(j:Nat)) (q0d (i == j) [49]) e
 exact h.put [0,1] (by decide) rfl rfl (big:=objs) (big':=objs) (by intro i hi; match i,hi with | 0,_=>exact h0 | 1,_=>exact h1) (by intro i hi; match i,hi with | 0,_=>exact h0 | 1,_=>exact h1) (fun _ _=>rfl) rfl rfl rfl rfl
def rlx0 (np nh:Nat) (b:List (List (List UInt8)) × List (List UInt8)) (x:Pc × Nat):List (List (List UInt8)) × List (List UInt8):=(b.1++[rowF (fun i _=>onT (i == x.2) [49]) np nh],b.2++[decZ x.1.un])
theorem j7p (hlib:Lib E) {z:Int} (h:-9223372036854775808≤z∧z≤9223372036854775807):Fn E y7o [.c (.i64 z)] (.c (.str (B (decZ z)))):=q1g (hlib.itoa z h)
theorem u2w (hlib:Lib E) {ps:List Pc} {hs:List Hd} {rs:RW} {n:Int} (n1:ps.length≤7) (n2:hs.length≤7) (hu:∀ p∈ps,1≤p.un∧p.un≤9) :
    Lp E 6 A9 0 (z4y n (Ps ps) ((Ps ps).length:Int) 0 (Ps ps) (Hs hs) rs (Ps ps) (Hs hs) 0 0 [] []) (.exit 0)
     (z9p n (Ps ps) (Hs hs) rs (Ps ps) (Hs hs) (ps.zipIdx.foldl (rlx0 ps.length hs.length) ([],[])).1.length (ps.zipIdx.foldl (rlx0 ps.length hs.length) ([],[])).2.length (RA (ps.zipIdx.foldl (rlx0 ps.length hs.length) ([],[])).1) (R1 (ps.zipIdx.foldl (rlx0 ps.length hs.length) ([],[])).2)):=by
 have l1:=z3q ps
 have hz:ps.zipIdx.length=ps.length:=by simp
 have:=I9 (E:=E) (l:=ps.zipIdx) (n:=6) (F:=A9) (k:=0) (rlx0 ps.length hs.length) (fun i b=>b.1.length=i∧b.2.length=i)
  (fun i b=>z4y n (Ps ps) ((Ps ps).length:Int) (i:Nat) (Ps ps) (Hs hs) rs (Ps ps) (Hs hs) b.1.length b.2.length (RA b.1) (R1 b.2)) (oe:=.exit 0)
  (fin:=fun b=>z9p n (Ps ps) (Hs hs) rs (Ps ps) (Hs hs) b.1.length b.2.length (RA b.1) (R1 b.2)) (fun b hb=>k1a (by omega))
  (fun i x b hx hb=>by
   have hi:=C1 hx
   obtain ⟨g1,g2⟩:=x3c hx
   have hun:=hu x.1 (List.mem_of_getElem? g1)
   refine ⟨⟨by simp [rlx0,hb.1],by simp [rlx0,hb.2]⟩,fun o s ih=>?_⟩
   have row:=w4n (E:=E) (a0:=decZ x.1.un) (ps:=ps) (hs:=hs) (c1_0:=(i:Nat)) (c4_0:=b.1.length) (c4_1:=b.2.length) (w5:=RA b.1) (w6:=R1 b.2) (fun i' _=>onT (i' == i) [49]) (by omega) (by omega) (by omega) (by omega) (fun i' k objs _ _ h0 h1=>clo_3 i' k i objs h0 h1)
   rw [k5i,y4f] at row
   unfold rlx0 at ih
   rw [g2] at ih
   have fr:=row.putN [5,8,2,3,4,6,7,10,11] (by decide) rfl (by simp)
    (big:=[some (.cells [.c (.list (Ps ps)),.c (.list (Hs hs)),.c (.list rs)]),some (.cells [.nils,.nils,.nils]),some (.cells [.c (.list (Ps ps))]),some (.cells [.c (.list (Hs hs))]),some (.cells [.vec 6 b.1.length,.vec 7 b.2.length,.nils]),some (.cells [.fn A0 []]),some (.vec A4 (RA b.1)),some (.vec A2 (R1 b.2)),some (.cells [.c (.i64 (i:Nat))]),some (.cells [.c (.i64 x.1.id),.c (.i64 x.1.un),.c (.i64 x.1.cl),.c (.str (B x.1.nm)),.c (.str (B x.1.ma)),.c (.str (B x.1.vo)),.c (.str (B x.1.wo))])])
    (big':=[some (.cells [.c (.list (Ps ps)),.c (.list (Hs hs)),.c (.list rs)]),some (.cells [.nils,.nils,.nils]),some (.cells [.c (.list (Ps ps))]),some (.cells [.c (.list (Hs hs))]),some (.cells [.vec 10 (b.1.length+1),.vec 11 (b.2.length+1),.nils]),some (.cells [.fn A0 []]),some .dead,some .dead,some (.cells [.c (.i64 (i:Nat))]),some (.cells [.c (.i64 x.1.id),.c (.i64 x.1.un),.c (.i64 x.1.cl),.c (.str (B x.1.nm)),.c (.str (B x.1.ma)),.c (.str (B x.1.vo)),.c (.str (B x.1.wo))]),some (.vec A4 (RA (b.1++[rowF (fun i' _=>onT (i' == i) [49]) ps.length hs.length]))),some (.vec A2 (R1 (b.2++[decZ x.1.un])))])
    (by intro i hi; match i,hi with | 0,_=>rfl | 1,_=>rfl | 2,_=>rfl | 3,_=>rfl | 4,_=>rfl | 5,_=>rfl | 6,_=>rfl)
    (by intro i hi hi'; match i,hi,hi' with | 7,_,_=>rfl | 8,_,_=>rfl)
    (by intro i hi; match i,hi with | 0,_=>rfl | 1,_=>rfl | 2,_=>rfl | 3,_=>rfl | 4,_=>rfl | 5,_=>rfl | 6,_=>rfl | 7,_=>rfl | 8,_=>rfl)
    (by
     intro l hl
     match l with
     | 0=>rfl
     | 1=>rfl
     | 2=>exact absurd rfl (hl 2 (by simp))
     | 3=>exact absurd rfl (hl 3 (by simp))
     | 4=>exact absurd rfl (hl 4 (by simp))
     | 5=>exact absurd rfl (hl 0 (by simp))
     | 6=>exact absurd rfl (hl 5 (by simp))
     | 7=>exact absurd rfl (hl 6 (by simp))
     | 8=>exact absurd rfl (hl 1 (by simp))
     | 9=>rfl
     | 10=>exact absurd rfl (hl 7 (by simp))
     | 11=>exact absurd rfl (hl 8 (by simp))
     | l+12=>rfl) rfl rfl rfl rfl
   rw [List.length_append,List.length_append] at ih
   exact k9a (by omega) (by omega) (A5 (X6 g1)) (j7p hlib (by omega)) fr (wi (by omega)) ih)
  ps.zipIdx.length 0 ([],[]) (by omega) ⟨rfl,rfl⟩
 rw [List.drop_zero] at this
 exact this.2
end Gev
namespace Gev
open Go Gb
variable {E:Env}
attribute [local irreducible] Sz
theorem clo_4 {ps:List Pc} (i k j:Nat) (objs:Objs) (hi:i < ps.length) (h0:lk objs 0=some (.cells [.fn A0 []])) (h1:lk objs 1=some (.cells [.c (.i64 (j:Nat))])) (h2:lk objs 2=some (.cells [.c (.list (Ps ps))])):Rn E U9 [.c (.i64 (i:Nat)),.c (.i64 (k:Nat)),.ptr 0 0,.ptr 1 0,.ptr 2 0] objs (.c (.str (B (onT (k == j) (((ps[i]?).map Pc.ma).getD []))))) objs:=by
 have e:((k:Int) == (j:Int))=(k == j):=by rw [Bool.eq_iff_iff]; simp; omega
 obtain ⟨p,hp⟩:=z1g hi
 rw [hp]
 have h:=j7d (E:=E) (i0:=(i:Nat)) (i1:=(k:Nat)) (i2:=(j:Nat)) (r0:=Ps ps) (by omega) (A5 (X6 hp)) (q0d (k == j) p.ma) e
 exact h.put [0,1,2] (by decide) rfl rfl (big:=objs) (big':=objs) (by intro i hi; match i,hi with | 0,_=>exact h0 | 1,_=>exact h1 | 2,_=>exact h2) (by intro i hi; match i,hi with | 0,_=>exact h0 | 1,_=>exact h1 | 2,_=>exact h2) (fun _ _=>rfl) rfl rfl rfl rfl
def rlx1 (ps:List Pc) (nh:Nat) (b:List (List (List UInt8)) × List (List UInt8)) (x:Hd × Nat):List (List (List UInt8)) × List (List UInt8):=(b.1++[rowF (fun i k=>onT (k == x.2) (((ps[i]?).map Pc.ma).getD [])) ps.length nh],b.2++[x.1.mo])
theorem u2x {ps:List Pc} {hs:List Hd} {rs:RW} {n:Int} {b0:List (List (List UInt8)) × List (List UInt8)} (n1:ps.length≤7) (n2:hs.length≤7) (m1:b0.1.length≤100) (m2:b0.2.length≤100) :
    Lp E 8 A9 1 (z4z n (Hs hs) ((Hs hs).length:Int) 0 (Ps ps) (Hs hs) rs (Ps ps) (Hs hs) b0.1.length b0.2.length (RA b0.1) (R1 b0.2)) (.exit 2)
     (z9q n (Ps ps) (Hs hs) rs (Ps ps) (Hs hs) (hs.zipIdx.foldl (rlx1 ps hs.length) b0).1.length (hs.zipIdx.foldl (rlx1 ps hs.length) b0).2.length (RA (hs.zipIdx.foldl (rlx1 ps hs.length) b0).1) (R1 (hs.zipIdx.foldl (rlx1 ps hs.length) b0).2)):=by
 have l2:=z0k hs
 have hz:hs.zipIdx.length=hs.length:=by simp
 have:=I9 (E:=E) (l:=hs.zipIdx) (n:=8) (F:=A9) (k:=1) (rlx1 ps hs.length) (fun i b=>b.1.length≤100+i∧b.2.length≤100+i)
  (fun i b=>z4z n (Hs hs) ((Hs hs).length:Int) (i:Nat) (Ps ps) (Hs hs) rs (Ps ps) (Hs hs) b.1.length b.2.length (RA b.1) (R1 b.2)) (oe:=.exit 2)
  (fin:=fun b=>z9q n (Ps ps) (Hs hs) rs (Ps ps) (Hs hs) b.1.length b.2.length (RA b.1) (R1 b.2)) (fun b hb=>k1b (by omega))
  (fun i x b hx hb=>by
   have hi:=C1 hx
   obtain ⟨g1,g2⟩:=x3c hx
   refine ⟨⟨by unfold rlx1; rw [List.length_append]; exact Nat.succ_le_succ hb.1,by unfold rlx1; rw [List.length_append]; exact Nat.succ_le_succ hb.2⟩,fun o s ih=>?_⟩
   have row:=w4o (E:=E) (a0:=x.1.mo) (ps:=ps) (hs:=hs) (c1_0:=(i:Nat)) (c4_0:=b.1.length) (c4_1:=b.2.length) (w5:=RA b.1) (w6:=R1 b.2) (fun i' k'=>onT (k' == i) (((ps[i']?).map Pc.ma).getD [])) (by omega) (by omega) (by omega) (by omega) (fun i' k objs hi' _ h0 h1 h2=>clo_4 i' k i objs hi' h0 h1 h2)
   rw [k5i,y4f] at row
   unfold rlx1 at ih
   rw [g2] at ih
   have fr:=row.putN [5,10,2,3,4,8,9,12,13] (by decide) rfl (by simp)
    (big:=[some (.cells [.c (.list (Ps ps)),.c (.list (Hs hs)),.c (.list rs)]),some (.cells [.nils,.nils,.nils]),some (.cells [.c (.list (Ps ps))]),some (.cells [.c (.list (Hs hs))]),some (.cells [.vec 8 b.1.length,.vec 9 b.2.length,.nils]),some (.cells [.fn A0 []]),some .dead,some .dead,some (.vec A4 (RA b.1)),some (.vec A2 (R1 b.2)),some (.cells [.c (.i64 (i:Nat))]),some (.cells [.c (.i64 x.1.id),.c (.str (B x.1.nm)),.c (.str (B x.1.ro)),.c (.str (B x.1.mo)),.c (.str (B x.1.x)),.c (.str (B x.1.y)),.c (.str (B x.1.z))])])
    (big':=[some (.cells [.c (.list (Ps ps)),.c (.list (Hs hs)),.c (.list rs)]),some (.cells [.nils,.nils,.nils]),some (.cells [.c (.list (Ps ps))]),some (.cells [.c (.list (Hs hs))]),some (.cells [.vec 12 (b.1.length+1),.vec 13 (b.2.length+1),.nils]),some (.cells [.fn A0 []]),some .dead,some .dead,some .dead,some .dead,some (.cells [.c (.i64 (i:Nat))]),some (.cells [.c (.i64 x.1.id),.c (.str (B x.1.nm)),.c (.str (B x.1.ro)),.c (.str (B x.1.mo)),.c (.str (B x.1.x)),.c (.str (B x.1.y)),.c (.str (B x.1.z))]),some (.vec A4 (RA (b.1++[rowF (fun i' k'=>onT (k' == i) (((ps[i']?).map Pc.ma).getD [])) ps.length hs.length]))),some (.vec A2 (R1 (b.2++[x.1.mo])))])
    (by intro i hi; match i,hi with | 0,_=>rfl | 1,_=>rfl | 2,_=>rfl | 3,_=>rfl | 4,_=>rfl | 5,_=>rfl | 6,_=>rfl)
    (by intro i hi hi'; match i,hi,hi' with | 7,_,_=>rfl | 8,_,_=>rfl)
    (by intro i hi; match i,hi with | 0,_=>rfl | 1,_=>rfl | 2,_=>rfl | 3,_=>rfl | 4,_=>rfl | 5,_=>rfl | 6,_=>rfl | 7,_=>rfl | 8,_=>rfl)
    (by
     intro l hl
     match l with
     | 0=>rfl
     | 1=>rfl
     | 2=>exact absurd rfl (hl 2 (by simp))
     | 3=>exact absurd rfl (hl 3 (by simp))
     | 4=>exact absurd rfl (hl 4 (by simp))
     | 5=>exact absurd rfl (hl 0 (by simp))
     | 6=>rfl
     | 7=>rfl
     | 8=>exact absurd rfl (hl 5 (by simp))
     | 9=>exact absurd rfl (hl 6 (by simp))
     | 10=>exact absurd rfl (hl 1 (by simp))
     | 11=>rfl
     | 12=>exact absurd rfl (hl 7 (by simp))
     | 13=>exact absurd rfl (hl 8 (by simp))
     | l+14=>rfl) rfl rfl rfl rfl
   rw [List.length_append,List.length_append] at ih
   exact k9b (by omega) (by omega) (A5 (z0b g1)) fr (wi (by omega)) ih)
  hs.zipIdx.length 0 b0 (by omega) ⟨m1,m2⟩
 rw [List.drop_zero] at this
 exact this.2
theorem clo_5 {ps:List Pc} (i k j:Nat) (objs:Objs) (hi:i < ps.length) (h0:lk objs 0=some (.cells [.fn A0 []])) (h1:lk objs 1=some (.cells [.c (.i64 (j:Nat))])) (h2:lk objs 2=some (.cells [.c (.list (Ps ps))])):Rn E V0 [.c (.i64 (i:Nat)),.c (.i64 (k:Nat)),.ptr 0 0,.ptr 1 0,.ptr 2 0] objs (.c (.str (B (onT (k == j) (((ps[i]?).map Pc.vo).getD []))))) objs:=by
 have e:((k:Int) == (j:Int))=(k == j):=by rw [Bool.eq_iff_iff]; simp; omega
 obtain ⟨p,hp⟩:=z1g hi
 rw [hp]
 have h:=j7e (E:=E) (i0:=(i:Nat)) (i1:=(k:Nat)) (i2:=(j:Nat)) (r0:=Ps ps) (by omega) (A5 (X6 hp)) (q0d (k == j) p.vo) e
 exact h.put [0,1,2] (by decide) rfl rfl (big:=objs) (big':=objs) (by intro i hi; match i,hi with | 0,_=>exact h0 | 1,_=>exact h1 | 2,_=>exact h2) (by intro i hi; match i,hi with | 0,_=>exact h0 | 1,_=>exact h1 | 2,_=>exact h2) (fun _ _=>rfl) rfl rfl rfl rfl
def rlx2 (ps:List Pc) (nh:Nat) (b:List (List (List UInt8)) × List (List UInt8)) (x:Hd × Nat):List (List (List UInt8)) × List (List UInt8):=(b.1++[rowF (fun i k=>onT (k == x.2) (((ps[i]?).map Pc.vo).getD [])) ps.length nh],b.2++[x.1.ro])
theorem u2y {ps:List Pc} {hs:List Hd} {rs:RW} {n:Int} {b0:List (List (List UInt8)) × List (List UInt8)} (n1:ps.length≤7) (n2:hs.length≤7) (m1:b0.1.length≤100) (m2:b0.2.length≤100) :
    Lp E 10 A9 2 (z5a n (Hs hs) ((Hs hs).length:Int) 0 (Ps ps) (Hs hs) rs (Ps ps) (Hs hs) b0.1.length b0.2.length (RA b0.1) (R1 b0.2)) (.exit 4)
     (z9r n (Ps ps) (Hs hs) rs (Ps ps) (Hs hs) (hs.zipIdx.foldl (rlx2 ps hs.length) b0).1.length (hs.zipIdx.foldl (rlx2 ps hs.length) b0).2.length (RA (hs.zipIdx.foldl (rlx2 ps hs.length) b0).1) (R1 (hs.zipIdx.foldl (rlx2 ps hs.length) b0).2)):=by
 have l2:=z0k hs
 have hz:hs.zipIdx.length=hs.length:=by simp
 have:=I9 (E:=E) (l:=hs.zipIdx) (n:=10) (F:=A9) (k:=2) (rlx2 ps hs.length) (fun i b=>b.1.length≤100+i∧b.2.length≤100+i)
  (fun i b=>z5a n (Hs hs) ((Hs hs).length:Int) (i:Nat) (Ps ps) (Hs hs) rs (Ps ps) (Hs hs) b.1.length b.2.length (RA b.1) (R1 b.2)) (oe:=.exit 4)
  (fin:=fun b=>z9r n (Ps ps) (Hs hs) rs (Ps ps) (Hs hs) b.1.length b.2.length (RA b.1) (R1 b.2)) (fun b hb=>k1c (by omega))
  (fun i x b hx hb=>by
   have hi:=C1 hx
   obtain ⟨g1,g2⟩:=x3c hx
   refine ⟨⟨by unfold rlx2; rw [List.length_append]; exact Nat.succ_le_succ hb.1,by unfold rlx2; rw [List.length_append]; exact Nat.succ_le_succ hb.2⟩,fun o s ih=>?_⟩
   have row:=w4p (E:=E) (a0:=x.1.ro) (ps:=ps) (hs:=hs) (c1_0:=(i:Nat)) (c4_0:=b.1.length) (c4_1:=b.2.length) (w5:=RA b.1) (w6:=R1 b.2) (fun i' k'=>onT (k' == i) (((ps[i']?).map Pc.vo).getD [])) (by omega) (by omega) (by omega) (by omega) (fun i' k objs hi' _ h0 h1 h2=>clo_5 i' k i objs hi' h0 h1 h2)
   rw [k5i,y4f] at row
   unfold rlx2 at ih
   rw [g2] at ih
   have fr:=row.putN [5,12,2,3,4,10,11,14,15] (by decide) rfl (by simp)
    (big:=[some (.cells [.c (.list (Ps ps)),.c (.list (Hs hs)),.c (.list rs)]),some (.cells [.nils,.nils,.nils]),some (.cells [.c (.list (Ps ps))]),some (.cells [.c (.list (Hs hs))]),some (.cells [.vec 10 b.1.length,.vec 11 b.2.length,.nils]),some (.cells [.fn A0 []]),some .dead,some .dead,some .dead,some .dead,some (.vec A4 (RA b.1)),some (.vec A2 (R1 b.2)),some (.cells [.c (.i64 (i:Nat))]),some (.cells [.c (.i64 x.1.id),.c (.str (B x.1.nm)),.c (.str (B x.1.ro)),.c (.str (B x.1.mo)),.c (.str (B x.1.x)),.c (.str (B x.1.y)),.c (.str (B x.1.z))])])
    (big':=[some (.cells [.c (.list (Ps ps)),.c (.list (Hs hs)),.c (.list rs)]),some (.cells [.nils,.nils,.nils]),some (.cells [.c (.list (Ps ps))]),some (.cells [.c (.list (Hs hs))]),some (.cells [.vec 14 (b.1.length+1),.vec 15 (b.2.length+1),.nils]),some (.cells [.fn A0 []]),some .dead,some .dead,some .dead,some .dead,some .dead,some .dead,some (.cells [.c (.i64 (i:Nat))]),some (.cells [.c (.i64 x.1.id),.c (.str (B x.1.nm)),.c (.str (B x.1.ro)),.c (.str (B x.1.mo)),.c (.str (B x.1.x)),.c (.str (B x.1.y)),.c (.str (B x.1.z))]),some (.vec A4 (RA (b.1++[rowF (fun i' k'=>onT (k' == i) (((ps[i']?).map Pc.vo).getD [])) ps.length hs.length]))),some (.vec A2 (R1 (b.2++[x.1.ro])))])
    (by intro i hi; match i,hi with | 0,_=>rfl | 1,_=>rfl | 2,_=>rfl | 3,_=>rfl | 4,_=>rfl | 5,_=>rfl | 6,_=>rfl)
    (by intro i hi hi'; match i,hi,hi' with | 7,_,_=>rfl | 8,_,_=>rfl)
    (by intro i hi; match i,hi with | 0,_=>rfl | 1,_=>rfl | 2,_=>rfl | 3,_=>rfl | 4,_=>rfl | 5,_=>rfl | 6,_=>rfl | 7,_=>rfl | 8,_=>rfl)
    (by
     intro l hl
     match l with
     | 0=>rfl
     | 1=>rfl
     | 2=>exact absurd rfl (hl 2 (by simp))
     | 3=>exact absurd rfl (hl 3 (by simp))
     | 4=>exact absurd rfl (hl 4 (by simp))
     | 5=>exact absurd rfl (hl 0 (by simp))
     | 6=>rfl
     | 7=>rfl
     | 8=>rfl
     | 9=>rfl
     | 10=>exact absurd rfl (hl 5 (by simp))
     | 11=>exact absurd rfl (hl 6 (by simp))
     | 12=>exact absurd rfl (hl 1 (by simp))
     | 13=>rfl
     | 14=>exact absurd rfl (hl 7 (by simp))
     | 15=>exact absurd rfl (hl 8 (by simp))
     | l+16=>rfl) rfl rfl rfl rfl
   rw [List.length_append,List.length_append] at ih
   exact k9c (by omega) (by omega) (A5 (z0b g1)) fr (wi (by omega)) ih)
  hs.zipIdx.length 0 b0 (by omega) ⟨m1,m2⟩
 rw [List.drop_zero] at this
 exact this.2
end Gev
namespace Gev
open Go Gb
variable {E:Env}
attribute [local irreducible] Sz
theorem u3a {ps:List Pc} {hs:List Hd} {rs w12 w13:RW} {c0 c1:Nat} (n1:ps.length≤7) (n2:hs.length≤7) :
    Lp E 14 A9 4 (z5b (Ps ps) ((Ps ps).length:Int) 0 (Ps ps) (Hs hs) rs (Ps ps) (Hs hs) c0 c1 0 w12 w13 []) (.exit 8)
     (z9t (Ps ps) (Hs hs) rs (Ps ps) (Hs hs) c0 c1 w12 w13 (ps.flatMap fun p=>List.replicate hs.length p.wo).length (R1 (ps.flatMap fun p=>List.replicate hs.length p.wo))):=by
 have l1:=z3q ps
 have l2:=z0k hs
 have r2:(List.range hs.length).length=hs.length:=List.length_range
 have inner:∀ (i:Nat) (p:Pc) (b:List (List UInt8)),i < ps.length→b.length≤100*i→Lp E 16 A9 5 (z3m (Ps ps) ((Ps ps).length:Int) (i:Nat) ((Hs hs).length:Int) 0 (Ps ps) (Hs hs) rs (Ps ps) (Hs hs) c0 c1 b.length w12 w13 p.id p.un p.cl (B p.nm) (B p.ma) (B p.vo) (B p.wo) (R1 b)) (.exit 10)
     (z7o (Ps ps) ((Ps ps).length:Int) (i:Nat) (Ps ps) (Hs hs) rs (Ps ps) (Hs hs) c0 c1 w12 w13 p.id p.un p.cl (B p.nm) (B p.ma) (B p.vo) (B p.wo) (b++List.replicate hs.length p.wo).length (R1 (b++List.replicate hs.length p.wo))):=fun i p b hi hb=>by
  have:=I9 (E:=E) (l:=List.range hs.length) (n:=16) (F:=A9) (k:=5) (fun (b:List (List UInt8)) _=>b++[p.wo]) (fun k b'=>b'.length≤100*i+k)
   (fun k b=>z3m (Ps ps) ((Ps ps).length:Int) (i:Nat) ((Hs hs).length:Int) (k:Nat) (Ps ps) (Hs hs) rs (Ps ps) (Hs hs) c0 c1 b.length w12 w13 p.id p.un p.cl (B p.nm) (B p.ma) (B p.vo) (B p.wo) (R1 b)) (oe:=.exit 10) (fin:=fun b=>z7o (Ps ps) ((Ps ps).length:Int) (i:Nat) (Ps ps) (Hs hs) rs (Ps ps) (Hs hs) c0 c1 w12 w13 p.id p.un p.cl (B p.nm) (B p.ma) (B p.vo) (B p.wo) b.length (R1 b)) (fun b _=>x8s (by omega))
   (fun k x b hx hb=>by
    have hk:=C1 hx
    exact ⟨by rw [List.length_append]; exact Nat.succ_le_succ hb,fun o s ih=>k4x (by omega) (by omega) (y4f b _) (by simp) (wi (by omega)) ih⟩)
   hs.length 0 b (by omega) (by omega)
  rw [List.drop_zero,y4m (fun _:Nat=>p.wo),List.map_const',r2] at this
  exact this.2
 have:=I9 (E:=E) (l:=ps) (n:=14) (F:=A9) (k:=4) (fun (b:List (List UInt8)) p=>b++List.replicate hs.length p.wo) (fun i b=>b.length≤100*i)
  (fun i b=>z5b (Ps ps) ((Ps ps).length:Int) (i:Nat) (Ps ps) (Hs hs) rs (Ps ps) (Hs hs) c0 c1 b.length w12 w13 (R1 b)) (oe:=.exit 8) (fin:=fun b=>z9t (Ps ps) (Hs hs) rs (Ps ps) (Hs hs) c0 c1 w12 w13 b.length (R1 b)) (fun b _=>k1e (by omega))
  (fun i p b hp hb=>by
   have hi:=C1 hp
   exact ⟨by rw [List.length_append,List.length_replicate]; omega,fun o s ih=>k9i (by omega) (by omega) (A5 (X6 hp)) (inner i p b hi hb) (wi (by omega)) ih⟩)
  ps.length 0 [] (by omega) (by simp)
 rw [List.drop_zero,y7z,List.nil_append] at this
 exact this.2
end Gev
namespace Gev
open Go Gb
variable {E:Env}
attribute [local irreducible] Sz
abbrev RuO (r:Ru):Option Ob:=some (.cells [.c (.str (B r.nm)),.c (.i64 r.kd),.c (.list (R1 r.fs)),.c (.str (B r.lo)),.c (.str (B r.hi)),.c (.i64 r.a),.c (.i64 r.b)])
noncomputable def mfQ (ps:List Pc) (fs:List (List UInt8)) (i k:Nat):Rat:=rdv (((ps[i]?).map Pc.ma).getD [])*rdv ((fs[k]?).getD [])
theorem clo_6 (hlib:Lib E) {ps:List Pc} {r:Ru} (hp:∀ p∈ps,ok1 p.ma=true∧p.ma.length≤40) (hr:∀ x∈r.fs,ok1 x=true∧x.length≤40) (i k:Nat) (objs:Objs) (hi:i < ps.length) (hk:k < r.fs.length) (h0:lk objs 0=some (.cells [.c (.list (Ps ps))])) (h1:lk objs 1=RuO r) :
    Rn E K9 [.c (.i64 (i:Nat)),.c (.i64 (k:Nat)),.ptr 0 0,.ptr 1 0] objs (.c (.str (B (decQ (mfQ ps r.fs i k))))) objs:=by
 obtain ⟨p,hp'⟩:=z1g hi
 obtain ⟨x,hx⟩:=z1g hk
 have hL:=y4e
 have o1:=hp p (List.mem_of_getElem? hp')
 have o2:=hr x (List.mem_of_getElem? hx)
 have m:=x2z hlib (z2w o1.1 o1.2) (z2w o2.1 o2.2) (by omega)
 rw [y1u o1.1,y1u o2.1] at m
 unfold mfQ
 rw [hp',hx]
 have h:=j7f (E:=E) (i0:=(i:Nat)) (i1:=(k:Nat)) (r0:=Ps ps) (s0:=B r.nm) (i2:=r.kd) (r1:=R1 r.fs) (s1:=B r.lo) (s2:=B r.hi) (i3:=r.a) (i4:=r.b) (by omega) (A5 (X6 hp')) (by omega) (A5 (x0l hx)) m
 exact h.put [0,1] (by decide) rfl rfl (big:=objs) (big':=objs) (by intro i hi; match i,hi with | 0,_=>exact h0 | 1,_=>exact h1) (by intro i hi; match i,hi with | 0,_=>exact h0 | 1,_=>exact h1) (fun _ _=>rfl) rfl rfl rfl rfl
theorem clo_7 (hlib:Lib E) {ps:List Pc} {r:Ru} (hp:∀ p∈ps,ok1 p.ma=true∧p.ma.length≤40) (hr:∀ x∈r.fs,ok1 x=true∧x.length≤40) (i k:Nat) (objs:Objs) (hi:i < ps.length) (hk:k < r.fs.length) (h0:lk objs 0=some (.cells [.c (.list (Ps ps))])) (h1:lk objs 1=RuO r) :
    Rn E J1 [.c (.i64 (i:Nat)),.c (.i64 (k:Nat)),.ptr 0 0,.ptr 1 0] objs (.c (.str (B (decQ (0 - mfQ ps r.fs i k))))) objs:=by
 obtain ⟨p,hp'⟩:=z1g hi
 obtain ⟨x,hx⟩:=z1g hk
 have hL:=y4e
 have o1:=hp p (List.mem_of_getElem? hp')
 have o2:=hr x (List.mem_of_getElem? hx)
 have s1:=z2w o1.1 o1.2
 have s2:=z2w o2.1 o2.2
 have m:=x2z hlib s1 s2 (by omega)
 rw [y1u o1.1,y1u o2.1] at m
 have n:=y7d hlib Sz.zero (s1.mul s2) (by omega)
 rw [← x5r] at n
 unfold mfQ
 rw [hp',hx]
 have h:=j7g (E:=E) (i0:=(i:Nat)) (i1:=(k:Nat)) (r0:=Ps ps) (s0:=B r.nm) (i2:=r.kd) (r1:=R1 r.fs) (s1:=B r.lo) (s2:=B r.hi) (i3:=r.a) (i4:=r.b) (by omega) (A5 (X6 hp')) (by omega) (A5 (x0l hx)) m n
 exact h.put [0,1] (by decide) rfl rfl (big:=objs) (big':=objs) (by intro i hi; match i,hi with | 0,_=>exact h0 | 1,_=>exact h1) (by intro i hi; match i,hi with | 0,_=>exact h0 | 1,_=>exact h1) (fun _ _=>rfl) rfl rfl rfl rfl
theorem u2t (hlib:Lib E) {ps:List Pc} {hs:List Hd} {rs:RW} {r:Ru} {b:List (List (List UInt8)) × List (List UInt8)} {a0:List UInt8} (n1:ps.length≤7) (n2:hs.length≤7) (m1:b.1.length≤900) (m2:b.2.length≤900) (hf:r.fs.length=hs.length) (hp:∀ p∈ps,ok1 p.ma=true∧p.ma.length≤40) (hr:∀ x∈r.fs,ok1 x=true∧x.length≤40) :
    Rn E A1 [.c (.str (B a0)),.fn K9 [.ptr 2 0,.ptr 14 0],.ptr 2 0,.ptr 3 0,.ptr 4 0] [some (.cells [.c (.list (Ps ps)),.c (.list (Hs hs)),.c (.list rs)]),some (.cells [.nils,.nils,.nils]),some (.cells [.c (.list (Ps ps))]),some (.cells [.c (.list (Hs hs))]),some (.cells [.vec 12 b.1.length,.vec 13 b.2.length,.nils]),some (.cells [.fn A0 []]),some .dead,some .dead,some .dead,some .dead,some .dead,some .dead,some (.vec A4 (RA b.1)),some (.vec A2 (R1 b.2)),RuO r] (.tup []) [some (.cells [.c (.list (Ps ps)),.c (.list (Hs hs)),.c (.list rs)]),some (.cells [.nils,.nils,.nils]),some (.cells [.c (.list (Ps ps))]),some (.cells [.c (.list (Hs hs))]),some (.cells [.vec 15 (b.1.length+1),.vec 16 (b.2.length+1),.nils]),some (.cells [.fn A0 []]),some .dead,some .dead,some .dead,some .dead,some .dead,some .dead,some .dead,some .dead,RuO r,some (.vec A4 (RA (b.1++[rowF (fun i k=>decQ (mfQ ps r.fs i k)) ps.length hs.length]))),some (.vec A2 (R1 (b.2++[a0])))]:=by
 have row:=w4q (E:=E) (a0:=a0) (ps:=ps) (hs:=hs) (r:=r) (c4_0:=b.1.length) (c4_1:=b.2.length) (w5:=RA b.1) (w6:=R1 b.2) (fun i k=>decQ (mfQ ps r.fs i k)) (by omega) (by omega) (by omega) (by omega) (fun i' k objs hi' hk' h0 h1=>clo_6 hlib hp hr i' k objs hi' (by omega) h0 h1)
 rw [k5i,y4f] at row
 exact row.putN [2,14,3,4,12,13,15,16] (by decide) rfl (by simp)
  (by intro i hi; match i,hi with | 0,_=>rfl | 1,_=>rfl | 2,_=>rfl | 3,_=>rfl | 4,_=>rfl | 5,_=>rfl)
  (by intro i hi hi'; match i,hi,hi' with | 6,_,_=>rfl | 7,_,_=>rfl)
  (by intro i hi; match i,hi with | 0,_=>rfl | 1,_=>rfl | 2,_=>rfl | 3,_=>rfl | 4,_=>rfl | 5,_=>rfl | 6,_=>rfl | 7,_=>rfl)
  (by
   intro l hl
   match l with
    | 0=>rfl
    | 1=>rfl
    | 2=>exact absurd rfl (hl 0 (by simp))
    | 3=>exact absurd rfl (hl 2 (by simp))
    | 4=>exact absurd rfl (hl 3 (by simp))
    | 5=>rfl
    | 6=>rfl
    | 7=>rfl
    | 8=>rfl
    | 9=>rfl
    | 10=>rfl
    | 11=>rfl
    | 12=>exact absurd rfl (hl 4 (by simp))
    | 13=>exact absurd rfl (hl 5 (by simp))
    | 14=>exact absurd rfl (hl 1 (by simp))
    | 15=>exact absurd rfl (hl 6 (by simp))
    | 16=>exact absurd rfl (hl 7 (by simp))
    | l+17=>rfl) rfl rfl rfl rfl
theorem u2u (hlib:Lib E) {ps:List Pc} {hs:List Hd} {rs:RW} {r:Ru} {b:List (List (List UInt8)) × List (List UInt8)} {a0:List UInt8} (n1:ps.length≤7) (n2:hs.length≤7) (m1:b.1.length≤900) (m2:b.2.length≤900) (hf:r.fs.length=hs.length) (hp:∀ p∈ps,ok1 p.ma=true∧p.ma.length≤40) (hr:∀ x∈r.fs,ok1 x=true∧x.length≤40) :
    Rn E A1 [.c (.str (B a0)),.fn J1 [.ptr 2 0,.ptr 14 0],.ptr 2 0,.ptr 3 0,.ptr 4 0] [some (.cells [.c (.list (Ps ps)),.c (.list (Hs hs)),.c (.list rs)]),some (.cells [.nils,.nils,.nils]),some (.cells [.c (.list (Ps ps))]),some (.cells [.c (.list (Hs hs))]),some (.cells [.vec 12 b.1.length,.vec 13 b.2.length,.nils]),some (.cells [.fn A0 []]),some .dead,some .dead,some .dead,some .dead,some .dead,some .dead,some (.vec A4 (RA b.1)),some (.vec A2 (R1 b.2)),RuO r] (.tup []) [some (.cells [.c (.list (Ps ps)),.c (.list (Hs hs)),.c (.list rs)]),some (.cells [.nils,.nils,.nils]),some (.cells [.c (.list (Ps ps))]),some (.cells [.c (.list (Hs hs))]),some (.cells [.vec 15 (b.1.length+1),.vec 16 (b.2.length+1),.nils]),some (.cells [.fn A0 []]),some .dead,some .dead,some .dead,some .dead,some .dead,some .dead,some .dead,some .dead,RuO r,some (.vec A4 (RA (b.1++[rowF (fun i k=>decQ (0 - mfQ ps r.fs i k)) ps.length hs.length]))),some (.vec A2 (R1 (b.2++[a0])))]:=by
 have row:=q2d (E:=E) (a0:=a0) (ps:=ps) (hs:=hs) (r:=r) (c4_0:=b.1.length) (c4_1:=b.2.length) (w5:=RA b.1) (w6:=R1 b.2) (fun i k=>decQ (0 - mfQ ps r.fs i k)) (by omega) (by omega) (by omega) (by omega) (fun i' k objs hi' hk' h0 h1=>clo_7 hlib hp hr i' k objs hi' (by omega) h0 h1)
 rw [k5i,y4f] at row
 exact row.putN [2,14,3,4,12,13,15,16] (by decide) rfl (by simp)
  (by intro i hi; match i,hi with | 0,_=>rfl | 1,_=>rfl | 2,_=>rfl | 3,_=>rfl | 4,_=>rfl | 5,_=>rfl)
  (by intro i hi hi'; match i,hi,hi' with | 6,_,_=>rfl | 7,_,_=>rfl)
  (by intro i hi; match i,hi with | 0,_=>rfl | 1,_=>rfl | 2,_=>rfl | 3,_=>rfl | 4,_=>rfl | 5,_=>rfl | 6,_=>rfl | 7,_=>rfl)
  (by
   intro l hl
   match l with
    | 0=>rfl
    | 1=>rfl
    | 2=>exact absurd rfl (hl 0 (by simp))
    | 3=>exact absurd rfl (hl 2 (by simp))
    | 4=>exact absurd rfl (hl 3 (by simp))
    | 5=>rfl
    | 6=>rfl
    | 7=>rfl
    | 8=>rfl
    | 9=>rfl
    | 10=>rfl
    | 11=>rfl
    | 12=>exact absurd rfl (hl 4 (by simp))
    | 13=>exact absurd rfl (hl 5 (by simp))
    | 14=>exact absurd rfl (hl 1 (by simp))
    | 15=>exact absurd rfl (hl 6 (by simp))
    | 16=>exact absurd rfl (hl 7 (by simp))
    | l+17=>rfl) rfl rfl rfl rfl
theorem u2v (hlib:Lib E) {ps:List Pc} {hs:List Hd} {rs:RW} {r:Ru} {b:List (List (List UInt8)) × List (List UInt8)} {a0:List UInt8} (n1:ps.length≤7) (n2:hs.length≤7) (m1:b.1.length≤900) (m2:b.2.length≤900) (hf:r.fs.length=hs.length) (hp:∀ p∈ps,ok1 p.ma=true∧p.ma.length≤40) (hr:∀ x∈r.fs,ok1 x=true∧x.length≤40) :
    Rn E A1 [.c (.str (B a0)),.fn J1 [.ptr 2 0,.ptr 14 0],.ptr 2 0,.ptr 3 0,.ptr 4 0] [some (.cells [.c (.list (Ps ps)),.c (.list (Hs hs)),.c (.list rs)]),some (.cells [.nils,.nils,.nils]),some (.cells [.c (.list (Ps ps))]),some (.cells [.c (.list (Hs hs))]),some (.cells [.vec 15 b.1.length,.vec 16 b.2.length,.nils]),some (.cells [.fn A0 []]),some .dead,some .dead,some .dead,some .dead,some .dead,some .dead,some .dead,some .dead,RuO r,some (.vec A4 (RA b.1)),some (.vec A2 (R1 b.2))] (.tup []) [some (.cells [.c (.list (Ps ps)),.c (.list (Hs hs)),.c (.list rs)]),some (.cells [.nils,.nils,.nils]),some (.cells [.c (.list (Ps ps))]),some (.cells [.c (.list (Hs hs))]),some (.cells [.vec 17 (b.1.length+1),.vec 18 (b.2.length+1),.nils]),some (.cells [.fn A0 []]),some .dead,some .dead,some .dead,some .dead,some .dead,some .dead,some .dead,some .dead,RuO r,some .dead,some .dead,some (.vec A4 (RA (b.1++[rowF (fun i k=>decQ (0 - mfQ ps r.fs i k)) ps.length hs.length]))),some (.vec A2 (R1 (b.2++[a0])))]:=by
 have row:=q2d (E:=E) (a0:=a0) (ps:=ps) (hs:=hs) (r:=r) (c4_0:=b.1.length) (c4_1:=b.2.length) (w5:=RA b.1) (w6:=R1 b.2) (fun i k=>decQ (0 - mfQ ps r.fs i k)) (by omega) (by omega) (by omega) (by omega) (fun i' k objs hi' hk' h0 h1=>clo_7 hlib hp hr i' k objs hi' (by omega) h0 h1)
 rw [k5i,y4f] at row
 exact row.putN [2,14,3,4,15,16,17,18] (by decide) rfl (by simp)
  (by intro i hi; match i,hi with | 0,_=>rfl | 1,_=>rfl | 2,_=>rfl | 3,_=>rfl | 4,_=>rfl | 5,_=>rfl)
  (by intro i hi hi'; match i,hi,hi' with | 6,_,_=>rfl | 7,_,_=>rfl)
  (by intro i hi; match i,hi with | 0,_=>rfl | 1,_=>rfl | 2,_=>rfl | 3,_=>rfl | 4,_=>rfl | 5,_=>rfl | 6,_=>rfl | 7,_=>rfl)
  (by
   intro l hl
   match l with
    | 0=>rfl
    | 1=>rfl
    | 2=>exact absurd rfl (hl 0 (by simp))
    | 3=>exact absurd rfl (hl 2 (by simp))
    | 4=>exact absurd rfl (hl 3 (by simp))
    | 5=>rfl
    | 6=>rfl
    | 7=>rfl
    | 8=>rfl
    | 9=>rfl
    | 10=>rfl
    | 11=>rfl
    | 12=>rfl
    | 13=>rfl
    | 14=>exact absurd rfl (hl 1 (by simp))
    | 15=>exact absurd rfl (hl 4 (by simp))
    | 16=>exact absurd rfl (hl 5 (by simp))
    | 17=>exact absurd rfl (hl 6 (by simp))
    | 18=>exact absurd rfl (hl 7 (by simp))
    | l+19=>rfl) rfl rfl rfl rfl
end Gev
namespace Gev
open Go Gb
variable {E:Env}
attribute [local irreducible] Sz
noncomputable def rlxH (ps:List Pc) (nh:Nat) (b:List (List (List UInt8)) × List (List UInt8)) (r:Ru):List (List (List UInt8)) × List (List UInt8):=(b.1++[rowF (fun i k=>decQ (mfQ ps r.fs i k)) ps.length nh],b.2++[r.hi])
noncomputable def rlxL (ps:List Pc) (nh:Nat) (b:List (List (List UInt8)) × List (List UInt8)) (r:Ru):List (List (List UInt8)) × List (List UInt8):=(b.1++[rowF (fun i k=>decQ (0 - mfQ ps r.fs i k)) ps.length nh],b.2++[decQ (0 - rdv r.lo)])
noncomputable def rlx3 (ps:List Pc) (nh:Nat) (b:List (List (List UInt8)) × List (List UInt8)) (r:Ru):List (List (List UInt8)) × List (List UInt8) :=
 if r.kd=1 then (if r.hi=[] then (if r.lo=[] then b else rlxL ps nh b r) else (if r.lo=[] then rlxH ps nh b r else rlxL ps nh (rlxH ps nh b r) r)) else b
theorem u2z (hlib:Lib E) {ps:List Pc} {hs:List Hd} {rs:List Ru} {n:Int} {b0:List (List (List UInt8)) × List (List UInt8)} (n1:ps.length≤7) (n2:hs.length≤7) (n3:rs.length≤17) (m1:b0.1.length≤100) (m2:b0.2.length≤100) (hp:∀ p∈ps,ok1 p.ma=true∧p.ma.length≤40)
    (hR:∀ r∈rs,r.kd=1→Rr ps hs r) :
    Lp E 12 A9 3 (J2 n (Rs rs) ((Rs rs).length:Int) 0 (Ps ps) (Hs hs) (Rs rs) (Ps ps) (Hs hs) b0.1.length b0.2.length (RA b0.1) (R1 b0.2)) (.exit 6)
     (z9s n (Ps ps) (Hs hs) (Rs rs) (Ps ps) (Hs hs) (rs.foldl (rlx3 ps hs.length) b0).1.length (rs.foldl (rlx3 ps hs.length) b0).2.length (RA (rs.foldl (rlx3 ps hs.length) b0).1) (R1 (rs.foldl (rlx3 ps hs.length) b0).2)):=by
 have l3:=y0n rs
 have:=I9 (E:=E) (l:=rs) (n:=12) (F:=A9) (k:=3) (rlx3 ps hs.length) (fun i b=>b.1.length≤100+2*i∧b.2.length≤100+2*i)
  (fun i b=>J2 n (Rs rs) ((Rs rs).length:Int) (i:Nat) (Ps ps) (Hs hs) (Rs rs) (Ps ps) (Hs hs) b.1.length b.2.length (RA b.1) (R1 b.2)) (oe:=.exit 6)
  (fin:=fun b=>z9s n (Ps ps) (Hs hs) (Rs rs) (Ps ps) (Hs hs) b.1.length b.2.length (RA b.1) (R1 b.2)) (fun b hb=>k1d (by omega))
  (fun i r b hr hb=>by
   have hi:=C1 hr
   have g:=A5 (z5h hr)
   have b1:(i:Int) < ((Rs rs).length:Int):=by omega
   have b2:(0:Int)≤(i:Nat):=by omega
   have hm:=List.mem_of_getElem? hr
   have hL:=y4e
   unfold rlx3
   by_cases k1:r.kd=1
   rotate_left
   · rw [if_neg k1]; exact ⟨by omega,fun o s ih=>k9d b1 b2 g k1 (wi (by omega)) ih⟩
   rw [if_pos k1]
   have hrr:=hR r hm k1
   have hx:∀ x∈r.fs,ok1 x=true∧x.length≤40:=fun x h=>⟨hrr.o x h,hrr.s.2.1 x h⟩
   have sub:r.lo≠[]→Fn E z0a [.c (.str ⟨#[48]⟩),.c (.str (B r.lo))] (.c (.str (B (decQ (0 - rdv r.lo))))):=fun e=>by
    have o:=x7s hrr.lo e
    have m:=y7d hlib Sz.zero (z2w o hrr.s.2.2.1) (by omega)
    rw [← x5r,y1u o] at m
    exact m
   by_cases k2:r.hi=[]
   · rw [if_pos k2]
     by_cases k3:r.lo=[]
     · rw [if_pos k3]; exact ⟨by omega,fun o s ih=>k9h b1 b2 g k1 (G6.2 k2) (G6.2 k3) (wi (by omega)) ih⟩
     · rw [if_neg k3]
       refine ⟨⟨by unfold rlxL; rw [List.length_append]; simp; omega,by unfold rlxL; rw [List.length_append]; simp; omega⟩,fun o s ih=>?_⟩
       have row:=u2u (E:=E) hlib (rs:=Rs rs) (b:=b) (a0:=decQ (0 - rdv r.lo)) n1 n2 (by omega) (by omega) hrr.f hp hx
       unfold rlxL at ih
       rw [List.length_append,List.length_append] at ih
       exact k9g b1 b2 g k1 (G6.2 k2) (fun h=>k3 (G6.1 h)) (sub k3) row (wi (by omega)) ih
   · rw [if_neg k2]
     have row:=u2t (E:=E) hlib (rs:=Rs rs) (b:=b) (a0:=r.hi) n1 n2 (by omega) (by omega) hrr.f hp hx
     by_cases k3:r.lo=[]
     · rw [if_pos k3]
       refine ⟨⟨by unfold rlxH; rw [List.length_append]; simp; omega,by unfold rlxH; rw [List.length_append]; simp; omega⟩,fun o s ih=>?_⟩
       unfold rlxH at ih
       rw [List.length_append,List.length_append] at ih
       exact k9f b1 b2 g k1 (fun h=>k2 (G6.1 h)) row (G6.2 k3) (wi (by omega)) ih
     · rw [if_neg k3]
       refine ⟨⟨by unfold rlxL rlxH; rw [List.length_append,List.length_append]; simp; omega,by unfold rlxL rlxH; rw [List.length_append,List.length_append]; simp; omega⟩,fun o s ih=>?_⟩
       have row2:=u2v (E:=E) hlib (rs:=Rs rs) (b:=rlxH ps hs.length b r) (a0:=decQ (0 - rdv r.lo)) n1 n2 (by unfold rlxH; rw [List.length_append]; simp; omega) (by unfold rlxH; rw [List.length_append]; simp; omega) hrr.f hp hx
       have e1:(rlxH ps hs.length b r).1.length=b.1.length+1:=by unfold rlxH; rw [List.length_append]; rfl
       have e2:(rlxH ps hs.length b r).2.length=b.2.length+1:=by unfold rlxH; rw [List.length_append]; rfl
       rw [e1,e2] at row2
       rw [show (rlxL ps hs.length (rlxH ps hs.length b r) r).1.length=b.1.length+1+1 by unfold rlxL; rw [List.length_append,e1]; rfl,show (rlxL ps hs.length (rlxH ps hs.length b r) r).2.length=b.2.length+1+1 by unfold rlxL; rw [List.length_append,e2]; rfl] at ih
       exact k9e b1 b2 g k1 (fun h=>k2 (G6.1 h)) row (fun h=>k3 (G6.1 h)) (sub k3) row2 (wi (by omega)) ih)
  rs.length 0 b0 (by omega) ⟨by omega,by omega⟩
 rw [List.drop_zero] at this
 exact this.2
end Gev
namespace Gev
open Go Gb
variable {E:Env}
attribute [local irreducible] Sz
theorem j4b {α:Type} (f:List (List (List UInt8)) × List (List UInt8)→α→List (List (List UInt8)) × List (List UInt8)) (hf:∀ b x,(f b x).1.length=b.1.length+1∧(f b x).2.length=b.2.length+1):∀ (l:List α) b,(l.foldl f b).1.length=b.1.length+l.length∧(l.foldl f b).2.length=b.2.length+l.length
 | [],b=>⟨rfl,rfl⟩
 | x::l,b=>by
  have h:=hf b x
  have:=j4b f hf l (f b x)
  rw [List.foldl_cons,List.length_cons]; omega
noncomputable def k9w (ps:List Pc) (hs:List Hd) (rs:List Ru):List (List (List UInt8)) × List (List UInt8) :=
 rs.foldl (rlx3 ps hs.length) (hs.zipIdx.foldl (rlx2 ps hs.length) (hs.zipIdx.foldl (rlx1 ps hs.length) (ps.zipIdx.foldl (rlx0 ps.length hs.length) ([],[]))))
def rlxC (ps:List Pc) (hs:List Hd):List (List UInt8):=ps.flatMap fun p=>List.replicate hs.length p.wo
noncomputable def rlxE (ps:List Pc) (hs:List Hd) (rs:List Ru):Int:=if chkE ps hs rs=0 then (if ps.length*hs.length > 12∨(k9w ps hs rs).2.length > 12 then 8 else 0) else 1
theorem q0k (hlib:Lib E) {ps:List Pc} {hs:List Hd} {rs:List Ru} (h:Sp ps hs rs):Fn E A9 [.agg (Pb ps hs rs)]
    (if rlxE ps hs rs=0 then .tup [.agg [.list (RA (k9w ps hs rs).1),.list (R1 (k9w ps hs rs).2),.list (R1 (rlxC ps hs))],.c (.i64 0)] else .tup [.agg [.list [],.list [],.list []],.c (.i64 (rlxE ps hs rs))]):=by
 have hC:=z8a hlib h
 have n1:=h.sh.np
 have n2:=h.sh.nh
 have n3:=h.nr
 have l1:=z3q ps
 have l2:=z0k hs
 unfold rlxE
 by_cases c0:chkE ps hs rs=0
 rotate_left
 · rw [if_neg c0,if_neg (by decide)]; exact q4u hC c0
 rw [if_pos c0]
 have hcc:=(k5m c0).1
 have z1:=j4b (rlx0 ps.length hs.length) (fun b x=>by unfold rlx0; simp) ps.zipIdx ([],[])
 have z2:=j4b (rlx1 ps hs.length) (fun b x=>by unfold rlx1; simp) hs.zipIdx (ps.zipIdx.foldl (rlx0 ps.length hs.length) ([],[]))
 have z3:=j4b (rlx2 ps hs.length) (fun b x=>by unfold rlx2; simp) hs.zipIdx (hs.zipIdx.foldl (rlx1 ps hs.length) (ps.zipIdx.foldl (rlx0 ps.length hs.length) ([],[])))
 simp only [List.length_zipIdx,List.length_nil] at z1 z2 z3
 have q0:=u2w (E:=E) hlib (ps:=ps) (hs:=hs) (rs:=Rs rs) (n:=((ps.length*hs.length:Nat):Int)) n1 n2 fun p hp=>(j0l hcc hp).2.1
 have q1:=u2x (E:=E) (ps:=ps) (hs:=hs) (rs:=Rs rs) (n:=((ps.length*hs.length:Nat):Int)) (b0:=ps.zipIdx.foldl (rlx0 ps.length hs.length) ([],[])) n1 n2 (by omega) (by omega)
 have q2:=u2y (E:=E) (ps:=ps) (hs:=hs) (rs:=Rs rs) (n:=((ps.length*hs.length:Nat):Int)) (b0:=hs.zipIdx.foldl (rlx1 ps hs.length) (ps.zipIdx.foldl (rlx0 ps.length hs.length) ([],[]))) n1 n2 (by omega) (by omega)
 have q3:=u2z (E:=E) hlib (ps:=ps) (hs:=hs) (rs:=rs) (n:=((ps.length*hs.length:Nat):Int)) (b0:=hs.zipIdx.foldl (rlx2 ps hs.length) (hs.zipIdx.foldl (rlx1 ps hs.length) (ps.zipIdx.foldl (rlx0 ps.length hs.length) ([],[])))) n1 n2 n3 (by omega) (by omega) (fun p hp=>⟨(u1v hcc hp).1,(h.sh.p p hp).1⟩) fun r hr hk=>by
  obtain ⟨i,hi⟩:=List.mem_iff_getElem?.1 hr
  exact Rr.of h c0 hi hk
 have e:IntKind.i64.wrap (((Ps ps).length:Int)*((Hs hs).length:Int))=((ps.length*hs.length:Nat):Int):=by
  rw [l1,l2]
  have hm:ps.length*hs.length≤7*7:=Nat.mul_le_mul n1 n2
  exact wi ⟨by rw [Int.natCast_mul],by omega,by omega⟩
 by_cases c1:ps.length*hs.length > 12
 · rw [show (if ps.length*hs.length > 12∨(k9w ps hs rs).2.length > 12 then (8:Int) else 0)=8 from if_pos (.inl c1),if_neg (by decide)]; exact q4v hC c0 q0 q1 q2 q3 (by omega) e
 by_cases c2:(k9w ps hs rs).2.length > 12
 · rw [show (if ps.length*hs.length > 12∨(k9w ps hs rs).2.length > 12 then (8:Int) else 0)=8 from if_pos (.inr c2),if_neg (by decide)]; exact q4w hC c0 q0 q1 q2 q3 (by omega) (by unfold k9w at c2; omega) e
 rw [show (if ps.length*hs.length > 12∨(k9w ps hs rs).2.length > 12 then (8:Int) else 0)=0 from if_neg (fun h=>h.elim c1 c2),if_pos rfl]
 exact q4x hC c0 q0 q1 q2 q3 (by omega) (by unfold k9w at c2; omega) (u3a n1 n2) e (by rw [← u0h,List.take_length]; rfl) (by rw [← z6g,List.take_length]; rfl) (by rw [← z6g,List.take_length]; rfl)
end Gev
namespace Go.Proofs
open Go.Shelf
def Tryz.lays169_ren:Go.Shelf.Ren:=⟨fun | 169=>282 | n=>n,fun | 70=>271 | 9=>9 | 0=>0 | 72=>273 | 37=>190 | 127=>294 | 3=>3 | 5=>5 | n=>n,fun | n=>n⟩
theorem Tryz.lays169:Go.Proofs.Lays.n169 Tryz.prog Tryz.lays169_ren:={
 mixed:=by kernel_rfl
 f169:=Tryz.func282.trans (congrArg some (by kernel_rfl))
 t0:=Tryz.underlying0
 a0:=Tryz.isAgg0
 z0:=Tryz.sizeOf0
 v0:=Tryz.zeroValue0
 t3:=Tryz.underlying3
 a3:=Tryz.isAgg3
 z3:=Tryz.sizeOf3
 v3:=Tryz.zeroValue3
 t9:=Tryz.underlying9
 a9:=Tryz.isAgg9
 z9:=Tryz.sizeOf9
 v9:=Tryz.zeroValue9
 t37:=Tryz.underlying190
 a37:=Tryz.isAgg190
 z37:=Tryz.sizeOf190
 v37:=Tryz.zeroValue190
 t70:=Tryz.underlying271
 a70:=Tryz.isAgg271
 z70:=Tryz.sizeOf271
 v70:=Tryz.zeroValue271
 t72:=Tryz.underlying273
 a72:=Tryz.isAgg273
 z72:=Tryz.sizeOf273
 v72:=Tryz.zeroValue273
 t127:=Tryz.underlying294
 a127:=Tryz.isAgg294
 z127:=Tryz.sizeOf294
 v127:=Tryz.zeroValue294 }
theorem Tryz.Builder_Extra_169:Builder.Extra Tryz.prog Tryz.lays169_ren:={
 sizeBuilder:=by kernel_rfl
 liesBuilder:=by kernel_rfl
 t5:=Tryz.underlying5
 a5:=Tryz.isAgg5
 z5:=Tryz.sizeOf5
 v5:=Tryz.zeroValue5
 infoByte:=by kernel_rfl
 cellsByte:=by kernel_rfl
 sizeByte:=by kernel_rfl
 neB5:=by decide }
def Tryz.lays103_ren:Go.Shelf.Ren:=⟨fun | 103=>230 | 210=>256 | 206=>275 | n=>n,fun | 9=>9 | 4=>4 | 24=>232 | 3=>3 | n=>n,fun | n=>n⟩
theorem Tryz.lays103:Go.Proofs.Lays.n103 Tryz.prog Tryz.lays103_ren:={
 mixed:=by kernel_rfl
 f103:=Tryz.func230.trans (congrArg some (by kernel_rfl))
 f206:=Tryz.func275.trans (congrArg some (by kernel_rfl))
 f210:=Tryz.func256.trans (congrArg some (by kernel_rfl))
 t3:=Tryz.underlying3
 a3:=Tryz.isAgg3
 z3:=Tryz.sizeOf3
 v3:=Tryz.zeroValue3
 t4:=Tryz.underlying4
 a4:=Tryz.isAgg4
 z4:=Tryz.sizeOf4
 v4:=Tryz.zeroValue4
 t9:=Tryz.underlying9
 a9:=Tryz.isAgg9
 z9:=Tryz.sizeOf9
 v9:=Tryz.zeroValue9
 t24:=Tryz.underlying232
 a24:=Tryz.isAgg232
 z24:=Tryz.sizeOf232
 v24:=Tryz.zeroValue232 }
open Go.RowKit in
theorem Tryz.strings_CutPrefix (s p:ByteArray) (w:World) :
    Calls Tryz.prog 230 #[.string s,.string p] w fun e w'=>e=.returned (.tuple #[.string ⟨(Lib.trimPrefix s.data.toList p.data.toList).toArray⟩,.bool (Lib.hasPrefix s.data.toList p.data.toList)])∧w'=w:=Any.strings_CutPrefix Tryz.lays103 s p w
open Go.RowKit in
theorem Tryz.Builder_String_any_k (B b:Nat) (l:List UInt8) (w:World) (h:Lib.IsBuilderF 273 5 B b (Lib.byteCells l) w) (hBw:B≤w.heap.size) :
    Calls Tryz.prog 282 #[.pointer (some ⟨b,0,none⟩)] w fun e w'=>e=.returned (.string ⟨l.toArray⟩)∧(Lib.IsBuilderF 273 5 B b (Lib.byteCells l) w'∧Below B w w'∧Lib.OthersKept 5 (some b) w w'):=Any.Builder_String_any_k Tryz.lays169 Tryz.Builder_Extra_169 B b l w h hBw
def Tryz.lays283_ren:Go.Shelf.Ren:=⟨fun | 283=>224 | n=>n,fun | 3=>3 | 9=>9 | 4=>4 | n=>n,fun | n=>n⟩
theorem Tryz.lays283:Go.Proofs.Lays.n283 Tryz.prog Tryz.lays283_ren:={
 mixed:=by kernel_rfl
 f283:=Tryz.func224.trans (congrArg some (by kernel_rfl))
 t3:=Tryz.underlying3
 a3:=Tryz.isAgg3
 z3:=Tryz.sizeOf3
 v3:=Tryz.zeroValue3
 t4:=Tryz.underlying4
 a4:=Tryz.isAgg4
 z4:=Tryz.sizeOf4
 v4:=Tryz.zeroValue4
 t9:=Tryz.underlying9
 a9:=Tryz.isAgg9
 z9:=Tryz.sizeOf9
 v9:=Tryz.zeroValue9 }
open Go.Lib in
theorem Tryz.internal_strconv_small (i:Nat) (h:i < 100) (w:World) :
    Calls Tryz.prog 224 #[.int .i64 i] w fun e w'=>e=.returned (.string ⟨(Lib.decDigits i).toArray⟩)∧w'=w:=Any.internal_strconv_small Tryz.lays283 i h w
def Tryz.laysM284_ren:Go.Shelf.Ren:=⟨fun | 284=>225 | 129=>242 | 317=>241 | 318=>243 | n=>n,fun | 53=>176 | 3=>3 | 212=>247 | 0=>0 | 4=>4 | 46=>170 | 5=>5 | 9=>9 | n=>n,fun | 17=>0 | n=>n⟩
theorem Tryz.laysM284:Go.Proofs.LaysM.n284 Tryz.prog Tryz.laysM284_ren:={
 mixed:=by kernel_rfl
 f129:=Tryz.func242.trans (congrArg some (by kernel_rfl))
 f284:=Tryz.func225.trans (congrArg some (by kernel_rfl))
 f317:=Tryz.func241.trans (congrArg some (by kernel_rfl))
 f318:=Tryz.func243.trans (congrArg some (by kernel_rfl))
 t0:=Tryz.underlying0
 a0:=Tryz.isAgg0
 z0:=Tryz.sizeOf0
 v0:=Tryz.zeroValue0
 t3:=Tryz.underlying3
 a3:=Tryz.isAgg3
 z3:=Tryz.sizeOf3
 v3:=Tryz.zeroValue3
 t4:=Tryz.underlying4
 a4:=Tryz.isAgg4
 z4:=Tryz.sizeOf4
 v4:=Tryz.zeroValue4
 t5:=Tryz.underlying5
 a5:=Tryz.isAgg5
 z5:=Tryz.sizeOf5
 v5:=Tryz.zeroValue5
 t9:=Tryz.underlying9
 a9:=Tryz.isAgg9
 z9:=Tryz.sizeOf9
 v9:=Tryz.zeroValue9
 t46:=Tryz.underlying170
 a46:=Tryz.isAgg170
 z46:=Tryz.sizeOf170
 v46:=Tryz.zeroValue170
 t53:=Tryz.underlying176
 a53:=Tryz.isAgg176
 z53:=Tryz.sizeOf176
 v53:=Tryz.zeroValue176
 t212:=Tryz.underlying247
 a212:=Tryz.isAgg247
 z212:=Tryz.sizeOf247
 v212:=Tryz.zeroValue247
 g17:=by kernel_rfl
 i0:=by kernel_rfl
 i3:=by kernel_rfl
 i4:=by kernel_rfl
 i5:=by kernel_rfl
 i9:=by kernel_rfl
 i46:=by kernel_rfl
 i53:=by kernel_rfl
 i212:=by kernel_rfl
 m17:=by kernel_rfl }
open Go.Lib in
theorem Tryz.internal_strconv_numDigits (u:Nat) (h1:1≤u) (h2:u < 18446744073709551616) (w:World) (htab:Lib.TabIs Tryz.prog w "internal/strconv.uint64pow10" .u64 Lib.pow10Tab) :
    Calls Tryz.prog 225 #[.int .u64 u] w fun e w'=>e=.returned (.int .i64 (Lib.nDigits u))∧w'=w:=Any.internal_strconv_numDigits Tryz.laysM284 u h1 h2 w htab
def Tryz.lays285_ren:Go.Shelf.Ren:=⟨fun | 285=>226 | n=>n,fun | 37=>190 | 53=>176 | 3=>3 | 4=>4 | 51=>130 | 9=>9 | 5=>5 | 0=>0 | n=>n,fun | n=>n⟩
theorem Tryz.lays285:Go.Proofs.Lays.n285 Tryz.prog Tryz.lays285_ren:={
 mixed:=by kernel_rfl
 f285:=Tryz.func226.trans (congrArg some (by kernel_rfl))
 t0:=Tryz.underlying0
 a0:=Tryz.isAgg0
 z0:=Tryz.sizeOf0
 v0:=Tryz.zeroValue0
 t3:=Tryz.underlying3
 a3:=Tryz.isAgg3
 z3:=Tryz.sizeOf3
 v3:=Tryz.zeroValue3
 t4:=Tryz.underlying4
 a4:=Tryz.isAgg4
 z4:=Tryz.sizeOf4
 v4:=Tryz.zeroValue4
 t5:=Tryz.underlying5
 a5:=Tryz.isAgg5
 z5:=Tryz.sizeOf5
 v5:=Tryz.zeroValue5
 t9:=Tryz.underlying9
 a9:=Tryz.isAgg9
 z9:=Tryz.sizeOf9
 v9:=Tryz.zeroValue9
 t37:=Tryz.underlying190
 a37:=Tryz.isAgg190
 z37:=Tryz.sizeOf190
 v37:=Tryz.zeroValue190
 t51:=Tryz.underlying130
 a51:=Tryz.isAgg130
 z51:=Tryz.sizeOf130
 v51:=Tryz.zeroValue130
 t53:=Tryz.underlying176
 a53:=Tryz.isAgg176
 z53:=Tryz.sizeOf176
 v53:=Tryz.zeroValue176 }
open Go.RowKit Go.Sort Go.Lib in
theorem Tryz.internal_strconv_formatBase10 (blk off cap:Nat) (u:Nat) (d:Array UInt8) (w:World) (hH:Holds (fun (b:UInt8)=>Value.int .u8 (b.toNat:Int)) w blk off d) (hu:u < 10 ^ d.size) (hu64:u < 18446744073709551616) (hsz:d.size < 4611686018427387904) :
    Calls Tryz.prog 226 #[.slice (some ⟨blk,off,none⟩) d.size cap,.int .u64 u] w fun e w' =>
     e=.returned (.tuple #[])∧∃ (n v':Nat) (dk:Array UInt8),w'=(putRow (fun (b:UInt8)=>Value.int .u8 (b.toNat:Int)) w blk off dk).drewN n∧FmtInv d.size u 0 v' dk:=Any.internal_strconv_formatBase10 Tryz.lays285 blk off cap u d w hH hu hu64 hsz
def Tryz.laysM171_ren:Go.Shelf.Ren:=⟨fun | 171=>146 | 243=>188 | 246=>209 | 283=>224 | 284=>225 | 285=>226 | 286=>227 | 129=>242 | 317=>241 | 318=>243 | 319=>244 | 320=>245 | 337=>266 | 338=>267 | n=>n,fun | 3=>3 | 9=>9 | 2=>2 | 4=>4 | 171=>226 | 0=>0 | 53=>176 | 37=>190 | 5=>5 | 173=>229 | 212=>247 | 51=>130 | 20=>20 | 213=>248 | 46=>170 | 232=>283 | 233=>284 | n=>n,fun | 17=>0 | 18=>2 | 19=>3 | n=>n⟩
theorem Tryz.laysM171:Go.Proofs.LaysM.n171 Tryz.prog Tryz.laysM171_ren:={
 mixed:=by kernel_rfl
 f129:=Tryz.func242.trans (congrArg some (by kernel_rfl))
 f171:=Tryz.func146.trans (congrArg some (by kernel_rfl))
 f243:=Tryz.func188.trans (congrArg some (by kernel_rfl))
 f246:=Tryz.func209.trans (congrArg some (by kernel_rfl))
 f283:=Tryz.func224.trans (congrArg some (by kernel_rfl))
 f284:=Tryz.func225.trans (congrArg some (by kernel_rfl))
 f285:=Tryz.func226.trans (congrArg some (by kernel_rfl))
 f286:=Tryz.func227.trans (congrArg some (by kernel_rfl))
 f317:=Tryz.func241.trans (congrArg some (by kernel_rfl))
 f318:=Tryz.func243.trans (congrArg some (by kernel_rfl))
 f319:=Tryz.func244.trans (congrArg some (by kernel_rfl))
 f320:=Tryz.func245.trans (congrArg some (by kernel_rfl))
 f337:=Tryz.func266.trans (congrArg some (by kernel_rfl))
 f338:=Tryz.func267.trans (congrArg some (by kernel_rfl))
 t0:=Tryz.underlying0
 a0:=Tryz.isAgg0
 z0:=Tryz.sizeOf0
 v0:=Tryz.zeroValue0
 t2:=Tryz.underlying2
 a2:=Tryz.isAgg2
 z2:=Tryz.sizeOf2
 v2:=Tryz.zeroValue2
 t3:=Tryz.underlying3
 a3:=Tryz.isAgg3
 z3:=Tryz.sizeOf3
 v3:=Tryz.zeroValue3
 t4:=Tryz.underlying4
 a4:=Tryz.isAgg4
 z4:=Tryz.sizeOf4
 v4:=Tryz.zeroValue4
 t5:=Tryz.underlying5
 a5:=Tryz.isAgg5
 z5:=Tryz.sizeOf5
 v5:=Tryz.zeroValue5
 t9:=Tryz.underlying9
 a9:=Tryz.isAgg9
 z9:=Tryz.sizeOf9
 v9:=Tryz.zeroValue9
 t20:=Tryz.underlying20
 a20:=Tryz.isAgg20
 z20:=Tryz.sizeOf20
 v20:=Tryz.zeroValue20
 t37:=Tryz.underlying190
 a37:=Tryz.isAgg190
 z37:=Tryz.sizeOf190
 v37:=Tryz.zeroValue190
 t46:=Tryz.underlying170
 a46:=Tryz.isAgg170
 z46:=Tryz.sizeOf170
 v46:=Tryz.zeroValue170
 t51:=Tryz.underlying130
 a51:=Tryz.isAgg130
 z51:=Tryz.sizeOf130
 v51:=Tryz.zeroValue130
 t53:=Tryz.underlying176
 a53:=Tryz.isAgg176
 z53:=Tryz.sizeOf176
 v53:=Tryz.zeroValue176
 t171:=Tryz.underlying226
 a171:=Tryz.isAgg226
 z171:=Tryz.sizeOf226
 v171:=Tryz.zeroValue226
 t173:=Tryz.underlying229
 a173:=Tryz.isAgg229
 z173:=Tryz.sizeOf229
 v173:=Tryz.zeroValue229
 t212:=Tryz.underlying247
 a212:=Tryz.isAgg247
 z212:=Tryz.sizeOf247
 v212:=Tryz.zeroValue247
 t213:=Tryz.underlying248
 a213:=Tryz.isAgg248
 z213:=Tryz.sizeOf248
 t232:=Tryz.underlying283
 a232:=Tryz.isAgg283
 z232:=Tryz.sizeOf283
 v232:=Tryz.zeroValue283
 t233:=Tryz.underlying284
 a233:=Tryz.isAgg284
 z233:=Tryz.sizeOf284
 v233:=Tryz.zeroValue284
 g17:=by kernel_rfl
 g18:=by kernel_rfl
 g19:=by kernel_rfl
 i0:=by kernel_rfl
 i2:=by kernel_rfl
 i3:=by kernel_rfl
 i4:=by kernel_rfl
 i5:=by kernel_rfl
 i9:=by kernel_rfl
 i20:=by kernel_rfl
 i37:=by kernel_rfl
 i46:=by kernel_rfl
 i51:=by kernel_rfl
 i53:=by kernel_rfl
 i171:=by kernel_rfl
 i173:=by kernel_rfl
 i212:=by kernel_rfl
 i232:=by kernel_rfl
 i233:=by kernel_rfl
 m17:=by kernel_rfl
 m18:=by kernel_rfl
 m19:=by kernel_rfl }
open Go.RowKit Go.Sort Go.Lib in
theorem Tryz.strconv_Itoa (n:Int) (h0:-9223372036854775808≤n) (h1:n≤9223372036854775807) (w:World) (htab:Lib.TabIs Tryz.prog w "internal/strconv.uint64pow10" .u64 Lib.pow10Tab) :
    Calls Tryz.prog 146 #[.int .i64 n] w fun e w'=>e=.returned (.string ⟨(Lib.itoa n).toArray⟩)∧∃ k os,w'=grow (w.drewN k) os:=Any.strconv_Itoa Tryz.laysM171 n h0 h1 w htab
def Tryz.laysM173_ren:Go.Shelf.Ren:=⟨fun | 173=>288 | 246=>209 | 283=>224 | 284=>225 | 285=>226 | 286=>227 | 129=>242 | 317=>241 | 318=>243 | 319=>244 | 320=>245 | 337=>266 | 338=>267 | n=>n,fun | 2=>2 | 3=>3 | 9=>9 | 4=>4 | 171=>226 | 0=>0 | 53=>176 | 37=>190 | 5=>5 | 173=>229 | 212=>247 | 51=>130 | 20=>20 | 213=>248 | 46=>170 | 232=>283 | 233=>284 | n=>n,fun | 17=>0 | 18=>2 | 19=>3 | n=>n⟩
theorem Tryz.laysM173:Go.Proofs.LaysM.n173 Tryz.prog Tryz.laysM173_ren:={
 mixed:=by kernel_rfl
 f129:=Tryz.func242.trans (congrArg some (by kernel_rfl))
 f173:=Tryz.func288.trans (congrArg some (by kernel_rfl))
 f246:=Tryz.func209.trans (congrArg some (by kernel_rfl))
 f283:=Tryz.func224.trans (congrArg some (by kernel_rfl))
 f284:=Tryz.func225.trans (congrArg some (by kernel_rfl))
 f285:=Tryz.func226.trans (congrArg some (by kernel_rfl))
 f286:=Tryz.func227.trans (congrArg some (by kernel_rfl))
 f317:=Tryz.func241.trans (congrArg some (by kernel_rfl))
 f318:=Tryz.func243.trans (congrArg some (by kernel_rfl))
 f319:=Tryz.func244.trans (congrArg some (by kernel_rfl))
 f320:=Tryz.func245.trans (congrArg some (by kernel_rfl))
 f337:=Tryz.func266.trans (congrArg some (by kernel_rfl))
 f338:=Tryz.func267.trans (congrArg some (by kernel_rfl))
 t0:=Tryz.underlying0
 a0:=Tryz.isAgg0
 z0:=Tryz.sizeOf0
 v0:=Tryz.zeroValue0
 t2:=Tryz.underlying2
 a2:=Tryz.isAgg2
 z2:=Tryz.sizeOf2
 v2:=Tryz.zeroValue2
 t3:=Tryz.underlying3
 a3:=Tryz.isAgg3
 z3:=Tryz.sizeOf3
 v3:=Tryz.zeroValue3
 t4:=Tryz.underlying4
 a4:=Tryz.isAgg4
 z4:=Tryz.sizeOf4
 v4:=Tryz.zeroValue4
 t5:=Tryz.underlying5
 a5:=Tryz.isAgg5
 z5:=Tryz.sizeOf5
 v5:=Tryz.zeroValue5
 t9:=Tryz.underlying9
 a9:=Tryz.isAgg9
 z9:=Tryz.sizeOf9
 v9:=Tryz.zeroValue9
 t20:=Tryz.underlying20
 a20:=Tryz.isAgg20
 z20:=Tryz.sizeOf20
 v20:=Tryz.zeroValue20
 t37:=Tryz.underlying190
 a37:=Tryz.isAgg190
 z37:=Tryz.sizeOf190
 v37:=Tryz.zeroValue190
 t46:=Tryz.underlying170
 a46:=Tryz.isAgg170
 z46:=Tryz.sizeOf170
 v46:=Tryz.zeroValue170
 t51:=Tryz.underlying130
 a51:=Tryz.isAgg130
 z51:=Tryz.sizeOf130
 v51:=Tryz.zeroValue130
 t53:=Tryz.underlying176
 a53:=Tryz.isAgg176
 z53:=Tryz.sizeOf176
 v53:=Tryz.zeroValue176
 t171:=Tryz.underlying226
 a171:=Tryz.isAgg226
 z171:=Tryz.sizeOf226
 v171:=Tryz.zeroValue226
 t173:=Tryz.underlying229
 a173:=Tryz.isAgg229
 z173:=Tryz.sizeOf229
 v173:=Tryz.zeroValue229
 t212:=Tryz.underlying247
 a212:=Tryz.isAgg247
 z212:=Tryz.sizeOf247
 v212:=Tryz.zeroValue247
 t213:=Tryz.underlying248
 a213:=Tryz.isAgg248
 z213:=Tryz.sizeOf248
 t232:=Tryz.underlying283
 a232:=Tryz.isAgg283
 z232:=Tryz.sizeOf283
 v232:=Tryz.zeroValue283
 t233:=Tryz.underlying284
 a233:=Tryz.isAgg284
 z233:=Tryz.sizeOf284
 v233:=Tryz.zeroValue284
 g17:=by kernel_rfl
 g18:=by kernel_rfl
 g19:=by kernel_rfl
 i0:=by kernel_rfl
 i2:=by kernel_rfl
 i3:=by kernel_rfl
 i4:=by kernel_rfl
 i5:=by kernel_rfl
 i9:=by kernel_rfl
 i20:=by kernel_rfl
 i37:=by kernel_rfl
 i46:=by kernel_rfl
 i51:=by kernel_rfl
 i53:=by kernel_rfl
 i171:=by kernel_rfl
 i173:=by kernel_rfl
 i212:=by kernel_rfl
 i232:=by kernel_rfl
 i233:=by kernel_rfl
 m17:=by kernel_rfl
 m18:=by kernel_rfl
 m19:=by kernel_rfl }
open Go.RowKit Go.Sort Go.Lib in
theorem Tryz.strconv_FormatInt_10 (n:Int) (h0:-9223372036854775808≤n) (h1:n≤9223372036854775807) (w:World) (htab:Lib.TabIs Tryz.prog w "internal/strconv.uint64pow10" .u64 Lib.pow10Tab) :
    Calls Tryz.prog 288 #[.int .i64 n,.int .i64 10] w fun e w'=>e=.returned (.string ⟨(Lib.itoa n).toArray⟩)∧∃ k os,w'=grow (w.drewN k) os:=Any.strconv_FormatInt_10 Tryz.laysM173 n h0 h1 w htab
def Tryz.laysC174_ren:Go.Shelf.Ren:=⟨fun | 174=>287 | 247=>302 | 245=>292 | 287=>291 | 279=>306 | 280=>307 | 281=>308 | 282=>309 | 321=>304 | 322=>305 | 316=>315 | 171=>146 | 205=>316 | 243=>188 | 246=>209 | 283=>224 | 284=>225 | 285=>226 | 286=>227 | 129=>242 | 317=>241 | 318=>243 | 319=>244 | 320=>245 | 337=>266 | 338=>267 | n=>n,fun | 9=>9 | 3=>3 | 2=>2 | 75=>267 | 85=>285 | 4=>4 | 167=>299 | 5=>5 | 53=>176 | 175=>268 | 46=>170 | 168=>301 | 37=>190 | 0=>0 | 210=>312 | 21=>21 | 127=>294 | 145=>317 | 143=>315 | 171=>226 | 173=>229 | 212=>247 | 51=>130 | 20=>20 | 213=>248 | 232=>283 | 233=>284 | 80=>224 | n=>n,fun | 15=>4 | 16=>5 | 17=>0 | 18=>2 | 19=>3 | n=>n⟩
theorem Tryz.laysC174:Go.Proofs.LaysC.n174 Tryz.prog Tryz.laysC174_ren:={
 mixed:=by kernel_rfl
 f129:=Tryz.func242.trans (congrArg some (by kernel_rfl))
 f171:=Tryz.func146.trans (congrArg some (by kernel_rfl))
 f174:=Tryz.func287.trans (congrArg some (by kernel_rfl))
 f205:=Tryz.func316.trans (congrArg some (by kernel_rfl))
 f243:=Tryz.func188.trans (congrArg some (by kernel_rfl))
 f245:=Tryz.func292.trans (congrArg some (by kernel_rfl))
 f246:=Tryz.func209.trans (congrArg some (by kernel_rfl))
 f247:=Tryz.func302.trans (congrArg some (by kernel_rfl))
 f279:=Tryz.func306.trans (congrArg some (by kernel_rfl))
 f280:=Tryz.func307.trans (congrArg some (by kernel_rfl))
 f281:=Tryz.func308.trans (congrArg some (by kernel_rfl))
 f282:=Tryz.func309.trans (congrArg some (by kernel_rfl))
 f283:=Tryz.func224.trans (congrArg some (by kernel_rfl))
 f284:=Tryz.func225.trans (congrArg some (by kernel_rfl))
 f285:=Tryz.func226.trans (congrArg some (by kernel_rfl))
 f286:=Tryz.func227.trans (congrArg some (by kernel_rfl))
 f287:=Tryz.func291.trans (congrArg some (by kernel_rfl))
 f316:=Tryz.func315.trans (congrArg some (by kernel_rfl))
 f317:=Tryz.func241.trans (congrArg some (by kernel_rfl))
 f318:=Tryz.func243.trans (congrArg some (by kernel_rfl))
 f319:=Tryz.func244.trans (congrArg some (by kernel_rfl))
 f320:=Tryz.func245.trans (congrArg some (by kernel_rfl))
 f321:=Tryz.func304.trans (congrArg some (by kernel_rfl))
 f322:=Tryz.func305.trans (congrArg some (by kernel_rfl))
 f337:=Tryz.func266.trans (congrArg some (by kernel_rfl))
 f338:=Tryz.func267.trans (congrArg some (by kernel_rfl))
 t0:=Tryz.underlying0
 a0:=Tryz.isAgg0
 z0:=Tryz.sizeOf0
 v0:=Tryz.zeroValue0
 t2:=Tryz.underlying2
 a2:=Tryz.isAgg2
 z2:=Tryz.sizeOf2
 v2:=Tryz.zeroValue2
 t3:=Tryz.underlying3
 a3:=Tryz.isAgg3
 z3:=Tryz.sizeOf3
 v3:=Tryz.zeroValue3
 t4:=Tryz.underlying4
 a4:=Tryz.isAgg4
 z4:=Tryz.sizeOf4
 v4:=Tryz.zeroValue4
 t5:=Tryz.underlying5
 a5:=Tryz.isAgg5
 z5:=Tryz.sizeOf5
 v5:=Tryz.zeroValue5
 t9:=Tryz.underlying9
 a9:=Tryz.isAgg9
 z9:=Tryz.sizeOf9
 v9:=Tryz.zeroValue9
 t20:=Tryz.underlying20
 a20:=Tryz.isAgg20
 z20:=Tryz.sizeOf20
 v20:=Tryz.zeroValue20
 t21:=Tryz.underlying21
 a21:=Tryz.isAgg21
 z21:=Tryz.sizeOf21
 v21:=Tryz.zeroValue21
 t37:=Tryz.underlying190
 a37:=Tryz.isAgg190
 z37:=Tryz.sizeOf190
 v37:=Tryz.zeroValue190
 t46:=Tryz.underlying170
 a46:=Tryz.isAgg170
 z46:=Tryz.sizeOf170
 v46:=Tryz.zeroValue170
 t51:=Tryz.underlying130
 a51:=Tryz.isAgg130
 z51:=Tryz.sizeOf130
 v51:=Tryz.zeroValue130
 t53:=Tryz.underlying176
 a53:=Tryz.isAgg176
 z53:=Tryz.sizeOf176
 v53:=Tryz.zeroValue176
 t75:=Tryz.underlying267
 a75:=Tryz.isAgg267
 z75:=Tryz.sizeOf267
 v75:=Tryz.zeroValue267
 t85:=Tryz.underlying285
 a85:=Tryz.isAgg285
 z85:=Tryz.sizeOf285
 v85:=Tryz.zeroValue285
 t127:=Tryz.underlying294
 a127:=Tryz.isAgg294
 z127:=Tryz.sizeOf294
 v127:=Tryz.zeroValue294
 t143:=Tryz.underlying315
 a143:=Tryz.isAgg315
 z143:=Tryz.sizeOf315
 v143:=Tryz.zeroValue315
 t145:=Tryz.underlying317
 a145:=Tryz.isAgg317
 z145:=Tryz.sizeOf317
 v145:=Tryz.zeroValue317
 t167:=Tryz.underlying299
 a167:=Tryz.isAgg299
 z167:=Tryz.sizeOf299
 v167:=Tryz.zeroValue299
 t168:=Tryz.underlying301
 a168:=Tryz.isAgg301
 z168:=Tryz.sizeOf301
 v168:=Tryz.zeroValue301
 t171:=Tryz.underlying226
 a171:=Tryz.isAgg226
 z171:=Tryz.sizeOf226
 v171:=Tryz.zeroValue226
 t173:=Tryz.underlying229
 a173:=Tryz.isAgg229
 z173:=Tryz.sizeOf229
 v173:=Tryz.zeroValue229
 t175:=Tryz.underlying268
 a175:=Tryz.isAgg268
 z175:=Tryz.sizeOf268
 v175:=Tryz.zeroValue268
 t210:=Tryz.underlying312
 a210:=Tryz.isAgg312
 z210:=Tryz.sizeOf312
 v210:=Tryz.zeroValue312
 t212:=Tryz.underlying247
 a212:=Tryz.isAgg247
 z212:=Tryz.sizeOf247
 v212:=Tryz.zeroValue247
 t213:=Tryz.underlying248
 a213:=Tryz.isAgg248
 z213:=Tryz.sizeOf248
 t232:=Tryz.underlying283
 a232:=Tryz.isAgg283
 z232:=Tryz.sizeOf283
 v232:=Tryz.zeroValue283
 t233:=Tryz.underlying284
 a233:=Tryz.isAgg284
 z233:=Tryz.sizeOf284
 v233:=Tryz.zeroValue284
 g15:=by kernel_rfl
 g16:=by kernel_rfl
 g17:=by kernel_rfl
 g18:=by kernel_rfl
 g19:=by kernel_rfl
 t80:=Tryz.underlying224
 a80:=Tryz.isAgg224
 z80:=Tryz.sizeOf224
 v80:=Tryz.zeroValue224
 i0:=by kernel_rfl
 i2:=by kernel_rfl
 i3:=by kernel_rfl
 i4:=by kernel_rfl
 i5:=by kernel_rfl
 i9:=by kernel_rfl
 i20:=by kernel_rfl
 i21:=by kernel_rfl
 i37:=by kernel_rfl
 i46:=by kernel_rfl
 i51:=by kernel_rfl
 i53:=by kernel_rfl
 i75:=by kernel_rfl
 i80:=by kernel_rfl
 i85:=by kernel_rfl
 i127:=by kernel_rfl
 i143:=by kernel_rfl
 i145:=by kernel_rfl
 i167:=by kernel_rfl
 i168:=by kernel_rfl
 i171:=by kernel_rfl
 i173:=by kernel_rfl
 i175:=by kernel_rfl
 i210:=by kernel_rfl
 i212:=by kernel_rfl
 i232:=by kernel_rfl
 i233:=by kernel_rfl
 m15:=by kernel_rfl
 m16:=by kernel_rfl
 m17:=by kernel_rfl
 m18:=by kernel_rfl
 m19:=by kernel_rfl
 c0:=by kernel_rfl
 c2:=by kernel_rfl
 c3:=by kernel_rfl
 c4:=by kernel_rfl
 c5:=by kernel_rfl
 c9:=by kernel_rfl
 c20:=by kernel_rfl
 c21:=by kernel_rfl
 c37:=by kernel_rfl
 c46:=by kernel_rfl
 c51:=by kernel_rfl
 c53:=by kernel_rfl
 c75:=by kernel_rfl
 c80:=by kernel_rfl
 c85:=by kernel_rfl
 c127:=by kernel_rfl
 c143:=by kernel_rfl
 c145:=by kernel_rfl
 c167:=by kernel_rfl
 c168:=by kernel_rfl
 c171:=by kernel_rfl
 c173:=by kernel_rfl
 c175:=by kernel_rfl
 c210:=by kernel_rfl
 c212:=by kernel_rfl
 c213:=by kernel_rfl
 c232:=by kernel_rfl
 c233:=by kernel_rfl }
open Go.RowKit in
theorem Tryz.strconv_ParseInt_10_at64_ok (s:ByteArray) (hmax:s.size≤9223372036854775806) (v:Int) (h:Lib.parseIntB 64 s.data.toList=.ok v) (w:World) :
    Calls Tryz.prog 287 #[.string s,.int .i64 10,.int .i64 64] w fun e w'=>e=.returned (.tuple #[.int .i64 v,.nilIface])∧(w'=w∨∃ t,w'=Lib.bytesWorld w 5 t):=Any.strconv_ParseInt_10_at64_ok Tryz.laysC174 s hmax v h w
def Tryz.laysPu14_ren:Go.Shelf.Ren:=⟨fun | 14=>276 | 16=>291 | 17=>292 | 19=>304 | 20=>305 | 21=>306 | 22=>307 | 23=>308 | 24=>309 | 25=>315 | 27=>146 | 26=>316 | 28=>188 | 29=>209 | 30=>224 | 31=>225 | 32=>226 | 33=>227 | 35=>242 | 34=>241 | 36=>243 | 37=>244 | 38=>245 | 39=>266 | 40=>267 | n=>n,fun | 9=>9 | 3=>3 | 22=>176 | 24=>267 | 25=>268 | 4=>4 | 34=>299 | 5=>5 | 36=>170 | 37=>190 | 0=>0 | 39=>301 | 21=>21 | 44=>312 | 47=>294 | 50=>317 | 48=>315 | 2=>2 | 52=>226 | 55=>229 | 59=>247 | 60=>130 | 20=>20 | 61=>248 | 65=>283 | 66=>284 | 67=>224 | n=>n,fun | 0=>4 | 1=>5 | 2=>0 | 3=>2 | 4=>3 | n=>n⟩
theorem Tryz.laysPu14:Go.Proofs.LaysPu.n14 Tryz.prog Tryz.laysPu14_ren:={
 mixed:=by kernel_rfl
 f14:=Tryz.func276.trans (congrArg some (by kernel_rfl))
 f16:=Tryz.func291.trans (congrArg some (by kernel_rfl))
 f17:=Tryz.func292.trans (congrArg some (by kernel_rfl))
 f19:=Tryz.func304.trans (congrArg some (by kernel_rfl))
 f20:=Tryz.func305.trans (congrArg some (by kernel_rfl))
 f21:=Tryz.func306.trans (congrArg some (by kernel_rfl))
 f22:=Tryz.func307.trans (congrArg some (by kernel_rfl))
 f23:=Tryz.func308.trans (congrArg some (by kernel_rfl))
 f24:=Tryz.func309.trans (congrArg some (by kernel_rfl))
 f25:=Tryz.func315.trans (congrArg some (by kernel_rfl))
 f26:=Tryz.func316.trans (congrArg some (by kernel_rfl))
 f27:=Tryz.func146.trans (congrArg some (by kernel_rfl))
 f28:=Tryz.func188.trans (congrArg some (by kernel_rfl))
 f29:=Tryz.func209.trans (congrArg some (by kernel_rfl))
 f30:=Tryz.func224.trans (congrArg some (by kernel_rfl))
 f31:=Tryz.func225.trans (congrArg some (by kernel_rfl))
 f32:=Tryz.func226.trans (congrArg some (by kernel_rfl))
 f33:=Tryz.func227.trans (congrArg some (by kernel_rfl))
 f34:=Tryz.func241.trans (congrArg some (by kernel_rfl))
 f35:=Tryz.func242.trans (congrArg some (by kernel_rfl))
 f36:=Tryz.func243.trans (congrArg some (by kernel_rfl))
 f37:=Tryz.func244.trans (congrArg some (by kernel_rfl))
 f38:=Tryz.func245.trans (congrArg some (by kernel_rfl))
 f39:=Tryz.func266.trans (congrArg some (by kernel_rfl))
 f40:=Tryz.func267.trans (congrArg some (by kernel_rfl))
 t0:=Tryz.underlying0
 a0:=Tryz.isAgg0
 z0:=Tryz.sizeOf0
 v0:=Tryz.zeroValue0
 i0:=by kernel_rfl
 t2:=Tryz.underlying2
 a2:=Tryz.isAgg2
 z2:=Tryz.sizeOf2
 v2:=Tryz.zeroValue2
 i2:=by kernel_rfl
 t3:=Tryz.underlying3
 a3:=Tryz.isAgg3
 z3:=Tryz.sizeOf3
 v3:=Tryz.zeroValue3
 i3:=by kernel_rfl
 t4:=Tryz.underlying4
 a4:=Tryz.isAgg4
 z4:=Tryz.sizeOf4
 v4:=Tryz.zeroValue4
 i4:=by kernel_rfl
 t5:=Tryz.underlying5
 a5:=Tryz.isAgg5
 z5:=Tryz.sizeOf5
 v5:=Tryz.zeroValue5
 i5:=by kernel_rfl
 t9:=Tryz.underlying9
 a9:=Tryz.isAgg9
 z9:=Tryz.sizeOf9
 v9:=Tryz.zeroValue9
 i9:=by kernel_rfl
 t20:=Tryz.underlying20
 a20:=Tryz.isAgg20
 z20:=Tryz.sizeOf20
 v20:=Tryz.zeroValue20
 i20:=by kernel_rfl
 t21:=Tryz.underlying21
 a21:=Tryz.isAgg21
 z21:=Tryz.sizeOf21
 v21:=Tryz.zeroValue21
 i21:=by kernel_rfl
 t22:=Tryz.underlying176
 a22:=Tryz.isAgg176
 z22:=Tryz.sizeOf176
 v22:=Tryz.zeroValue176
 i22:=by kernel_rfl
 t24:=Tryz.underlying267
 a24:=Tryz.isAgg267
 z24:=Tryz.sizeOf267
 v24:=Tryz.zeroValue267
 i24:=by kernel_rfl
 t25:=Tryz.underlying268
 a25:=Tryz.isAgg268
 z25:=Tryz.sizeOf268
 v25:=Tryz.zeroValue268
 i25:=by kernel_rfl
 t34:=Tryz.underlying299
 a34:=Tryz.isAgg299
 z34:=Tryz.sizeOf299
 v34:=Tryz.zeroValue299
 i34:=by kernel_rfl
 c34:=by kernel_rfl
 t36:=Tryz.underlying170
 a36:=Tryz.isAgg170
 z36:=Tryz.sizeOf170
 v36:=Tryz.zeroValue170
 i36:=by kernel_rfl
 t37:=Tryz.underlying190
 a37:=Tryz.isAgg190
 z37:=Tryz.sizeOf190
 v37:=Tryz.zeroValue190
 i37:=by kernel_rfl
 t39:=Tryz.underlying301
 a39:=Tryz.isAgg301
 z39:=Tryz.sizeOf301
 v39:=Tryz.zeroValue301
 i39:=by kernel_rfl
 t44:=Tryz.underlying312
 a44:=Tryz.isAgg312
 z44:=Tryz.sizeOf312
 v44:=Tryz.zeroValue312
 i44:=by kernel_rfl
 t47:=Tryz.underlying294
 a47:=Tryz.isAgg294
 z47:=Tryz.sizeOf294
 v47:=Tryz.zeroValue294
 i47:=by kernel_rfl
 t48:=Tryz.underlying315
 a48:=Tryz.isAgg315
 z48:=Tryz.sizeOf315
 v48:=Tryz.zeroValue315
 i48:=by kernel_rfl
 t50:=Tryz.underlying317
 a50:=Tryz.isAgg317
 z50:=Tryz.sizeOf317
 v50:=Tryz.zeroValue317
 i50:=by kernel_rfl
 t52:=Tryz.underlying226
 a52:=Tryz.isAgg226
 z52:=Tryz.sizeOf226
 v52:=Tryz.zeroValue226
 i52:=by kernel_rfl
 t55:=Tryz.underlying229
 a55:=Tryz.isAgg229
 z55:=Tryz.sizeOf229
 v55:=Tryz.zeroValue229
 i55:=by kernel_rfl
 t59:=Tryz.underlying247
 a59:=Tryz.isAgg247
 z59:=Tryz.sizeOf247
 v59:=Tryz.zeroValue247
 i59:=by kernel_rfl
 t60:=Tryz.underlying130
 a60:=Tryz.isAgg130
 z60:=Tryz.sizeOf130
 v60:=Tryz.zeroValue130
 i60:=by kernel_rfl
 t61:=Tryz.underlying248
 a61:=Tryz.isAgg248
 z61:=Tryz.sizeOf248
 t65:=Tryz.underlying283
 a65:=Tryz.isAgg283
 z65:=Tryz.sizeOf283
 v65:=Tryz.zeroValue283
 i65:=by kernel_rfl
 t66:=Tryz.underlying284
 a66:=Tryz.isAgg284
 z66:=Tryz.sizeOf284
 v66:=Tryz.zeroValue284
 i66:=by kernel_rfl
 t67:=Tryz.underlying224
 a67:=Tryz.isAgg224
 z67:=Tryz.sizeOf224
 v67:=Tryz.zeroValue224
 i67:=by kernel_rfl
 g0:=by kernel_rfl
 m0:=by kernel_rfl
 g1:=by kernel_rfl
 m1:=by kernel_rfl
 g2:=by kernel_rfl
 m2:=by kernel_rfl
 g3:=by kernel_rfl
 m3:=by kernel_rfl
 g4:=by kernel_rfl
 m4:=by kernel_rfl }
open Go.RowKit in
theorem Tryz.strconv_ParseUint_10_at32_ok (s:ByteArray) (hmax:s.size≤9223372036854775806) (u:Nat) (h:Lib.parseUintB 32 s.data.toList=.ok u) (w:World) :
    Calls Tryz.prog 276 #[.string s,.int .i64 10,.int .i64 32] w fun e w'=>e=.returned (.tuple #[.int .u64 u,.nilIface])∧(w'=w∨w'=Lib.bytesWorld w 5 s):=Any.strconv_ParseUint_10_at32_ok Tryz.laysPu14 s hmax u h w
def Tryz.lays145_ren:Go.Shelf.Ren:=⟨fun | 145=>198 | 220=>213 | 219=>229 | 217=>252 | 225=>253 | 224=>254 | 267=>255 | 266=>273 | 314=>274 | n=>n,fun | 9=>9 | 4=>4 | 59=>124 | 3=>3 | 5=>5 | 46=>170 | 146=>263 | 51=>130 | n=>n,fun | 1=>1 | n=>n⟩
theorem Tryz.lays145:Go.Proofs.Lays.n145 Tryz.prog Tryz.lays145_ren:={
 mixed:=by kernel_rfl
 f145:=Tryz.func198.trans (congrArg some (by kernel_rfl))
 f217:=Tryz.func252.trans (congrArg some (by kernel_rfl))
 f219:=Tryz.func229.trans (congrArg some (by kernel_rfl))
 f220:=Tryz.func213.trans (congrArg some (by kernel_rfl))
 f224:=Tryz.func254.trans (congrArg some (by kernel_rfl))
 f225:=Tryz.func253.trans (congrArg some (by kernel_rfl))
 f266:=Tryz.func273.trans (congrArg some (by kernel_rfl))
 f267:=Tryz.func255.trans (congrArg some (by kernel_rfl))
 f314:=Tryz.func274.trans (congrArg some (by kernel_rfl))
 t3:=Tryz.underlying3
 a3:=Tryz.isAgg3
 z3:=Tryz.sizeOf3
 v3:=Tryz.zeroValue3
 t4:=Tryz.underlying4
 a4:=Tryz.isAgg4
 z4:=Tryz.sizeOf4
 v4:=Tryz.zeroValue4
 t5:=Tryz.underlying5
 a5:=Tryz.isAgg5
 z5:=Tryz.sizeOf5
 v5:=Tryz.zeroValue5
 t9:=Tryz.underlying9
 a9:=Tryz.isAgg9
 z9:=Tryz.sizeOf9
 v9:=Tryz.zeroValue9
 t46:=Tryz.underlying170
 a46:=Tryz.isAgg170
 z46:=Tryz.sizeOf170
 v46:=Tryz.zeroValue170
 t51:=Tryz.underlying130
 a51:=Tryz.isAgg130
 z51:=Tryz.sizeOf130
 v51:=Tryz.zeroValue130
 t59:=Tryz.underlying124
 a59:=Tryz.isAgg124
 z59:=Tryz.sizeOf124
 v59:=Tryz.zeroValue124
 t146:=Tryz.underlying263
 a146:=Tryz.isAgg263
 z146:=Tryz.sizeOf263
 v146:=Tryz.zeroValue263
 g1:=by kernel_rfl }
open Go.RowKit Go.Lib in
theorem Tryz.strings_Cut (s sep:ByteArray) (m:Int) (w:World) (hs:s.size < 4294967281) (hm:w.cell? ⟨1,0,none⟩=some (.int .i64 m)) :
    Calls Tryz.prog 198 #[.string s,.string sep] w fun e w'=>e=.returned (.tuple #[.string ⟨(Lib.cut s.data.toList sep.data.toList).1.toArray⟩,.string ⟨(Lib.cut s.data.toList sep.data.toList).2.1.toArray⟩,.bool (Lib.cut s.data.toList sep.data.toList).2.2])∧∃ n,w'=w.drewN n:=Any.strings_Cut Tryz.lays145 s sep m w hs hm
def Tryz.laysM145_ren:Go.Shelf.Ren:=⟨fun | 145=>198 | 220=>213 | 219=>229 | 217=>252 | 225=>253 | 224=>254 | 267=>255 | 266=>273 | 314=>274 | n=>n,fun | 9=>9 | 4=>4 | 59=>124 | 3=>3 | 5=>5 | 46=>170 | 146=>263 | 51=>130 | n=>n,fun | 1=>1 | n=>n⟩
theorem Tryz.laysM145:Go.Proofs.LaysM.n145 Tryz.prog Tryz.laysM145_ren:={
 mixed:=by kernel_rfl
 f145:=Tryz.func198.trans (congrArg some (by kernel_rfl))
 f217:=Tryz.func252.trans (congrArg some (by kernel_rfl))
 f219:=Tryz.func229.trans (congrArg some (by kernel_rfl))
 f220:=Tryz.func213.trans (congrArg some (by kernel_rfl))
 f224:=Tryz.func254.trans (congrArg some (by kernel_rfl))
 f225:=Tryz.func253.trans (congrArg some (by kernel_rfl))
 f266:=Tryz.func273.trans (congrArg some (by kernel_rfl))
 f267:=Tryz.func255.trans (congrArg some (by kernel_rfl))
 f314:=Tryz.func274.trans (congrArg some (by kernel_rfl))
 t3:=Tryz.underlying3
 a3:=Tryz.isAgg3
 z3:=Tryz.sizeOf3
 v3:=Tryz.zeroValue3
 t4:=Tryz.underlying4
 a4:=Tryz.isAgg4
 z4:=Tryz.sizeOf4
 v4:=Tryz.zeroValue4
 t5:=Tryz.underlying5
 a5:=Tryz.isAgg5
 z5:=Tryz.sizeOf5
 v5:=Tryz.zeroValue5
 t9:=Tryz.underlying9
 a9:=Tryz.isAgg9
 z9:=Tryz.sizeOf9
 v9:=Tryz.zeroValue9
 t46:=Tryz.underlying170
 a46:=Tryz.isAgg170
 z46:=Tryz.sizeOf170
 v46:=Tryz.zeroValue170
 t51:=Tryz.underlying130
 a51:=Tryz.isAgg130
 z51:=Tryz.sizeOf130
 v51:=Tryz.zeroValue130
 t59:=Tryz.underlying124
 a59:=Tryz.isAgg124
 z59:=Tryz.sizeOf124
 v59:=Tryz.zeroValue124
 t146:=Tryz.underlying263
 a146:=Tryz.isAgg263
 z146:=Tryz.sizeOf263
 v146:=Tryz.zeroValue263
 g1:=by kernel_rfl
 i3:=by kernel_rfl
 i4:=by kernel_rfl
 i5:=by kernel_rfl
 i9:=by kernel_rfl
 i46:=by kernel_rfl
 i51:=by kernel_rfl
 i59:=by kernel_rfl
 i146:=by kernel_rfl
 m1:=by kernel_rfl
 s1_3:=fun w h=>Go.Proofs.cell_of_shapedOpen_int (zero:=#[.int .i64 0]) (t:=3) h (of_decide_eq_true (by kernel_rfl)) (by kernel_rfl) rfl (by kernel_rfl) (by kernel_rfl) Tryz.underlying3 }
def Tryz.lays105_ren:Go.Shelf.Ren:=⟨fun | 105=>281 | 212=>296 | 99=>297 | 165=>298 | 166=>280 | 170=>299 | 169=>282 | 263=>311 | 264=>312 | 206=>275 | 240=>295 | 241=>313 | 276=>310 | 277=>317 | n=>n,fun | 9=>9 | 3=>3 | 4=>4 | 20=>20 | 0=>0 | 46=>170 | 109=>291 | 5=>5 | 72=>273 | 76=>278 | 51=>130 | 146=>263 | 53=>176 | 148=>307 | 70=>271 | 37=>190 | 75=>267 | 127=>294 | 164=>304 | 80=>224 | n=>n,fun | n=>n⟩
theorem Tryz.lays105:Go.Proofs.Lays.n105 Tryz.prog Tryz.lays105_ren:={
 mixed:=by kernel_rfl
 f99:=Tryz.func297.trans (congrArg some (by kernel_rfl))
 f105:=Tryz.func281.trans (congrArg some (by kernel_rfl))
 f165:=Tryz.func298.trans (congrArg some (by kernel_rfl))
 f166:=Tryz.func280.trans (congrArg some (by kernel_rfl))
 f169:=Tryz.func282.trans (congrArg some (by kernel_rfl))
 f170:=Tryz.func299.trans (congrArg some (by kernel_rfl))
 f206:=Tryz.func275.trans (congrArg some (by kernel_rfl))
 f212:=Tryz.func296.trans (congrArg some (by kernel_rfl))
 f240:=Tryz.func295.trans (congrArg some (by kernel_rfl))
 f241:=Tryz.func313.trans (congrArg some (by kernel_rfl))
 f263:=Tryz.func311.trans (congrArg some (by kernel_rfl))
 f264:=Tryz.func312.trans (congrArg some (by kernel_rfl))
 f276:=Tryz.func310.trans (congrArg some (by kernel_rfl))
 f277:=Tryz.func317.trans (congrArg some (by kernel_rfl))
 t0:=Tryz.underlying0
 a0:=Tryz.isAgg0
 z0:=Tryz.sizeOf0
 v0:=Tryz.zeroValue0
 t3:=Tryz.underlying3
 a3:=Tryz.isAgg3
 z3:=Tryz.sizeOf3
 v3:=Tryz.zeroValue3
 t4:=Tryz.underlying4
 a4:=Tryz.isAgg4
 z4:=Tryz.sizeOf4
 v4:=Tryz.zeroValue4
 t5:=Tryz.underlying5
 a5:=Tryz.isAgg5
 z5:=Tryz.sizeOf5
 v5:=Tryz.zeroValue5
 t9:=Tryz.underlying9
 a9:=Tryz.isAgg9
 z9:=Tryz.sizeOf9
 v9:=Tryz.zeroValue9
 t20:=Tryz.underlying20
 a20:=Tryz.isAgg20
 z20:=Tryz.sizeOf20
 v20:=Tryz.zeroValue20
 t37:=Tryz.underlying190
 a37:=Tryz.isAgg190
 z37:=Tryz.sizeOf190
 v37:=Tryz.zeroValue190
 t46:=Tryz.underlying170
 a46:=Tryz.isAgg170
 z46:=Tryz.sizeOf170
 v46:=Tryz.zeroValue170
 t51:=Tryz.underlying130
 a51:=Tryz.isAgg130
 z51:=Tryz.sizeOf130
 v51:=Tryz.zeroValue130
 t53:=Tryz.underlying176
 a53:=Tryz.isAgg176
 z53:=Tryz.sizeOf176
 v53:=Tryz.zeroValue176
 t70:=Tryz.underlying271
 a70:=Tryz.isAgg271
 z70:=Tryz.sizeOf271
 v70:=Tryz.zeroValue271
 t72:=Tryz.underlying273
 a72:=Tryz.isAgg273
 z72:=Tryz.sizeOf273
 v72:=Tryz.zeroValue273
 t75:=Tryz.underlying267
 a75:=Tryz.isAgg267
 z75:=Tryz.sizeOf267
 v75:=Tryz.zeroValue267
 t76:=Tryz.underlying278
 a76:=Tryz.isAgg278
 z76:=Tryz.sizeOf278
 v76:=Tryz.zeroValue278
 t109:=Tryz.underlying291
 a109:=Tryz.isAgg291
 z109:=Tryz.sizeOf291
 v109:=Tryz.zeroValue291
 t127:=Tryz.underlying294
 a127:=Tryz.isAgg294
 z127:=Tryz.sizeOf294
 v127:=Tryz.zeroValue294
 t146:=Tryz.underlying263
 a146:=Tryz.isAgg263
 z146:=Tryz.sizeOf263
 v146:=Tryz.zeroValue263
 t148:=Tryz.underlying307
 a148:=Tryz.isAgg307
 z148:=Tryz.sizeOf307
 v148:=Tryz.zeroValue307
 t164:=Tryz.underlying304
 a164:=Tryz.isAgg304
 z164:=Tryz.sizeOf304
 v164:=Tryz.zeroValue304 }
theorem Tryz.Builder_Extra_105:Builder.Extra Tryz.prog Tryz.lays105_ren:={
 sizeBuilder:=by kernel_rfl
 liesBuilder:=by kernel_rfl
 t5:=Tryz.underlying5
 a5:=Tryz.isAgg5
 z5:=Tryz.sizeOf5
 v5:=Tryz.zeroValue5
 infoByte:=by kernel_rfl
 cellsByte:=by kernel_rfl
 sizeByte:=by kernel_rfl
 neB5:=by decide }
open Go.RowKit Go.Lib in
theorem Tryz.strings_Repeat (s:ByteArray) (c:Nat) (w:World) (hc:c≤9223372036854775807) (hlen:s.size*c≤140737488355328) :
    Calls Tryz.prog 281 #[.string s,.int .i64 c] w fun e w'=>e=.returned (.string ⟨(Lib.repeatL s.data.toList c).toArray⟩)∧Below w.heap.size w w':=Any.strings_Repeat Tryz.lays105 Tryz.Builder_Extra_105 s c w hc hlen
end Go.Proofs
namespace Go.Proofs
open Go.Shelf Go.RowKit
theorem Tryz.WriteString_k (B b:Nat) (bs:List Value) (s:ByteArray) (w:World) (h:Lib.IsBuilderF 273 5 B b bs w) (hlen:bs.length+s.size≤140737488355328) (hBw:B≤w.heap.size) :
    Calls Tryz.prog 280 #[.pointer (some ⟨b,0,none⟩),.string s] w fun e w'=>e=.returned (.tuple #[.int .i64 s.size,.nilIface])∧(Lib.BuilderAtF 273 5 B b (.pointer (some ⟨b,0,none⟩)) (bs++Lib.strCells s) w'∧Below B w w'∧Lib.OthersKept 5 (some b) w w'):=Any.Builder_WriteString_k { Tryz.lays105 with } Tryz.Builder_Extra_105 B b bs s w h hlen hBw
end Go.Proofs
namespace Go.Proofs
open Go.Shelf Go.RowKit Go.Sort Go.Lib
set_option maxHeartbeats 6400000 in
set_option maxRecDepth 100000 in
theorem Tryz.internal_FormatUint (u:Nat) (h1:u < 18446744073709551616) (w:World)
    (htab:Lib.TabIs Tryz.prog w "internal/strconv.uint64pow10" .u64 Lib.pow10Tab) :
    Calls Tryz.prog 294 #[.int .u64 u,.int .i64 10] w fun e w'=>e=.returned (.string ⟨(Lib.decDigits u).toArray⟩)∧∃ k os,w'=grow (w.drewN k) os:=by
 by_cases hs:u < 100
 · go_enter Tryz.func294,Tryz.ntmps294
   go_wp2_with (go_at_call 224; refine (Tryz.internal_strconv_small u hs _).mono ?_; rintro e w' ⟨rfl,rfl⟩)
   go_ret
   exact ⟨rfl,0,#[],by simp [World.drewN_zero]⟩
 · have hu1:1≤u:=by omega
   have hnd20:Lib.nDigits u≤20:=by have:=Lib.numDigits_eq u hu1 h1; split at this <;> omega
   have hal:Tryz.prog.arrayLen 226=24:=by kernel_rfl
   have hsl1:∀ W,(Instr.sliceAt 226 (.pointer (some ⟨w.heap.size,0,none⟩)) none (some (.int .i64 (Lib.nDigits u:Int))) none).run Tryz.prog W=.ok (.slice (some ⟨w.heap.size,0,none⟩) (Lib.nDigits u) 24) W:=fun W=>by
    rw [run_sliceAt_array_h W 226 ⟨w.heap.size,0,none⟩ (by kernel_rfl) .i64 (Lib.nDigits u:Int) (by omega) (by rw [hal]; omega)]
    go_simp
   have hH0:Holds (fun (b:UInt8)=>Value.int .u8 (b.toNat:Int)) (w.alloc (.cells Lib.zeros24 226)) w.heap.size 0 (Array.replicate (Lib.nDigits u) 0):=fun j hj=>by
    have hj':j < Lib.nDigits u:=by simpa using hj
    refine ⟨?_,World.frozen?_alloc_new _ _ _ _⟩
    rw [World.cell?_alloc_new,Lib.zeros24_at _ (by omega),getElem!_pos _ j hj]
    simp
   have hfmt:=Tryz.internal_strconv_formatBase10 w.heap.size 0 24 u (Array.replicate (Lib.nDigits u) 0) (w.alloc (.cells Lib.zeros24 226)) hH0 (by rw [Array.size_replicate]; exact Lib.lt_pow_nDigits u) h1 (by rw [Array.size_replicate]; omega)
   rw [Array.size_replicate] at hfmt
   have HH0:=Lib.hid hH0
   clear hH0 hal
   go_enter Tryz.func294,Tryz.ntmps294
   go_wp2_with (go_at_call 225; refine (Tryz.internal_strconv_numDigits u hu1 h1 _ (Lib.tabIs_alloc htab _)).mono ?_; rintro e w' ⟨rfl,rfl⟩)
   go_at_call 226
   refine hfmt.mono ?_
   rintro e w' ⟨rfl,k,v',dk,rfl,hF⟩
   have hcv:(convert 190 9 (.slice (some ⟨w.heap.size,0,none⟩) (Lib.nDigits u) 24)).run Tryz.prog ((putRow (fun (b:UInt8)=>Value.int .u8 (b.toNat:Int)) (w.alloc (.cells Lib.zeros24 226)) w.heap.size 0 dk).drewN k)=.ok (.string ⟨(Lib.decDigits u).toArray⟩) ((putRow (fun (b:UInt8)=>Value.int .u8 (b.toNat:Int)) (w.alloc (.cells Lib.zeros24 226)) w.heap.size 0 dk).drewN k):=by
    have h:=run_convert_bytes_back (P:=Tryz.prog) ((putRow (fun (b:UInt8)=>Value.int .u8 (b.toNat:Int)) (w.alloc (.cells Lib.zeros24 226)) w.heap.size 0 dk).drewN k) 190 9 5 ⟨w.heap.size,0,none⟩ 24 (Lib.decDigits u) (by kernel_rfl) (by kernel_rfl) (by kernel_rfl) (fun j hj=>by
     rw [Lib.row_is_numeral hF j hj,Lib.add_plain,World.cell?_drewN]
     exact cell?_putRow (fun (b:UInt8)=>Value.int .u8 (b.toNat:Int)) _ w.heap.size 0 _ dk HH0.out (by rw [hF.size,Array.size_replicate]) j (by rw [hF.size]; rw [Lib.decDigits_length] at hj; exact hj))
    rw [Lib.decDigits_length] at h
    exact h
   go_wp2
   go_ret
   obtain ⟨os,eo⟩:=(by
    rw [alloc_eq_grow]
    obtain ⟨os',_,e⟩:=putRow_grow_new (fun (b:UInt8)=>Value.int .u8 (b.toNat:Int)) w #[.cells Lib.zeros24 226] w.heap.size 0 dk (Nat.le_refl _)
    exact ⟨os',by rw [e]; rfl⟩:∃ os,(putRow (fun (b:UInt8)=>Value.int .u8 (b.toNat:Int)) (w.alloc (.cells Lib.zeros24 226)) w.heap.size 0 dk).drewN k=grow (w.drewN k) os)
   exact ⟨rfl,k,os,eo⟩
set_option maxRecDepth 100000 in
theorem Tryz.strconv_FormatUint (u:Nat) (h1:u < 18446744073709551616) (w:World)
    (htab:Lib.TabIs Tryz.prog w "internal/strconv.uint64pow10" .u64 Lib.pow10Tab) :
    Calls Tryz.prog 279 #[.int .u64 u,.int .i64 10] w fun e w'=>e=.returned (.string ⟨(Lib.decDigits u).toArray⟩)∧∃ k os,w'=grow (w.drewN k) os:=by
 go_enter Tryz.func279,Tryz.ntmps279
 go_wp2_with (go_at_call 294; refine (Tryz.internal_FormatUint u h1 _ htab).mono ?_; rintro e w' ⟨rfl,k,os,rfl⟩)
 go_ret
 exact ⟨rfl,k,os,rfl⟩
end Go.Proofs
namespace Go.Proofs
open Go.RowKit Go.Shelf
attribute [local go_sem] Oper.semAt_some
def upto {α:Type} (f:Nat→α) (k:Nat):List α:=(List.range k).map f
theorem q1p {α:Type} (f:Nat→α) (k:Nat):upto f (k+1)=upto f k++[f k]:=by simp [upto,List.range_succ]
theorem w5f {α:Type} (f:Nat→α) (k:Nat):(upto f k).length=k:=by simp [upto]
def down {len:Nat} (h:0 < len) (j:Nat):{ m:Nat // m < len }:=⟨len - 1 - j,by omega⟩
set_option maxRecDepth 100000 in
set_option maxHeartbeats 2000000 in
theorem u0o (F:Fence) (n:Nat) (h7:F.fn 293) (hro:F.round=none) (hn:1≤n) (l Bs len cap:Nat) (h1:0 < len) (a:Addr) (z:Nat→Int) (hreach:len*4≤140737488351232) (Kp:World→World→Prop)
    (Bx:World→Prop) (hBx:∀ W,Bx W→W.cell? ⟨Bs,0,none⟩=some (.slice (some a) len cap)∧∀ j,j < len→W.cell? (a.add j)=some (.int .u32 (z j)))
    (hKp:∀ W W',Bx W→Kp W W'→Bx W') (J Jx:List { m:Nat // m < len }→World→Prop)
    (hY:∀ pre x W,J pre W→pre.length < len→YieldAt F (n - 1) Tryz.prog l #[.int .i64 (x.1:Nat),.int .u32 (z x.1)] W fun e W' =>
     (e=.returned (.bool true)∧J (pre++[x]) W'∧Kp W W')∨(e=.returned (.bool false)∧Jx (pre++[x]) W'))
    (W:World) (hW:Bx W) (h0:J [] W) :
    CallsIn F n Tryz.prog 293 #[.func (.yield l) #[] #[],.pointer (some ⟨Bs,0,none⟩)] W fun e W'=>(∃ v,e=.returned v) ∧
     ((∃ ys,ys=upto (down h1) len∧J ys W')∨(∃ pre,(∃ k,k≤len∧pre=upto (down h1) k)∧Jx pre W')):=by
 refine callsIn_of_wp Tryz.func293 rfl h7 ?_ hro
 simp only [Tryz.ntmps293,List.size_toArray,List.length_cons,List.length_nil,Nat.reduceAdd,Nat.reduceSub,Array.replicate_succ,Array.replicate_zero,List.push_toArray,List.append_toArray,List.nil_append,List.cons_append]
 have hs:=(hBx W hW).1
 gi_wp2
 gi_loopw [3] (fun i wr=>∃ k:Nat,k≤len∧i=.int .i64 ((len:Int) - 1 - k)∧J (upto (down h1) k) wr∧Bx wr)
  (fun i _=>(intOf i+1).toNat)
 case atStart=>exact ⟨0,Nat.zero_le _,by simp,h0,hW⟩
 case round =>
  obtain ⟨k,hk,rfl,hJs,hnx⟩:=hrel
  have hs':=(hBx _ hnx).1
  by_cases hlt:k < len
  · obtain ⟨m,hm⟩:∃ m:Nat,m+k+1=len:=⟨len - 1 - k,by omega⟩
    have hcx':=(hBx _ hnx).2 m (by omega)
    have hi:((len:Int) - 1 - k)=(m:Int):=by omega
    have hmk:len - 1 - k=m:=by omega
    have hml:m < len:=by omega
    rw [hi]
    clear hBx hi
    obtain ⟨fn,tmps,assign,body,hy,hR⟩:=hY _ ⟨m,hml⟩ wr hJs (by rw [w5f]; exact hlt)
    dsimp only at hy
    have hmk:=Lib.hid hmk
    gi_wp2
    refine hR.mono ?_
    rintro e W3 (⟨rfl,hJ3,hk3⟩ | ⟨rfl,hJx3⟩)
    · -- THE ROUND GOES ON
      gi_wp2
      go_roundw
      case rel=>exact ⟨k+1,by omega,by simp; omega,by rw [q1p,show down h1 k=⟨m,hml⟩ from Subtype.ext hmk.out]; exact hJ3,hKp _ _ hnx hk3⟩
      case measure=>simp [intOf]
    · gi_wp2
      refine bodyPost_ret (results_none rfl _ _ _) rfl ?_
      exact ⟨⟨_,rfl⟩,.inr ⟨_,⟨k+1,by omega,by rw [q1p,show down h1 k=⟨m,hml⟩ from Subtype.ext hmk.out]⟩,hJx3⟩⟩
  · obtain rfl:k=len:=by omega
    have hi:((k:Int) - 1 - k)=-1:=by omega
    rw [hi]
    gi_wp2
    go_end0
    exact ⟨⟨_,rfl⟩,.inl ⟨_,rfl,hJs⟩⟩
set_option maxHeartbeats 1000000 in
theorem back_in (F:Fence) (n:Nat) (h5:F.fn 278) (hro:F.round=none) (a:Option Addr) (len cap:Nat) (w:World) :
    CallsIn F n Tryz.prog 278 #[.slice a len cap] w fun e w'=>e=.returned (.func (.func 293) #[] #[.pointer (some ⟨w.heap.size,0,none⟩)])∧w'=w.alloc (.cells #[.slice a len cap] 236):=by
 refine callsIn_of_wp Tryz.func278 rfl h5 ?_ hro
 simp only [Tryz.ntmps278,List.size_toArray,List.length_cons,List.length_nil,Nat.reduceAdd,Nat.reduceSub,Array.replicate_succ,Array.replicate_zero,List.push_toArray,List.append_toArray,List.nil_append,List.cons_append]
 gi_wp2
 go_ret
 exact ⟨rfl,rfl⟩
def Bx (Bs len cap:Nat) (a:Addr) (z:Nat→Int) (W:World):Prop:=W.cell? ⟨Bs,0,none⟩=some (.slice (some a) len cap)∧∀ j,j < len→W.cell? (a.add j)=some (.int .u32 (z j))
theorem add_blk (a:Addr) (n:Nat):(a.add n).block=a.block:=by unfold Addr.add; split <;> rfl
theorem Bx.below {Bs len cap:Nat} {a:Addr} {z:Nat→Int} {w W:World} (h:Bx Bs len cap a z w) (hB:Bs < w.heap.size) (ha:a.block < w.heap.size) (hb:Below w.heap.size w W):Bx Bs len cap a z W :=
 ⟨(hb.cell (p:=⟨Bs,0,none⟩) hB).trans h.1,fun j hj=>(hb.cell (p:=a.add j) (by rw [add_blk]; exact ha)).trans (h.2 j hj)⟩
theorem back_stops (F:Fence) (n:Nat) (h7:F.fn 293) (hro:F.round=none) (hn:1≤n) (Bs len cap:Nat) (h1:0 < len) (a:Addr) (z:Nat→Int) (hreach:len*4≤140737488351232) (w:World) (hB:Bs < w.heap.size) (ha:a.block < w.heap.size) (hbx:Bx Bs len cap a z w) :
    SeqStopsK F n Tryz.prog 293 #[.pointer (some ⟨Bs,0,none⟩)] (fun x:{ m:Nat // m < len }=>#[Value.int .i64 (x.1:Nat),Value.int .u32 (z x.1)]) (fun W W'=>Bx Bs len cap a z W→Bx Bs len cap a z W') (fun ys=>ys=upto (down h1) len) (fun _=>True) len w:=fun l J Jx W hW _ _ hY h0 =>
 (u0o F n h7 hro hn l Bs len cap h1 a z hreach _ (Bx Bs len cap a z) (fun W h=>h) (fun W W' h hk=>hk h) J Jx hY W (hbx.below hB ha hW) h0).mono fun e W' ⟨he,h⟩=>⟨he,h.imp id fun ⟨pre,_,hj⟩=>⟨pre,trivial,hj⟩⟩
end Go.Proofs
namespace Go.Proofs
open Go.RowKit Go.Shelf Go.Sort
attribute [local go_sem] Oper.semAt_some
theorem decD:∀ u:Nat,Lib.decDigits u=Gb.dec u:=by
 intro u
 induction u using Nat.strongRecOn with
 | _ u ih =>
  unfold Lib.decDigits Gb.dec
  split
  · rfl
  · rw [ih (u / 10) (by omega)]
def q1y (len:Nat) (z:Nat→Int) (m:Nat):List UInt8:=(if m+1 < len then List.replicate (9 - (Gb.dec (z m).toNat).length) 48 else [])++Gb.dec (z m).toNat
def txt (len:Nat) (z:Nat→Int) (pre:List { m:Nat // m < len }):List UInt8:=(pre.map fun x=>q1y len z x.1).flatten
theorem v2h {len:Nat} {z:Nat→Int} {pre:List { m:Nat // m < len }} {x:{ m:Nat // m < len }}:txt len z (pre++[x])=txt len z pre++q1y len z x.1:=by simp [txt]
theorem w9s {w W:World} {nm:String} {k:IntKind} {zs:List Int} (h:Lib.TabIs Tryz.prog w nm k zs) (hb:Below w.heap.size w W):Lib.TabIs Tryz.prog W nm k zs:=by
 unfold Lib.TabIs World.var? at *
 cases hg:Tryz.prog.globalNamed nm with
 | none=>rw [hg] at h; cases h
 | some g =>
  rw [hg] at h
  simp only [Option.bind_some] at h ⊢
  cases hh:w.heap[g]? with
  | none=>rw [hh] at h; cases h
  | some o=>rw [hb.block g (Array.getElem?_eq_some_iff.1 hh).1,hh]; rw [hh] at h; exact h
theorem j6x {W W':World} {row:Option Nat} {b:Nat} {cs:Array Value} {T:TypeId} {fz:Nat × Nat} (h:W.heap[b]?=some (.cells cs T fz)) (hg:W.grownBy W' row) (hr:∀ r,row=some r→∃ o:Obj,W.heap[r]?=some o∧o.isCells=false):W'.heap[b]?=some (.cells cs T fz)∧some b≠row:=by
 have hne:some b≠row:=fun e=>by
  obtain ⟨o,ho,hc⟩:=hr b e.symm
  rw [h] at ho; cases ho; cases hc
 exact ⟨(hg.block b (Array.getElem?_eq_some_iff.1 h).1 hne).trans h,hne⟩
theorem w2l {W W':World} {row:Option Nat} {T e B b:Nat} {bs:List Value} (h:Lib.IsBuilderF T e B b bs W) (hg:W.grownBy W' row) (hr:∀ r,row=some r→∃ o:Obj,W.heap[r]?=some o∧o.isCells=false):Lib.IsBuilderF T e B b bs W':=by
 have at':∀ p,Lib.BuilderAtF T e B b p bs W→Lib.BuilderAtF T e B b p bs W':=by
  rintro p ⟨hB,v,hb,ho,hn⟩
  refine ⟨hB,v,(j6x hb hg hr).1,ho.kept hg ?_,hn⟩
  rcases ho.2 with ⟨rfl,_⟩ | ⟨g,cap,cur,fz,rfl,_,hgg,_⟩
  · exact .inl rfl
  · exact .inr (j6x hgg hg hr).2
 exact h.imp (at' _) (at' _)
theorem q8a {W W':World} (h:Below W.heap.size W W'):W.grownBy W' none:=⟨h.os,h.tape,h.output,h.size,fun k hk _=>h.block k hk⟩
theorem j8w {W W':World} {T e B b:Nat} {bs:List Value} (h:Lib.IsBuilderF T e B b bs W) (hb:Below W.heap.size W W'):Lib.IsBuilderF T e B b bs W':=w2l h (q8a hb) (fun r e=>by cases e)
theorem x7o (w:World) (k:Nat) (os:Array Obj):Below w.heap.size w (grow (w.drewN k) os) :=
 ⟨rfl,rfl,rfl,by simp [grow,World.drewN],fun b hb=>by
  show (w.heap++os)[b]?=_
  rw [Array.getElem?_append_left hb]⟩
theorem w9k {len:Nat} {z:Nat→Int} {m:Nat} (h:0≤z m∧z m < 1000000000):(q1y len z m).length≤9:=by
 have:(Gb.dec (z m).toNat).length≤9:=Gb.dec_length (by omega) (by omega)
 unfold q1y
 split <;> simp <;> omega
theorem w8m {len:Nat} {z:Nat→Int} (hz:∀ j,j < len→0≤z j∧z j < 1000000000):∀ pre:List { m:Nat // m < len },(txt len z pre).length≤pre.length*9
 | []=>Nat.le_refl _
 | x::pre=>by
  have h1:=w8m hz pre
  have h2:=w9k (len:=len) (hz x.1 x.2)
  have:txt len z (x::pre)=q1y len z x.1++txt len z pre:=by simp [txt]
  rw [this,List.length_append,List.length_cons]; omega
theorem rep48 (n:Nat):Lib.repeatL [48] n=List.replicate n (48:UInt8):=by
 induction n with
 | zero=>rfl
 | succ n ih=>show 48::Lib.repeatL [48] n=_; rw [ih]; rfl
set_option maxRecDepth 100000 in
set_option maxHeartbeats 4000000 in
theorem u3j (len cap:Nat) (hl:0 < len) (hreach:len*9≤140737488355328) (a:Addr) (z:Nat→Int) (hz:∀ j,j < len→0≤z j∧z j < 1000000000) (w:World) (ha:a.block < w.heap.size)
    (hc:∀ j,j < len→w.cell? (a.add j)=some (.int .u32 (z j))) (htab:Lib.TabIs Tryz.prog w "internal/strconv.uint64pow10" .u64 Lib.pow10Tab) :
    Calls Tryz.prog 258 #[.slice (some a) len cap] w fun e w'=>e=.returned (.string ⟨(txt len z (upto (down hl) len)).toArray⟩)∧Below w.heap.size w w':=by
 refine (callsIn_wide (n:=3)).1 ?_
 have h1:1≤3:=by omega
 refine callsIn_of_wp_marks Tryz.func258 rfl trivial ?_ rfl
 simp only [Tryz.ntmps258,List.size_toArray,List.length_cons,List.length_nil,Nat.reduceAdd,Nat.reduceSub,Array.replicate_succ,Array.replicate_zero,List.push_toArray,List.append_toArray,List.nil_append,List.cons_append]
 gi_wp2_with (refine ⟨trivial,?_⟩; gi_at_call 278; refine (back_in Fence.wide _ trivial rfl _ _ _ _).mono ?_; rintro e w' ⟨rfl,rfl⟩)
 obtain ⟨W0,hW0⟩:∃ W0,W0=((w.alloc (.cells #[.slice (some a) len cap] 236)).alloc (.cells #[.pointer none,.slice none 0 0] 273)).alloc (.cells #[.slice (some a) len cap] 236):=⟨_,rfl⟩
 rw [← hW0]
 have hsz:W0.heap.size=w.heap.size+1+1+1:=by rw [hW0]; simp
 have hbel:Below w.heap.size w W0:=by rw [hW0]; exact (((Below.refl _ w).alloc (Nat.le_refl _) _).alloc (by simp) _).alloc (by simp; omega) _
 have hb2:W0.heap[w.heap.size+1+1]?=some (.cells #[.slice (some a) len cap] 236 (0,0)):=by
  rw [hW0]; have:=World.alloc_heap_new ((w.alloc (.cells #[.slice (some a) len cap] 236)).alloc (.cells #[.pointer none,.slice none 0 0] 273)) (.cells #[.slice (some a) len cap] 236); rwa [World.size_alloc,World.size_alloc] at this
 have hbb:W0.heap[w.heap.size+1]?=some (.cells #[.pointer none,.slice none 0 0] 273 (0,0)):=by
  rw [hW0,Below.heap_alloc _ _ _ (by simp)]; have:=World.alloc_heap_new (w.alloc (.cells #[.slice (some a) len cap] 236)) (.cells #[.pointer none,.slice none 0 0] 273); rwa [World.size_alloc] at this
 have hb1:W0.heap[w.heap.size]?=some (.cells #[.slice (some a) len cap] 236 (0,0)):=by
  rw [hW0,Below.heap_alloc _ _ _ (by simp; omega),Below.heap_alloc _ _ _ (by simp)]; exact World.alloc_heap_new _ _
 have hbx:Bx (w.heap.size+1+1) len cap a z W0:=⟨by simp [World.cell?,hb2],fun j hj=>(hbel.cell (p:=a.add j) (by rw [add_blk]; exact ha)).trans (hc j hj)⟩
 have hbd:Lib.IsBuilderF 273 5 w.heap.size (w.heap.size+1) (Lib.byteCells (txt len z [])) W0:=Lib.IsBuilderF.of (.inl ⟨by omega,_,hbb,World.ownsRow_nil _ _ _ _,by simp [Value.ownBlock]⟩)
 clear hW0 hc
 refine wpIn_rangeFunc_ownF rfl (by omega) (gf:=293) (lb:=#[.pointer (some ⟨w.heap.size+1+1,0,none⟩)]) rfl trivial (enters_of Tryz.func293 (by kernel_rfl) rfl)
  (back_stops Fence.wide _ trivial rfl (by omega) (w.heap.size+1+1) len cap hl a z (by omega) W0 (by omega) (by omega) hbx) (fun h k x=>k (h x)) ?hKb (Below.refl _ _) (fun _=>rfl)
  (fun pre W=>Lib.IsBuilderF 273 5 w.heap.size (w.heap.size+1) (Lib.byteCells (txt len z pre)) W∧W.heap[w.heap.size]?=some (.cells #[.slice (some a) len cap] 236 (0,0))∧W.heap[w.heap.size+1+1]?=some (.cells #[.slice (some a) len cap] 236 (0,0))∧Below w.heap.size w W)
  (fun _ _ _=>False) ?hI ?hIx ⟨hbd,hb1,hb2,hbel⟩
  (fun x=>{ tmps:=#[.slice (some a) len cap,.pointer (some ⟨w.heap.size,0,none⟩),.string ⟨#[]⟩,.pointer (some ⟨w.heap.size+1,0,none⟩),.int .i64 (x.1:Nat),.int .u32 (z x.1),undef,.slice (some a) len cap,.int .i64 len,.bool false,.slice (some a) len cap,.func (.func 293) #[] #[.pointer (some ⟨w.heap.size+1+1,0,none⟩)],.int .i64 (x.1:Nat),.int .u32 (z x.1),undef,undef,undef,undef,undef,undef,undef,undef,undef,undef,undef,undef,undef,undef,undef,undef],defers:=[] }) ?assign ?body ?done ?stop
 case hKb =>
  intro W l o o' hlB ho hoc _ ⟨hx1,hx2⟩
  exact ⟨cell_kept hx1 (grownBy_putObj' _ l o') (fun r e=>by cases e; exact ⟨_,ho,hoc⟩),fun j hj=>cell_kept (hx2 j hj) (grownBy_putObj' _ l o') (fun r e=>by cases e; exact ⟨_,ho,hoc⟩)⟩
 case hI =>
  rintro s W W' row ⟨i1,i2,i3,i4⟩ hg hr
  have hr':∀ r,row=some r→∃ o:Obj,W.heap[r]?=some o∧o.isCells=false:=fun r e=>(hr r e).2
  exact ⟨w2l i1 hg hr',(j6x i2 hg hr').1,(j6x i3 hg hr').1,i4.grown hg i4.size (fun k e=>by have:=(hr k e).1; omega)⟩
 case hIx=>intro c s W W' row h; exact h.elim
 case assign =>
  intro l x W K hK
  gi_wp2
  exact hK
 case body =>
  rintro l pre ⟨m,hm⟩ W ⟨i1,i2,i3,i4⟩ hlt
  obtain ⟨u,hu⟩:∃ u:Nat,z m=u:=⟨(z m).toNat,by have:=hz m hm; omega⟩
  have hu9:u < 1000000000:=by have:=hz m hm; omega
  have hpl:=w8m hz pre
  have htab':=w9s htab i4
  dsimp only
  rw [hu]
  have hdl:(Lib.decDigits u).length≤9:=by rw [decD]; exact Gb.dec_length (by omega) (by omega)
  have hq:(Lib.byteCells (txt len z pre)).length+(ByteArray.mk (Lib.decDigits u).toArray).size≤140737488355328:=by
   rw [Lib.byteCells_length]
   show _+(Lib.decDigits u).toArray.size≤_
   simp only [List.size_toArray]; omega
  have hbc:∃ cs T,W.heap[w.heap.size+1]?=some (.cells cs T (0,0)):=by
   rcases i1 with ⟨_,v,h,_⟩ | ⟨_,v,h,_⟩
   · exact ⟨_,_,h⟩
   · exact ⟨_,_,h⟩
  have fin:∀ (W':World) (bs:List Value) (a':Act),Below w.heap.size W W'→Lib.OthersKept 5 (some (w.heap.size+1)) W W'→Lib.IsBuilderF 273 5 w.heap.size (w.heap.size+1) bs W'→bs=Lib.byteCells (txt len z (pre++[⟨m,hm⟩])) →
      ownPostK (fun W W'=>Bx (w.heap.size+1+1) len cap a z W→Bx (w.heap.size+1+1) len cap a z W') (fun pre W=>Lib.IsBuilderF 273 5 w.heap.size (w.heap.size+1) (Lib.byteCells (txt len z pre)) W∧W.heap[w.heap.size]?=some (.cells #[.slice (some a) len cap] 236 (0,0))∧W.heap[w.heap.size+1+1]?=some (.cells #[.slice (some a) len cap] 236 (0,0))∧Below w.heap.size w W) (fun _ _ _=>False) (pre++[⟨m,hm⟩]) W .normal a' W':=by
   rintro W' bs a' g1 g2 g3 rfl
   have e2:=g2 _ _ i2 (by simp) (by rintro c fz e; cases e)
   have e3:=g2 _ _ i3 (by simp) (by rintro c fz e; cases e)
   refine ⟨⟨g1.size,fun k o hk ho=>g2 k o hk (fun e=>?_) (fun c fz e=>by rw [e] at ho; cases ho)⟩,fun hx=>⟨by simp [World.cell?,e3],fun j hj=>(g1.cell (p:=a.add j) (by rw [add_blk]; exact ha)).trans (hx.2 j hj)⟩,g3,e2,e3,i4.trans g1⟩
   cases e
   obtain ⟨cs,T,h⟩:=hbc
   rw [h] at hk; cases hk; cases ho
  have step0:∀ {w1:World},Below W.heap.size W w1→Below w.heap.size W w1∧Lib.OthersKept 5 (some (w.heap.size+1)) W w1:=fun {w1} hb=>⟨hb.mono i4.size,fun k o hk _ _=>(hb.block k (Array.getElem?_eq_some_iff.1 hk).1).trans hk⟩
  have bytes:∀ (l1 l2:List UInt8),Lib.byteCells l1++Lib.strCells ⟨l2.toArray⟩=Lib.byteCells (l1++l2):=fun l1 l2=>by simp [Lib.byteCells,Lib.strCells]
  have hpc:q1y len z m=(if m+1 < len then List.replicate (9 - (Gb.dec u).length) 48 else [])++Gb.dec u:=by unfold q1y; rw [hu,Int.toNat_natCast]
  by_cases hlast:m+1 < len
  · obtain ⟨q,hqq⟩:∃ q:Nat,(9:Int) - ((Lib.decDigits u).length:Int)=q:=⟨9 - (Lib.decDigits u).length,by omega⟩
    have hr1:(ByteArray.mk #[48]).size*q≤140737488355328:=by show 1*q≤_; omega
    have hsc:Lib.strCells ⟨(Lib.repeatL [48] q).toArray⟩=Lib.byteCells (List.replicate q 48):=by rw [rep48]; simp [Lib.strCells,Lib.byteCells]
    have hr2:(Lib.byteCells (txt len z pre)).length+(ByteArray.mk (Lib.repeatL [48] q).toArray).size≤140737488355328:=by
     rw [Lib.byteCells_length]
     show _+(Lib.repeatL [48] q).toArray.size≤_
     rw [rep48,List.size_toArray,List.length_replicate]; omega
    have hr3:(Lib.byteCells (txt len z pre)++Lib.strCells ⟨(Lib.repeatL [48] q).toArray⟩).length+(ByteArray.mk (Lib.decDigits u).toArray).size≤140737488355328:=by
     rw [hsc,List.length_append,Lib.byteCells_length,Lib.byteCells_length,List.length_replicate]
     show _+(Lib.decDigits u).toArray.size≤_
     simp only [List.size_toArray]; omega
    have hsc:=Lib.hid hsc
    gi_wp2_with (first
     | (refine ⟨trivial,?_⟩; gi_at_call 279; refine (CallsIn.inRound l (callsIn_wide.2 (Tryz.strconv_FormatUint u (by omega) W htab'))).mono ?_; rintro e w1 ⟨rfl,k,os,hw1⟩; have hb:Below W.heap.size W w1:=(by rw [hw1]; exact x7o _ _ _); clear hw1; have j1:=j8w i1 hb; have j2:w1.cell? ⟨w.heap.size,0,none⟩=some (.slice (some a) len cap):=(by simp [World.cell?,hb.block _ (Array.getElem?_eq_some_iff.1 i2).1,i2]))
     | (refine ⟨trivial,?_⟩; gi_at_call 281; refine (CallsIn.inRound l (callsIn_wide.2 (Tryz.strings_Repeat ⟨#[48]⟩ q w1 (by omega) hr1))).mono ?_; rintro e w3 ⟨rfl,r1⟩; have j3:=j8w j1 r1)
     | (refine ⟨trivial,?_⟩; gi_at_call 280; refine (CallsIn.inRound l (callsIn_wide.2 (Tryz.WriteString_k w.heap.size (w.heap.size+1) _ ⟨(Lib.repeatL [48] q).toArray⟩ w3 j3 hr2 (Nat.le_trans i4.size (Nat.le_trans hb.size r1.size))))).mono ?_; rintro e w4 ⟨rfl,k1,k2,k3⟩; clear j3)
     | (refine ⟨trivial,?_⟩; gi_at_call 280; refine (CallsIn.inRound l (callsIn_wide.2 (Tryz.WriteString_k w.heap.size (w.heap.size+1) _ ⟨(Lib.decDigits u).toArray⟩ w4 (.inr k1) hr3 (Nat.le_trans i4.size (Nat.le_trans hb.size (Nat.le_trans r1.size k2.size)))))).mono ?_; rintro e w5 ⟨rfl,n1,n2,n3⟩))
    obtain ⟨s1,s2⟩:=step0 hb
    have t1:Below w.heap.size W w3:=s1.trans (r1.mono (Nat.le_trans i4.size hb.size))
    have t2:Lib.OthersKept 5 (some (w.heap.size+1)) W w3:=s2.trans (fun k o hk _ _=>(r1.block k (Array.getElem?_eq_some_iff.1 hk).1).trans hk)
    exact fin w5 _ _ ((t1.trans k2).trans n2) ((t2.trans k3).trans n3) (.inr n1) (by
     rw [hsc.out,show Lib.byteCells (txt len z pre)++Lib.byteCells (List.replicate q 48)=Lib.byteCells (txt len z pre++List.replicate q 48) by simp [Lib.byteCells],bytes,v2h,hpc,if_pos hlast,decD,show 9 - (Gb.dec u).length=q by rw [decD] at hqq; omega]
     rw [List.append_assoc])
  · gi_wp2_with (first
     | (refine ⟨trivial,?_⟩; gi_at_call 279; refine (CallsIn.inRound l (callsIn_wide.2 (Tryz.strconv_FormatUint u (by omega) W htab'))).mono ?_; rintro e w1 ⟨rfl,k,os,hw1⟩; have hb:Below W.heap.size W w1:=(by rw [hw1]; exact x7o _ _ _); clear hw1; have j1:=j8w i1 hb; have j2:w1.cell? ⟨w.heap.size,0,none⟩=some (.slice (some a) len cap):=(by simp [World.cell?,hb.block _ (Array.getElem?_eq_some_iff.1 i2).1,i2]))
     | (refine ⟨trivial,?_⟩; gi_at_call 280; refine (CallsIn.inRound l (callsIn_wide.2 (Tryz.WriteString_k w.heap.size (w.heap.size+1) _ _ _ j1 hq (Nat.le_trans i4.size hb.size)))).mono ?_; rintro e w2 ⟨rfl,k1,k2,k3⟩))
    obtain ⟨s1,s2⟩:=step0 hb
    exact fin w2 _ _ (s1.trans k2) (s2.trans k3) (.inr k1) (by rw [bytes,v2h,hpc,if_neg hlast,decD]; rfl)
 case done =>
  rintro D ys W hD rfl ⟨i1,i2,i3,i4⟩ hK
  gi_wp2_with (refine ⟨trivial,?_⟩; gi_at_call 282; refine (callsIn_wide.2 (Tryz.Builder_String_any_k w.heap.size (w.heap.size+1) _ W i1 i4.size)).mono ?_; rintro e w' ⟨rfl,_,k2,k3⟩; have hK':=k3 D _ hK (by simp; omega) (by simp))
  refine ⟨by simp,.inl ⟨_,_,rfl,run_takeDeferred hK',?_⟩⟩
  exact ⟨_,results_tmp rfl _ _ _,rfl,(i4.trans k2).trans (belowK_b (w:=w) (Nat.le_refl _) _ D _ _ (by omega) hK' rfl rfl)⟩
 case stop =>
  rintro D c pre W _ _ h _
  exact h.elim
end Go.Proofs
namespace Gev
open Go Gb Go.Proofs
variable {E:Env}
theorem u4i {α:Type} {l:List α} {i:Nat} (h:i < l.length):∃ c,l[i]?=some c:=⟨l[i],List.getElem?_eq_getElem h⟩
theorem u4d {h w:Nat} (h0:0 < h) (hw:w < 1000000000):dec (w+1000000000*h)=dec h++(List.replicate (9 - (dec w).length) 48++dec w):=by
 have hl:(dec w).length≤9:=dec_length (by omega) (by omega)
 obtain ⟨t,et⟩:∃ t,t=9 - (dec w).length:=⟨_,rfl⟩
 rw [← et]
 have hz:∀ t,dval (List.replicate t 48)=0:=fun t=>by
  induction t with
  | zero=>rfl
  | succ t ih=>rw [List.replicate_succ,j8m,ih]; simp
 have hdz:Dg (List.replicate t 48):=fun c hc=>by rw [List.eq_of_mem_replicate hc]; decide
 have hN:q1r (dec h++(List.replicate t 48++dec w)):=by
  refine ⟨by simp [k2p],(y7x h).append (hdz.append (y7x w)),fun _=>?_⟩
  rw [q8b (k2p h)]
  exact w2a (by omega)
 have e:=hN.eq_dec
 rw [e]
 congr 1
 rw [y9t,y9t,hz,z6p,z6p,List.length_append,List.length_replicate,show t+(dec w).length=9 by omega]
 omega
theorem v7z {n:Nat} (hl:0 < (words n).length):∀ k,1≤k→k≤(words n).length→∀ H:Nat,wv ((words n).drop ((words n).length - k))=H→txt (words n).length (fun j=>(words n).getD j 0) (upto (down hl) k)=dec H
 | 0,h,_,_,_=>by omega
 | k+1,_,hk,H,hH=>by
  rw [q1p,v2h]
  obtain ⟨m,hm⟩:∃ m,m+k+1=(words n).length:=⟨(words n).length - k - 1,by omega⟩
  have em:(down hl k).1=m:=by show (words n).length - 1 - k=m; omega
  rw [em]
  rw [show (words n).length - (k+1)=m by omega,X9 _ _ (by omega)] at hH
  have hb:=(B9 n).getD m
  obtain ⟨x,ex⟩:∃ x:Nat,(words n).getD m 0=x:=⟨((words n).getD m 0).toNat,by omega⟩
  obtain ⟨h,eh,h1,h2⟩:=v2n (n:=n) (i:=m) (by omega)
  rw [ex,eh] at hH
  unfold q1y
  simp only
  rw [ex,Int.toNat_natCast]
  rcases Nat.eq_zero_or_pos k with rfl | hk0
  · have:=h2 (by omega)
    subst this
    rw [if_neg (by omega),List.nil_append,show upto (down hl) 0=[] from rfl,show txt (words n).length (fun j=>(words n).getD j 0) []=[] from rfl,List.nil_append,show H=x by omega]
  · have hp:=h1 (by omega)
    rw [v7z hl k hk0 (by omega) h (by rw [show (words n).length - k=m+1 by omega]; exact eh),if_pos (by omega),show H=x+1000000000*h by omega,u4d hp (by omega)]
theorem w9u:Fn E V4 [.c (.list [])] (.c (.str ⟨#[48]⟩)) :=
 fnMk [.t true] (by kernel_rfl) (by kernel_rfl) (aO (beT (a:=(0:Int)) (b:=0) rfl)) (by kernel_rfl)
theorem u5l (htab:∀ w,E.Gd w→Lib.TabIs Tryz.prog w "internal/strconv.uint64pow10" .u64 Lib.pow10Tab) {n K:Nat} (h:n < 10 ^ K) (hK:K≤Lim+1):Fn E V4 [.c (.list (Wr (words n)))] (.c (.str (B (dec n)))):=by
 have hwl:=y0f h
 rw [Y9] at hK
 by_cases h0:n=0
 · subst h0
   rw [Y4,z7v]
   exact w9u
 · have hl:0 < (words n).length:=y2y (fun e=>h0 (z8b.1 e))
   refine ⟨P6 (by kernel_rfl),.c _,fun w ext cargs hg hB hx hcl ha=>?_⟩
   obtain ⟨v,rfl⟩:∃ v,cargs=#[v]:=by
    match cargs,hcl with
    | ⟨[v]⟩,_=>exact ⟨v,rfl⟩
   have hc0:=ha 0 v _ rfl rfl
   cases hc0 with
   | c hr =>
    generalize hxs:Wr (words n)=xs at hr
    cases hr with
    | list A c xs sz u hc hA hx' hu hd =>
     subst hxs
     obtain ⟨a,rfl,hab,_⟩:=hA (by intro e; have h9:=congrArg List.length e; rw [B3,List.length_nil] at h9; omega)
     have hsz:sz=1:=by
      obtain ⟨x,hx0⟩:=u4i (l:=words n) (i:=0) hl
      rw [← hx' _ (List.mem_of_getElem? (w5j hx0))]; rfl
     subst hsz
     rw [B3]
     have hcell:∀ j,j < (words n).length→w.cell? (a.add j)=some (.int .u32 ((words n).getD j 0)):=by
      intro j hj
      have g:=G5 hj
      have e1:=hu a j _ 0 _ rfl g rfl
      have e2:=hd j _ 0 _ g rfl
      rw [Nat.mul_one,Nat.add_zero] at e1
      rw [e1]
      generalize u j 0=q at e2
      cases e2; rfl
     have hz:∀ j,j < (words n).length→0≤(words n).getD j 0∧(words n).getD j 0 < 1000000000:=fun j _=>(B9 n).getD j
     refine Calls.mono (u3j (words n).length c hl (by omega) a (fun j=>(words n).getD j 0) hz w hab hcell (htab w hg)) ?_
     rintro e w' ⟨rfl,hb⟩
     have hk:=Kept.of_below hb
     refine ⟨_,rfl,E.hs w _ (fun b hb'=>hk.heap b (Nat.lt_of_lt_of_le hb' hB) id) hk.size hg,hk,?_⟩
     rw [v7z hl (words n).length hl (Nat.le_refl _) n (by rw [Nat.sub_self,List.drop_zero,B5])]
     exact .c (.str _)
end Gev
namespace Gev
open Go Gb Go.Proofs Go.Sort
variable {E:Env}
structure Laid (E:Env):Prop where
 tab:∀ w,E.Gd w→Go.Lib.TabIs Tryz.prog w "internal/strconv.uint64pow10" .u64 Go.Lib.pow10Tab
 max:∀ w,E.Gd w→∃ m,w.cell? ⟨1,0,none⟩=some (.int .i64 m)
theorem v6p (z:Int):Go.Lib.itoa z=decZ z:=by
 by_cases h:z < 0
 · obtain ⟨u,rfl⟩:∃ u:Nat,z=-(u:Int):=⟨z.natAbs,by omega⟩
   rw [Go.Lib.itoa_neg u (by omega),z6o h,decD,Int.natAbs_neg,Int.natAbs_natCast]
 · obtain ⟨u,rfl⟩:∃ u:Nat,z=u:=⟨z.natAbs,by omega⟩
   rw [Go.Lib.itoa_nonneg,y6a,decD]
theorem x8u {Γ:Ctx} (l:List UInt8):RepA DD Γ (.string ⟨l.toArray⟩) (.c (.str (B l))):=.c (.str _)
theorem u1k (L:Laid E) (z:Int) (hz:-9223372036854775808≤z∧z≤9223372036854775807):Fn E y5x [.c (.i64 z)] (.c (.str (B (decZ z)))) :=
 z8m (ds:=[.i64 z]) (vs:=[.int .i64 z]) E.hs (P6 (by kernel_rfl)) (.c _) rfl fun w hg _=>by
  refine Calls.mono (Tryz.strconv_Itoa z hz.1 hz.2 w (L.tab w hg)) ?_
  rintro e w' ⟨rfl,k,os,rfl⟩
  exact ⟨_,rfl,Kept.of_below (x7o _ _ _),fun ext=>by rw [v6p]; exact x8u _⟩
theorem v3s (L:Laid E) (z:Int) (hz:-9223372036854775808≤z∧z≤9223372036854775807):Fn E z7l [.c (.i64 z),.c (.i64 10)] (.c (.str (B (decZ z)))) :=
 z8m (ds:=[.i64 z,.i64 10]) (vs:=[.int .i64 z,.int .i64 10]) E.hs (P6 (by kernel_rfl)) (.c _) rfl fun w hg _=>by
  refine Calls.mono (Tryz.strconv_FormatInt_10 z hz.1 hz.2 w (L.tab w hg)) ?_
  rintro e w' ⟨rfl,k,os,rfl⟩
  exact ⟨_,rfl,Kept.of_below (x7o _ _ _),fun ext=>by rw [v6p]; exact x8u _⟩
theorem v3r (l p:List UInt8):Fn E y3k [.c (.str (B l)),.c (.str (B p))] (.tup [.c (.str (B (if p.isPrefixOf l then l.drop p.length else l))),.c (.bool (p.isPrefixOf l))]) :=
 z8m (ds:=[.str (B l),.str (B p)]) (vs:=[.string (B l),.string (B p)]) E.hs (P6 (by kernel_rfl)) (AV.isData_ok rfl) rfl fun w hg _=>by
  refine Calls.mono (Tryz.strings_CutPrefix (B l) (B p) w) ?_
  rintro e w' ⟨rfl,rfl⟩
  refine ⟨_,rfl,Kept.refl _ _,fun ext=>?_⟩
  rw [y4k,y4k]
  refine .tup [_,_] _ rfl fun i v a h1 h2=>?_
  match i,h1,h2 with
  | 0,h1,h2=>cases h1; cases h2; exact x8u _
  | 1,h1,h2=>cases h1; cases h2; exact .c (.bool _)
theorem u4l (L:Laid E) (s sep:List UInt8) (hs:s.length < 4000000000):Fn E y0h [.c (.str (B s)),.c (.str (B sep))] (.tup [.c (.str (B (Go.Lib.cut s sep).1)),.c (.str (B (Go.Lib.cut s sep).2.1)),.c (.bool (Go.Lib.cut s sep).2.2)]) :=
 z8m (ds:=[.str (B s),.str (B sep)]) (vs:=[.string (B s),.string (B sep)]) E.hs (P6 (by kernel_rfl)) (AV.isData_ok rfl) rfl fun w hg _=>by
  obtain ⟨m,hm⟩:=L.max w hg
  refine Calls.mono (Tryz.strings_Cut (B s) (B sep) m w (by rw [F7]; omega) hm) ?_
  rintro e w' ⟨rfl,n,rfl⟩
  refine ⟨_,rfl,Kept.of_drewN w n,fun ext=>?_⟩
  rw [y4k,y4k]
  refine .tup [_,_,_] _ rfl fun i v a h1 h2=>?_
  match i,h1,h2 with
  | 0,h1,h2=>cases h1; cases h2; exact x8u _
  | 1,h1,h2=>cases h1; cases h2; exact x8u _
  | 2,h1,h2=>cases h1; cases h2; exact .c (.bool _)
theorem j0z (b:UInt8) (l:List UInt8):Go.Lib.index (b::l) [47]=if b=47 then 0 else if Go.Lib.index l [47]=-1 then -1 else Go.Lib.index l [47]+1:=by
 show (if [47].isPrefixOf (b::l) then 0 else if Go.Lib.index l [47] == -1 then -1 else Go.Lib.index l [47]+1)=_
 have:[47].isPrefixOf (b::l)=((47:UInt8) == b):=by show ((47:UInt8) == b && [].isPrefixOf l)=_; simp
 rw [this]
 by_cases hb:b=47
 · subst hb; simp
 · rw [beq_eq_false_iff_ne.2 (fun e=>hb e.symm),if_neg (by simp),if_neg hb]
   simp only [beq_iff_eq]
theorem w2k:∀ {p:List UInt8},(47:UInt8) ∉ p→Go.Lib.index p [47]=-1
 | [],_=>rfl
 | b::l,h=>by
  have h1:b≠47:=fun e=>h (by rw [e]; simp)
  have h2:=w2k (p:=l) (fun e=>h (by simp [e]))
  rw [j0z,if_neg h1,if_pos h2]
theorem v7a {q:List UInt8}:∀ {p:List UInt8},(47:UInt8) ∉ p→Go.Lib.index (p++47::q) [47]=p.length
 | [],_=>by rw [List.nil_append,j0z,if_pos rfl]; rfl
 | b::l,h=>by
  have h1:b≠47:=fun e=>h (by rw [e]; simp)
  have h2:=v7a (q:=q) (p:=l) (fun e=>h (by simp [e]))
  rw [List.cons_append,j0z,if_neg h1,h2,if_neg (by omega),List.length_cons]; rfl
theorem u4a {p q:List UInt8} (h:(47:UInt8) ∉ p):Go.Lib.cut (p++47::q) [47]=(p,q,true):=by
 unfold Go.Lib.cut
 rw [v7a h,if_pos (by omega),Int.toNat_natCast,List.take_left,List.length_singleton,List.drop_append,List.drop_eq_nil_of_le (by omega),List.nil_append,show p.length+1 - p.length=1 by omega]; rfl
theorem cut_no {p:List UInt8} (h:(47:UInt8) ∉ p):Go.Lib.cut p [47]=(p,[],false):=by
 unfold Go.Lib.cut
 rw [w2k h,if_neg (by omega)]
theorem v2i {M:Nat} (hM:1000000000≤M):∀ (l:List UInt8) (acc:Nat),Dg l→acc*10 ^ l.length+dval l < 1000000000→Go.Lib.parseUintM M acc l=.ok (acc*10 ^ l.length+dval l)
 | [],acc,_,_=>by show Go.Lib.NumEnd.ok acc=_; rw [u0y]; simp
 | c::r,acc,hd,hb=>by
  have hc:=hd c (by simp)
  rw [j8m,List.length_cons,Nat.pow_succ] at hb ⊢
  have hp:1≤10 ^ r.length:=Nat.pow_pos (by decide)
  have e:acc*(10 ^ r.length*10)+((c.toNat - 48)*10 ^ r.length+dval r)=(acc*10+(c.toNat - 48))*10 ^ r.length+dval r:=by grind
  rw [e] at hb ⊢
  have hle:(acc*10+(c.toNat - 48))≤(acc*10+(c.toNat - 48))*10 ^ r.length:=Nat.le_mul_of_pos_right _ hp
  unfold Go.Lib.parseUintM
  rw [if_pos hc,if_neg (by omega),if_neg (by omega)]
  exact v2i hM r _ (fun x hx=>hd x (by simp [hx])) hb
theorem q7q {l:List UInt8} (hd:Dg l) (hl:l.length≤9):dval l < 1000000000:=by
 have h1:=j3y hd
 have h2:(10:Nat) ^ l.length≤10 ^ 9:=Nat.pow_le_pow_right (by decide) hl
 omega
theorem v3t (l:List UInt8) (hd:Dg l) (h1:1≤l.length) (h9:l.length≤9):Fn E y3j [.c (.str (B l)),.c (.i64 10),.c (.i64 32)] (.tup [.c (.u64 (dval l:Int)),.undef]) :=
 z8m (ds:=[.str (B l),.i64 10,.i64 32]) (vs:=[.string (B l),.int .i64 10,.int .i64 32]) E.hs (P6 (by kernel_rfl)) (AV.isData_ok rfl) rfl fun w hg _=>by
  have hp:Go.Lib.parseUintB 32 (B l).data.toList=.ok (dval l):=by
   rw [y4k]
   unfold Go.Lib.parseUintB
   rw [if_neg (by intro e; rw [e] at h1; simp at h1),v2i (by decide) l 0 hd (by have:=q7q hd h9; omega)]
   simp
  refine Calls.mono (Tryz.strconv_ParseUint_10_at32_ok (B l) (by rw [F7]; omega) _ hp w) ?_
  rintro e w' ⟨rfl,hw⟩
  have hk:Kept (fun _=>False) w w':=by
   rcases hw with rfl | rfl
   · exact Kept.refl _ _
   · exact Kept.of_below (Go.Lib.bytesWorld_below w 5 (B l))
  refine ⟨_,rfl,hk,fun ext=>?_⟩
  refine .tup [_,_] _ rfl fun i v a h1 h2=>?_
  match i,h1,h2 with
  | 0,h1,h2=>cases h1; cases h2; exact .c (.int _ _)
  | 1,h1,h2=>cases h1; cases h2; exact .undef _
theorem v9f (z:Int) (hl:(decZ z).length≤9):Fn E z8w [.c (.str (B (decZ z))),.c (.i64 10),.c (.i64 64)] (.tup [.c (.i64 z),.undef]) :=
 z8m (ds:=[.str (B (decZ z)),.i64 10,.i64 64]) (vs:=[.string (B (decZ z)),.int .i64 10,.int .i64 64]) E.hs (P6 (by kernel_rfl)) (AV.isData_ok rfl) rfl fun w hg _=>by
  have hla:(dec z.natAbs).length≤9:=Nat.le_trans (by unfold decZ; split <;> simp) hl
  have hn:=q7q (y7x z.natAbs) hla
  rw [z6p] at hn
  have hu:Go.Lib.parseUintB 64 (dec z.natAbs)=.ok z.natAbs:=by
   unfold Go.Lib.parseUintB
   rw [if_neg (k2p _),v2i (by decide) _ 0 (y7x _) (by rw [z6p]; omega),z6p]
   simp
  have hp:Go.Lib.parseIntB 64 (B (decZ z)).data.toList=.ok z:=by
   rw [y4k]
   by_cases h:z < 0
   · rw [z6o h]
     unfold Go.Lib.parseIntB
     simp only
     rw [if_pos (.inr rfl),hu]
     simp only
     rw [if_neg (by simp),if_neg (by omega),if_pos (show UInt8.toNat 45=45 from rfl)]
     congr 1; omega
   · rw [Z5 (by omega)]
     cases hd:dec z.natAbs with
     | nil=>exact absurd hd (k2p _)
     | cons c r =>
      have hc:=y7x z.natAbs c (by rw [hd]; simp)
      unfold Go.Lib.parseIntB
      simp only
      rw [if_neg (by omega),← hd,hu]
      simp only
      rw [if_neg (by omega),if_neg (by omega),if_neg (by omega)]
      congr 1; omega
  refine Calls.mono (Tryz.strconv_ParseInt_10_at64_ok (B (decZ z)) (by rw [F7]; omega) _ hp w) ?_
  rintro e w' ⟨rfl,hw⟩
  have hk:Kept (fun _=>False) w w':=by
   rcases hw with rfl | ⟨t,rfl⟩
   · exact Kept.refl _ _
   · exact Kept.of_below (Go.Lib.bytesWorld_below w 5 t)
  refine ⟨_,rfl,hk,fun ext=>?_⟩
  refine .tup [_,_] _ rfl fun i v a h1 h2=>?_
  match i,h1,h2 with
  | 0,h1,h2=>cases h1; cases h2; exact .c (.int _ _)
  | 1,h1,h2=>cases h1; cases h2; exact .undef _
end Gev
namespace Go.Proofs
open Go.RowKit Go.Shelf Go.Sort Go.MapKept
set_option maxRecDepth 100000
theorem u211:Tryz.prog.underlying 211=some (.map 5 210):=by kernel_rfl
theorem u5:Tryz.prog.underlying 5=some (.int .u8):=by kernel_rfl
theorem q6p (w:World) (es:Array MapEntry) (c:Nat) (k:Int) (v:Value) (hf:Instr.findNow (.int .u8) (.int .u8 k) es.toList 0=some none) :
    (Instr.mapUpdate 211 (.map (some w.heap.size)) (.int .u8 k) v).run Tryz.prog (w.alloc (.map es c))=.ok () (w.alloc (.map (es.push { key:=.int .u8 k,val:=v,born:=c }) (c+1))):=by
 have hb:(w.alloc (.map es c)).heap[w.heap.size]?=some (.map es c):=World.alloc_heap_new w _
 have hs:({ (w.alloc (.map es c)) with heap:=(w.alloc (.map es c)).heap.setIfInBounds w.heap.size (.map (es.push { key:=.int .u8 k,val:=v,born:=c }) (c+1)) }:World)=w.alloc (.map (es.push { key:=.int .u8 k,val:=v,born:=c }) (c+1)):=by
  show ({ w with heap:=(w.heap.push (.map es c)).setIfInBounds w.heap.size _ }:World)={ w with heap:=w.heap.push _ }
  have e:∀ (h:Array Obj) (x y:Obj),(h.push x).setIfInBounds h.size y=h.push y:=fun h x y=>by
   apply Array.ext'
   simp [List.set_append]
  rw [e]
 have hk:IsKey (TypeDesc.int IntKind.u8) (Value.int IntKind.u8 k):=rfl
 simp only [Instr.mapUpdate,Sem.run_bind,run_underlying u211,Result.andThen,Go.MapKept.run_getObj_map hb,Go.MapKept.run_checkKey u5 hk,Go.MapKept.run_findKey u5 hf,Go.MapKept.run_setObj_map _ hb,hs]
def opsMap:Array MapEntry:=#[{ key:=.int .u8 43,val:=.func (.func 246) #[] #[],born:=0 },{ key:=.int .u8 42,val:=.func (.func 247) #[] #[],born:=1 },{ key:=.int .u8 45,val:=.func (.func 248) #[] #[],born:=2 },{ key:=.int .u8 47,val:=.func (.func 250) #[] #[],born:=3 }]
theorem u4t (w:World):Calls Tryz.prog 228 #[] w fun e w'=>e=.returned (.map (some w.heap.size))∧w'=w.alloc (.map opsMap 4):=by
 have hmm:=@run_makeMap Tryz.prog
 have h1:=q6p w #[] 0 43 (.func (.func 246) #[] #[]) rfl
 have h2:=q6p w (#[{ key:=.int .u8 43,val:=.func (.func 246) #[] #[],born:=0 }]) 1 42 (.func (.func 247) #[] #[]) rfl
 have h3:=q6p w (#[{ key:=.int .u8 43,val:=.func (.func 246) #[] #[],born:=0 },{ key:=.int .u8 42,val:=.func (.func 247) #[] #[],born:=1 }]) 2 45 (.func (.func 248) #[] #[]) rfl
 have h4:=q6p w (#[{ key:=.int .u8 43,val:=.func (.func 246) #[] #[],born:=0 },{ key:=.int .u8 42,val:=.func (.func 247) #[] #[],born:=1 },{ key:=.int .u8 45,val:=.func (.func 248) #[] #[],born:=2 }]) 3 47 (.func (.func 250) #[] #[]) rfl
 go_enter Tryz.func228,Tryz.ntmps228
 go_wp2
 go_ret
 exact ⟨rfl,rfl⟩
theorem all_raw (w:World):Calls Tryz.prog 210 #[] w fun e w'=>e=.returned (.map (some w.heap.size))∧w'=w.alloc (.map opsMap 4):=by
 go_enter Tryz.func210,Tryz.ntmps210
 go_wp2_with (go_at_call 228; refine (u4t _).mono ?_; rintro e w' ⟨rfl,rfl⟩)
 go_ret
 exact ⟨rfl,rfl⟩
theorem run_look (w w1:World) (hb:w1.heap[w.heap.size]?=some (.map opsMap 4)) (k:Int) (f:Nat) (h:(k,f)∈[((43:Int),246),(42,247),(45,248),(47,250)]) :
    (Instr.lookup 211 (.map (some w.heap.size)) (.int .u8 k) false).run Tryz.prog w1=.ok (.func (.func f) #[] #[]) w1:=by
 have hk:IsKey (TypeDesc.int IntKind.u8) (Value.int IntKind.u8 k):=rfl
 have hf:∃ i,Instr.findNow (.int .u8) (.int .u8 k) opsMap.toList 0=some (some (i,.func (.func f) #[] #[])):=by
  simp only [List.mem_cons,Prod.mk.injEq,List.not_mem_nil,or_false] at h
  rcases h with ⟨rfl,rfl⟩ | ⟨rfl,rfl⟩ | ⟨rfl,rfl⟩ | ⟨rfl,rfl⟩
  · exact ⟨0,rfl⟩
  · exact ⟨1,rfl⟩
  · exact ⟨2,rfl⟩
  · exact ⟨3,rfl⟩
 obtain ⟨i,hf⟩:=hf
 simp [Instr.lookup,run_underlying u211,Result.andThen,Go.MapKept.run_getObj_map hb,Go.MapKept.run_checkKey u5 hk,Go.MapKept.run_findKey u5 hf]
end Go.Proofs
namespace Gev
open Go Gb Go.Proofs Go.Sort
variable {E:Env}
theorem u5d {Γ:Ctx} {v:Value} {s:ByteArray} (h:RepA DD Γ v (.c (.str s))):v=.string s:=by cases h with | c h=>cases h; rfl
theorem u5c {Γ:Ctx} {v:Value} {n:Int} (h:RepA DD Γ v (.c (.i64 n))):v=.int .i64 n:=by cases h with | c h=>cases h; rfl
theorem w1g {Γ:Ctx} {v:Value} {x y:ByteArray} (h:RepA DD Γ v (.agg [.str x,.str y])):v=.agg #[.string x,.string y]:=by
 cases h with
 | agg vs cs hl h =>
  match vs,hl with
  | ⟨[p,q]⟩,_ =>
   have h0:=h 0 p _ rfl rfl
   have h1:=h 1 q _ rfl rfl
   cases h0; cases h1; rfl
theorem w1o {Γ:Ctx} (x y:ByteArray):RepA DD Γ (.agg #[.string x,.string y]) (.agg [.str x,.str y]):=by
 refine .agg #[_,_] _ rfl fun j u d h1 h2=>?_
 match j,h1,h2 with
 | 0,h1,h2=>cases h1; cases h2; exact .str _
 | 1,h1,h2=>cases h1; cases h2; exact .str _
theorem w8v {a b x1 x2 y1 y2:ByteArray} (h:Fn E F_rational_both [.c (.str a),.c (.str b)] (.tup [.agg [.str x1,.str x2],.agg [.str y1,.str y2],.c (.i64 0)])) (w:World) (hg:E.Gd w) (hB:E.B0≤w.heap.size) :
    Calls Tryz.prog 202 #[.string a,.string b] w fun e w'=>e=.returned (.tuple #[.agg #[.string x1,.string x2],.agg #[.string y1,.string y2],.int .i64 0])∧E.Gd w'∧Kept (fun _=>False) w w':=by
 refine Calls.mono (h.calls w (fun _=>False) #[.string a,.string b] hg hB (fun _ h=>h.elim) rfl fun i v x h1 h2=>?_) ?_
 · match i,h1,h2 with
   | 0,h1,h2=>cases h1; cases h2; exact .c (.str _)
   | 1,h1,h2=>cases h1; cases h2; exact .c (.str _)
 · rintro e w' ⟨v,rfl,k1,k2,k3⟩
   refine ⟨?_,k1,k2⟩
   cases k3 with
   | tup vs us hl h =>
    match vs,hl with
    | [p,q,r],_ =>
     have h0:=w1g (h 0 p _ rfl rfl)
     have h1:=w1g (h 1 q _ rfl rfl)
     have h2:=u5c (h 2 r _ rfl rfl)
     subst h0 h1 h2; rfl
theorem u0q {f:Nat} {x1 x2 y1 y2 z1 z2:ByteArray} (h:Fn E f [.agg [.str x1,.str x2],.agg [.str y1,.str y2]] (.agg [.str z1,.str z2])) (w:World) (hg:E.Gd w) (hB:E.B0≤w.heap.size) :
    Calls Tryz.prog f #[.agg #[.string x1,.string x2],.agg #[.string y1,.string y2]] w fun e w'=>e=.returned (.agg #[.string z1,.string z2])∧E.Gd w'∧Kept (fun _=>False) w w':=by
 refine Calls.mono (h.calls w (fun _=>False) #[_,_] hg hB (fun _ h=>h.elim) rfl fun i v x h1 h2=>?_) ?_
 · match i,h1,h2 with
   | 0,h1,h2=>cases h1; cases h2; exact w1o _ _
   | 1,h1,h2=>cases h1; cases h2; exact w1o _ _
 · rintro e w' ⟨v,rfl,k1,k2,k3⟩
   rw [w1g k3]; exact ⟨rfl,k1,k2⟩
theorem w8w {z1 z2 t:ByteArray} (h:Fn E F_rational_frac_text [.agg [.str z1,.str z2]] (.c (.str t))) (w:World) (hg:E.Gd w) (hB:E.B0≤w.heap.size) :
    Calls Tryz.prog 211 #[.agg #[.string z1,.string z2]] w fun e w'=>e=.returned (.string t)∧E.Gd w'∧Kept (fun _=>False) w w':=by
 refine Calls.mono (h.calls w (fun _=>False) #[_] hg hB (fun _ h=>h.elim) rfl fun i v x h1 h2=>?_) ?_
 · match i,h1,h2 with
   | 0,h1,h2=>cases h1; cases h2; exact w1o _ _
 · rintro e w' ⟨v,rfl,k1,k2,k3⟩
   rw [u5d k3]; exact ⟨rfl,k1,k2⟩
end Gev
namespace Go.Proofs
open Go.RowKit Go.Shelf Go.Sort Gev
theorem w9b (W:World) (o:Obj):Kept (fun _=>False) W (W.drew.alloc o):=⟨fun b hb h=>(Kept.alloc (fun _=>False) W.drew o).heap b hb h,(Kept.alloc (fun _=>False) W.drew o).size,rfl,rfl,rfl⟩
theorem w5p {Gd:World→Prop} {B0:Nat} (hs:Stable B0 Gd) {w W2 w3:World} {x1 x2 y1 y2:ByteArray} {n:Nat} (hg:Gd w) (hB:B0≤w.heap.size) (k2:Kept (fun _=>False) w W2) (hw:w3=W2.drew.alloc (.map opsMap 4)) {op:Int} {f:Nat} (hop:(op,f)∈[((43:Int),246),(42,247),(45,248),(47,250)])
    (a0:W2.cell? ⟨n,0,none⟩=some (.string x1)) (a1:W2.cell? ⟨n,1,none⟩=some (.string x2)) (b0:W2.cell? ⟨n+1,0,none⟩=some (.string y1)) (b1:W2.cell? ⟨n+1,1,none⟩=some (.string y2)) :
    (Instr.lookup 211 (.map (some W2.heap.size)) (.int .u8 op) false).run Tryz.prog w3=.ok (.func (.func f) #[] #[]) w3∧w3.cell? ⟨n,0,none⟩=some (.string x1)∧w3.cell? ⟨n,1,none⟩=some (.string x2)∧w3.cell? ⟨n+1,0,none⟩=some (.string y1)∧w3.cell? ⟨n+1,1,none⟩=some (.string y2)∧Gd w3∧B0≤w3.heap.size∧Kept (fun _=>False) w w3:=by
 subst hw
 have k3:=w9b W2 (.map opsMap 4)
 have k:=k2.trans k3 (fun _ h=>False.elim h)
 exact ⟨run_look W2 _ (World.alloc_heap_new W2.drew _) op f hop,k3.cell a0 id,k3.cell a1 id,k3.cell b0 id,k3.cell b1 id,hs w _ (fun b hb=>k.heap b (Nat.lt_of_lt_of_le hb hB) id) k.size hg,Nat.le_trans hB k.size,k⟩
set_option maxRecDepth 100000 in
set_option maxHeartbeats 40000000 in
theorem w8u (Gd:World→Prop) (B0:Nat) (hs:Stable B0 Gd) (op:Int) (f:Nat) (hop:(op,f)∈[((43:Int),246),(42,247),(45,248),(47,250)]) (a b x1 x2 y1 y2 z1 z2 t:ByteArray) (h47:op=47→¬ y1=(⟨#[48]⟩:ByteArray))
    (ef:∀ args w,(callFunc f args).run Tryz.prog w=.ok (.enter f args) w)
    (hb:∀ w,Gd w→B0≤w.heap.size→Calls Tryz.prog 202 #[.string a,.string b] w fun e w'=>e=.returned (.tuple #[.agg #[.string x1,.string x2],.agg #[.string y1,.string y2],.int .i64 0])∧Gd w'∧Kept (fun _=>False) w w')
    (hf:∀ w,Gd w→B0≤w.heap.size→Calls Tryz.prog f #[.agg #[.string x1,.string x2],.agg #[.string y1,.string y2]] w fun e w'=>e=.returned (.agg #[.string z1,.string z2])∧Gd w'∧Kept (fun _=>False) w w')
    (ht:∀ w,Gd w→B0≤w.heap.size→Calls Tryz.prog 211 #[.agg #[.string z1,.string z2]] w fun e w'=>e=.returned (.string t)∧Gd w'∧Kept (fun _=>False) w w') (w:World) (hg:Gd w) (hB:B0≤w.heap.size) :
    Calls Tryz.prog 189 #[.int .u8 op,.string a,.string b] w fun e w'=>e=.returned (.tuple #[.string t,.int .i64 0])∧Kept (fun _=>False) w w':=by
 go_enter Tryz.func189,Tryz.ntmps189
 go_wp2_with (go_at_call 202; refine (hb _ hg hB).mono ?_; rintro e w1 ⟨rfl,g1,k1⟩)
 · rename_i _ hq
   exact absurd (bytes_ext (b:=(⟨#[48]⟩:ByteArray)) ((eq_of_beq hq).trans (by rw [toList_eq]))) (h47 (by assumption))
 all_goals
  obtain ⟨W2,hW2⟩:∃ W2,W2=(w1.alloc (.cells #[.string x1,.string x2] 184)).alloc (.cells #[.string y1,.string y2] 184):=⟨_,rfl⟩
  rw [← hW2]
  have a0:W2.cell? ⟨w1.heap.size,0,none⟩=some (.string x1):=by rw [hW2]; simp
  have a1:W2.cell? ⟨w1.heap.size,1,none⟩=some (.string x2):=by rw [hW2]; simp
  have b0:W2.cell? ⟨w1.heap.size+1,0,none⟩=some (.string y1):=by rw [hW2]; simp
  have b1:W2.cell? ⟨w1.heap.size+1,1,none⟩=some (.string y2):=by rw [hW2]; simp
  have k2:Kept (fun _=>False) w W2:=by rw [hW2]; exact (k1.trans (Kept.alloc (fun _=>False) _ _) (fun _ h=>False.elim h)).trans (Kept.alloc (fun _=>False) _ _) (fun _ h=>False.elim h)
  have g2:Gd W2:=hs w _ (fun b hb=>k2.heap b (Nat.lt_of_lt_of_le hb hB) id) k2.size hg
  have hB2:=Nat.le_trans hB k2.size
  clear hW2
  try subst op
  go_region_with (first
   | (go_at_call 210; refine (all_raw _).mono ?_; rintro e w3 ⟨rfl,hw3⟩; obtain ⟨hl,a0',a1',b0',b1',g3,hB3,k3⟩:=w5p hs hg hB k2 hw3 hop a0 a1 b0 b1; clear hw3)
   | (go_at_call 211; refine (ht _ g4 hB4).mono ?_; rintro e w5 ⟨rfl,g5,k5⟩)
   | (refine (hf _ g3 hB3).mono ?_; rintro e w4 ⟨rfl,g4,k4⟩; have hB4:=Nat.le_trans hB3 k4.size))
  all_goals
   go_wp2
   go_ret2
   exact ⟨rfl,(k3.trans k4 (fun _ h=>False.elim h)).trans k5 (fun _ h=>False.elim h)⟩
end Go.Proofs
namespace Gev
open Go Gb Go.Proofs
variable {E:Env}
theorem w9c (op:Int) (f:Nat) (hop:(op,f)∈[((43:Int),z3n),(42,z4v),(45,z0o),(47,y5e)]) (a b x1 x2 y1 y2 z1 z2 t:BA)
    (hb:Fn E F_rational_both [.c (.str a),.c (.str b)] (.tup [.agg [.str x1,.str x2],.agg [.str y1,.str y2],.c (.i64 0)])) (h47:op=47→¬ y1=B [48])
    (hf:Fn E f [.agg [.str x1,.str x2],.agg [.str y1,.str y2]] (.agg [.str z1,.str z2])) (ht:Fn E F_rational_frac_text [.agg [.str z1,.str z2]] (.c (.str t))):Fn E z7q [.c (.u8 op),.c (.str a),.c (.str b)] (.tup [.c (.str t),.c (.i64 0)]) :=
 z8m (ds:=[.u8 op,.str a,.str b]) (vs:=[.int .u8 op,.string a,.string b]) E.hs (P6 (by kernel_rfl)) (AV.isData_ok rfl) rfl fun w hg hB=>by
  refine Calls.mono (w8u E.Gd E.B0 E.hs op f hop a b x1 x2 y1 y2 z1 z2 t h47 hf.enters (w8v hb) (u0q hf) (w8w ht) w hg hB) ?_
  rintro e w' ⟨rfl,hk⟩
  refine ⟨_,rfl,hk,fun ext=>?_⟩
  refine .tup [_,_] _ rfl fun i v a h1 h2=>?_
  match i,h1,h2 with
  | 0,h1,h2=>cases h1; cases h2; exact .c (.str _)
  | 1,h1,h2=>cases h1; cases h2; exact .c (.int _ _)
theorem u1j (L:Laid E) (s sep:List UInt8) (hs:s.length < 4200000000):Fn E y0h [.c (.str (B s)),.c (.str (B sep))] (.tup [.c (.str (B (Go.Lib.cut s sep).1)),.c (.str (B (Go.Lib.cut s sep).2.1)),.c (.bool (Go.Lib.cut s sep).2.2)]) :=
 z8m (ds:=[.str (B s),.str (B sep)]) (vs:=[.string (B s),.string (B sep)]) E.hs (P6 (by kernel_rfl)) (AV.isData_ok rfl) rfl fun w hg _=>by
  obtain ⟨m,hm⟩:=L.max w hg
  refine Calls.mono (Tryz.strings_Cut (B s) (B sep) m w (by rw [F7]; omega) hm) ?_
  rintro e w' ⟨rfl,n,rfl⟩
  refine ⟨_,rfl,Kept.of_drewN w n,fun ext=>?_⟩
  rw [y4k,y4k]
  refine .tup [_,_,_] _ rfl fun i v a h1 h2=>?_
  match i,h1,h2 with
  | 0,h1,h2=>cases h1; cases h2; exact x8u _
  | 1,h1,h2=>cases h1; cases h2; exact x8u _
  | 2,h1,h2=>cases h1; cases h2; exact .c (.bool _)
theorem u4k (L:Laid E):Lib E where
 parseUint l h1 h2 h3:=v3t l h1 h2 h3
 cutPrefix l p _ _:=v3r l p
 cutYes p q hp hl:=by
  have h:=u1j L (p++47::q) [47] (by simp; omega)
  rw [u4a hp] at h; exact h
 cutNo p hp hl:=by
  have h:=u4l L p [47] hl
  rw [cut_no hp] at h; exact h
 parseInt z hz:=v9f z hz
 formatInt z hz:=v3s L z hz
 itoa z hz:=u1k L z hz
 apply op f hop a b x1 x2 y1 y2 z1 z2 t hb h47 hf ht:=w9c op f hop a b x1 x2 y1 y2 z1 z2 t hb h47 hf ht
 text n K h hK:=u5l L.tab h hK
end Gev
namespace Gev
open Go Gb Go.Proofs
variable {E:Env}
def q6f (w:World) (own:Nat→Prop) (k:Nat) (xs:RW) (vs:List Value):Prop :=
 vs.length=xs.length*k∧(∀ x∈xs,x.length=k)∧∀ (i:Nat) x (j:Nat) d,xs[i]?=some x→x[j]?=some d→∃ u,vs[i*k+j]?=some u∧RepD w own u d
theorem q6f.one {w:World} {own:Nat→Prop} {k:Nat} {xs:RW} {vs:List Value} (h:q6f w own k xs vs) (u:Value) (hu:u∈vs):u.oneCell'=true:=by
 obtain ⟨n,hn⟩:=List.getElem?_of_mem hu
 obtain ⟨h1,h2,h3⟩:=h
 have hlt:=(List.getElem?_eq_some_iff.1 hn).1
 rw [h1] at hlt
 have hk:0 < k:=by
  rcases Nat.eq_zero_or_pos k with e | e
  · subst e; simp at hlt
  · exact e
 have hi:n / k < xs.length:=by
  rw [Nat.div_lt_iff_lt_mul hk]; exact hlt
 have hj:n % k < k:=Nat.mod_lt _ hk
 have hx:=List.getElem?_eq_getElem hi
 have hxl:=h2 _ (List.getElem_mem hi)
 have hd:=List.getElem?_eq_getElem (l:=xs[n / k]) (i:=n % k) (by omega)
 obtain ⟨u',e1,e2⟩:=h3 _ _ _ _ hx hd
 have e:n / k*k+n % k=n:=by rw [Nat.mul_comm]; exact Nat.div_add_mod n k
 rw [e,hn] at e1
 cases e1
 exact y9z e2
theorem w2x {Γ:Ctx} {B0:Nat} {Gd:World→Prop} (hs:Stable B0 Gd) (ho:Γ.objs=[]) (hG:Good DD B0 Gd Γ) {w':World} (hk:Kept (fun _=>False) Γ.w w') {T k:Nat} {ti:TI} (ht:DD.ty T=some ti) (h2:ti.size=k) {xs:RW} {vs:List Value} (hc:q6f Γ.w Γ.own k xs vs) {v:Value}
    (hr:w'.ownsRow Γ.w.heap.size T k v xs.length vs):∃ Γ':Ctx,Γ'.objs=[some (.vec T xs)]∧Γ'.w=w'∧Good DD B0 Gd Γ'∧Tr DD Γ Γ'∧RepA DD Γ' v (.vec 0 xs.length):=by
 obtain ⟨hc1,hc2,hc3⟩:=hc
 have hnone:∀ k,lk Γ.objs k=none:=fun k=>by rw [ho]; rfl
 have hgd:Gd w':=hs _ _ (fun b hb=>hk.heap b (Nat.lt_of_lt_of_le hb hG.size) id) hk.size hG.gd
 have hlen:∀ x∈xs,x.length=ti.size:=fun x hx=>(hc2 x hx).trans h2.symm
 have mk:∀ (ob:Option Nat),(∀ b,ob=some b→Γ.w.heap.size≤b)→∀ Γ':Ctx,Γ'=⟨⟨fun k=>if k=0 then ob else none,Γ.S.ext⟩,[some (.vec T xs)],w'⟩→(∀ b,Γ'.mine b→Γ.w.heap.size≤b)∧(k1r DD Γ' 0 (.vec T xs)→Good DD B0 Gd Γ'∧Tr DD Γ Γ'):=by
  intro ob hob Γ' e
  have hm:∀ b,Γ'.mine b→Γ.w.heap.size≤b:=fun b ⟨k,o,h,_,hS⟩=>by
   subst e
   have hS:(if k=0 then ob else none)=some b:=hS
   split at hS
   · exact hob b hS
   · cases hS
  refine ⟨hm,fun hob2=>?_⟩
  have hl:∀ k o,lk Γ'.objs k=some o→k=0∧o=.vec T xs:=fun k o h=>by
   subst e
   match k,h with
   | 0,h=>cases h; exact ⟨rfl,rfl⟩
  have hw:Γ'.w=w':=by subst e; rfl
  have hex:Γ'.S.ext=Γ.S.ext:=by subst e; rfl
  refine ⟨⟨fun k o h=>?_,fun k k' o o' b h h' _ _ _ _=>?_,fun b hb=>?_,fun b hb=>⟨?_,fun h=>?_⟩,?_,?_⟩,⟨by rw [hw]; exact hk.mono fun _ h=>h.elim,hex,fun b hb=>.inr (hm b hb),fun k cs h=>?_,fun v k len h=>?_,fun v k i off h=>?_⟩⟩
  · obtain ⟨rfl,rfl⟩:=hl k o h; exact hob2
  · rw [(hl k o h).1,(hl k' o' h').1]
  · rcases hb with hb | hb
    · exact hG.own b (.inl (hex ▸ hb))
    · exact Nat.le_trans hG.size (hm b hb)
  · rw [hw]; exact Nat.lt_of_lt_of_le (hG.ext b (hex ▸ hb)).1 hk.size
  · have:=hm b h; have:=(hG.ext b (hex ▸ hb)).1; omega
  · rw [hw]; exact Nat.le_trans hG.size hk.size
  · rw [hw]; exact hgd
  · rw [hnone] at h; cases h
  · cases h with
    | vnil _ _ h1=>rw [hnone] at h1; cases h1
    | vec _ _ _ _ _ _ _ _ h1=>rw [hnone] at h1; cases h1
    | fvec _ _ _ h1=>rw [hnone] at h1; cases h1
    | gone _ _ h1=>rw [hnone] at h1; cases h1
  · cases h with
    | vptr _ _ _ _ _ _ _ h1=>rw [hnone] at h1; cases h1
    | fptr _ _ _ _ _ _ h1=>rw [hnone] at h1; cases h1
    | pgone _ _ _ h1=>rw [hnone] at h1; cases h1
 obtain ⟨_,hr⟩:=hr
 rcases hr with ⟨rfl,h0⟩ | ⟨g,cap,cur,rfl,hb,hg,hnc,_,hsz,hcur⟩
 · have hl0:xs=[]:=List.eq_nil_of_length_eq_zero h0
   subst hl0
   obtain ⟨a1,a2⟩:=(mk none (fun _ h=>by cases h) _ rfl).2 ⟨ti,ht,hlen,.inl ⟨rfl,rfl⟩⟩
   exact ⟨_,rfl,rfl,a1,a2,.vnil 0 T rfl rfl⟩
 · obtain ⟨m1,m2⟩:=mk (some g) (fun b h=>by cases h; exact hb) _ rfl
   obtain ⟨a1,a2⟩:=m2 ⟨ti,ht,hlen,.inr ⟨g,cur,cap,rfl,hg,by rw [h2]; exact hsz,hnc,fun i x j d u h1 h3 h4=>by
    rw [h2] at h4
    obtain ⟨u',e1,e2⟩:=hc3 i x j d h1 h3
    have hlt:i*k+j < xs.length*k:=by rw [← hc1]; exact (List.getElem?_eq_some_iff.1 e1).1
    rw [← Array.getElem?_toList,← List.getElem?_take_of_lt hlt,hcur,e1] at h4
    cases h4
    exact e2.mono (hk.mono fun _ h=>h.elim) fun b hb' ho'=>by
     rcases ho' with ho' | ho'
     · exact .inl ho'
     · have:=m1 b ho'; omega⟩⟩
   exact ⟨_,rfl,rfl,a1,a2,.vec 0 xs.length cap g T ti xs cur rfl ht rfl (Nat.le_refl _) hg (by rw [h2]; exact hsz) hnc⟩
theorem x6v {f T k:Nat} (hen:∀ cargs w,(callFunc f cargs).run PP w=.ok (.enter f cargs) w) (hti:(DD.ty T).map (·.size)=some k)
    (hsome:∀ (a:Addr) (n c:Nat) (news:List Value) (w:World),news.length=n*k→n≤100000→(∀ j u,news[j]?=some u→w.cell? (a.add j)=some u)→(∀ u∈news,u.oneCell'=true)→Calls PP f #[.slice (some a) n c] w fun e w'=>∃ v',e=.returned v'∧w'.ownsRow w.heap.size T k v' n news∧Go.RowKit.Below w.heap.size w w')
    (hnil:∀ (n c:Nat) (w:World),Calls PP f #[.slice none n c] w fun e w'=>e=.returned (.slice none 0 0)∧w'=w)
    (xs:RW) (hxk:∀ x∈xs,x.length=k) (hl:xs.length < 100000):Rn E f [.c (.list xs)] [] (.vec 0 xs.length) [some (.vec T xs)]:=by
 obtain ⟨ti,ht,h2⟩:∃ ti,DD.ty T=some ti∧ti.size=k:=by
  cases ht:DD.ty T with
  | none=>rw [ht] at hti; cases hti
  | some ti=>rw [ht] at hti; exact ⟨ti,rfl,Option.some.inj hti⟩
 refine ⟨hen,fun Γ cargs ho hG hcl ha=>?_⟩
 obtain ⟨v,rfl⟩:∃ v,cargs=#[v]:=by
  match cargs,hcl with
  | ⟨[v]⟩,_=>exact ⟨v,rfl⟩
 have hc0:=ha 0 v _ rfl rfl
 cases hc0 with
 | c hr =>
  cases hr with
  | list A c xs sz u hc hA hx' hu hd =>
   cases A with
   | none =>
    have hl0:xs=[]:=by
     cases xs with
     | nil=>rfl
     | cons p l=>obtain ⟨a,h,_⟩:=hA (by intro e; cases e); cases h
    subst hl0
    refine Calls.mono (hnil _ c Γ.w) ?_
    rintro e w' ⟨rfl,rfl⟩
    obtain ⟨Γ',a1,a2,a3,a4,a5⟩:=w2x E.hs ho hG (Kept.refl _ _) ht h2 (xs:=[]) (vs:=[]) ⟨(Nat.zero_mul k).symm,hxk,fun i x j d h=>by cases h⟩ (v:=.slice none 0 0) ⟨(Nat.zero_mul k).symm,.inl ⟨rfl,rfl⟩⟩
    exact ⟨_,Γ',rfl,a1,a2,a3,a4,a5⟩
   | some a =>
    have hk0:xs≠[]→k=sz:=fun hne=>by
     obtain ⟨x,hx⟩:=List.exists_mem_of_ne_nil xs hne
     rw [← hxk x hx,hx' x hx]
    have hcells:q6f Γ.w Γ.own k xs ((List.range (xs.length*k)).map fun n=>u (n / k) (n % k)):=by
     refine ⟨by simp,hxk,fun i x j d h1 h3=>?_⟩
     have hi:=(List.getElem?_eq_some_iff.1 h1).1
     have hj:j < k:=by rw [← hxk x (List.mem_of_getElem? h1)]; exact (List.getElem?_eq_some_iff.1 h3).1
     have hlt:i*k+j < xs.length*k:=z3r hi hj
     refine ⟨u i j,?_,hd i x j d h1 h3⟩
     rw [List.getElem?_map,List.getElem?_range hlt]
     show some (u ((i*k+j) / k) ((i*k+j) % k))=_
     rw [show i*k+j=j+i*k by omega,Nat.add_mul_div_right _ _ (by omega),Nat.div_eq_of_lt hj,Nat.zero_add,Nat.add_mul_mod_self_right,Nat.mod_eq_of_lt hj]
    refine Calls.mono (hsome a xs.length c _ Γ.w hcells.1 (by omega) (fun n w0 hn=>?_) hcells.one) ?_
    · have hlt:=(List.getElem?_eq_some_iff.1 hn).1
      rw [List.length_map,List.length_range] at hlt
      rw [List.getElem?_map,List.getElem?_range hlt] at hn
      cases hn
      have hk:0 < k:=by
       rcases Nat.eq_zero_or_pos k with e | e
       · subst e; simp at hlt
       · exact e
      have hi:n / k < xs.length:=by rw [Nat.div_lt_iff_lt_mul hk]; exact hlt
      have hj:n % k < k:=Nat.mod_lt _ hk
      have hx:=List.getElem?_eq_getElem hi
      have hxl:=hxk _ (List.getElem_mem hi)
      have hdd:=List.getElem?_eq_getElem (l:=xs[n / k]) (i:=n % k) (by omega)
      have:=hu a _ _ _ _ rfl hx hdd
      rw [← hk0 (fun e=>by subst e; simp at hi)] at this
      rw [show n / k*k+n % k=n by rw [Nat.mul_comm]; exact Nat.div_add_mod n k] at this
      exact this
    · rintro e w' ⟨v',rfl,hown,hb⟩
      obtain ⟨Γ',a1,a2,a3,a4,a5⟩:=w2x E.hs ho hG (Kept.of_below hb) ht h2 hcells hown
      exact ⟨_,Γ',rfl,a1,a2,a3,a4,a5⟩
end Gev
namespace Go.Proofs
open Go.RowKit Go.Shelf Go.Sort Go.Lib Gev
set_option maxHeartbeats 2000000 in
set_option maxRecDepth 100000 in
theorem w5v (a:Addr) (n c:Nat) (news:List Value) (w:World) (hl:news.length=n*3) (hn:n≤100000) (hc:∀ j u,news[j]?=some u→w.cell? (a.add j)=some u) (h1:∀ u∈news,u.oneCell'=true) :
    Calls Tryz.prog 15 #[.slice (some a) n c] w fun e w'=>∃ v',e=.returned v'∧w'.ownsRow w.heap.size 41 3 v' n news∧Below w.heap.size w w':=by
 have t22:Tryz.prog.underlying 35=some (.slice 41):=by kernel_rfl
 have q22:∀ (w:World) (a:Option Addr) (n c n' c':Nat),(binOp .eql 35 (.slice a n c) (.slice none n' c')).run Tryz.prog w=.ok (.bool a.isNone) w:=fun w a n c n' c'=>Lib.run_eql_slice_nil w _ _ a n c n' c' t22
 obtain ⟨i0,hi,hz0,hz1,hz2⟩:=info_parts (by kernel_rfl:(Tryz.prog.info? 41).map (fun i=>(i.zero,i.size,i.bytes))=some (some (.agg #[.int .i64 0,.int .i64 0,.int .i64 0]),3,24))
 have A:Aside (∀ j u,news[j]?=some u→w.cell? (a.add j)=some u):=hc
 clear hc
 go_enter Tryz.func15,Tryz.ntmps15
 go_wp2_with (at_builtin; refine wpList_append_own _ rfl _ _ 35 rfl w.heap.size 41 i0 (.agg #[.int .i64 0,.int .i64 0,.int .i64 0]) 3 24 t22 hi hz0 hz1 hz2 rfl (by decide) _ _ _ rfl (World.ownsRow_made w #[] 0 (Nat.le_refl _) (Nat.zero_le _) (by simp)) a n c news rfl ?qc1 ?qc2 ?qc3 ?qc4 ?qc5 ?qc6 ?_)
 case qc1=>exact hl
 case qc2=>exact fun j u hj=>Lib.cell?_alloc_some _ (A.out j u hj)
 case qc3=>exact h1
 case qc4=>rw [Nat.zero_add]; unfold maxLen; omega
 case qc5=>rw [Nat.zero_add]; omega
 case qc6=>simp
 intro v' w1 hown hgrow hnil
 go_wp2
 go_ret
 refine ⟨v',rfl,by simpa using hown,?_⟩
 exact ((Below.refl _ w).alloc (Nat.le_refl _) _).grown hgrow (by simp) (by intro k hk; simp [Value.ownBlock] at hk; omega)
set_option maxRecDepth 100000 in
theorem q7i (n c:Nat) (w:World):Calls Tryz.prog 15 #[.slice none n c] w fun e w'=>e=.returned (.slice none 0 0)∧w'=w:=by
 have t22:Tryz.prog.underlying 35=some (.slice 41):=by kernel_rfl
 have q22:∀ (w:World) (a:Option Addr) (n c n' c':Nat),(binOp .eql 35 (.slice a n c) (.slice none n' c')).run Tryz.prog w=.ok (.bool a.isNone) w:=fun w a n c n' c'=>Lib.run_eql_slice_nil w _ _ a n c n' c' t22
 go_enter Tryz.func15,Tryz.ntmps15
 go_wp2
 go_ret
 exact ⟨rfl,rfl⟩
set_option maxHeartbeats 2000000 in
set_option maxRecDepth 100000 in
theorem v8n (a:Addr) (n c:Nat) (news:List Value) (w:World) (hl:news.length=n*7) (hn:n≤100000) (hc:∀ j u,news[j]?=some u→w.cell? (a.add j)=some u) (h1:∀ u∈news,u.oneCell'=true) :
    Calls Tryz.prog 75 #[.slice (some a) n c] w fun e w'=>∃ v',e=.returned v'∧w'.ownsRow w.heap.size 68 7 v' n news∧Below w.heap.size w w':=by
 have t22:Tryz.prog.underlying 22=some (.slice 68):=by kernel_rfl
 have q22:∀ (w:World) (a:Option Addr) (n c n' c':Nat),(binOp .eql 22 (.slice a n c) (.slice none n' c')).run Tryz.prog w=.ok (.bool a.isNone) w:=fun w a n c n' c'=>Lib.run_eql_slice_nil w _ _ a n c n' c' t22
 obtain ⟨i0,hi,hz0,hz1,hz2⟩:=info_parts (by kernel_rfl:(Tryz.prog.info? 68).map (fun i=>(i.zero,i.size,i.bytes))=some (some (.agg #[.int .i64 0,.int .i64 0,.int .i64 0,.string ⟨#[]⟩,.string ⟨#[]⟩,.string ⟨#[]⟩,.string ⟨#[]⟩]),7,88))
 have A:Aside (∀ j u,news[j]?=some u→w.cell? (a.add j)=some u):=hc
 clear hc
 go_enter Tryz.func75,Tryz.ntmps75
 go_wp2_with (at_builtin; refine wpList_append_own _ rfl _ _ 22 rfl w.heap.size 68 i0 (.agg #[.int .i64 0,.int .i64 0,.int .i64 0,.string ⟨#[]⟩,.string ⟨#[]⟩,.string ⟨#[]⟩,.string ⟨#[]⟩]) 7 88 t22 hi hz0 hz1 hz2 rfl (by decide) _ _ _ rfl (World.ownsRow_made w #[] 0 (Nat.le_refl _) (Nat.zero_le _) (by simp)) a n c news rfl ?qc1 ?qc2 ?qc3 ?qc4 ?qc5 ?qc6 ?_)
 case qc1=>exact hl
 case qc2=>exact fun j u hj=>Lib.cell?_alloc_some _ (A.out j u hj)
 case qc3=>exact h1
 case qc4=>rw [Nat.zero_add]; unfold maxLen; omega
 case qc5=>rw [Nat.zero_add]; omega
 case qc6=>simp
 intro v' w1 hown hgrow hnil
 go_wp2
 go_ret
 refine ⟨v',rfl,by simpa using hown,?_⟩
 exact ((Below.refl _ w).alloc (Nat.le_refl _) _).grown hgrow (by simp) (by intro k hk; simp [Value.ownBlock] at hk; omega)
set_option maxRecDepth 100000 in
theorem j8h (n c:Nat) (w:World):Calls Tryz.prog 75 #[.slice none n c] w fun e w'=>e=.returned (.slice none 0 0)∧w'=w:=by
 have t22:Tryz.prog.underlying 22=some (.slice 68):=by kernel_rfl
 have q22:∀ (w:World) (a:Option Addr) (n c n' c':Nat),(binOp .eql 22 (.slice a n c) (.slice none n' c')).run Tryz.prog w=.ok (.bool a.isNone) w:=fun w a n c n' c'=>Lib.run_eql_slice_nil w _ _ a n c n' c' t22
 go_enter Tryz.func75,Tryz.ntmps75
 go_wp2
 go_ret
 exact ⟨rfl,rfl⟩
set_option maxHeartbeats 2000000 in
set_option maxRecDepth 100000 in
theorem w5t (a:Addr) (n c:Nat) (news:List Value) (w:World) (hl:news.length=n*7) (hn:n≤100000) (hc:∀ j u,news[j]?=some u→w.cell? (a.add j)=some u) (h1:∀ u∈news,u.oneCell'=true) :
    Calls Tryz.prog 76 #[.slice (some a) n c] w fun e w'=>∃ v',e=.returned v'∧w'.ownsRow w.heap.size 74 7 v' n news∧Below w.heap.size w w':=by
 have t22:Tryz.prog.underlying 23=some (.slice 74):=by kernel_rfl
 have q22:∀ (w:World) (a:Option Addr) (n c n' c':Nat),(binOp .eql 23 (.slice a n c) (.slice none n' c')).run Tryz.prog w=.ok (.bool a.isNone) w:=fun w a n c n' c'=>Lib.run_eql_slice_nil w _ _ a n c n' c' t22
 obtain ⟨i0,hi,hz0,hz1,hz2⟩:=info_parts (by kernel_rfl:(Tryz.prog.info? 74).map (fun i=>(i.zero,i.size,i.bytes))=some (some (.agg #[.int .i64 0,.string ⟨#[]⟩,.string ⟨#[]⟩,.string ⟨#[]⟩,.string ⟨#[]⟩,.string ⟨#[]⟩,.string ⟨#[]⟩]),7,104))
 have A:Aside (∀ j u,news[j]?=some u→w.cell? (a.add j)=some u):=hc
 clear hc
 go_enter Tryz.func76,Tryz.ntmps76
 go_wp2_with (at_builtin; refine wpList_append_own _ rfl _ _ 23 rfl w.heap.size 74 i0 (.agg #[.int .i64 0,.string ⟨#[]⟩,.string ⟨#[]⟩,.string ⟨#[]⟩,.string ⟨#[]⟩,.string ⟨#[]⟩,.string ⟨#[]⟩]) 7 104 t22 hi hz0 hz1 hz2 rfl (by decide) _ _ _ rfl (World.ownsRow_made w #[] 0 (Nat.le_refl _) (Nat.zero_le _) (by simp)) a n c news rfl ?qc1 ?qc2 ?qc3 ?qc4 ?qc5 ?qc6 ?_)
 case qc1=>exact hl
 case qc2=>exact fun j u hj=>Lib.cell?_alloc_some _ (A.out j u hj)
 case qc3=>exact h1
 case qc4=>rw [Nat.zero_add]; unfold maxLen; omega
 case qc5=>rw [Nat.zero_add]; omega
 case qc6=>simp
 intro v' w1 hown hgrow hnil
 go_wp2
 go_ret
 refine ⟨v',rfl,by simpa using hown,?_⟩
 exact ((Below.refl _ w).alloc (Nat.le_refl _) _).grown hgrow (by simp) (by intro k hk; simp [Value.ownBlock] at hk; omega)
set_option maxRecDepth 100000 in
theorem q7g (n c:Nat) (w:World):Calls Tryz.prog 76 #[.slice none n c] w fun e w'=>e=.returned (.slice none 0 0)∧w'=w:=by
 have t22:Tryz.prog.underlying 23=some (.slice 74):=by kernel_rfl
 have q22:∀ (w:World) (a:Option Addr) (n c n' c':Nat),(binOp .eql 23 (.slice a n c) (.slice none n' c')).run Tryz.prog w=.ok (.bool a.isNone) w:=fun w a n c n' c'=>Lib.run_eql_slice_nil w _ _ a n c n' c' t22
 go_enter Tryz.func76,Tryz.ntmps76
 go_wp2
 go_ret
 exact ⟨rfl,rfl⟩
set_option maxHeartbeats 2000000 in
set_option maxRecDepth 100000 in
theorem w5u (a:Addr) (n c:Nat) (news:List Value) (w:World) (hl:news.length=n*7) (hn:n≤100000) (hc:∀ j u,news[j]?=some u→w.cell? (a.add j)=some u) (h1:∀ u∈news,u.oneCell'=true) :
    Calls Tryz.prog 78 #[.slice (some a) n c] w fun e w'=>∃ v',e=.returned v'∧w'.ownsRow w.heap.size 77 7 v' n news∧Below w.heap.size w w':=by
 have t22:Tryz.prog.underlying 26=some (.slice 77):=by kernel_rfl
 have q22:∀ (w:World) (a:Option Addr) (n c n' c':Nat),(binOp .eql 26 (.slice a n c) (.slice none n' c')).run Tryz.prog w=.ok (.bool a.isNone) w:=fun w a n c n' c'=>Lib.run_eql_slice_nil w _ _ a n c n' c' t22
 obtain ⟨i0,hi,hz0,hz1,hz2⟩:=info_parts (by kernel_rfl:(Tryz.prog.info? 77).map (fun i=>(i.zero,i.size,i.bytes))=some (some (.agg #[.string ⟨#[]⟩,.int .i64 0,.slice none 0 0,.string ⟨#[]⟩,.string ⟨#[]⟩,.int .i64 0,.int .i64 0]),7,96))
 have A:Aside (∀ j u,news[j]?=some u→w.cell? (a.add j)=some u):=hc
 clear hc
 go_enter Tryz.func78,Tryz.ntmps78
 go_wp2_with (at_builtin; refine wpList_append_own _ rfl _ _ 26 rfl w.heap.size 77 i0 (.agg #[.string ⟨#[]⟩,.int .i64 0,.slice none 0 0,.string ⟨#[]⟩,.string ⟨#[]⟩,.int .i64 0,.int .i64 0]) 7 96 t22 hi hz0 hz1 hz2 rfl (by decide) _ _ _ rfl (World.ownsRow_made w #[] 0 (Nat.le_refl _) (Nat.zero_le _) (by simp)) a n c news rfl ?qc1 ?qc2 ?qc3 ?qc4 ?qc5 ?qc6 ?_)
 case qc1=>exact hl
 case qc2=>exact fun j u hj=>Lib.cell?_alloc_some _ (A.out j u hj)
 case qc3=>exact h1
 case qc4=>rw [Nat.zero_add]; unfold maxLen; omega
 case qc5=>rw [Nat.zero_add]; omega
 case qc6=>simp
 intro v' w1 hown hgrow hnil
 go_wp2
 go_ret
 refine ⟨v',rfl,by simpa using hown,?_⟩
 exact ((Below.refl _ w).alloc (Nat.le_refl _) _).grown hgrow (by simp) (by intro k hk; simp [Value.ownBlock] at hk; omega)
set_option maxRecDepth 100000 in
theorem q7h (n c:Nat) (w:World):Calls Tryz.prog 78 #[.slice none n c] w fun e w'=>e=.returned (.slice none 0 0)∧w'=w:=by
 have t22:Tryz.prog.underlying 26=some (.slice 77):=by kernel_rfl
 have q22:∀ (w:World) (a:Option Addr) (n c n' c':Nat),(binOp .eql 26 (.slice a n c) (.slice none n' c')).run Tryz.prog w=.ok (.bool a.isNone) w:=fun w a n c n' c'=>Lib.run_eql_slice_nil w _ _ a n c n' c' t22
 go_enter Tryz.func78,Tryz.ntmps78
 go_wp2
 go_ret
 exact ⟨rfl,rfl⟩
set_option maxHeartbeats 2000000 in
set_option maxRecDepth 100000 in
theorem w8y (a:Addr) (n c:Nat) (news:List Value) (w:World) (hl:news.length=n*1) (hn:n≤100000) (hc:∀ j u,news[j]?=some u→w.cell? (a.add j)=some u) (h1:∀ u∈news,u.oneCell'=true) :
    Calls Tryz.prog 80 #[.slice (some a) n c] w fun e w'=>∃ v',e=.returned v'∧w'.ownsRow w.heap.size 36 1 v' n news∧Below w.heap.size w w':=by
 have t22:Tryz.prog.underlying 49=some (.slice 36):=by kernel_rfl
 have q22:∀ (w:World) (a:Option Addr) (n c n' c':Nat),(binOp .eql 49 (.slice a n c) (.slice none n' c')).run Tryz.prog w=.ok (.bool a.isNone) w:=fun w a n c n' c'=>Lib.run_eql_slice_nil w _ _ a n c n' c' t22
 obtain ⟨i0,hi,hz0,hz1,hz2⟩:=info_parts (by kernel_rfl:(Tryz.prog.info? 36).map (fun i=>(i.zero,i.size,i.bytes))=some (some (.string ⟨#[]⟩),1,16))
 have A:Aside (∀ j u,news[j]?=some u→w.cell? (a.add j)=some u):=hc
 clear hc
 go_enter Tryz.func80,Tryz.ntmps80
 go_wp2_with (at_builtin; refine wpList_append_own _ rfl _ _ 49 rfl w.heap.size 36 i0 (.string ⟨#[]⟩) 1 16 t22 hi hz0 hz1 hz2 rfl (by decide) _ _ _ rfl (World.ownsRow_made w #[] 0 (Nat.le_refl _) (Nat.zero_le _) (by simp)) a n c news rfl ?qc1 ?qc2 ?qc3 ?qc4 ?qc5 ?qc6 ?_)
 case qc1=>exact hl
 case qc2=>exact fun j u hj=>Lib.cell?_alloc_some _ (A.out j u hj)
 case qc3=>exact h1
 case qc4=>rw [Nat.zero_add]; unfold maxLen; omega
 case qc5=>rw [Nat.zero_add]; omega
 case qc6=>simp
 intro v' w1 hown hgrow hnil
 go_wp2
 go_ret
 refine ⟨v',rfl,by simpa using hown,?_⟩
 exact ((Below.refl _ w).alloc (Nat.le_refl _) _).grown hgrow (by simp) (by intro k hk; simp [Value.ownBlock] at hk; omega)
set_option maxRecDepth 100000 in
theorem v3f (n c:Nat) (w:World):Calls Tryz.prog 80 #[.slice none n c] w fun e w'=>e=.returned (.slice none 0 0)∧w'=w:=by
 have t22:Tryz.prog.underlying 49=some (.slice 36):=by kernel_rfl
 have q22:∀ (w:World) (a:Option Addr) (n c n' c':Nat),(binOp .eql 49 (.slice a n c) (.slice none n' c')).run Tryz.prog w=.ok (.bool a.isNone) w:=fun w a n c n' c'=>Lib.run_eql_slice_nil w _ _ a n c n' c' t22
 go_enter Tryz.func80,Tryz.ntmps80
 go_wp2
 go_ret
 exact ⟨rfl,rfl⟩
end Go.Proofs
namespace Gev
open Go
inductive TyD (P:Program):TypeId→List DV→Prop
 | int {t:TypeId} {k:IntKind} (n:Int) (h:P.underlying t=some (.int k)) (hw:(Lit.int k n).wf=true):TyD P t [.int k n]
 | bool {t:TypeId} (b:Bool) (h:P.underlying t=some .bool):TyD P t [.bool b]
 | str {t:TypeId} (s:BA) (h:P.underlying t=some .string):TyD P t [.str s]
 | slice {t e:TypeId} (xs:RW) (h:P.underlying t=some (.slice e)) (hx:∀ x∈xs,TyD P e x) (hl:xs.length≤maxLen):TyD P t [.list xs]
 | struct {t:TypeId} {fs:Array Field} (ds:List DV) (h:P.underlying t=some (.struct fs)) (hl:ds.length=P.cellsOf t) (hp:∀ f∈fs.toList,TyD P f.type ((ds.drop f.offset).take (P.cellsOf f.type))):TyD P t ds
def v8t (P:Program):Nat→List Field→Option Nat
 | o,[]=>some o
 | o,f::fs=>if f.offset=o then v8t P (o+P.cellsOf f.type) fs else none
def plainT (P:Program):Nat→TypeId→Bool
 | 0,_=>false
 | k+1,t=>match P.underlying t with
  | some .bool=>true
  | some (.int _)=>true
  | some .string=>true
  | some (.slice e)=>decide (0 < P.cellsOf e) && plainT P k e
  | some (.struct fs)=>decide (v8t P 0 fs.toList=some (P.cellsOf t)) && fs.toList.all fun f=>plainT P k f.type
  | _=>false
theorem v7x {α β:Type} {f:α→Option β}:∀ {l:List α} {r:List β},l.mapM f=some r→r.length=l.length∧∀ (i:Nat) x,l[i]?=some x→∃ y,r[i]?=some y∧f x=some y
 | [],r,h=>by simp at h; subst h; exact ⟨rfl,fun i x h=>by simp at h⟩
 | a::l,r,h=>by
  simp only [List.mapM_cons,Option.bind_eq_bind,Option.bind_eq_some_iff,Option.pure_def,Option.some.injEq] at h
  obtain ⟨b,hb,bs,hbs,rfl⟩:=h
  obtain ⟨h1,h2⟩:=v7x hbs
  refine ⟨by simp [h1],fun i x hx=>?_⟩
  cases i with
  | zero=>simp at hx; subst hx; exact ⟨b,rfl,hb⟩
  | succ i=>exact h2 i x (by simpa using hx)
theorem j8b {α:Type} {p:Nat→α→Prop}:∀ n,(∀ i,i < n→∃ x,p i x)→∃ xs:List α,xs.length=n∧∀ (i:Nat) x,xs[i]?=some x→p i x
 | 0,_=>⟨[],rfl,fun i x h=>by simp at h⟩
 | n+1,h=>by
  obtain ⟨xs,h1,h2⟩:=j8b n fun i hi=>h i (by omega)
  obtain ⟨x,hx⟩:=h n (by omega)
  refine ⟨xs++[x],by simp [h1],fun i y hy=>?_⟩
  by_cases hi:i < n
  · exact h2 i y (by rwa [List.getElem?_append_left (by omega)] at hy)
  · have hlt:=(List.getElem?_eq_some_iff.1 hy).1
    simp [h1] at hlt
    have e:i=n:=by omega
    subst e
    rw [List.getElem?_append_right (by omega),h1,Nat.sub_self] at hy
    cases hy; exact hx
theorem w7b {w:World} {base:Nat} {a:Addr} {n:Nat} {cs:List Value} (h:w.cells? base a n=some cs):cs.length=n∧∀ (j:Nat) v,cs[j]?=some v→w.cell? (a.add j)=some v:=by
 unfold World.cells? at h
 split at h
 · obtain ⟨h1,h2⟩:=v7x h
   rw [List.length_range] at h1
   refine ⟨h1,fun j v hj=>?_⟩
   have hlt:=(List.getElem?_eq_some_iff.1 hj).1
   obtain ⟨y,hy,e⟩:=h2 j j (by rw [List.getElem?_range (by omega)])
   rw [hj] at hy; cases hy; exact e
 · cases h
section
variable {P:Program} {w:World} {own:Nat→Prop}
def q6r (w:World) (own:Nat→Prop) (cs:List Value) (ds:List DV):Prop:=ds.length=cs.length∧∀ (j:Nat) v e,cs[j]?=some v→ds[j]?=some e→RepD w own v e
theorem x7e {v:Value} {d:DV} (h:RepD w own v d):q6r w own [v] [d]:=⟨rfl,fun j v e h1 h2=>by
 cases j with
 | zero=>cases h1; cases h2; exact h
 | succ j=>simp at h1⟩
theorem w1n {cs cs':List Value} {ds ds':List DV} (h:q6r w own cs ds) (k:q6r w own cs' ds'):q6r w own (cs++cs') (ds++ds'):=by
 refine ⟨by simp [h.1,k.1],fun j v e h1 h2=>?_⟩
 by_cases hj:j < cs.length
 · rw [List.getElem?_append_left hj] at h1
   rw [List.getElem?_append_left (by rw [h.1]; exact hj)] at h2
   exact h.2 j v e h1 h2
 · rw [List.getElem?_append_right (by omega)] at h1
   rw [List.getElem?_append_right (by rw [h.1]; omega),h.1] at h2
   exact k.2 _ v e h1 h2
theorem q2g {cs:List Value}:∀ (fs:List Field) (o n:Nat),v8t P o fs=some n→n=cs.length →
    (∀ f∈fs,∃ ds,TyD P f.type ds∧q6r w own ((cs.drop f.offset).take (P.cellsOf f.type)) ds) →
    ∃ ds,q6r w own (cs.drop o) ds∧o≤n∧∀ f∈fs,o≤f.offset∧TyD P f.type ((ds.drop (f.offset - o)).take (P.cellsOf f.type))
 | [],o,n,h,hn,_=>by
  cases h
  subst hn
  exact ⟨[],by rw [List.drop_length]; exact ⟨rfl,fun j v e h _=>by simp at h⟩,Nat.le_refl _,fun f h=>by cases h⟩
 | f::fs,o,n,h,hn,hf=>by
  unfold v8t at h
  split at h
  · rename_i ho
    obtain ⟨ds,h1,hle,h2⟩:=q2g fs _ n h hn fun g hg=>hf g (by simp [hg])
    obtain ⟨d0,t0,r0⟩:=hf f (by simp)
    have hl0:d0.length=P.cellsOf f.type:=by rw [r0.1,List.length_take,List.length_drop]; omega
    refine ⟨d0++ds,?_,by omega,fun g hg=>?_⟩
    · have e:cs.drop o=(cs.drop o).take (P.cellsOf f.type)++cs.drop (o+P.cellsOf f.type):=by
       rw [← List.drop_drop,List.take_append_drop]
      rw [e]
      exact w1n (ho ▸ r0) h1
    · rcases List.mem_cons.1 hg with rfl | hg
      · refine ⟨by omega,?_⟩
        rw [ho,Nat.sub_self,List.drop_zero,List.take_left' hl0]; exact t0
      · obtain ⟨hle2,ht⟩:=h2 g hg
        refine ⟨by omega,?_⟩
        have e:g.offset - o=d0.length+(g.offset - (o+P.cellsOf f.type)):=by omega
        rw [e,List.drop_append]
        rwa [List.drop_eq_nil_of_le (by omega),List.nil_append,Nat.add_sub_cancel_left]
  · cases h
theorem v2g {H:Type} {enc:TypeId × Value→H} {base:Nat} {sp:Nat→Bool} {held:Bool} (hown:∀ b,b < w.heap.size→¬ own b):∀ (k fuel:Nat) (t:TypeId) (cs:List Value) (x:DataW H × List MemPlace),plainT P k t=true→DataW.trod enc P w base sp held fuel t cs=some x→∃ ds,TyD P t ds∧q6r w own cs ds
 | 0,fuel,t,cs,x,hp,_=>by simp [plainT] at hp
 | k+1,fuel,t,cs,x,hp,h=>by
  unfold plainT at hp
  cases hu:P.underlying t with
  | none=>rw [hu] at hp; cases hp
  | some u =>
   rw [hu] at hp
   cases u with
   | bool =>
    obtain ⟨b,rfl,_⟩:=DataW.trod_bool hu h
    exact ⟨_,.bool b hu,x7e (.bool b)⟩
   | int q =>
    obtain ⟨n,rfl,_,hw⟩:=DataW.trod_int hu h
    exact ⟨_,.int n hu hw,x7e (.int q n)⟩
   | string =>
    obtain ⟨s,rfl,_,_⟩:=DataW.trod_string hu h
    exact ⟨_,.str s hu,x7e (.str s)⟩
   | slice e =>
    simp only [Bool.and_eq_true,decide_eq_true_eq] at hp
    rcases DataW.trod_slice hu h with ⟨rfl,_⟩ | ⟨a,len,cap,elems,rest,n,_,rfl,_,_,hlc,hcm,hel,hall,_⟩
    · exact ⟨_,.slice [] hu (fun _ h=>by cases h) (Nat.zero_le _),x7e (.list none 0 [] 0 (fun _ _=>.nilIface) (Nat.le_refl _) (fun h=>absurd rfl h) (fun _ h=>by cases h) (fun _ _ _ _ _ h=>by cases h) (fun _ _ _ _ h=>by simp at h))⟩
    · have hch:∀ i,i < len→∃ ds,TyD P e ds∧ds.length=P.cellsOf e∧∀ (j:Nat) d,ds[j]?=some d→∃ v,w.cell? (a.add (i*P.cellsOf e+j))=some v∧RepD w own v d:=by
       intro i hi
       have h1:=hall i hi
       rw [List.getElem?_eq_getElem (by omega)] at h1
       obtain ⟨cs',hcs,ht⟩:=Option.bind_eq_some_iff.1 h1
       obtain ⟨hcl,hcg⟩:=w7b hcs
       obtain ⟨ds,h2,h3⟩:=v2g hown k n e cs' _ hp.2 ht
       refine ⟨ds,h2,h3.1.trans hcl,fun j d hj=>?_⟩
       have hjl:=(List.getElem?_eq_some_iff.1 hj).1
       rw [h3.1] at hjl
       have e1:=List.getElem?_eq_getElem hjl
       refine ⟨cs'[j],?_,h3.2 j _ d e1 hj⟩
       rw [← k5j]; exact hcg j _ e1
      obtain ⟨xs,hxl,hxs⟩:=j8b len hch
      have hblk:xs≠[]→a.block < w.heap.size:=fun hne=>by
       have hpos:0 < xs.length:=List.length_pos_iff.2 hne
       have hx0:=hxs 0 xs[0] (List.getElem?_eq_getElem hpos)
       obtain ⟨_,hl0,hc0⟩:=hx0
       obtain ⟨v,hv,_⟩:=hc0 0 _ (List.getElem?_eq_getElem (by omega))
       have:=v8m hv
       rwa [z1k] at this
      refine ⟨_,.slice xs hu (fun x hx=>?_) (by rw [hxl]; omega),x7e ?_⟩
      · obtain ⟨i,hi⟩:=List.getElem?_of_mem hx
        exact (hxs i x hi).1
      · rw [← hxl]
        refine .list (some a) cap xs (P.cellsOf e) (fun i j=>(w.cell? (a.add (i*P.cellsOf e+j))).getD .nilIface) (by omega) (fun hne=>⟨a,rfl,hblk hne,hown _ (hblk hne)⟩) (fun x hx=>?_) (fun a' i x j d ha' hi hj=>?_) (fun i x j d hi hj=>?_)
        · obtain ⟨i,hi⟩:=List.getElem?_of_mem hx
          exact (hxs i x hi).2.1
        · cases ha'
          obtain ⟨v,hv,_⟩:=(hxs i x hi).2.2 j d hj
          rw [hv]; rfl
        · obtain ⟨v,hv,hr⟩:=(hxs i x hi).2.2 j d hj
          rw [hv]; exact hr
   | struct fs =>
    simp only [Bool.and_eq_true,decide_eq_true_eq,List.all_eq_true] at hp
    obtain ⟨xs,n,_,_,hcl,hxl,hall⟩:=DataW.trod_struct hu h
    obtain ⟨ds,h1,_,h2⟩:=q2g (P:=P) (w:=w) (own:=own) (cs:=cs) fs.toList 0 (P.cellsOf t) hp.1 hcl.symm (fun f hf=>by
     obtain ⟨i,hi⟩:=List.getElem?_of_mem hf
     rw [Array.getElem?_toList] at hi
     have h3:=hall i f hi
     have hil:=(Array.getElem?_eq_some_iff.1 hi).1
     rw [List.getElem?_eq_getElem (by omega)] at h3
     exact v2g hown k n f.type _ _ (hp.2 f hf) h3)
    rw [List.drop_zero] at h1
    exact ⟨ds,.struct ds hu (h1.1.trans hcl) (fun f hf=>by have:=(h2 f hf).2; rwa [Nat.sub_zero] at this),h1⟩
   | _=>cases hp
end
end Gev
namespace Gev
open Go Go.Proofs
def Told (w:World):Prop:=Go.Lib.TabIs Tryz.prog w "internal/strconv.uint64pow10" .u64 Go.Lib.pow10Tab∧∃ m,w.cell? ⟨1,0,none⟩=some (.int .i64 m)
theorem gTab:Tryz.prog.globalNamed "internal/strconv.uint64pow10"=some 0:=by kernel_rfl
theorem w5c:Stable 2 Told:=by
 rintro w w' hb _ ⟨h1,m,h2⟩
 refine ⟨?_,m,?_⟩
 · unfold Go.Lib.TabIs World.var? at h1 ⊢
   rw [gTab] at h1 ⊢
   simp only [Option.bind_some] at h1 ⊢
   rw [hb 0 (by omega)]; exact h1
 · unfold World.cell? at h2 ⊢
   rw [hb 1 (by omega)]; exact h2
noncomputable def E0:Env:=⟨2,Told,w5c⟩
theorem laid0:Laid E0:=⟨fun _ h=>h.1,fun _ h=>h.2⟩
theorem lib0:Lib E0:=u4k laid0
theorem u0a {w:World} (h:Told w):2≤w.heap.size:=by
 obtain ⟨_,m,h2⟩:=h
 have:=v8m h2
 exact this
inductive AvOf (P:Program):TypeId→AV→Prop
 | agg {t:TypeId} {fs:Array Field} {ds:List DV} (h:P.underlying t=some (.struct fs)) (hd:TyD P t ds):AvOf P t (.agg ds)
 | one {t:TypeId} {d:DV} (hd:TyD P t [d]):AvOf P t (.c d)
def AvsOf (P:Program):List TypeId→List AV→Prop
 | [],[]=>True
 | t::ts,a::us=>AvOf P t a∧AvsOf P ts us
 | _,_=>False
theorem u3i {P:Program} {w:World} {own:Nat→Prop} {H:Type} {enc:TypeId × Value→H} {base b0:Nat} {sp:Nat→Bool} {held:Bool} (hown:∀ b,b < w.heap.size→¬ own b) {k:Nat} {t:TypeId} {v:Value} {d:DataW H} {ps:List MemPlace} (hp:plainT P k t=true) (hv:Value.okWide P w .any b0 t v)
    (h:DataW.Trod enc P w base sp held t v d ps):∃ a,AvOf P t a∧RepA DD ⟨⟨fun _=>none,own⟩,[],w⟩ v a:=by
 obtain ⟨fuel,h⟩:=h
 obtain ⟨ds,h1,h2⟩:=v2g hown k fuel t _ _ hp h
 have hmine:∀ {b},(Ctx.mk ⟨fun _=>none,own⟩ [] w).own b→own b:=fun h=>h.elim id fun h=>(k5x h).elim
 have one:∀ e,ds=[e]→v.cells.toList=[v]→∃ a,AvOf P t a∧RepA DD ⟨⟨fun _=>none,own⟩,[],w⟩ v a:=fun e he hc=>by
  subst he
  rw [hc] at h2
  exact ⟨.c e,.one h1,.c ((h2.2 0 v e rfl rfl).mono (Kept.refl _ _) fun b _ hb=>hmine hb)⟩
 cases h1 with
 | int n hu hw =>
  obtain ⟨n,hc,_⟩:=DataW.trod_int hu h
  refine one _ rfl ?_
  cases v <;> simp_all [Value.cells,Value.okWide,Cell.okWide,Cell.ok]
 | bool b hu =>
  obtain ⟨n,hc,_⟩:=DataW.trod_bool hu h
  refine one _ rfl ?_
  cases v <;> simp_all [Value.cells,Value.okWide,Cell.okWide,Cell.ok]
 | str s hu =>
  obtain ⟨s,rfl⟩:=Go.WideShapes.okWide_string hu hv
  exact one _ rfl rfl
 | slice xs hu hx hl =>
  obtain ⟨a,l,c,rfl⟩:=Go.WideShapes.okWide_slice hu hv
  exact one _ rfl rfl
 | struct ds hu hl hp' =>
  obtain ⟨cs,rfl,hsz⟩:=Go.WideShapes.okWide_struct hu hv
  refine ⟨.agg ds,.agg hu (.struct ds hu hl hp'),.agg cs ds ?_ fun j u d hj hd=>?_⟩
  · have:=h2.1; simpa [Value.cells] using this.symm
  · exact (h2.2 j u d (by simpa [Value.cells] using hj) hd).mono (Kept.refl _ _) fun b _ hb=>hmine hb
theorem v7w {P:Program} {w:World} {own:Nat→Prop} {H:Type} {enc:TypeId × Value→H} {base b0:Nat} {sp:Nat→Bool} {held:Bool} (hown:∀ b,b < w.heap.size→¬ own b) {k:Nat}:∀ {ts:List TypeId} {vs:List Value} {ds:List (DataW H)} {ps:List MemPlace},ts.all (plainT P k)=true→(∀ (j:Nat) t v,ts[j]?=some t→vs[j]?=some v→Value.okWide P w .any b0 t v) →
    DataW.TrodAll enc P w base sp held ts vs ds ps→∃ us,AvsOf P ts us∧vs.length=us.length∧∀ (i:Nat) v a,vs[i]?=some v→us[i]?=some a→RepA DD ⟨⟨fun _=>none,own⟩,[],w⟩ v a
 | [],[],[],ps,_,_,_=>⟨[],trivial,rfl,fun i v a h=>by simp at h⟩
 | t::ts,v::vs,d::ds,ps,hp,hv,h=>by
  rw [List.all_cons,Bool.and_eq_true] at hp
  obtain ⟨p,q,h1,h2,_⟩:=h
  obtain ⟨a,a1,a2⟩:=u3i hown hp.1 (hv 0 t v rfl rfl) h1
  obtain ⟨us,b1,b2,b3⟩:=v7w hown hp.2 (fun j t v h1 h2=>hv (j+1) t v h1 h2) h2
  refine ⟨a::us,⟨a1,b1⟩,by simp [b2],fun i v a h1 h2=>?_⟩
  cases i with
  | zero=>cases h1; cases h2; exact a2
  | succ i=>exact b3 i v a h1 h2
 | [],_::_,_,_,_,_,h=>by simp [DataW.TrodAll] at h
 | [],[],_::_,_,_,_,h=>by simp [DataW.TrodAll] at h
 | _::_,[],_,_,_,_,h=>by simp [DataW.TrodAll] at h
 | _::_,_::_,[],_,_,_,h=>by simp [DataW.TrodAll] at h
theorem k9y {H:Type} {enc:TypeId × Value→H} {P:Program} (hl:laidOutB P=true) {W W':World} (hb:Go.RowKit.Below W.heap.size W W'):∀ {ts:List TypeId} {vs:List Value} {ds:List (DataW H)} {ps:List MemPlace},(ts.all fun t=>P.readableRec t && decide (t < P.types.size))=true→(∀ x∈ps,x.block < W.heap.size) →
    DataW.TrodAll enc P W 0 (fun _=>true) true ts vs ds ps→DataW.TrodAll enc P W' 0 (fun b=>decide (b < W.heap.size)) true ts vs ds ps
 | [],[],[],ps,_,_,h=>h
 | t::ts,v::vs,d::ds,ps,hp,hlt,h=>by
  rw [List.all_cons,Bool.and_eq_true,Bool.and_eq_true,decide_eq_true_eq] at hp
  obtain ⟨p,q,h1,h2,rfl⟩:=h
  exact ⟨p,q,Go.RowKit.Below.trod hl hp.1.1 hp.1.2 h1 hb (fun x hx=>hlt x (by simp [hx])),k9y hl hb hp.2 (fun x hx=>hlt x (by simp [hx])) h2,rfl⟩
 | [],_::_,_,_,_,_,h=>by simp [DataW.TrodAll] at h
 | [],[],_::_,_,_,_,h=>by simp [DataW.TrodAll] at h
 | _::_,[],_,_,_,_,h=>by simp [DataW.TrodAll] at h
 | _::_,_::_,[],_,_,_,h=>by simp [DataW.TrodAll] at h
end Gev
