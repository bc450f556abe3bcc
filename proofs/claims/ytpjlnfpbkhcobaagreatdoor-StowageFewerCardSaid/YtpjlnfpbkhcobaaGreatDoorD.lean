/- A part of the proof: see the last text of this claim. -/
import Derived.Test.YtpjlnfpbkhcobaaGreatDoorC
import Derived.KernelRfl
import Derived.Shelf.Strings.Builder1
import Derived.Shelf.Strings.Builder2
import Derived.Shelf.Small.Wraps
import Derived.Shelf.Strings.BuilderF
import Derived.Shelf.Strings.BuilderK
import Derived.Shelf.Strconv.Itoa0
import Derived.Shelf.Strconv.Itoa1
import Derived.Shelf.LaysM
import Derived.Shelf.Strconv.Itoa2
import Derived.Shelf.Strconv.Itoa3
import Derived.Shelf.Strconv.Itoa4
import Derived.Shelf.Strconv.ParseIntEmpty
import Derived.Shelf.Strconv.Clone
import Derived.Shelf.Strconv.SyntaxError
import Derived.Shelf.LaysC
import Derived.Shelf.Strconv.ToError
import Derived.Shelf.Strconv.Lower
import Derived.Shelf.Strconv.ParseUint10
import Derived.Shelf.Strconv.ParseUint10Empty
import Derived.Shelf.Strconv.ParseUint10Any
import Derived.Shelf.Strconv.ParseInt10
import Derived.Shelf.Strconv.RangeError
import Derived.Shelf.Strconv.ToErrorRange
import Derived.Shelf.Strconv.ParseUintEmpty
import Derived.Shelf.Strconv.ParseUint10b64
import Derived.Shelf.Strconv.ParseUint10b32
import Derived.Shelf.Strconv.ParseUint10b16
import Derived.Shelf.Strconv.ParseUint10b8
import Derived.Shelf.Strconv.ParseUint10At
import Derived.Shelf.Strconv.ParseInt10At64
import Derived.Shelf.Strconv.ParseInt10At32
import Derived.Shelf.Strconv.ParseInt10At16
import Derived.Shelf.Strconv.ParseInt10At8
import Derived.Shelf.Strconv.ParseInt10All
import Derived.Shelf.Strconv.ParseIntPublic10
import Derived.Ground.MpProg
import Derived.Shelf.Pu.ParseUintPublic10
import Derived.Shelf.Strings.Search1
import Derived.Shelf.Strings.Search2
import Derived.Shelf.Strings.Cut
import Derived.Shelf.Strings.Shaped
import Derived.Shelf.Strings.Prefix
import Derived.Shelf.Bits.Mul64
import Derived.Shelf.Strings.Repeat
import Derived.Ground.Names2Prog
import Derived.Shelf.Slices.SearchI
import Derived.Ground.SlgnProg
import Derived.Shelf.SlicesE.Clone
import Derived.Test.YtpjlnfpbkhcobaaGreatDoorProg
import Derived.Lib.Walk
import Derived.Lib.ItoaMem
import Derived.WalkKit
import Derived.BigCall
import Derived.BigGuard
import Derived.RangeFuncNested
import Derived.RangeFuncBound
import Derived.RangeFuncCalls
import Derived.RangeFuncLeaves
import Derived.Shelf.Abstract
import Derived.Shelf.RegionOpen
import Derived.OwnWalkIn
import Derived.TacticsInMore
import Derived.LoopNIn
import Derived.LoopIn
import Derived.RangeFuncFrom
import Derived.RangeFuncBox
set_option linter.unusedSectionVars false
set_option linter.unusedVariables false
set_option linter.unusedSimpArgs false
namespace Gev
open Go Gb
variable {E:Env}
theorem q9n (l m:List UInt8):(B l == B m)=(l == m):=by
 rw [beq_toListBytes,toList_eq,toList_eq,y4y,y4y]
theorem B48:(⟨#[48]⟩:BA)=B [48]:=rfl
theorem B45:(⟨#[45]⟩:BA)=B [45]:=rfl
theorem B49:(⟨#[49]⟩:BA)=B [49]:=rfl
theorem v0i:B [49]=B (dec 1):=by rw [y8d]
def Zc (z:Int):List DV:=[.bool (decide (z<0)),.str (B (dec z.natAbs))]
def intB (l:List UInt8):Bool:=if [45].isPrefixOf l then natB (l.drop 1) && !(l.drop 1 == [48]) else natB l
theorem v1x (c:UInt8) (m:List UInt8):[45].isPrefixOf (c::m)=(c == 45):=by
 show ((45:UInt8) == c && [].isPrefixOf m)=(c == 45)
 simp [Bool.beq_eq_decide_eq,eq_comm]
theorem j5a {l:List UInt8}:intB l=true↔q2m l:=by
 unfold intB q2m
 cases l with
 | nil =>
  show natB []=true↔_
  constructor
  · intro h;exact absurd h (by decide)
  · rintro (h | ⟨m,h,_⟩)
    · exact absurd rfl h.1
    · cases h
 | cons c m =>
  rw [v1x]
  by_cases hc:c=45
  · subst hc
    simp only [beq_self_eq_true,if_true,List.drop_succ_cons,List.drop_zero,Bool.and_eq_true,Bool.not_eq_true',beq_eq_false_iff_ne,x6c]
    constructor
    · rintro ⟨h1,h2⟩;exact .inr ⟨m,rfl,h1,h2⟩
    · rintro (h | ⟨m',h,h1,h2⟩)
      · have:=h.2.1 45 (by simp)
        exact absurd this.1 (by decide)
      · cases h;exact ⟨h1,h2⟩
  · simp only [beq_eq_false_iff_ne.2 hc,Bool.false_eq_true,if_false,x6c]
    constructor
    · exact .inl
    · rintro (h | ⟨m',h,_⟩)
      · exact h
      · cases h;exact absurd rfl hc
theorem j9q (z:Int):intB (decZ z)=true:=j5a.2 (q5q z)
theorem q4b (hlib:Lib E) {l:List UInt8} (hl:l.length<10000000000000):Fn E z0l [.c (.str (B l))] (.tup [.agg [.bool ([45].isPrefixOf l),.str (B (if [45].isPrefixOf l then l.drop 1 else l))],.c (.bool (intB l))]):=by
 have hc:=hlib.cutPrefix l [45] hl (by decide)
 unfold intB
 cases hb:[45].isPrefixOf l with
 | true =>
  rw [hb] at hc
  simp only [if_true,List.length_singleton] at hc ⊢
  have hv:=z2c (E:=E) (l.drop 1) (by simp;omega)
  cases hn:natB (l.drop 1) with
  | true =>
   rw [hn] at hv
   by_cases h48:l.drop 1=[48]
   · rw [h48,show (true && !([48] == ([48]:List UInt8)))=false from rfl]
     rw [h48] at hc hv
     exact j5g hc hv (by rw [B48,q9n];rfl)
   · rw [show (true && !(l.drop 1 == [48]))=true by rw [beq_eq_false_iff_ne.2 h48];rfl]
     exact x5u hc hv (by rw [B48,q9n,beq_eq_false_iff_ne.2 h48];rfl)
  | false =>
   rw [hn] at hv
   rw [Bool.false_and]
   exact x5v hc hv
 | false =>
  rw [hb] at hc
  simp only [Bool.false_eq_true,if_false] at hc ⊢
  have hv:=z2c (E:=E) l (by omega)
  cases hn:natB l with
  | true=>rw [hn] at hv;exact x5u hc hv rfl
  | false=>rw [hn] at hv;exact x5v hc hv
theorem q2v (z:Int):[45].isPrefixOf (decZ z)=decide (z<0)∧(if [45].isPrefixOf (decZ z) then (decZ z).drop 1 else decZ z)=dec z.natAbs:=by
 by_cases h:z<0
 · rw [z6m h,v1x];simp [h]
 · rw [Z2 (by omega)]
   have:[45].isPrefixOf (dec z.natAbs)=false:=by
    cases hd:dec z.natAbs with
    | nil=>rfl
    | cons c m =>
     rw [v1x]
     refine beq_eq_false_iff_ne.2 fun e=>?_
     have:=y6z z.natAbs c (by rw [hd];simp)
     rw [e] at this
     exact absurd this.1 (by decide)
   rw [this];simp [h]
theorem q0a (hlib:Lib E) {z:Int} (hl:(decZ z).length<10000000000000):Fn E z0l [.c (.str (B (decZ z)))] (.tup [.agg (Zc z),.c (.bool true)]):=by
 have:=q4b hlib hl
 rw [(q2v z).2,(q2v z).1,j9q] at this
 exact this
theorem j2u {z:Int} {K:Nat} (h:z.natAbs<10 ^ K):(decZ z).length≤K+2:=by
 have:=q0z h
 unfold decZ
 split <;> simp <;> omega
theorem y3j (hlib:Lib E) {l:List UInt8} (hl:l.length<10000000000000):Fn E z6l [.c (.str (B l))] (.c (.bool (intB l))):=j0c (q4b hlib hl)
theorem x4s (hlib:Lib E) {a b:Int} {K L:Nat} (ha:a.natAbs<10 ^ K) (hb:b.natAbs<10 ^ L) (hK:K≤Lim) (hL:L≤Lim):Fn E z2h [.c (.str (B (decZ a))),.c (.str (B (decZ b)))] (.tup [.agg (Zc a),.agg (Zc b),.c (.i64 0)]):=by
 have h1:=j2u ha
 have h2:=j2u hb
 rw [z2x] at hK hL
 exact j5f (q0a hlib (by omega)) (q0a hlib (by omega))
theorem q1x (hlib:Lib E) {a:Int} {K:Nat} (ha:a.natAbs<10 ^ K) (hK:K≤Lim):Fn E z9w [.c (.str (B (decZ a)))] (.tup [.agg (Zc a),.c (.i64 0)]):=by
 have:=x4s hlib ha (show (0:Int).natAbs<10 ^ 1 by decide) hK (by rw [z2x];omega)
 rw [y9v] at this
 exact j8b this
def sgn (neg:Bool) (n:Nat):Int:=if neg then -(n:Int) else n
theorem y2p (neg:Bool) (n:Nat):Fn E I9 [.c (.bool neg),.c (.str (B (dec n)))] (.agg (Zc (sgn neg n))):=by
 cases neg with
 | false =>
  have:Zc (sgn false n)=[.bool false,.str (B (dec n))]:=by unfold Zc sgn;simp
  rw [this];exact j5j
 | true =>
  by_cases h:n=0
  · subst h
    have:Zc (sgn true 0)=[.bool false,.str (B (dec 0))]:=by unfold Zc sgn;simp
    rw [this];exact j5i (by rw [B48,z6n])
  · have:Zc (sgn true n)=[.bool true,.str (B (dec n))]:=by
     unfold Zc sgn
     simp only [if_true,Int.natAbs_neg,Int.natAbs_natCast]
     rw [decide_eq_true (by omega)]
    rw [this]
    exact j5h (fun e=>h (by rw [B48] at e;exact y1e.1 (y5p e)))
theorem x7f {z:Int} {K:Nat} (hz:z.natAbs<10 ^ K) (hK:K≤Lim+Lim):Fn E N0 [.agg (Zc z)] (.c (.str (B (decZ z)))):=by
 have h1:=q0z hz
 rw [z2x] at hK
 by_cases h:z<0
 · have:Zc z=[.bool true,.str (B (dec z.natAbs))]:=by unfold Zc;rw [decide_eq_true h]
   rw [this,z6m h]
   exact x3o (by rw [B45,j3c];rfl) (by rw [B45,V3,V3];simp;omega)
 · have:Zc z=[.bool false,.str (B (dec z.natAbs))]:=by unfold Zc;rw [decide_eq_false h]
   rw [this,Z2 (by omega)]
   exact x3p
theorem k9i (z:Int):Fn E Z3 [.agg (Zc z)] (.agg (Zc (-z))):=by
 have:=y2p (E:=E) (!decide (z<0)) z.natAbs
 have e:sgn (!decide (z<0)) z.natAbs=-z:=by unfold sgn;split <;> rename_i h <;> simp at h <;> omega
 rw [e] at this
 exact y7n this
theorem k6c:Fn E y1n [] (.agg [.bool false,.str (B [48])]):=j5k
theorem v0s (z:Int):((decide (z<0) == false) && ((B (dec z.natAbs) == B [48]) && true))=decide (z=0):=by
 rw [q9n]
 by_cases h:z=0
 · subst h;rw [decide_eq_true rfl];simp [z6n]
 · rw [decide_eq_false h]
   have:(dec z.natAbs == [48])=false:=beq_eq_false_iff_ne.2 fun e=>h (by have:=y1e.1 e;omega)
   rw [this];simp
theorem q4u (z:Int):Fn E U5 [.agg (Zc z)] (.c (.i64 (cmpI z 0))):=by
 have hz:=v0s z
 by_cases h:z=0
 · rw [decide_eq_true h] at hz
   rw [q0u h]
   exact x3l k6c hz
 · rw [decide_eq_false h] at hz
   by_cases h1:z<0
   · have e:cmpI z 0=-1:=by unfold cmpI;rw [if_pos h1]
     have:Zc z=[.bool true,.str (B (dec z.natAbs))]:=by unfold Zc;rw [decide_eq_true h1]
     rw [e,this]
     exact x3m k6c rfl
   · have e:cmpI z 0=1:=by unfold cmpI;rw [if_neg h1,if_pos (by omega)]
     have:Zc z=[.bool false,.str (B (dec z.natAbs))]:=by unfold Zc;rw [decide_eq_false h1]
     rw [e,this]
     rw [decide_eq_false h1] at hz
     exact x3n k6c hz
theorem v4l (hlib:Lib E) {a b:Int} {K L:Nat} (ha:a.natAbs<10 ^ K) (hb:b.natAbs<10 ^ L) (hK:K≤Lim) (hL:L≤Lim) (hs:decide (a<0)=decide (b<0)):Fn E y4b [.agg (Zc a),.agg (Zc b)] (.agg (Zc (a+b))):=by
 have h:=x6d hlib ha hb hK hL
 have hw:=y2p (E:=E) (decide (a<0)) (a.natAbs+b.natAbs)
 have e:sgn (decide (a<0)) (a.natAbs+b.natAbs)=a+b:=by
  unfold sgn
  rw [decide_eq_decide] at hs
  by_cases c:a<0
  · have:=hs.1 c;rw [decide_eq_true c,if_pos rfl];omega
  · have:¬ b<0:=fun x=>c (hs.2 x)
    rw [decide_eq_false c,if_neg (by simp)];omega
 rw [e] at hw
 exact j8c h hw
theorem j4h (hlib:Lib E) {a b:Int} {K L:Nat} (ha:a.natAbs<10 ^ K) (hb:b.natAbs<10 ^ L) (hK:K≤Lim) (hL:L≤Lim) (hs:decide (a<0)≠decide (b<0)):Fn E z0k [.agg (Zc a),.agg (Zc b)] (.agg (Zc (a+b))):=by
 have hc:=k1i hlib ha hb hK hL
 have hs':¬ (a<0↔b<0):=fun h=>hs (decide_eq_decide.2 h)
 by_cases c:a.natAbs<b.natAbs
 · have h:=y7i hlib hb ha hL hK (by omega)
   have hw:=y2p (E:=E) (decide (b<0)) (b.natAbs-a.natAbs)
   have e:sgn (decide (b<0)) (b.natAbs-a.natAbs)=a+b:=by
    unfold sgn
    by_cases d:b<0
    · have:¬ a<0:=fun x=>hs' ⟨fun _=>d,fun _=>x⟩
      rw [decide_eq_true d,if_pos rfl];omega
    · have:a<0:=Classical.byContradiction fun x=>hs' ⟨fun y=>absurd y x,fun y=>absurd y d⟩
      rw [decide_eq_false d,if_neg (by simp)];omega
   rw [e] at hw
   exact x5s hc (k2t.2 (by omega)) h hw
 · have h:=y7i hlib ha hb hK hL (by omega)
   have hw:=y2p (E:=E) (decide (a<0)) (a.natAbs-b.natAbs)
   have e:sgn (decide (a<0)) (a.natAbs-b.natAbs)=a+b:=by
    unfold sgn
    by_cases d:a<0
    · have:¬ b<0:=fun x=>hs' ⟨fun _=>x,fun _=>d⟩
      rw [decide_eq_true d,if_pos rfl];omega
    · have:b<0:=Classical.byContradiction fun x=>hs' ⟨fun y=>absurd y d,fun y=>absurd y x⟩
      rw [decide_eq_false d,if_neg (by simp)];omega
   rw [e] at hw
   exact x5t hc (fun x=>c (by have:=k2t.1 x;omega)) h hw
theorem q9z (b:Bool):Fn E z0e [.c (.bool b)] (.c (.i64 (if b then 1 else 0))):=by
 cases b
 · exact j8a
 · exact j7z
theorem q3x (hlib:Lib E) {a b:Int} {K L:Nat} (ha:a.natAbs<10 ^ K) (hb:b.natAbs<10 ^ L) (hK:K≤Lim) (hL:L≤Lim):Fn E P6 [.agg (Zc a),.agg (Zc b)] (.agg (Zc (a+b))):=by
 have b1:=q9z (E:=E) (decide (a<0))
 have b2:=q9z (E:=E) (decide (b<0))
 by_cases hs:decide (a<0)=decide (b<0)
 · have h:=v4l hlib ha hb hK hL hs
   cases c:decide (a<0) with
   | true =>
    rw [c] at b1 hs;rw [← hs] at b2
    simp only [Zc] at h ⊢;rw [c,← hs] at h ⊢
    exact x3k b1 b2 h
   | false =>
    rw [c] at b1 hs;rw [← hs] at b2
    simp only [Zc] at h ⊢;rw [c,← hs] at h ⊢
    exact x3h b1 b2 h
 · have h:=j4h hlib ha hb hK hL hs
   cases c:decide (a<0) with
   | true =>
    have d:decide (b<0)=false:=by rw [c] at hs;cases x:decide (b<0) with | true=>exact absurd x.symm hs | false=>rfl
    rw [c] at b1;rw [d] at b2
    simp only [Zc] at h ⊢;rw [c,d] at h ⊢
    exact x3j b1 b2 h
   | false =>
    have d:decide (b<0)=true:=by rw [c] at hs;cases x:decide (b<0) with | false=>exact absurd x.symm hs | true=>rfl
    rw [c] at b1;rw [d] at b2
    simp only [Zc] at h ⊢;rw [c,d] at h ⊢
    exact x3i b1 b2 h
theorem q9f (hlib:Lib E) {a b:Int} {K L:Nat} (ha:a.natAbs<10 ^ K) (hb:b.natAbs<10 ^ L) (hKL:K+L≤Lim):Fn E z5e [.agg (Zc a),.agg (Zc b)] (.agg (Zc (a*b))):=by
 have h:=y7h hlib ha hb hKL
 have hw:=y2p (E:=E) (!(decide (a<0) == decide (b<0))) (a.natAbs*b.natAbs)
 have e:sgn (!(decide (a<0) == decide (b<0))) (a.natAbs*b.natAbs)=a*b:=by
  unfold sgn
  have ea:(a.natAbs:Int)=if a<0 then -a else a:=by split <;> omega
  have eb:(b.natAbs:Int)=if b<0 then -b else b:=by split <;> omega
  rw [Int.natCast_mul,ea,eb]
  by_cases c:a<0 <;> by_cases d:b<0 <;> simp [c,d] <;> grind
 rw [e] at hw
 exact x1q rfl h hw
theorem j3g {a b:Int} {K:Nat} (ha:a.natAbs<10 ^ K) (hb:b.natAbs<10 ^ K):(a+b).natAbs<10 ^ (K+1):=by
 have:=Int.natAbs_add_le a b
 rw [Nat.pow_succ];omega
theorem j5c (hlib:Lib E) {a b:Int} {K L:Nat} (ha:a.natAbs<10 ^ K) (hb:b.natAbs<10 ^ L) (hK:K≤Lim) (hL:L≤Lim):Fn E y4a [.c (.str (B (decZ a))),.c (.str (B (decZ b)))] (.tup [.c (.str (B (decZ (a+b)))),.c (.i64 0)]):=by
 have hs:=j3g (z8o ha (show K≤max K L by omega)) (z8o hb (show L≤max K L by omega))
 have:1≤Lim:=by rw [z2x];omega
 exact j7w (x4s hlib ha hb hK hL) rfl (q3x hlib ha hb hK hL) (x7f hs (by omega))
theorem z8g {a b:Int} {K L:Nat} (ha:a.natAbs<10 ^ K) (hb:b.natAbs<10 ^ L):(a*b).natAbs<10 ^ (K+L):=by
 rw [Int.natAbs_mul];exact z5o ha hb
theorem z8h (hlib:Lib E) {a b:Int} {K L:Nat} (ha:a.natAbs<10 ^ K) (hb:b.natAbs<10 ^ L) (hKL:K+L≤Lim):Fn E X5 [.c (.str (B (decZ a))),.c (.str (B (decZ b)))] (.tup [.c (.str (B (decZ (a*b)))),.c (.i64 0)]) :=
 j7x (x4s hlib ha hb (by omega) (by omega)) rfl (q9f hlib ha hb hKL) (x7f (z8g ha hb) (by omega))
theorem j5d (hlib:Lib E) {a:Int} {K:Nat} (ha:a.natAbs<10 ^ K) (hK:K≤Lim):Fn E y8s [.c (.str (B (decZ a)))] (.tup [.c (.str (B (decZ (-a)))),.c (.i64 0)]) :=
 j7y (q1x hlib ha hK) rfl (k9i a) (x7f (K:=K) (by rw [Int.natAbs_neg];exact ha) (by omega))
theorem j5b (hlib:Lib E) {a:Int} {K:Nat} (ha:a.natAbs<10 ^ K) (hK:K≤Lim):Fn E y8r [.c (.str (B (decZ a)))] (.tup [.c (.str (B (dec a.natAbs))),.c (.i64 0)]) :=
 j7v (q1x hlib ha hK) rfl
theorem j0b (hlib:Lib E) {a:Int} {K:Nat} (ha:a.natAbs<10 ^ K) (hK:K≤Lim):Fn E y6s [.c (.str (B (decZ a)))] (.tup [.c (.i64 (cmpI a 0)),.c (.i64 0)]) :=
 j5e (q1x hlib ha hK) (q4u a)
theorem v0d (a b:Int):cmpI (a+-b) 0=cmpI a b:=by unfold cmpI;split <;> split <;> (try split) <;> (try split) <;> omega
theorem k1a (hlib:Lib E) {a b:Int} {K L:Nat} (ha:a.natAbs<10 ^ K) (hb:b.natAbs<10 ^ L) (hK:K≤Lim) (hL:L≤Lim):Fn E y1m [.c (.str (B (decZ a))),.c (.str (B (decZ b)))] (.tup [.c (.i64 (cmpI a b)),.c (.i64 0)]):=by
 rw [← v0d a b]
 exact k3i (x4s hlib ha hb hK hL) (k9i b) (q3x hlib ha (b:=-b) (by rw [Int.natAbs_neg];exact hb) hK hL) (q4u _)
theorem q5r (hlib:Lib E) {a:Int} {b K L:Nat} (ha:a.natAbs<10 ^ K) (hb:b<10 ^ L) (hK:K≤Lim) (hL:L≤Lim)(h0:b≠0):Fn E V5 [.agg (Zc a),.agg (Zc b)] (.tup [.agg (Zc (a / b)),.agg (Zc (a % b))]):=by
 have h:=y8i hlib ha hb hK hL h0
 have eb:Zc (b:Int)=[.bool false,.str (B (dec b))]:=by unfold Zc;rw [decide_eq_false (by omega),Int.natAbs_natCast]
 have hdm:=Nat.div_add_mod a.natAbs b
 have hlt:=Nat.mod_lt a.natAbs (show 0<b by omega)
 obtain ⟨q,eq⟩:∃ q,q=a.natAbs / b:=⟨_,rfl⟩
 obtain ⟨r,er⟩:∃ r,r=a.natAbs % b:=⟨_,rfl⟩
 rw [← eq,← er] at h hdm
 rw [← er] at hlt
 have hq:q<10 ^ K:=by rw [eq];exact Nat.lt_of_le_of_lt (Nat.div_le_self _ _) ha
 rw [eb]
 have uniq:∀ Q R:Int,a=b*Q+R→0≤R→R<b→a / b=Q∧a % b=R:=by
  intro Q R e h1 h2
  have:=(Int.ediv_emod_unique (show 0<(b:Int) by omega) (a:=a) (r:=R) (q:=Q)).2 ⟨by rw [e];omega,h1,h2⟩
  exact this
 have hdm':((b:Int))*q+r=a.natAbs:=by have:=congrArg (Nat.cast (R:=Int)) hdm;simpa using this
 by_cases c:a<0
 · have ea:Zc a=[.bool true,.str (B (dec a.natAbs))]:=by unfold Zc;rw [decide_eq_true c]
   rw [ea]
   by_cases hr:r=0
   · obtain ⟨u1,u2⟩:=uniq (-(q:Int)) 0 (by rw [Int.mul_neg];omega) (by omega) (by omega)
     rw [u1,u2]
     have w1:=y2p (E:=E) true q
     have w2:=y2p (E:=E) false r
     rw [show sgn true q=-(q:Int) from rfl] at w1
     rw [show sgn false r=(r:Int) from rfl,hr,show ((0:Nat):Int)=0 from rfl] at w2
     rw [hr] at h
     exact y9z rfl h (by rw [B48,z6n]) w1 w2
   · obtain ⟨u1,u2⟩:=uniq (-((q+1:Nat):Int)) ((b-r:Nat):Int) (by rw [Int.mul_neg,Int.natCast_add,Int.mul_add];omega) (by omega) (by omega)
     rw [u1,u2]
     have w1:=y2p (E:=E) true (q+1)
     have w2:=y2p (E:=E) false (b-r)
     have h1:=x6d hlib hq (show 1<10 ^ 1 by decide) hK (by rw [z2x];omega)
     have h2:=y7i hlib hb (show r<10 ^ L by omega) hL hL (by omega)
     rw [← v0i] at h1
     exact y9y rfl h (fun e=>hr (by rw [B48] at e;exact y1e.1 (y5p e))) h1 h2 w1 w2
 · have ea:Zc a=[.bool false,.str (B (dec a.natAbs))]:=by unfold Zc;rw [decide_eq_false c]
   rw [ea]
   obtain ⟨u1,u2⟩:=uniq q r (by omega) (by omega) (by omega)
   rw [u1,u2]
   exact x0a rfl h (y2p false q) (y2p false r)
theorem q2z {a:Int} {b:Nat}:(a / b).natAbs≤a.natAbs:=Int.natAbs_ediv_le_natAbs a b
theorem k3j (hlib:Lib E) {a:Int} {b K L:Nat} (ha:a.natAbs<10 ^ K) (hb:b<10 ^ L) (hK:K≤Lim) (hL:L≤Lim)(h0:b≠0):Fn E y2w [.c (.str (B (decZ a))),.c (.str (B (dec b)))] (.tup [.c (.str (B (decZ (a / b)))),.c (.str (B (decZ (a % b)))),.c (.i64 0)]):=by
 have hbo:=x4s hlib ha (show (b:Int).natAbs<10 ^ L from hb) hK hL
 rw [y1v] at hbo
 have hz:=v0s (b:Int)
 rw [decide_eq_false (show ¬ (b:Int)=0 by omega)] at hz
 have hr0:=Int.emod_nonneg a (show (b:Int)≠0 by omega)
 have hr1:=Int.emod_lt_of_pos a (show 0<(b:Int) by omega)
 exact k6s hbo rfl k6c hz (q5r hlib ha hb hK hL h0) (x7f (Nat.lt_of_le_of_lt q2z ha) (by omega)) (x7f (K:=L) (Nat.lt_of_le_of_lt (show (a % b).natAbs≤b by omega) hb) (by omega))
def Qc (q:Rat):List DV:=[.str (B (decZ q.num)),.str (B (dec q.den))]
theorem B47:(⟨#[47]⟩:BA)=B [47]:=rfl
theorem Sz.num {q:Rat} {K:Nat} (h:Sz q K):q.num.natAbs<10 ^ K:=h.1
theorem Sz.den {q:Rat} {K:Nat} (h:Sz q K):q.den<10 ^ K:=h.2
theorem v0j {q:Rat} {K:Nat} (h:Sz q K):(dec q.den).length≤K:=dec_length h.2 h.pos
theorem j6r {q:Rat} {K:Nat} (h:Sz q K) (hK:K≤Lim):Fn E F_rational_frac_text [.agg (Qc q)] (.c (.str (B (decQ q)))):=by
 have h1:=j2u h.1
 have h2:=v0j h
 rw [z2x] at hK
 by_cases hd:q.den=1
 · rw [y0c hd]
   exact x6o (by rw [hd,y8d];rfl)
 · rw [z6u hd]
   exact x6p (s2:=B (decZ q.num++[47])) (by rw [B47,j3c]) (by rw [j3c];simp) (fun e=>hd (by rw [B49] at e;exact y7a.1 (y5p e))) (by rw [B47,V3,V3];simp;omega) (by rw [V3,V3];simp;omega)
theorem k0w (hlib:Lib E) {z:Int} {d K L:Nat} (hz:z.natAbs<10 ^ K) (hd:d<10 ^ L) (hK:K≤Lim) (hL:L≤Lim)(h0:d≠0):Fn E z5g [.c (.str (B (decZ z))),.c (.str (B (dec d)))] (.c (.str (B (dec (Nat.gcd z.natAbs d))))) :=
 k1r (j5b hlib hz hK) (j5r hlib hz hd hK hL (.inr (by omega)))
theorem v0q {z:Int} {d:Nat} (h0:d≠0):Nat.gcd z.natAbs d≠0:=fun h=>h0 (Nat.eq_zero_of_gcd_eq_zero_right h)
theorem q8r {z:Int} {d:Nat} (h0:d≠0):(mkRat z d).num=z / (Nat.gcd z.natAbs d:Nat):=by rw [Rat.num_mkRat,if_neg h0,Nat.gcd_comm]
theorem q8q {z:Int} {d:Nat} (h0:d≠0):(mkRat z d).den=d / Nat.gcd z.natAbs d:=by rw [Rat.den_mkRat,if_neg h0,Nat.gcd_comm]
theorem Qc_mk {z:Int} {d:Nat} (h0:d≠0):Qc (mkRat z d)=[.str (B (decZ (z / (Nat.gcd z.natAbs d:Nat)))),.str (B (dec (d / Nat.gcd z.natAbs d)))]:=by unfold Qc;rw [q8r h0,q8q h0]
theorem j9v (hlib:Lib E) {z:Int} {d K L:Nat} (hz:z.natAbs<10 ^ K) (hd:d<10 ^ L) (hK:K≤Lim) (hL:L≤Lim)(h0:d≠0):Fn E U4 [.c (.str (B (decZ z))),.c (.str (B (dec d)))] (.agg (Qc (mkRat z d))):=by
 have hg:=k0w hlib hz hd hK hL h0
 rw [Qc_mk h0]
 obtain ⟨g,eg⟩:∃ g,g=Nat.gcd z.natAbs d:=⟨_,rfl⟩
 have hg0:g≠0:=by rw [eg];exact v0q h0
 have hgl:g<10 ^ L:=by rw [eg];exact Nat.lt_of_le_of_lt (Nat.gcd_le_right _ (by omega)) hd
 rw [← eg] at hg ⊢
 by_cases h1:g=1
 · rw [h1] at hg ⊢
   rw [show ((1:Nat):Int)=1 from rfl,Int.ediv_one,Nat.div_one]
   exact k3v hg (by rw [y8d,B49])
 · exact k3u hg (fun e=>h1 (by rw [B49] at e;exact y7a.1 (y5p e))) (k3j hlib hz hgl hK hL hg0) (y8i hlib hd hgl hL hL hg0)
theorem x0u {z:Int} (h:(decZ z).length≤9):z.natAbs<1000000000:=by
 have h1:(dec z.natAbs).length≤(decZ z).length:=by unfold decZ;split <;> simp
 have h2:=y0d z.natAbs
 have h3:(10:Nat) ^ (dec z.natAbs).length≤10 ^ 9:=Nat.pow_le_pow_right (by decide) (by omega)
 rw [j6q] at h3
 omega
theorem x7t {n:Nat} (h:(dec n).length≤9):n<1000000000:=by
 have:=x0u (z:=(n:Int)) (by rw [y1v];exact h)
 omega
theorem z8j (hlib:Lib E) {q:Rat} (h1:(decZ q.num).length≤9)(h2:(dec q.den).length≤9):Fn E C2 [.agg (Qc q)] (.tup [.c (.i64 q.num),.c (.i64 q.den),.c (.bool true)]):=by
 have p1:=hlib.parseInt q.num h1
 have p2:=hlib.parseInt (q.den:Int) (by rw [y1v];exact h2)
 rw [y1v] at p2
 exact x2b (by rw [V3];omega) (by rw [V3];omega) p1 p2
theorem y6n {q:Rat} (h:¬ ((decZ q.num).length≤9∧(dec q.den).length≤9)):Fn E C2 [.agg (Qc q)] (.tup [.c (.i64 0),.c (.i64 0),.c (.bool false)]):=by
 by_cases h1:(decZ q.num).length≤9
 · exact x2a (by rw [V3];omega) (by rw [V3];have:¬ (dec q.den).length≤9:=fun x=>h ⟨h1,x⟩;omega)
 · exact x1z (by rw [V3];omega)
theorem q7e {x0 x1:Int} {s:BA}:∀ (t:Nat) (a b:Int),b.natAbs<t→∃ g:Int,Lp E 1 z0f 0 (z8q x0 x1 a b s s) (.exit 0) (y3k x0 x1 s s g)∧g.natAbs=Nat.gcd a.natAbs b.natAbs
 | 0,a,b,h=>by omega
 | t+1,a,b,h=>by
  by_cases h0:b=0
  · subst h0
    exact ⟨a,x9g rfl,by simp⟩
  · have hlt:(Int.tmod a b).natAbs<b.natAbs:=by
     rw [Int.natAbs_tmod]
     exact Nat.mod_lt _ (by omega)
    obtain ⟨g,h1,h2⟩:=q7e t b (Int.tmod a b) (by omega)
    refine ⟨g,k3w rfl h0 h0 h1,?_⟩
    rw [h2,Int.natAbs_tmod]
    exact (Nat.gcd_comm _ _).trans ((Nat.gcd_rec _ _).symm.trans (Nat.gcd_comm _ _))
theorem v1h (hlib:Lib E) {p:Int} {q:Nat} (hp:p.natAbs<9000000000000000000) (hq:q<9000000000000000000)(h0:q≠0):Fn E z0f [.c (.i64 p),.c (.i64 q)] (.agg (Qc (mkRat p q))):=by
 obtain ⟨g,h1,h2⟩:=q7e (E:=E) (x0:=p) (x1:=q) (s:=⟨#[]⟩) (q+1) p q (by omega)
 rw [Int.natAbs_natCast] at h2
 have hg0:=v0q (z:=p) h0
 have hgle:Nat.gcd p.natAbs q≤q:=Nat.gcd_le_right _ (by omega)
 rw [Qc_mk h0]
 obtain ⟨G,eG⟩:∃ G,G=Nat.gcd p.natAbs q:=⟨_,rfl⟩
 have d1:((G:Nat):Int) ∣ p:=by rw [eG];exact Int.ofNat_dvd_left.2 (Nat.gcd_dvd_left _ _)
 rw [← eG] at h2 hg0 hgle ⊢
 have hm:(if (if g<0 then -g else -g)>g then (if g<0 then -g else -g) else g)=(G:Int):=by split <;> split at*<;> omega
 have hq':((q / G:Nat):Int)=(q:Int) / G:=Int.natCast_ediv q G
 have f1:=hlib.formatInt (p / G) (by have:=Int.natAbs_ediv_le_natAbs p G;omega)
 have hqg:q / G≤q:=Nat.div_le_self _ _
 obtain ⟨Q,eQ⟩:∃ Q,Q=q / G:=⟨_,rfl⟩
 rw [← eQ] at hq' hqg ⊢
 have f2:=hlib.formatInt (Q:Int) (by omega)
 rw [y1v] at f2
 have hpd:Int.tdiv p G=p / G:=Int.tdiv_eq_ediv_of_dvd d1
 have hpa:=Int.natAbs_ediv_le_natAbs p G
 refine j8p (i3:=-g) (i4:=(G:Int)) (i5:=p / G) (i6:=(Q:Int)) (wi (by omega)) (by split <;> omega) (wi ⟨hpd,by omega,by omega⟩) (wi ⟨(tdv (by omega) hq'.symm),by omega,by omega⟩) h1 (by omega) f1 f2
theorem q3y (hlib:Lib E) {x y:Rat} {K L:Nat} (hx:Sz x K) (hy:Sz y L) (hKL:K+L+1≤Lim):Fn E z0y [.agg (Qc x),.agg (Qc y)] (.agg (Qc (x+y))):=by
 rw [Rat.add_def']
 have hd:x.den*y.den≠0:=Nat.mul_ne_zero x.den_nz y.den_nz
 have low:Fn E U4 [.c (.str (B (decZ (x.num*y.den+y.num*x.den)))),.c (.str (B (dec (x.den*y.den))))] (.agg (Qc (mkRat (x.num*y.den+y.num*x.den) (x.den*y.den)))):=by
  refine j9v hlib (K:=K+L+1) (L:=K+L) ?_ (z5o hx.2 hy.2) hKL (by omega) hd
  have h1:=z8g (b:=(y.den:Int)) hx.1 (show (y.den:Int).natAbs<10 ^ L from hy.2)
  have h2:=z8g (b:=(x.den:Int)) hy.1 (show (x.den:Int).natAbs<10 ^ K from hx.2)
  exact j3g h1 (by rw [Nat.add_comm];exact h2)
 have m1:=z8h hlib hx.1 (b:=(y.den:Int)) (show (y.den:Int).natAbs<10 ^ L from hy.2) (by omega)
 have m2:=z8h hlib hy.1 (b:=(x.den:Int)) (show (x.den:Int).natAbs<10 ^ K from hx.2) (by omega)
 rw [y1v] at m1 m2
 have a1:=j5c hlib (z8g hx.1 (show (y.den:Int).natAbs<10 ^ L from hy.2)) (z8g hy.1 (show (x.den:Int).natAbs<10 ^ K from hx.2)) (by omega) (by omega)
 have n1:=y7h hlib hx.2 hy.2 (by omega)
 by_cases c1:(decZ x.num).length≤9∧(dec x.den).length≤9
 · by_cases c2:(decZ y.num).length≤9∧(dec y.den).length≤9
   · have b1:=x0u c1.1
     have b2:=x7t c1.2
     have b3:=x0u c2.1
     have b4:=x7t c2.2
     have p1:(x.num*(y.den:Int)).natAbs≤999999999*999999999:=by rw [Int.natAbs_mul];exact Nat.mul_le_mul (by omega) (by simp;omega)
     have p2:(y.num*(x.den:Int)).natAbs≤999999999*999999999:=by rw [Int.natAbs_mul];exact Nat.mul_le_mul (by omega) (by simp;omega)
     have p3:x.den*y.den≤999999999*999999999:=Nat.mul_le_mul (by omega) (by omega)
     have e3:(x.den:Int)*y.den=((x.den*y.den:Nat):Int):=(Int.natCast_mul _ _).symm
     have o:=v1h hlib (p:=x.num*y.den+y.num*x.den) (q:=x.den*y.den) (by omega) (by omega) hd
     exact j0l (i4:=x.num*y.den) (i5:=y.num*x.den) (i6:=x.num*y.den+y.num*x.den) (i7:=((x.den*y.den:Nat):Int)) (wi (by omega)) (wi (by omega)) (wi (by omega)) (wi ⟨e3,by omega,by omega⟩) (z8j hlib c1.1 c1.2) (z8j hlib c2.1 c2.2) o
   · exact j0m (z8j hlib c1.1 c1.2) (y6n c2) m1 m2 a1 n1 low
 · have:∃ v w b,Fn E C2 [.agg (Qc y)] (.tup [.c (.i64 v),.c (.i64 w),.c (.bool b)]):=by
    by_cases c2:(decZ y.num).length≤9∧(dec y.den).length≤9
    · exact ⟨_,_,_,z8j hlib c2.1 c2.2⟩
    · exact ⟨_,_,_,y6n c2⟩
   obtain ⟨v,w,b,hl⟩:=this
   exact j0n (y6n c1) hl m1 m2 a1 n1 low
theorem q9g (hlib:Lib E) {x y:Rat} {K L:Nat} (hx:Sz x K) (hy:Sz y L) (hKL:K+L≤Lim):Fn E z2b [.agg (Qc x),.agg (Qc y)] (.agg (Qc (x*y))):=by
 rw [Rat.mul_def']
 have hd:x.den*y.den≠0:=Nat.mul_ne_zero x.den_nz y.den_nz
 have low:=j9v hlib (z8g hx.1 hy.1) (z5o hx.2 hy.2) (by omega) (by omega) hd
 have m1:=z8h hlib hx.1 hy.1 (by omega)
 have n1:=y7h hlib hx.2 hy.2 (by omega)
 by_cases c1:(decZ x.num).length≤9∧(dec x.den).length≤9
 · by_cases c2:(decZ y.num).length≤9∧(dec y.den).length≤9
   · have b1:=x0u c1.1
     have b2:=x7t c1.2
     have b3:=x0u c2.1
     have b4:=x7t c2.2
     have p1:(x.num*y.num).natAbs≤999999999*999999999:=by rw [Int.natAbs_mul];exact Nat.mul_le_mul (by omega) (by omega)
     have p3:x.den*y.den≤999999999*999999999:=Nat.mul_le_mul (by omega) (by omega)
     have e3:(x.den:Int)*y.den=((x.den*y.den:Nat):Int):=(Int.natCast_mul _ _).symm
     have o:=v1h hlib (p:=x.num*y.num) (q:=x.den*y.den) (by omega) (by omega) hd
     exact k7e (i4:=x.num*y.num) (i5:=((x.den*y.den:Nat):Int)) (wi (by omega)) (wi ⟨e3,by omega,by omega⟩) (z8j hlib c1.1 c1.2) (z8j hlib c2.1 c2.2) o
   · exact k7f (z8j hlib c1.1 c1.2) (y6n c2) m1 n1 low
 · have:∃ v w b,Fn E C2 [.agg (Qc y)] (.tup [.c (.i64 v),.c (.i64 w),.c (.bool b)]):=by
    by_cases c2:(decZ y.num).length≤9∧(dec y.den).length≤9
    · exact ⟨_,_,_,z8j hlib c2.1 c2.2⟩
    · exact ⟨_,_,_,y6n c2⟩
   obtain ⟨v,w,b,hl⟩:=this
   exact k7g (y6n c1) hl m1 n1 low
theorem q2a (hlib:Lib E) {x:Rat} {K:Nat} (hx:Sz x K) (hK:K≤Lim):Fn E z9p [.agg (Qc x)] (.agg (Qc (-x))):=by
 have h:=j5d hlib hx.1 hK
 have e:Qc (-x)=[.str (B (decZ (-x.num))),.str (B (dec x.den))]:=by unfold Qc;rw [Rat.neg_num,Rat.neg_den]
 rw [e]
 exact x9h h
def q6v (z:Int) (l:List UInt8):Bool:=bif decide (z<0) then (match l with
 | c::m=>c == 45 && (natB m && dval m == z.natAbs)
 | []=>false) else natB l && dval l == z.natAbs
theorem j2z {l:List UInt8} {n:Nat}:(natB l && dval l == n)=true↔l=dec n:=by
 rw [Bool.and_eq_true,x6c,beq_iff_eq]
 exact ⟨fun h=>by rw [← h.2];exact h.1.eq_dec,fun h=>by rw [h];exact ⟨x7k n,z4g n⟩⟩
theorem k6l {z:Int} {l:List UInt8}:q6v z l=true↔l=decZ z:=by
 unfold q6v
 by_cases h:z<0
 · rw [decide_eq_true h,cond_true,z6m h]
   cases l with
   | nil=>simp
   | cons c m=>rw [Bool.and_eq_true,beq_iff_eq,j2z,List.cons.injEq]
 · rw [decide_eq_false h,cond_false,Z2 (by omega)];exact j2z
def q2u (q:Rat) (l:List UInt8):Bool:=bif q.den == 1 then q6v q.num l else (match l.drop (l.takeWhile (· != 47)).length with
 | c::m=>c == 47 && (q6v q.num (l.takeWhile (· != 47)) && (natB m && dval m == q.den))
 | []=>false)
theorem q6u {a b:List UInt8} (h:(47:UInt8) ∉ a):(a++47::b).takeWhile (· != 47)=a:=by
 induction a with
 | nil=>rfl
 | cons x a ih =>
  have hx:(x != 47)=true:=by rw [bne_iff_ne];exact fun e=>h (by simp [e])
  rw [List.cons_append,List.takeWhile_cons,if_pos hx,ih (fun e=>h (List.mem_cons_of_mem _ e))]
theorem v3h {a:List UInt8} (h:(47:UInt8) ∉ a):a.takeWhile (· != 47)=a:=by
 induction a with
 | nil=>rfl
 | cons x a ih =>
  have hx:(x != 47)=true:=by rw [bne_iff_ne];exact fun e=>h (by simp [e])
  rw [List.takeWhile_cons,if_pos hx,ih (fun e=>h (List.mem_cons_of_mem _ e))]
theorem k6k {q:Rat} {l:List UInt8}:q2u q l=true↔l=decQ q:=by
 unfold q2u
 by_cases h:q.den=1
 · rw [h,beq_self_eq_true,cond_true,y0c h];exact k6l
 · rw [beq_false_of_ne h,cond_false,z6u h]
   constructor
   · intro e
     split at e
     · rename_i c m hd
       rw [Bool.and_eq_true,beq_iff_eq,Bool.and_eq_true,k6l,j2z] at e
       obtain ⟨e1,e2,e3⟩:=e
       have ht:l.take (l.takeWhile (· != 47)).length=l.takeWhile (· != 47):=(List.prefix_iff_eq_take.1 (List.takeWhile_prefix _)).symm
       rw [← List.take_append_drop (l.takeWhile (· != 47)).length l,ht,hd,e1,e2,e3]
     · cases e
   · intro e
     rw [e,q6u (z1p _),List.drop_left]
     show (47 == 47 && _)=true
     rw [Bool.and_eq_true,Bool.and_eq_true]
     exact ⟨rfl,k6l.2 rfl,j2z.2 rfl⟩
def rdZ (l:List UInt8):Int:=bif l.head? == some 45 then -(dval l.tail:Int) else dval l
def rdQ (l:List UInt8):Rat:=match l.drop (l.takeWhile (· != 47)).length with
 | _::m=>mkRat (rdZ (l.takeWhile (· != 47))) (dval m)
 | []=>mkRat (rdZ l) 1
theorem q7h (z:Int):rdZ (decZ z)=z:=by
 unfold rdZ
 by_cases h:z<0
 · rw [z6m h]
   show -(dval (dec z.natAbs):Int)=z
   rw [z4g];omega
 · rw [Z2 (by omega)]
   have hh:((dec z.natAbs).head? == some 45)=false:=by
    rw [beq_eq_false_iff_ne]
    intro e
    cases hd:dec z.natAbs with
    | nil=>rw [hd] at e;cases e
    | cons c m=>rw [hd] at e;cases e;exact x5m _ (by decide) _ hd
   rw [hh,cond_false,z4g];omega
theorem v4f (q:Rat):rdQ (decQ q)=q:=by
 unfold rdQ
 by_cases h:q.den=1
 · rw [y0c h,v3h (z1p _),List.drop_length]
   show mkRat (rdZ (decZ q.num)) 1=q
   rw [q7h,← h];exact Rat.mkRat_self q
 · rw [z6u h,q6u (z1p _),List.drop_left]
   show mkRat (rdZ (decZ q.num)) (dval (dec q.den))=q
   rw [q7h,z4g];exact Rat.mkRat_self q
noncomputable def rd (l:List UInt8):Option Rat:=bif q2u (rdQ l) l then some (rdQ l) else none
theorem q7i (q:Rat):rd (decQ q)=some q:=by
 unfold rd
 rw [v4f,k6k.2 rfl];rfl
theorem q7k {l:List UInt8} {q:Rat} (h:rd l=some q):l=decQ q:=by
 unfold rd at h
 cases c:q2u (rdQ l) l with
 | true=>rw [c] at h;cases h;exact k6k.1 c
 | false=>rw [c] at h;cases h
theorem q7j {l:List UInt8} (h:rd l=none) (q:Rat):l≠decQ q:=fun e=>by rw [e,q7i] at h;cases h
theorem j8m {q:Rat} (h:q.den≠1):q.num≠0:=by
 intro h0
 have:=q.reduced
 rw [h0] at this
 simp [Nat.Coprime] at this
 exact h this
theorem j6a (hlib:Lib E) {q:Rat} {K:Nat} (hq:Sz q K) (hK:K≤Lim):Fn E K3 [.c (.str (B (decQ q)))] (.tup [.agg (Qc q),.c (.bool true)]):=by
 have h1:=j2u hq.1
 have h2:=v0j hq
 have hK':=hK
 rw [z2x] at hK'
 have hv:=y3j hlib (l:=decZ q.num) (by omega)
 rw [j9q] at hv
 by_cases hd:q.den=1
 · rw [y0c hd]
   have e:Qc q=[.str (B (decZ q.num)),.str (B [49])]:=by unfold Qc;rw [hd,y8d]
   rw [e]
   exact x3c (hlib.cutNo _ (z1p _) (by omega)) hv
 · rw [z6u hd]
   have hn:=j8m hd
   have hnv:=z2c (E:=E) (dec q.den) (by omega)
   rw [q3o] at hnv
   have hg:=k0w hlib hq.1 hq.2 hK hK q.den_nz
   have hg1:Nat.gcd q.num.natAbs q.den=1:=q.reduced
   rw [hg1] at hg
   exact j0o (hlib.cutYes _ _ (z1p _) (by omega)) hv (fun e=>hn (by rw [B48] at e;exact k2z ((y5p e).trans y9v.symm))) hnv (fun e=>q.den_nz (by rw [B48] at e;exact y1e.1 (y5p e))) (fun e=>hd (by rw [B49] at e;exact y7a.1 (y5p e))) hg (by rw [y8d,B49])
theorem k9f:∀ (l:List UInt8),(47:UInt8)∈l→∃ p r,l=p++47::r∧(47:UInt8) ∉ p
 | [],h=>by cases h
 | c::l,h=>by
  by_cases hc:c=47
  · exact ⟨[],l,by rw [hc];rfl,by simp⟩
  · have h':(47:UInt8)∈l:=by
     rcases List.mem_cons.1 h with h | h
     · exact absurd h.symm hc
     · exact h
    obtain ⟨p,r,e,hp⟩:=k9f l h'
    exact ⟨c::p,r,by rw [e];rfl,fun hx=>by
     rcases List.mem_cons.1 hx with hx | hx
     · exact hc hx.symm
     · exact hp hx⟩
theorem q2x (z:Int):(dec z.natAbs).length≤(decZ z).length:=by unfold decZ;split <;> simp
theorem v4g (hlib:Lib E) {l:List UInt8} (h:rd l=none) (hl:l.length≤Lim):∃ x y,Fn E K3 [.c (.str (B l))] (.tup [.agg [.str x,.str y],.c (.bool false)]):=by
 have hl':=hl
 rw [z2x] at hl'
 by_cases hs:(47:UInt8)∈l
 · obtain ⟨p,r,rfl,hp⟩:=k9f l hs
   simp only [List.length_append,List.length_cons] at hl hl'
   have hc:=hlib.cutYes p r hp (by omega)
   have hv:=y3j hlib (l:=p) (by omega)
   have hnv:=z2c (E:=E) r (by omega)
   cases hi:intB p with
   | false=>rw [hi] at hv;exact ⟨_,_,j0u hc hv⟩
   | true =>
    rw [hi] at hv
    obtain ⟨z,rfl⟩:=(j5a.1 hi).eq_decZ
    by_cases hz:z=0
    · exact ⟨_,_,j0t hc hv (by rw [hz,y9v];rfl)⟩
    · have hz':¬ B (decZ z)=(⟨#[48]⟩:BA):=fun e=>hz (by rw [B48] at e;exact k2z ((y5p e).trans y9v.symm))
      cases hn:natB r with
      | false=>rw [hn] at hnv;exact ⟨_,_,j0s hc hv hz' hnv⟩
      | true =>
       rw [hn] at hnv
       have hr:=x6c.1 hn
       obtain ⟨n,rfl⟩:∃ n,r=dec n:=⟨_,hr.eq_dec⟩
       by_cases h0:n=0
       · exact ⟨_,_,j0r hc hv hz' hnv (by rw [h0,z6n];rfl)⟩
       · have h0':¬ B (dec n)=(⟨#[48]⟩:BA):=fun e=>h0 (by rw [B48] at e;exact y1e.1 (y5p e))
         by_cases h1:n=1
         · exact ⟨_,_,j0q hc hv hz' hnv h0' (by rw [h1,y8d];rfl)⟩
         · have h1':¬ B (dec n)=(⟨#[49]⟩:BA):=fun e=>h1 (by rw [B49] at e;exact y7a.1 (y5p e))
           have hzl:z.natAbs<10 ^ (decZ z).length:=z8o (y0d _) (q2x z)
           have hg:=k0w hlib hzl (y0d n) (by omega) (by omega) h0
           by_cases hg1:Nat.gcd z.natAbs n=1
           · obtain ⟨q,_,_,e⟩:=v3k z n (by omega) hg1
             exact absurd e.symm (q7j h q)
           · exact ⟨_,_,j0p hc hv hz' hnv h0' h1' hg (fun e=>hg1 (by rw [B49] at e;exact y7a.1 (y5p e)))⟩
 · have hc:=hlib.cutNo l hs (by omega)
   have hv:=y3j hlib (l:=l) (by omega)
   cases hi:intB l with
   | false=>rw [hi] at hv;exact ⟨_,_,x3c hc hv⟩
   | true =>
    obtain ⟨z,e⟩:=(j5a.1 hi).eq_decZ
    exact absurd (e.trans (k2y z).symm) (q7j h z)
theorem y2b (hlib:Lib E) {l:List UInt8} (hl:l.length≤Lim):Fn E z4d [.c (.str (B l))] (.c (.bool (rd l).isSome)):=by
 cases h:rd l with
 | none =>
  obtain ⟨x,y,hr⟩:=v4g hlib h hl
  exact x0r hr
 | some q =>
  have:=q7k h
  subst this
  exact x0r (j6a hlib (Sz.of_len (Nat.le_refl _)) hl)
theorem k2i (hlib:Lib E) {a b:Rat} {K L:Nat} (ha:Sz a K) (hb:Sz b L) (hK:K≤Lim) (hL:L≤Lim):Fn E F_rational_both [.c (.str (B (decQ a))),.c (.str (B (decQ b)))] (.tup [.agg (Qc a),.agg (Qc b),.c (.i64 0)]) :=
 j0k (j6a hlib ha hK) (j6a hlib hb hL)
theorem x3a (hlib:Lib E) {a b:Rat} {K L:Nat} (ha:Sz a K) (hb:Sz b L) (h:K+L+1≤Lim):Fn E y1p [.c (.str (B (decQ a))),.c (.str (B (decQ b)))] (.tup [.c (.str (B (decQ (a+b)))),.c (.i64 0)]) :=
 j5x (hlib.apply 43 _ (by simp) _ _ _ _ _ _ _ _ _ (k2i hlib ha hb (by omega) (by omega)) (by omega) (q3y hlib ha hb h) (j6r (ha.add hb) h))
theorem x3b (hlib:Lib E) {a b:Rat} {K L:Nat} (ha:Sz a K) (hb:Sz b L) (h:K+L≤Lim):Fn E y1q [.c (.str (B (decQ a))),.c (.str (B (decQ b)))] (.tup [.c (.str (B (decQ (a*b)))),.c (.i64 0)]) :=
 j5y (hlib.apply 42 _ (by simp) _ _ _ _ _ _ _ _ _ (k2i hlib ha hb (by omega) (by omega)) (by omega) (q9g hlib ha hb h) (j6r (ha.mul hb) h))
theorem j0j (hlib:Lib E) {a b:Rat} {K L:Nat} (ha:Sz a K) (hb:Sz b L) (h:K+L+1≤Lim):Fn E y6t [.c (.str (B (decQ a))),.c (.str (B (decQ b)))] (.tup [.c (.str (B (decQ (a-b)))),.c (.i64 0)]):=by
 refine j5z (hlib.apply 45 V7 (by simp) _ _ _ _ _ _ _ _ _ (k2i hlib ha hb (by omega) (by omega)) (by omega) (?_:Fn E V7 [.agg (Qc a),.agg (Qc b)] (.agg (Qc (a-b)))) (j6r (ha.sub hb) h))
 rw [Rat.sub_eq_add_neg]
 exact x0s (q2a hlib hb (by omega)) (q3y hlib ha hb.neg h)
def cmpQ (a b:Rat):Int:=cmpI (a.num*b.den) (b.num*a.den)
theorem q8g (a:Rat):cmpQ a a=0:=q0u rfl
theorem j4b (a b:Int):-1≤cmpI a b∧cmpI a b≤1:=by unfold cmpI;split <;> (try split) <;> omega
theorem k3g (hlib:Lib E) {a:Rat} {K:Nat} (ha:Sz a K) (hK:K≤Lim):Fn E V6 [.agg (Qc a)] (.c (.i64 (cmpI a.num 0))):=x6n (j0b hlib ha.1 hK)
theorem q5o {a b:Rat} (h:cmpI a.num 0≠cmpI b.num 0):cmpQ a b=(if cmpI a.num 0<cmpI b.num 0 then -1 else 1):=by
 have pa:=Nat.pos_of_ne_zero a.den_nz
 have pb:=Nat.pos_of_ne_zero b.den_nz
 have sg:∀ (n:Int) (d:Nat),0<d→cmpI (n*d) 0=cmpI n 0:=by
  intro n d hd
  rcases Int.lt_trichotomy n 0 with c | c | c
  · have:n*d<0:=Int.mul_neg_of_neg_of_pos c (by omega)
    unfold cmpI;rw [if_pos this,if_pos c]
  · subst c;simp
  · have:0<n*d:=Int.mul_pos c (by omega)
    unfold cmpI;rw [if_neg (by omega),if_pos (by omega),if_neg (by omega),if_pos (by omega)]
 have s1:=sg a.num b.den pb
 have s2:=sg b.num a.den pa
 rw [← s1,← s2] at h ⊢
 unfold cmpQ
 generalize a.num*(b.den:Int)=u at *
 generalize b.num*(a.den:Int)=v at *
 unfold cmpI at *
 split <;> (try split) <;> split at*<;> (try split at *) <;> (try split at *) <;> (try split at *) <;> omega
theorem z9t (hlib:Lib E) {a b:Rat} {K L:Nat} (ha:Sz a K) (hb:Sz b L) (h:K+L≤Lim):Fn E Z7 [.c (.str (B (decQ a))),.c (.str (B (decQ b)))] (.tup [.c (.i64 (cmpQ a b)),.c (.i64 0)]):=by
 have hbo:=k2i hlib ha hb (by omega) (by omega)
 by_cases he:a=b
 · subst he
   rw [q8g]
   exact k1o hbo rfl rfl
 · have hne:¬ B (decQ a)=B (decQ b):=fun e=>he (v0g (y5p e))
   have s1:=k3g hlib ha (by omega)
   have s2:=k3g hlib hb (by omega)
   have r1:=j4b a.num 0
   have r2:=j4b b.num 0
   by_cases hs:cmpI a.num 0=cmpI b.num 0
   · have m1:=z8h hlib ha.1 (b:=(b.den:Int)) (show (b.den:Int).natAbs<10 ^ L from hb.2) h
     have m2:=z8h hlib hb.1 (b:=(a.den:Int)) (show (a.den:Int).natAbs<10 ^ K from ha.2) (by omega)
     rw [y1v] at m1 m2
     have c:=k1a hlib (z8g ha.1 (show (b.den:Int).natAbs<10 ^ L from hb.2)) (z8g hb.1 (show (a.den:Int).natAbs<10 ^ K from ha.2)) h (by omega)
     exact k1q hbo rfl hne s1 s2 hs m1 m2 c
   · rw [q5o hs]
     refine k1p (i3:=cmpI a.num 0-cmpI b.num 0) (i4:=if 1<cmpI a.num 0-cmpI b.num 0 then 1 else cmpI a.num 0-cmpI b.num 0) (wi (by omega)) rfl ?_ hbo rfl hne s1 s2 hs
     split <;> split <;> (try split) <;> omega
theorem q6o {n i:Nat} (hi:i<(words n).length):∃ H:Nat,wv ((words n).drop (i+1))=H∧(i+1<(words n).length→0<H)∧(i+1=(words n).length→H=0):=by
 have h0:=I3 ((F9 n).drop (i+1))
 refine ⟨(wv ((words n).drop (i+1))).toNat,by omega,fun h=>?_,fun h=>?_⟩
 · have ht:Gb.Tr ((words n).drop (i+1)):=by
    have:=z4o n
    unfold Gb.Tr at this ⊢
    rw [List.getLast?_drop,if_neg (by omega)]
    exact this
   have hp:=ht.val_pos ((F9 n).drop (i+1)) (by intro e;have:=congrArg List.length e;simp at this;omega)
   omega
 · rw [List.drop_eq_nil_of_le (by omega)];rfl
end Gev
namespace Gev
open Go
variable {E:Env}
theorem z0w {α:Type} {l:List α} {i:Nat} (h:i<l.length):∃ c,l[i]?=some c:=⟨l[i],List.getElem?_eq_getElem h⟩
theorem C7 {α:Type} {l:List α} {i:Nat} {a:α} (h:l[i]?=some a):i<l.length:=(List.getElem?_eq_some_iff.1 h).1
theorem y7g {α:Type} {l:List α} {i:Nat} {c:α} (h:l[i]?=some c):l.drop i=c::l.drop (i+1):=by
 obtain ⟨h1,h2⟩:=List.getElem?_eq_some_iff.1 h
 rw [← h2];exact List.drop_eq_getElem_cons h1
theorem M9 {α:Type} {n F k:Nat} {l:List α} (bad:Nat→α→Bool) (st:Nat→St) {oe:Out} {fin:St} (Left:Nat→α→Out→St→Prop)
    (hend:Lp E n F k (st l.length) oe fin) (hstep:∀ i a,l[i]?=some a→bad i a=false→∀ o s,Lp E n F k (st (i+1)) o s→Lp E n F k (st i) o s)
    (hout:∀ i a,l[i]?=some a→bad i a=true→∃ o s,Left i a o s∧Lp E n F k (st i) o s):∀ d i:Nat,i+d=l.length →
    ((∀ j a,i≤j→l[j]?=some a→bad j a=false)∧Lp E n F k (st i) oe fin) ∨
    (∃ j a o s,i≤j∧l[j]?=some a∧bad j a=true∧(∀ j' a',i≤j'→j'<j→l[j']?=some a'→bad j' a'=false)∧Left j a o s∧Lp E n F k (st i) o s)
 | 0,i,hi=>by
  have:i=l.length:=by omega
  subst this
  exact .inl ⟨fun j a hj h=>by have:=(List.getElem?_eq_some_iff.1 h).1;omega,hend⟩
 | d+1,i,hi=>by
  obtain ⟨a,ha⟩:=z0w (l:=l) (i:=i) (by omega)
  cases hb:bad i a with
  | true =>
   obtain ⟨o,s,h1,h2⟩:=hout i a ha hb
   exact .inr ⟨i,a,o,s,Nat.le_refl _,ha,hb,fun j' a' h1 h2=>by omega,h1,h2⟩
  | false =>
   rcases M9 bad st Left hend hstep hout d (i+1) (by omega) with ⟨h1,h2⟩ | ⟨j,b,o,s,h1,h2,h3,h4,h5,h6⟩
   · refine .inl ⟨fun j b hj h=>?_,hstep i a ha hb _ _ h2⟩
     by_cases e:j=i
     · subst e;rw [ha] at h;cases h;exact hb
     · exact h1 j b (by omega) h
   · refine .inr ⟨j,b,o,s,by omega,h2,h3,fun j' a' g1 g2 g3=>?_,h5,hstep i a ha hb _ _ h6⟩
     by_cases e:j'=i
     · subst e;rw [ha] at g3;cases g3;exact hb
     · exact h4 j' a' (by omega) g2 g3
theorem H7 {α β:Type} {n F k:Nat} {l:List α} (nxt:β→α→β) (Inv:Nat→β→Prop) (st:Nat→β→St) {oe:Out} {fin:β→St}
    (hend:∀ b,Inv l.length b→Lp E n F k (st l.length b) oe (fin b)) (hstep:∀ i a b,l[i]?=some a→Inv i b→Inv (i+1) (nxt b a)∧∀ o s,Lp E n F k (st (i+1) (nxt b a)) o s→Lp E n F k (st i b) o s):∀ (d i:Nat) (b:β),i+d=l.length→Inv i b →
    Inv l.length ((l.drop i).foldl nxt b)∧Lp E n F k (st i b) oe (fin ((l.drop i).foldl nxt b))
 | 0,i,b,hi,hb=>by
  have:i=l.length:=by omega
  subst this
  rw [List.drop_length]
  exact ⟨hb,hend b hb⟩
 | d+1,i,b,hi,hb=>by
  obtain ⟨a,ha⟩:=z0w (l:=l) (i:=i) (by omega)
  obtain ⟨h1,h2⟩:=hstep i a b ha hb
  obtain ⟨h3,h4⟩:=H7 nxt Inv st hend hstep d (i+1) (nxt b a) (by omega) h1
  rw [y7g ha]
  exact ⟨h3,h2 _ _ h4⟩
end Gev
namespace Gev
open Go Gb
variable {E:Env}
abbrev Sq (q:Rat):AV:=.c (.str (B (decQ q)))
def R1 (l:List (List UInt8)):RW:=l.map fun p=>[.str (B p)]
theorem z4f (l:List (List UInt8)):(R1 l).length=l.length:=by simp [R1]
theorem x1h {l:List (List UInt8)} {i:Nat} {x} (h:l[i]?=some x):(R1 l)[i]?=some [.str (B x)]:=by simp [R1,h]
noncomputable def ok1 (l:List UInt8):Bool:=(rd l).isSome
structure Pc where
 (id un cl:Int)
 (nm ma vo wo:List UInt8)
structure Hd where
 (id:Int)
 (nm ro mo x y z:List UInt8)
structure Ru where
 (nm:List UInt8)
 (kd:Int)
 (fs:List (List UInt8))
 (lo hi:List UInt8)
 (a b:Int)
structure Sw where
 (ho pa un:Int)
def Pc.d (p:Pc):List DV:=[.i64 p.id,.i64 p.un,.i64 p.cl,.str (B p.nm),.str (B p.ma),.str (B p.vo),.str (B p.wo)]
def Hd.d (p:Hd):List DV:=[.i64 p.id,.str (B p.nm),.str (B p.ro),.str (B p.mo),.str (B p.x),.str (B p.y),.str (B p.z)]
def Ru.d (p:Ru):List DV:=[.str (B p.nm),.i64 p.kd,.list (R1 p.fs),.str (B p.lo),.str (B p.hi),.i64 p.a,.i64 p.b]
def Sw.d (p:Sw):List DV:=[.i64 p.ho,.i64 p.pa,.i64 p.un]
def Ps (l:List Pc):RW:=l.map Pc.d
def Hs (l:List Hd):RW:=l.map Hd.d
def Rs (l:List Ru):RW:=l.map Ru.d
def Ss (l:List Sw):RW:=l.map Sw.d
theorem z3l (l):(Ps l).length=l.length:=by simp [Ps]
theorem z2j (l):(Hs l).length=l.length:=by simp [Hs]
theorem z8e (l):(Rs l).length=l.length:=by simp [Rs]
theorem x1i (l):(Ss l).length=l.length:=by simp [Ss]
theorem z1b {l:List Pc} {i:Nat} {x} (h:l[i]?=some x):(Ps l)[i]?=some x.d:=by simp [Ps,h]
theorem z8d {l:List Hd} {i:Nat} {x} (h:l[i]?=some x):(Hs l)[i]?=some x.d:=by simp [Hs,h]
theorem y1s {l:List Ru} {i:Nat} {x} (h:l[i]?=some x):(Rs l)[i]?=some x.d:=by simp [Rs,h]
theorem z5j {l:List Sw} {i:Nat} {x} (h:l[i]?=some x):(Ss l)[i]?=some x.d:=by simp [Ss,h]
theorem A7 {α:Type} {l:List α} {i:Nat} {x:Option α} (h:l[i]?=x):l[(Int.toNat (i:Nat))]?=x:=by rw [Int.toNat_natCast];exact h
def ix {α:Type} (p:α→Bool) (l:List α):Int:=match l.findIdx? p with
 | some i=>(i:Int)
 | none=>-1
theorem z7q {α:Type} {p:α→Bool} {l:List α} (h:∀ j a,0≤j→l[j]?=some a→p a=false):ix p l=-1:=by
 unfold ix
 rw [List.findIdx?_eq_none_iff.2 fun a ha=>by obtain ⟨j,hj⟩:=List.mem_iff_getElem?.1 ha;exact h j a (Nat.zero_le _) hj]
theorem z7r {α:Type} {p:α→Bool} {l:List α} {j:Nat} {a:α} (h:l[j]?=some a) (hp:p a=true) (hn:∀ j' a',0≤j'→j'<j→l[j']?=some a'→p a'=false):ix p l=j:=by
 unfold ix
 rw [List.findIdx?_eq_some_iff_getElem.2 ⟨(List.getElem?_eq_some_iff.1 h).1,by rw [(List.getElem?_eq_some_iff.1 h).2];exact hp,fun j' hj'=>by rw [hn j' _ (Nat.zero_le _) hj' (List.getElem?_eq_getElem (Nat.lt_trans hj' (List.getElem?_eq_some_iff.1 h).1))];simp⟩]
theorem z5n {α:Type} {p:α→Bool} {l:List α}:ix p l<0↔l.any p=false:=by
 unfold ix
 cases h:l.findIdx? p with
 | none =>
  have:=List.findIdx?_eq_none_iff.1 h
  refine ⟨fun _=>?_,fun _=>by decide⟩
  rw [List.any_eq_false];intro x hx;rw [this x hx];simp
 | some i =>
  refine ⟨fun h=>absurd h (by simp),fun h2=>?_⟩
  obtain ⟨h3,h4,h5⟩:=List.findIdx?_eq_some_iff_getElem.1 h
  rw [List.any_eq_false] at h2
  exact absurd h4 (h2 _ (List.getElem_mem h3))
theorem j5m {α:Type} {p:α→Bool} {l:List α} (h:¬ ix p l<0):∃ a,l[(ix p l).toNat]?=some a∧p a=true:=by
 unfold ix at h ⊢
 cases h2:l.findIdx? p with
 | none=>rw [h2] at h;exact absurd (by decide) h
 | some i =>
  obtain ⟨h3,h4,h5⟩:=List.findIdx?_eq_some_iff_getElem.1 h2
  exact ⟨l[i],by simp,h4⟩
theorem z9d (hlib:Lib E) {a b:Rat} {K L:Nat} (ha:Sz a K) (hb:Sz b L) (h:K+L+1≤Lim):Fn E z4x [Sq a,Sq b] (Sq (a+b)):=q2r (x3a hlib ha hb h)
theorem z9e (hlib:Lib E) {a b:Rat} {K L:Nat} (ha:Sz a K) (hb:Sz b L) (h:K+L≤Lim):Fn E z4y [Sq a,Sq b] (Sq (a*b)):=q2s (x3b hlib ha hb h)
theorem y3c (hlib:Lib E) {a b:Rat} {K L:Nat} (ha:Sz a K) (hb:Sz b L) (h:K+L≤Lim):Fn E z6k [Sq a,Sq b] (.c (.i64 (cmpQ a b))):=k9y (z9t hlib ha hb h)
theorem y9t:(AV.c (.str (⟨#[48]⟩:BA)))=Sq 0:=by unfold Sq;rw [k6j];rfl
theorem j7o (hlib:Lib E) {a:Rat} {K:Nat} (ha:Sz a K) (h:K+1≤Lim):Fn E X6 [Sq a] (.c (.i64 (cmpQ a 0))):=by
 have:=y3c hlib ha Sz.zero h
 rw [← y9t] at this
 exact q0r this
theorem x2t {a b:Int}:Fn E K6 [.c (.i64 a),.c (.i64 b)] (.c (.bool (decide (1≤a∧a≤b)))):=by
 by_cases h1:a≥1
 · by_cases h2:a≤b
   · rw [decide_eq_true ⟨h1,h2⟩];exact j3t h1 h2
   · rw [decide_eq_false fun h=>h2 h.2];exact j3u h1 h2
 · rw [decide_eq_false fun h=>h1 h.1];exact j3v h1
def nmB (s:List UInt8):Bool:=decide (1≤s.length∧s.length≤64)
theorem P3 (s:List UInt8):((B s).size:Int)=s.length:=by rw [V3]
theorem j3o {s:List UInt8}:Fn E U6 [.c (.str (B s))] (.c (.bool (nmB s))):=by
 unfold nmB
 have hs:=P3 s
 by_cases h1:1≤s.length
 · by_cases h2:s.length≤64
   · rw [decide_eq_true ⟨h1,h2⟩];exact j7k (by omega) (by omega)
   · rw [decide_eq_false fun h=>h2 h.2];exact j7l (by omega) (by omega)
 · rw [decide_eq_false fun h=>h1 h.1];exact j7m (by omega)
theorem x3q {c0_0:RW} {c0_1:RW} {c1_0:RW} {l:List Hd} (p:Hd→Bool) (hl:l.length<9223372036854775807) (hf:∀ a∈l,Rn E H3 [.agg a.d,.ptr 0 0,.ptr 1 0] [some (.cells [.c (.list c0_0),.c (.list c0_1)]),some (.cells [.c (.list c1_0)])] (.c (.bool (p a))) [some (.cells [.c (.list c0_0),.c (.list c0_1)]),some (.cells [.c (.list c1_0)])]) :
    Rn E A9 [.c (.list (Hs l)),.fn H3 [.ptr 0 0,.ptr 1 0]] [some (.cells [.c (.list c0_0),.c (.list c0_1)]),some (.cells [.c (.list c1_0)])] (.c (.i64 (ix p l))) [some (.cells [.c (.list c0_0),.c (.list c0_1)]),some (.cells [.c (.list c1_0)])]:=by
 have hq:=z2j l
 have h:=M9 (l:=l) (fun _ a=>p a) (fun i=>M5 (Hs l) ((Hs l).length:Int) (i:Nat) c0_0 c0_1 c1_0) (fun j _ o s=>o=.ret∧s=z2q c0_0 c0_1 c1_0 (j:Int)) (y4o (by omega))
  (fun i a ha hb o s ih=>by
   have hi:=C7 ha;have hc:=hf a (List.mem_of_getElem? ha);rw [show p a=false from hb] at hc
   exact y6i (by omega) (by omega) (A7 (z8d ha)) hc (wi (by omega)) ih)
  (fun i a ha hb=>by
   have hi:=C7 ha;have hc:=hf a (List.mem_of_getElem? ha);rw [show p a=true from hb] at hc
   exact ⟨_,_,⟨rfl,rfl⟩,y4n (by omega) (by omega) (A7 (z8d ha)) hc⟩) l.length 0 (by omega)
 rcases h with ⟨h1,h2⟩ | ⟨j,a,o,s,h1,h2,h3,h4,⟨rfl,rfl⟩,h5⟩
 · rw [z7q fun j a hj h=>h1 j a hj h];exact z4w h2
 · rw [z7r h2 h3 fun j a hj hk h=>h4 j a hj hk h];exact z4v h5
theorem k3k {c1_0:BA} {l:List Ru} {w0:RW} (hw:∀ (i:Nat) a,l[i]?=some a→w0[i]?=some (a.d)) (p:Ru→Bool) (hl:l.length<9223372036854775807) (hf:∀ a∈l,Rn E F2 [.agg a.d,.ptr 1 0] [some (.vec C9 w0),some (.cells [.c (.str c1_0)])] (.c (.bool (p a))) [some (.vec C9 w0),some (.cells [.c (.str c1_0)])]) :
    Rn E B5 [.vec 0 l.length,.fn F2 [.ptr 1 0]] [some (.vec C9 w0),some (.cells [.c (.str c1_0)])] (.c (.i64 (ix p l))) [some (.vec C9 w0),some (.cells [.c (.str c1_0)])]:=by
 have h:=M9 (l:=l) (fun _ a=>p a) (fun i=>M7 l.length ((l.length:Nat):Int) (i:Nat) w0 c1_0) (fun j _ o s=>o=.ret∧s=z2s w0 c1_0 (j:Int)) (y4t (by omega))
  (fun i a ha hb o s ih=>by
   have hi:=C7 ha;have hc:=hf a (List.mem_of_getElem? ha);rw [show p a=false from hb] at hc
   exact y6k (by omega) (⟨by omega,by omega⟩) (A7 (hw _ _ ha)) hc (wi (by omega)) ih)
  (fun i a ha hb=>by
   have hi:=C7 ha;have hc:=hf a (List.mem_of_getElem? ha);rw [show p a=true from hb] at hc
   exact ⟨_,_,⟨rfl,rfl⟩,y4s (by omega) (⟨by omega,by omega⟩) (A7 (hw _ _ ha)) hc⟩) l.length 0 (by omega)
 rcases h with ⟨h1,h2⟩ | ⟨j,a,o,s,h1,h2,h3,h4,⟨rfl,rfl⟩,h5⟩
 · rw [z7q fun j a hj h=>h1 j a hj h];exact z8b h2
 · rw [z7r h2 h3 fun j a hj hk h=>h4 j a hj hk h];exact z8a h5
theorem k1c {l:List (List UInt8)} (p:List UInt8→Bool) (hl:l.length<9223372036854775807) (hf:∀ a∈l,Fn E G1 [.c (.str (B a))] (.c (.bool (p a)))) :
    Fn E B8 [.c (.list (R1 l)),.fn G1 []] (.c (.i64 (ix p l))):=by
 have hq:=z4f l
 have h:=M9 (l:=l) (fun _ a=>p a) (fun i=>N8 (R1 l) ((R1 l).length:Int) (i:Nat)) (fun j _ o s=>o=.ret∧s=z3e (j:Int)) (y5j (by omega))
  (fun i a ha hb o s ih=>by
   have hi:=C7 ha;have hc:=hf a (List.mem_of_getElem? ha);rw [show p a=false from hb] at hc
   exact y7j (by omega) (by omega) (A7 (x1h ha)) hc (wi (by omega)) ih)
  (fun i a ha hb=>by
   have hi:=C7 ha;have hc:=hf a (List.mem_of_getElem? ha);rw [show p a=true from hb] at hc
   exact ⟨_,_,⟨rfl,rfl⟩,y5i (by omega) (by omega) (A7 (x1h ha)) hc⟩) l.length 0 (by omega)
 rcases h with ⟨h1,h2⟩ | ⟨j,a,o,s,h1,h2,h3,h4,⟨rfl,rfl⟩,h5⟩
 · rw [z7q fun j a hj h=>h1 j a hj h];exact z7z h2
 · rw [z7r h2 h3 fun j a hj hk h=>h4 j a hj hk h];exact z7y h5
theorem k0p {l:List (List UInt8)} (p:List UInt8→Bool) (hl:l.length<9223372036854775807) (hf:∀ a∈l,Fn E G1 [.c (.str (B a))] (.c (.bool (p a)))) :
    Fn E G6 [.c (.list (R1 l)),.fn G1 []] (.c (.bool (l.any p))):=by
 have h:=k1c p hl hf
 cases hp:l.any p with
 | false=>exact z5u h (by have:=z5n.2 hp;omega)
 | true =>
  have hn:¬ ix p l<0:=fun h=>by rw [z5n.1 h] at hp;cases hp
  exact z5t h (by omega)
theorem k1d {c0_0:BA} {c0_1:Int} {c0_2:RW} {c0_3:BA} {c0_4:BA} {c0_5:Int} {c0_6:Int} {l:List Ru} (p:Ru→Bool) (hl:l.length<9223372036854775807) (hf:∀ a∈l,Rn E F5 [.agg a.d,.ptr 0 0] [some (.cells [.c (.str c0_0),.c (.i64 c0_1),.c (.list c0_2),.c (.str c0_3),.c (.str c0_4),.c (.i64 c0_5),.c (.i64 c0_6)])] (.c (.bool (p a))) [some (.cells [.c (.str c0_0),.c (.i64 c0_1),.c (.list c0_2),.c (.str c0_3),.c (.str c0_4),.c (.i64 c0_5),.c (.i64 c0_6)])]) :
    Rn E B5 [.c (.list (Rs l)),.fn F5 [.ptr 0 0]] [some (.cells [.c (.str c0_0),.c (.i64 c0_1),.c (.list c0_2),.c (.str c0_3),.c (.str c0_4),.c (.i64 c0_5),.c (.i64 c0_6)])] (.c (.i64 (ix p l))) [some (.cells [.c (.str c0_0),.c (.i64 c0_1),.c (.list c0_2),.c (.str c0_3),.c (.str c0_4),.c (.i64 c0_5),.c (.i64 c0_6)])]:=by
 have hq:=z8e l
 have h:=M9 (l:=l) (fun _ a=>p a) (fun i=>K1 (Rs l) ((Rs l).length:Int) (i:Nat) c0_0 c0_1 c0_2 c0_3 c0_4 c0_5 c0_6) (fun j _ o s=>o=.ret∧s=z1w c0_0 c0_1 c0_2 c0_3 c0_4 c0_5 c0_6 (j:Int)) (y3v (by omega))
  (fun i a ha hb o s ih=>by
   have hi:=C7 ha;have hc:=hf a (List.mem_of_getElem? ha);rw [show p a=false from hb] at hc
   exact y5k (by omega) (by omega) (A7 (y1s ha)) hc (wi (by omega)) ih)
  (fun i a ha hb=>by
   have hi:=C7 ha;have hc:=hf a (List.mem_of_getElem? ha);rw [show p a=true from hb] at hc
   exact ⟨_,_,⟨rfl,rfl⟩,y3u (by omega) (by omega) (A7 (y1s ha)) hc⟩) l.length 0 (by omega)
 rcases h with ⟨h1,h2⟩ | ⟨j,a,o,s,h1,h2,h3,h4,⟨rfl,rfl⟩,h5⟩
 · rw [z7q fun j a hj h=>h1 j a hj h];exact z7h h2
 · rw [z7r h2 h3 fun j a hj hk h=>h4 j a hj hk h];exact z7g h5
theorem k0q {c0_0:BA} {c0_1:Int} {c0_2:RW} {c0_3:BA} {c0_4:BA} {c0_5:Int} {c0_6:Int} {l:List Ru} (p:Ru→Bool) (hl:l.length<9223372036854775807) (hf:∀ a∈l,Rn E F5 [.agg a.d,.ptr 0 0] [some (.cells [.c (.str c0_0),.c (.i64 c0_1),.c (.list c0_2),.c (.str c0_3),.c (.str c0_4),.c (.i64 c0_5),.c (.i64 c0_6)])] (.c (.bool (p a))) [some (.cells [.c (.str c0_0),.c (.i64 c0_1),.c (.list c0_2),.c (.str c0_3),.c (.str c0_4),.c (.i64 c0_5),.c (.i64 c0_6)])]) :
    Rn E P8 [.c (.list (Rs l)),.fn F5 [.ptr 0 0]] [some (.cells [.c (.str c0_0),.c (.i64 c0_1),.c (.list c0_2),.c (.str c0_3),.c (.str c0_4),.c (.i64 c0_5),.c (.i64 c0_6)])] (.c (.bool (l.any p))) [some (.cells [.c (.str c0_0),.c (.i64 c0_1),.c (.list c0_2),.c (.str c0_3),.c (.str c0_4),.c (.i64 c0_5),.c (.i64 c0_6)])]:=by
 have h:=k1d p hl hf
 cases hp:l.any p with
 | false=>exact z4s h (by have:=z5n.2 hp;omega)
 | true =>
  have hn:¬ ix p l<0:=fun h=>by rw [z5n.1 h] at hp;cases hp
  exact z4r h (by omega)
theorem k1h {c0_0:BA} {c0_1:Int} {c0_2:RW} {c0_3:BA} {c0_4:BA} {c0_5:Int} {c0_6:Int} {l:List Pc} (p:Pc→Bool) (hl:l.length<9223372036854775807) (hf:∀ a∈l,Rn E O6 [.agg a.d,.ptr 0 0] [some (.cells [.c (.str c0_0),.c (.i64 c0_1),.c (.list c0_2),.c (.str c0_3),.c (.str c0_4),.c (.i64 c0_5),.c (.i64 c0_6)])] (.c (.bool (p a))) [some (.cells [.c (.str c0_0),.c (.i64 c0_1),.c (.list c0_2),.c (.str c0_3),.c (.str c0_4),.c (.i64 c0_5),.c (.i64 c0_6)])]) :
    Rn E A4 [.c (.list (Ps l)),.fn O6 [.ptr 0 0]] [some (.cells [.c (.str c0_0),.c (.i64 c0_1),.c (.list c0_2),.c (.str c0_3),.c (.str c0_4),.c (.i64 c0_5),.c (.i64 c0_6)])] (.c (.i64 (ix p l))) [some (.cells [.c (.str c0_0),.c (.i64 c0_1),.c (.list c0_2),.c (.str c0_3),.c (.str c0_4),.c (.i64 c0_5),.c (.i64 c0_6)])]:=by
 have hq:=z3l l
 have h:=M9 (l:=l) (fun _ a=>p a) (fun i=>J1 (Ps l) ((Ps l).length:Int) (i:Nat) c0_0 c0_1 c0_2 c0_3 c0_4 c0_5 c0_6) (fun j _ o s=>o=.ret∧s=z1d c0_0 c0_1 c0_2 c0_3 c0_4 c0_5 c0_6 (j:Int)) (y2s (by omega))
  (fun i a ha hb o s ih=>by
   have hi:=C7 ha;have hc:=hf a (List.mem_of_getElem? ha);rw [show p a=false from hb] at hc
   exact y4p (by omega) (by omega) (A7 (z1b ha)) hc (wi (by omega)) ih)
  (fun i a ha hb=>by
   have hi:=C7 ha;have hc:=hf a (List.mem_of_getElem? ha);rw [show p a=true from hb] at hc
   exact ⟨_,_,⟨rfl,rfl⟩,y2r (by omega) (by omega) (A7 (z1b ha)) hc⟩) l.length 0 (by omega)
 rcases h with ⟨h1,h2⟩ | ⟨j,a,o,s,h1,h2,h3,h4,⟨rfl,rfl⟩,h5⟩
 · rw [z7q fun j a hj h=>h1 j a hj h];exact z6c h2
 · rw [z7r h2 h3 fun j a hj hk h=>h4 j a hj hk h];exact z6b h5
theorem k6v {l:List (List UInt8)} (p:List UInt8→Bool) (hl:l.length<9223372036854775807) (hf:∀ a∈l,Fn E I5 [.c (.str (B a))] (.c (.bool (p a)))) :
    Fn E B8 [.c (.list (R1 l)),.fn I5 []] (.c (.i64 (ix p l))):=by
 have hq:=z4f l
 have h:=M9 (l:=l) (fun _ a=>p a) (fun i=>M6 (R1 l) ((R1 l).length:Int) (i:Nat)) (fun j _ o s=>o=.ret∧s=z2r (j:Int)) (y4r (by omega))
  (fun i a ha hb o s ih=>by
   have hi:=C7 ha;have hc:=hf a (List.mem_of_getElem? ha);rw [show p a=false from hb] at hc
   exact y6j (by omega) (by omega) (A7 (x1h ha)) hc (wi (by omega)) ih)
  (fun i a ha hb=>by
   have hi:=C7 ha;have hc:=hf a (List.mem_of_getElem? ha);rw [show p a=true from hb] at hc
   exact ⟨_,_,⟨rfl,rfl⟩,y4q (by omega) (by omega) (A7 (x1h ha)) hc⟩) l.length 0 (by omega)
 rcases h with ⟨h1,h2⟩ | ⟨j,a,o,s,h1,h2,h3,h4,⟨rfl,rfl⟩,h5⟩
 · rw [z7q fun j a hj h=>h1 j a hj h];exact z9i h2
 · rw [z7r h2 h3 fun j a hj hk h=>h4 j a hj hk h];exact z9h h5
theorem k6i {l:List (List UInt8)} (p:List UInt8→Bool) (hl:l.length<9223372036854775807) (hf:∀ a∈l,Fn E I5 [.c (.str (B a))] (.c (.bool (p a)))) :
    Fn E G6 [.c (.list (R1 l)),.fn I5 []] (.c (.bool (l.any p))):=by
 have h:=k6v p hl hf
 cases hp:l.any p with
 | false=>exact z7a h (by have:=z5n.2 hp;omega)
 | true =>
  have hn:¬ ix p l<0:=fun h=>by rw [z5n.1 h] at hp;cases hp
  exact z6z h (by omega)
theorem k1f {c0_0:BA} {c0_1:Int} {c0_2:RW} {c0_3:BA} {c0_4:BA} {c0_5:Int} {c0_6:Int} {l:List Hd} (p:Hd→Bool) (hl:l.length<9223372036854775807) (hf:∀ a∈l,Rn E F7 [.agg a.d,.ptr 0 0] [some (.cells [.c (.str c0_0),.c (.i64 c0_1),.c (.list c0_2),.c (.str c0_3),.c (.str c0_4),.c (.i64 c0_5),.c (.i64 c0_6)])] (.c (.bool (p a))) [some (.cells [.c (.str c0_0),.c (.i64 c0_1),.c (.list c0_2),.c (.str c0_3),.c (.str c0_4),.c (.i64 c0_5),.c (.i64 c0_6)])]) :
    Rn E A9 [.c (.list (Hs l)),.fn F7 [.ptr 0 0]] [some (.cells [.c (.str c0_0),.c (.i64 c0_1),.c (.list c0_2),.c (.str c0_3),.c (.str c0_4),.c (.i64 c0_5),.c (.i64 c0_6)])] (.c (.i64 (ix p l))) [some (.cells [.c (.str c0_0),.c (.i64 c0_1),.c (.list c0_2),.c (.str c0_3),.c (.str c0_4),.c (.i64 c0_5),.c (.i64 c0_6)])]:=by
 have hq:=z2j l
 have h:=M9 (l:=l) (fun _ a=>p a) (fun i=>J9 (Hs l) ((Hs l).length:Int) (i:Nat) c0_0 c0_1 c0_2 c0_3 c0_4 c0_5 c0_6) (fun j _ o s=>o=.ret∧s=z1u c0_0 c0_1 c0_2 c0_3 c0_4 c0_5 c0_6 (j:Int)) (y3o (by omega))
  (fun i a ha hb o s ih=>by
   have hi:=C7 ha;have hc:=hf a (List.mem_of_getElem? ha);rw [show p a=false from hb] at hc
   exact y5g (by omega) (by omega) (A7 (z8d ha)) hc (wi (by omega)) ih)
  (fun i a ha hb=>by
   have hi:=C7 ha;have hc:=hf a (List.mem_of_getElem? ha);rw [show p a=true from hb] at hc
   exact ⟨_,_,⟨rfl,rfl⟩,y3n (by omega) (by omega) (A7 (z8d ha)) hc⟩) l.length 0 (by omega)
 rcases h with ⟨h1,h2⟩ | ⟨j,a,o,s,h1,h2,h3,h4,⟨rfl,rfl⟩,h5⟩
 · rw [z7q fun j a hj h=>h1 j a hj h];exact z7f h2
 · rw [z7r h2 h3 fun j a hj hk h=>h4 j a hj hk h];exact z7e h5
theorem k0s {c0_0:BA} {c0_1:Int} {c0_2:RW} {c0_3:BA} {c0_4:BA} {c0_5:Int} {c0_6:Int} {l:List Hd} (p:Hd→Bool) (hl:l.length<9223372036854775807) (hf:∀ a∈l,Rn E F7 [.agg a.d,.ptr 0 0] [some (.cells [.c (.str c0_0),.c (.i64 c0_1),.c (.list c0_2),.c (.str c0_3),.c (.str c0_4),.c (.i64 c0_5),.c (.i64 c0_6)])] (.c (.bool (p a))) [some (.cells [.c (.str c0_0),.c (.i64 c0_1),.c (.list c0_2),.c (.str c0_3),.c (.str c0_4),.c (.i64 c0_5),.c (.i64 c0_6)])]) :
    Rn E P7 [.c (.list (Hs l)),.fn F7 [.ptr 0 0]] [some (.cells [.c (.str c0_0),.c (.i64 c0_1),.c (.list c0_2),.c (.str c0_3),.c (.str c0_4),.c (.i64 c0_5),.c (.i64 c0_6)])] (.c (.bool (l.any p))) [some (.cells [.c (.str c0_0),.c (.i64 c0_1),.c (.list c0_2),.c (.str c0_3),.c (.str c0_4),.c (.i64 c0_5),.c (.i64 c0_6)])]:=by
 have h:=k1f p hl hf
 cases hp:l.any p with
 | false=>exact z4q h (by have:=z5n.2 hp;omega)
 | true =>
  have hn:¬ ix p l<0:=fun h=>by rw [z5n.1 h] at hp;cases hp
  exact z4p h (by omega)
theorem k1g {c0_0:BA} {c0_1:Int} {c0_2:RW} {c0_3:BA} {c0_4:BA} {c0_5:Int} {c0_6:Int} {l:List Pc} (p:Pc→Bool) (hl:l.length<9223372036854775807) (hf:∀ a∈l,Rn E F8 [.agg a.d,.ptr 0 0] [some (.cells [.c (.str c0_0),.c (.i64 c0_1),.c (.list c0_2),.c (.str c0_3),.c (.str c0_4),.c (.i64 c0_5),.c (.i64 c0_6)])] (.c (.bool (p a))) [some (.cells [.c (.str c0_0),.c (.i64 c0_1),.c (.list c0_2),.c (.str c0_3),.c (.str c0_4),.c (.i64 c0_5),.c (.i64 c0_6)])]) :
    Rn E A4 [.c (.list (Ps l)),.fn F8 [.ptr 0 0]] [some (.cells [.c (.str c0_0),.c (.i64 c0_1),.c (.list c0_2),.c (.str c0_3),.c (.str c0_4),.c (.i64 c0_5),.c (.i64 c0_6)])] (.c (.i64 (ix p l))) [some (.cells [.c (.str c0_0),.c (.i64 c0_1),.c (.list c0_2),.c (.str c0_3),.c (.str c0_4),.c (.i64 c0_5),.c (.i64 c0_6)])]:=by
 have hq:=z3l l
 have h:=M9 (l:=l) (fun _ a=>p a) (fun i=>H9 (Ps l) ((Ps l).length:Int) (i:Nat) c0_0 c0_1 c0_2 c0_3 c0_4 c0_5 c0_6) (fun j _ o s=>o=.ret∧s=z0r c0_0 c0_1 c0_2 c0_3 c0_4 c0_5 c0_6 (j:Int)) (y2f (by omega))
  (fun i a ha hb o s ih=>by
   have hi:=C7 ha;have hc:=hf a (List.mem_of_getElem? ha);rw [show p a=false from hb] at hc
   exact y3r (by omega) (by omega) (A7 (z1b ha)) hc (wi (by omega)) ih)
  (fun i a ha hb=>by
   have hi:=C7 ha;have hc:=hf a (List.mem_of_getElem? ha);rw [show p a=true from hb] at hc
   exact ⟨_,_,⟨rfl,rfl⟩,y2e (by omega) (by omega) (A7 (z1b ha)) hc⟩) l.length 0 (by omega)
 rcases h with ⟨h1,h2⟩ | ⟨j,a,o,s,h1,h2,h3,h4,⟨rfl,rfl⟩,h5⟩
 · rw [z7q fun j a hj h=>h1 j a hj h];exact z6a h2
 · rw [z7r h2 h3 fun j a hj hk h=>h4 j a hj hk h];exact z5z h5
theorem k0t {c0_0:BA} {c0_1:Int} {c0_2:RW} {c0_3:BA} {c0_4:BA} {c0_5:Int} {c0_6:Int} {l:List Pc} (p:Pc→Bool) (hl:l.length<9223372036854775807) (hf:∀ a∈l,Rn E F8 [.agg a.d,.ptr 0 0] [some (.cells [.c (.str c0_0),.c (.i64 c0_1),.c (.list c0_2),.c (.str c0_3),.c (.str c0_4),.c (.i64 c0_5),.c (.i64 c0_6)])] (.c (.bool (p a))) [some (.cells [.c (.str c0_0),.c (.i64 c0_1),.c (.list c0_2),.c (.str c0_3),.c (.str c0_4),.c (.i64 c0_5),.c (.i64 c0_6)])]) :
    Rn E P0 [.c (.list (Ps l)),.fn F8 [.ptr 0 0]] [some (.cells [.c (.str c0_0),.c (.i64 c0_1),.c (.list c0_2),.c (.str c0_3),.c (.str c0_4),.c (.i64 c0_5),.c (.i64 c0_6)])] (.c (.bool (l.any p))) [some (.cells [.c (.str c0_0),.c (.i64 c0_1),.c (.list c0_2),.c (.str c0_3),.c (.str c0_4),.c (.i64 c0_5),.c (.i64 c0_6)])]:=by
 have h:=k1g p hl hf
 cases hp:l.any p with
 | false=>exact z3v h (by have:=z5n.2 hp;omega)
 | true =>
  have hn:¬ ix p l<0:=fun h=>by rw [z5n.1 h] at hp;cases hp
  exact z3u h (by omega)
theorem k1b {c0_0:Int} {l:List Pc} (p:Pc→Bool) (hl:l.length<9223372036854775807) (hf:∀ a∈l,Rn E O5 [.agg a.d,.ptr 0 0] [some (.cells [.c (.i64 c0_0)])] (.c (.bool (p a))) [some (.cells [.c (.i64 c0_0)])]) :
    Rn E A4 [.c (.list (Ps l)),.fn O5 [.ptr 0 0]] [some (.cells [.c (.i64 c0_0)])] (.c (.i64 (ix p l))) [some (.cells [.c (.i64 c0_0)])]:=by
 have hq:=z3l l
 have h:=M9 (l:=l) (fun _ a=>p a) (fun i=>I0 (Ps l) ((Ps l).length:Int) (i:Nat) c0_0) (fun j _ o s=>o=.ret∧s=z0s c0_0 (j:Int)) (y2h (by omega))
  (fun i a ha hb o s ih=>by
   have hi:=C7 ha;have hc:=hf a (List.mem_of_getElem? ha);rw [show p a=false from hb] at hc
   exact y3s (by omega) (by omega) (A7 (z1b ha)) hc (wi (by omega)) ih)
  (fun i a ha hb=>by
   have hi:=C7 ha;have hc:=hf a (List.mem_of_getElem? ha);rw [show p a=true from hb] at hc
   exact ⟨_,_,⟨rfl,rfl⟩,y2g (by omega) (by omega) (A7 (z1b ha)) hc⟩) l.length 0 (by omega)
 rcases h with ⟨h1,h2⟩ | ⟨j,a,o,s,h1,h2,h3,h4,⟨rfl,rfl⟩,h5⟩
 · rw [z7q fun j a hj h=>h1 j a hj h];exact z5y h2
 · rw [z7r h2 h3 fun j a hj hk h=>h4 j a hj hk h];exact z5x h5
theorem k1e {c0_0:BA} {c0_1:Int} {c0_2:RW} {c0_3:BA} {c0_4:BA} {c0_5:Int} {c0_6:Int} {c1_0:RW} {c1_1:RW} {c1_2:RW} {l:List Sw} (p:Sw→Bool) (hl:l.length<9223372036854775807) (hf:∀ a∈l,Rn E F6 [.agg a.d,.ptr 0 0,.ptr 1 0] [some (.cells [.c (.str c0_0),.c (.i64 c0_1),.c (.list c0_2),.c (.str c0_3),.c (.str c0_4),.c (.i64 c0_5),.c (.i64 c0_6)]),some (.cells [.c (.list c1_0),.c (.list c1_1),.c (.list c1_2)])] (.c (.bool (p a))) [some (.cells [.c (.str c0_0),.c (.i64 c0_1),.c (.list c0_2),.c (.str c0_3),.c (.str c0_4),.c (.i64 c0_5),.c (.i64 c0_6)]),some (.cells [.c (.list c1_0),.c (.list c1_1),.c (.list c1_2)])]) :
    Rn E B6 [.c (.list (Ss l)),.fn F6 [.ptr 0 0,.ptr 1 0]] [some (.cells [.c (.str c0_0),.c (.i64 c0_1),.c (.list c0_2),.c (.str c0_3),.c (.str c0_4),.c (.i64 c0_5),.c (.i64 c0_6)]),some (.cells [.c (.list c1_0),.c (.list c1_1),.c (.list c1_2)])] (.c (.i64 (ix p l))) [some (.cells [.c (.str c0_0),.c (.i64 c0_1),.c (.list c0_2),.c (.str c0_3),.c (.str c0_4),.c (.i64 c0_5),.c (.i64 c0_6)]),some (.cells [.c (.list c1_0),.c (.list c1_1),.c (.list c1_2)])]:=by
 have hq:=x1i l
 have h:=M9 (l:=l) (fun _ a=>p a) (fun i=>M8 (Ss l) ((Ss l).length:Int) (i:Nat) c0_0 c0_1 c0_2 c0_3 c0_4 c0_5 c0_6 c1_0 c1_1 c1_2) (fun j _ o s=>o=.ret∧s=z2t c0_0 c0_1 c0_2 c0_3 c0_4 c0_5 c0_6 c1_0 c1_1 c1_2 (j:Int)) (y4v (by omega))
  (fun i a ha hb o s ih=>by
   have hi:=C7 ha;have hc:=hf a (List.mem_of_getElem? ha);rw [show p a=false from hb] at hc
   exact y6l (by omega) (by omega) (A7 (z5j ha)) hc (wi (by omega)) ih)
  (fun i a ha hb=>by
   have hi:=C7 ha;have hc:=hf a (List.mem_of_getElem? ha);rw [show p a=true from hb] at hc
   exact ⟨_,_,⟨rfl,rfl⟩,y4u (by omega) (by omega) (A7 (z5j ha)) hc⟩) l.length 0 (by omega)
 rcases h with ⟨h1,h2⟩ | ⟨j,a,o,s,h1,h2,h3,h4,⟨rfl,rfl⟩,h5⟩
 · rw [z7q fun j a hj h=>h1 j a hj h];exact z7j h2
 · rw [z7r h2 h3 fun j a hj hk h=>h4 j a hj hk h];exact z7i h5
theorem k0r {c0_0:BA} {c0_1:Int} {c0_2:RW} {c0_3:BA} {c0_4:BA} {c0_5:Int} {c0_6:Int} {c1_0:RW} {c1_1:RW} {c1_2:RW} {l:List Sw} (p:Sw→Bool) (hl:l.length<9223372036854775807) (hf:∀ a∈l,Rn E F6 [.agg a.d,.ptr 0 0,.ptr 1 0] [some (.cells [.c (.str c0_0),.c (.i64 c0_1),.c (.list c0_2),.c (.str c0_3),.c (.str c0_4),.c (.i64 c0_5),.c (.i64 c0_6)]),some (.cells [.c (.list c1_0),.c (.list c1_1),.c (.list c1_2)])] (.c (.bool (p a))) [some (.cells [.c (.str c0_0),.c (.i64 c0_1),.c (.list c0_2),.c (.str c0_3),.c (.str c0_4),.c (.i64 c0_5),.c (.i64 c0_6)]),some (.cells [.c (.list c1_0),.c (.list c1_1),.c (.list c1_2)])]) :
    Rn E X9 [.c (.list (Ss l)),.fn F6 [.ptr 0 0,.ptr 1 0]] [some (.cells [.c (.str c0_0),.c (.i64 c0_1),.c (.list c0_2),.c (.str c0_3),.c (.str c0_4),.c (.i64 c0_5),.c (.i64 c0_6)]),some (.cells [.c (.list c1_0),.c (.list c1_1),.c (.list c1_2)])] (.c (.bool (l.any p))) [some (.cells [.c (.str c0_0),.c (.i64 c0_1),.c (.list c0_2),.c (.str c0_3),.c (.str c0_4),.c (.i64 c0_5),.c (.i64 c0_6)]),some (.cells [.c (.list c1_0),.c (.list c1_1),.c (.list c1_2)])]:=by
 have h:=k1e p hl hf
 cases hp:l.any p with
 | false=>exact z4u h (by have:=z5n.2 hp;omega)
 | true =>
  have hn:¬ ix p l<0:=fun h=>by rw [z5n.1 h] at hp;cases hp
  exact z4t h (by omega)
theorem x1r {c1_0:Int} {l:List Pc} (p:Pc→Bool) (hl:l.length<9223372036854775807) (hf:∀ a∈l,Rn E H6 [.agg a.d,.ptr 0 0,.ptr 1 0] [some (.cells [.fn C4 []]),some (.cells [.c (.i64 c1_0)])] (.c (.bool (p a))) [some (.cells [.fn C4 []]),some (.cells [.c (.i64 c1_0)])]) :
    Rn E A4 [.c (.list (Ps l)),.fn H6 [.ptr 0 0,.ptr 1 0]] [some (.cells [.fn C4 []]),some (.cells [.c (.i64 c1_0)])] (.c (.i64 (ix p l))) [some (.cells [.fn C4 []]),some (.cells [.c (.i64 c1_0)])]:=by
 have hq:=z3l l
 have h:=M9 (l:=l) (fun _ a=>p a) (fun i=>I2 (Ps l) ((Ps l).length:Int) (i:Nat) c1_0) (fun j _ o s=>o=.ret∧s=z0t c1_0 (j:Int)) (y2j (by omega))
  (fun i a ha hb o s ih=>by
   have hi:=C7 ha;have hc:=hf a (List.mem_of_getElem? ha);rw [show p a=false from hb] at hc
   exact y3t (by omega) (by omega) (A7 (z1b ha)) hc (wi (by omega)) ih)
  (fun i a ha hb=>by
   have hi:=C7 ha;have hc:=hf a (List.mem_of_getElem? ha);rw [show p a=true from hb] at hc
   exact ⟨_,_,⟨rfl,rfl⟩,y2i (by omega) (by omega) (A7 (z1b ha)) hc⟩) l.length 0 (by omega)
 rcases h with ⟨h1,h2⟩ | ⟨j,a,o,s,h1,h2,h3,h4,⟨rfl,rfl⟩,h5⟩
 · rw [z7q fun j a hj h=>h1 j a hj h];exact z3s h2
 · rw [z7r h2 h3 fun j a hj hk h=>h4 j a hj hk h];exact z3r h5
theorem x5w {c1_0:Int} {l:List Hd} (p:Hd→Bool) (hl:l.length<9223372036854775807) (hf:∀ a∈l,Rn E J4 [.agg a.d,.ptr 0 0,.ptr 1 0] [some (.cells [.fn D6 []]),some (.cells [.c (.i64 c1_0)])] (.c (.bool (p a))) [some (.cells [.fn D6 []]),some (.cells [.c (.i64 c1_0)])]) :
    Rn E A9 [.c (.list (Hs l)),.fn J4 [.ptr 0 0,.ptr 1 0]] [some (.cells [.fn D6 []]),some (.cells [.c (.i64 c1_0)])] (.c (.i64 (ix p l))) [some (.cells [.fn D6 []]),some (.cells [.c (.i64 c1_0)])]:=by
 have hq:=z2j l
 have h:=M9 (l:=l) (fun _ a=>p a) (fun i=>K0 (Hs l) ((Hs l).length:Int) (i:Nat) c1_0) (fun j _ o s=>o=.ret∧s=z1v c1_0 (j:Int)) (y3q (by omega))
  (fun i a ha hb o s ih=>by
   have hi:=C7 ha;have hc:=hf a (List.mem_of_getElem? ha);rw [show p a=false from hb] at hc
   exact y5h (by omega) (by omega) (A7 (z8d ha)) hc (wi (by omega)) ih)
  (fun i a ha hb=>by
   have hi:=C7 ha;have hc:=hf a (List.mem_of_getElem? ha);rw [show p a=true from hb] at hc
   exact ⟨_,_,⟨rfl,rfl⟩,y3p (by omega) (by omega) (A7 (z8d ha)) hc⟩) l.length 0 (by omega)
 rcases h with ⟨h1,h2⟩ | ⟨j,a,o,s,h1,h2,h3,h4,⟨rfl,rfl⟩,h5⟩
 · rw [z7q fun j a hj h=>h1 j a hj h];exact z5w h2
 · rw [z7r h2 h3 fun j a hj hk h=>h4 j a hj hk h];exact z5v h5
theorem j8d {c1_0:Int} {l:List Sw} {w0:RW} (hw:∀ (i:Nat) a,l[i]?=some a→w0[i]?=some (a.d)) (p:Sw→Bool) (hl:l.length<9223372036854775807) (hf:∀ a∈l,Rn E J2 [.agg a.d,.ptr 1 0] [some (.vec D4 w0),some (.cells [.c (.i64 c1_0)])] (.c (.bool (p a))) [some (.vec D4 w0),some (.cells [.c (.i64 c1_0)])]) :
    Rn E B6 [.vec 0 l.length,.fn J2 [.ptr 1 0]] [some (.vec D4 w0),some (.cells [.c (.i64 c1_0)])] (.c (.i64 (ix p l))) [some (.vec D4 w0),some (.cells [.c (.i64 c1_0)])]:=by
 have h:=M9 (l:=l) (fun _ a=>p a) (fun i=>K2 l.length ((l.length:Nat):Int) (i:Nat) w0 c1_0) (fun j _ o s=>o=.ret∧s=z1x w0 c1_0 (j:Int)) (y3x (by omega))
  (fun i a ha hb o s ih=>by
   have hi:=C7 ha;have hc:=hf a (List.mem_of_getElem? ha);rw [show p a=false from hb] at hc
   exact y5l (by omega) (⟨by omega,by omega⟩) (A7 (hw _ _ ha)) hc (wi (by omega)) ih)
  (fun i a ha hb=>by
   have hi:=C7 ha;have hc:=hf a (List.mem_of_getElem? ha);rw [show p a=true from hb] at hc
   exact ⟨_,_,⟨rfl,rfl⟩,y3w (by omega) (⟨by omega,by omega⟩) (A7 (hw _ _ ha)) hc⟩) l.length 0 (by omega)
 rcases h with ⟨h1,h2⟩ | ⟨j,a,o,s,h1,h2,h3,h4,⟨rfl,rfl⟩,h5⟩
 · rw [z7q fun j a hj h=>h1 j a hj h];exact y0f h2
 · rw [z7r h2 h3 fun j a hj hk h=>h4 j a hj hk h];exact y0e h5
theorem v0t {α:Type} {p:α→Bool} {l:List α}:-1≤ix p l:=by
 unfold ix
 split
 · omega
 · exact Int.le_refl _
theorem j5l {α:Type} {p:α→Bool} {l:List α} (h:¬ ix p l<0):∀ (j:Nat) a,j<(ix p l).toNat→l[j]?=some a→p a=false:=by
 unfold ix at h ⊢
 cases h2:l.findIdx? p with
 | none=>rw [h2] at h;exact absurd (by decide) h
 | some i =>
  obtain ⟨h3,h4,h5⟩:=List.findIdx?_eq_some_iff_getElem.1 h2
  intro j a hj ha
  have hj:j<i:=by simpa using hj
  have:=h5 j hj
  rw [(List.getElem?_eq_some_iff.1 ha).2] at this
  simpa using this
theorem q1m {α:Type} {f:α→List DV} {n:Nat} {w:RW} (h:∀ j,j<n→∃ a:α,w[j]?=some (f a)):n≤w.length:=by
 by_cases e:n=0
 · omega
 · obtain ⟨a,ha⟩:=h (n-1) (by omega)
   have:=(List.getElem?_eq_some_iff.1 ha).1
   omega
theorem q5v {α:Type} {f:α→List DV} {l:List α} {w:RW} (hw:∀ (i:Nat) a,l[i]?=some a→w[i]?=some (f a)):l.length≤w.length :=
 q1m fun j hj=>⟨l[j],hw j _ (List.getElem?_eq_getElem hj)⟩
theorem x1a {α:Type} (f:α→List DV) {l:List α} {w:RW} (hw:∀ (i:Nat) a,l[i]?=some a→w[i]?=some (f a)):w.take l.length=l.map f:=by
 apply List.ext_getElem?
 intro i
 rw [List.getElem?_take,List.getElem?_map]
 by_cases h:i<l.length
 · rw [if_pos h,List.getElem?_eq_getElem h,hw i _ (List.getElem?_eq_getElem h)];rfl
 · rw [if_neg h,List.getElem?_eq_none (by omega)];rfl
theorem j4g {c1_0:Int} {l:List Sw} {w0:RW} (hw:∀ (i:Nat) a,l[i]?=some a→w0[i]?=some (a.d)) (p:Sw→Bool) (hl:l.length<9223372036854775807)
    (hf:∀ a∈l,∀ objs:Objs,lk objs 1=some (.cells [.c (.i64 c1_0)])→Rn E J2 [.agg a.d,.ptr 1 0] objs (.c (.bool (p a))) objs) :
    ∃ w k,Rn E F1 [.vec 0 l.length,.fn J2 [.ptr 1 0]] [some (.vec D4 w0),some (.cells [.c (.i64 c1_0)])] (.vec 0 k) [some (.vec D4 w),some (.cells [.c (.i64 c1_0)])]∧w.take k=Ss (l.filter fun a=>!p a)∧k≤w.length:=by
 have h0:=j8d hw p hl fun a ha=>hf a ha _ rfl
 by_cases hx:ix p l=-1
 · rw [hx] at h0
   refine ⟨w0,l.length,z9u h0 rfl,?_,q5v hw⟩
   have hn:l.any p=false:=z5n.1 (by omega)
   rw [List.any_eq_false] at hn
   rw [List.filter_eq_self.2 fun a ha=>by simpa using hn a ha]
   exact x1a Sw.d hw
 · have hx0:¬ ix p l<0:=fun h=>by
    have:=v0t (p:=p) (l:=l)
    omega
   obtain ⟨a0,ha0,hp0⟩:=j5m hx0
   have hlt:=C7 ha0
   have hfst:=j5l hx0
   obtain ⟨n,hn⟩:∃ n:Nat,ix p l=(n:Int):=⟨(ix p l).toNat,by omega⟩
   rw [hn] at h0 hlt ha0 hfst hx
   rw [Int.toNat_natCast] at hlt ha0 hfst
   have hgo:=H7 (l:=l) (n:=2) (F:=F1) (k:=0) (fun (b:RW × Nat) a=>if p a then b else (b.1.set b.2 a.d,b.2+1))
    (fun i b=>b.2≤i∧(∀ j a,i≤j→l[j]?=some a→b.1[j]?=some a.d)∧(∀ j,j<l.length→∃ a:Sw,b.1[j]?=some a.d)∧b.1.take b.2=Ss ((l.take i).filter fun a=>!p a))
    (fun i b=>J8 l.length (b.2:Nat) (i:Nat) b.1 c1_0) (oe:=.exit 0) (fin:=fun b=>z1t l.length c1_0 (b.2:Nat) b.1)
    (fun b hb=>y3m (by omega))
    (fun i a b ha hb=>by
     have hi:=C7 ha
     obtain ⟨h1,h2,h3,h4⟩:=hb
     have hc:=hf a (List.mem_of_getElem? ha) [some (.vec D4 b.1),some (.cells [.c (.i64 c1_0)]),some (.cells (a.d.map .c))] rfl
     have ht:l.take (i+1)=l.take i++[a]:=by rw [List.take_add_one,ha];rfl
     cases hp:p a with
     | true =>
      rw [hp] at hc
      rw [if_pos rfl]
      refine ⟨⟨by omega,fun j a' hj hg=>h2 j a' (by omega) hg,h3,?_⟩,fun o s ih=>y5e (by omega) ⟨by omega,by omega⟩ (A7 (h2 i a (Nat.le_refl _) ha)) hc (wi (by omega)) ih⟩
      rw [h4,ht,List.filter_append];simp [hp]
     | false =>
      rw [hp] at hc
      rw [if_neg (by simp)]
      obtain ⟨a1,ha1⟩:=h3 b.2 (by omega)
      refine ⟨⟨Nat.succ_le_succ h1,fun j a' hj hg=>?_,fun j hj=>?_,?_⟩,fun o s ih=>y5f (by omega) ⟨by omega,by omega⟩ (A7 (h2 i a (Nat.le_refl _) ha)) hc ⟨by omega,by omega⟩ (A7 ha1) (by rw [Int.toNat_natCast];rfl) (wi (by omega)) (wi (by omega)) ih⟩
      · show (b.1.set b.2 a.d)[j]?=_
        rw [List.getElem?_set_ne (by omega)];exact h2 j a' (by omega) hg
      · by_cases e:j=b.2
        · subst e;exact ⟨a,List.getElem?_set_self (List.getElem?_eq_some_iff.1 ha1).1⟩
        · obtain ⟨a2,h⟩:=h3 j hj
          exact ⟨a2,(List.getElem?_set_ne (by omega)).trans h⟩
      · show (b.1.set b.2 a.d).take (b.2+1)=_
        rw [List.take_add_one,List.getElem?_set_self (List.getElem?_eq_some_iff.1 ha1).1,List.take_set_of_le (Nat.le_refl _),h4,ht,List.filter_append]
        simp [hp,Ss])
    (l.length-(n+1)) (n+1) (w0,n) (by omega) ⟨by simp,fun j a hj h=>hw j a h,fun j hj=>⟨l[j],hw j _ (List.getElem?_eq_getElem hj)⟩,?_⟩
   · obtain ⟨⟨h1,h2,h3,h4⟩,h5⟩:=hgo
     generalize hb:(List.foldl _ _ _:RW × Nat)=b at h1 h2 h3 h4 h5
     refine ⟨_,b.2,z9v h0 (by omega) h5 ⟨by omega,by omega,by omega⟩ ⟨by omega,by omega⟩ (wi (by omega)) rfl (Int.toNat_natCast _),?_,?_⟩
     rotate_left
     · rw [Int.toNat_natCast,List.append_assoc,List.length_append,List.length_take]
       have hlb:l.length≤b.1.length:=q1m h3
       omega
     rw [Int.toNat_natCast,List.append_assoc,List.take_append_of_le_length (by
      rw [List.length_take]
      obtain ⟨a,ha⟩:=h3 (b.2-1) (by omega)
      have:=(List.getElem?_eq_some_iff.1 ha).1
      omega),List.take_take,Nat.min_self,h4,List.take_length]
   · show w0.take n=_
     have ht:l.take (n+1)=l.take n++[a0]:=by rw [List.take_add_one,ha0];rfl
     rw [ht,List.filter_append,List.filter_eq_self.2 fun a ha=>by
      obtain ⟨j,hj⟩:=List.mem_iff_getElem?.1 ha
      rw [List.getElem?_take] at hj
      split at hj
      · rename_i hjn;rw [hfst j a hjn hj];rfl
      · cases hj]
     rw [show [a0].filter (fun a=>!p a)=[] by simp [hp0],List.append_nil]
     have:=x1a Sw.d (l:=l.take n) (w:=w0) (fun i a h=>by
      rw [List.getElem?_take] at h
      split at h
      · exact hw i a h
      · cases h)
     rwa [List.length_take,Nat.min_eq_left (by omega)] at this
theorem k0v {c1_0:BA} {l:List Ru} {w0:RW} (hw:∀ (i:Nat) a,l[i]?=some a→w0[i]?=some (a.d)) (p:Ru→Bool) (hl:l.length<9223372036854775807)
    (hf:∀ a∈l,∀ objs:Objs,lk objs 1=some (.cells [.c (.str c1_0)])→Rn E F2 [.agg a.d,.ptr 1 0] objs (.c (.bool (p a))) objs) :
    ∃ w k,Rn E D7 [.vec 0 l.length,.fn F2 [.ptr 1 0]] [some (.vec C9 w0),some (.cells [.c (.str c1_0)])] (.vec 0 k) [some (.vec C9 w),some (.cells [.c (.str c1_0)])]∧w.take k=Rs (l.filter fun a=>!p a)∧k≤w.length:=by
 have h0:=k3k hw p hl fun a ha=>hf a ha _ rfl
 by_cases hx:ix p l=-1
 · rw [hx] at h0
   refine ⟨w0,l.length,z7b h0 rfl,?_,q5v hw⟩
   have hn:l.any p=false:=z5n.1 (by omega)
   rw [List.any_eq_false] at hn
   rw [List.filter_eq_self.2 fun a ha=>by simpa using hn a ha]
   exact x1a Ru.d hw
 · have hx0:¬ ix p l<0:=fun h=>by
    have:=v0t (p:=p) (l:=l)
    omega
   obtain ⟨a0,ha0,hp0⟩:=j5m hx0
   have hlt:=C7 ha0
   have hfst:=j5l hx0
   obtain ⟨n,hn⟩:∃ n:Nat,ix p l=(n:Int):=⟨(ix p l).toNat,by omega⟩
   rw [hn] at h0 hlt ha0 hfst hx
   rw [Int.toNat_natCast] at hlt ha0 hfst
   have hgo:=H7 (l:=l) (n:=2) (F:=D7) (k:=0) (fun (b:RW × Nat) a=>if p a then b else (b.1.set b.2 a.d,b.2+1))
    (fun i b=>b.2≤i∧(∀ j a,i≤j→l[j]?=some a→b.1[j]?=some a.d)∧(∀ j,j<l.length→∃ a:Ru,b.1[j]?=some a.d)∧b.1.take b.2=Rs ((l.take i).filter fun a=>!p a))
    (fun i b=>J7 l.length (b.2:Nat) (i:Nat) b.1 c1_0) (oe:=.exit 0) (fin:=fun b=>z1s l.length c1_0 (b.2:Nat) b.1)
    (fun b hb=>y3l (by omega))
    (fun i a b ha hb=>by
     have hi:=C7 ha
     obtain ⟨h1,h2,h3,h4⟩:=hb
     have hc:=hf a (List.mem_of_getElem? ha) [some (.vec C9 b.1),some (.cells [.c (.str c1_0)]),some (.cells (a.d.map .c))] rfl
     have ht:l.take (i+1)=l.take i++[a]:=by rw [List.take_add_one,ha];rfl
     cases hp:p a with
     | true =>
      rw [hp] at hc
      rw [if_pos rfl]
      refine ⟨⟨by omega,fun j a' hj hg=>h2 j a' (by omega) hg,h3,?_⟩,fun o s ih=>y5c (by omega) ⟨by omega,by omega⟩ (A7 (h2 i a (Nat.le_refl _) ha)) hc (wi (by omega)) ih⟩
      rw [h4,ht,List.filter_append];simp [hp]
     | false =>
      rw [hp] at hc
      rw [if_neg (by simp)]
      obtain ⟨a1,ha1⟩:=h3 b.2 (by omega)
      refine ⟨⟨Nat.succ_le_succ h1,fun j a' hj hg=>?_,fun j hj=>?_,?_⟩,fun o s ih=>y5d (by omega) ⟨by omega,by omega⟩ (A7 (h2 i a (Nat.le_refl _) ha)) hc ⟨by omega,by omega⟩ (A7 ha1) (by rw [Int.toNat_natCast];rfl) (wi (by omega)) (wi (by omega)) ih⟩
      · show (b.1.set b.2 a.d)[j]?=_
        rw [List.getElem?_set_ne (by omega)];exact h2 j a' (by omega) hg
      · by_cases e:j=b.2
        · subst e;exact ⟨a,List.getElem?_set_self (List.getElem?_eq_some_iff.1 ha1).1⟩
        · obtain ⟨a2,h⟩:=h3 j hj
          exact ⟨a2,(List.getElem?_set_ne (by omega)).trans h⟩
      · show (b.1.set b.2 a.d).take (b.2+1)=_
        rw [List.take_add_one,List.getElem?_set_self (List.getElem?_eq_some_iff.1 ha1).1,List.take_set_of_le (Nat.le_refl _),h4,ht,List.filter_append]
        simp [hp,Rs])
    (l.length-(n+1)) (n+1) (w0,n) (by omega) ⟨by simp,fun j a hj h=>hw j a h,fun j hj=>⟨l[j],hw j _ (List.getElem?_eq_getElem hj)⟩,?_⟩
   · obtain ⟨⟨h1,h2,h3,h4⟩,h5⟩:=hgo
     generalize hb:(List.foldl _ _ _:RW × Nat)=b at h1 h2 h3 h4 h5
     refine ⟨_,b.2,z7c h0 (by omega) h5 ⟨by omega,by omega,by omega⟩ ⟨by omega,by omega⟩ (wi (by omega)) rfl (Int.toNat_natCast _),?_,?_⟩
     rotate_left
     · rw [Int.toNat_natCast,List.append_assoc,List.length_append,List.length_take]
       have hlb:l.length≤b.1.length:=q1m h3
       omega
     rw [Int.toNat_natCast,List.append_assoc,List.take_append_of_le_length (by
      rw [List.length_take]
      obtain ⟨a,ha⟩:=h3 (b.2-1) (by omega)
      have:=(List.getElem?_eq_some_iff.1 ha).1
      omega),List.take_take,Nat.min_self,h4,List.take_length]
   · show w0.take n=_
     have ht:l.take (n+1)=l.take n++[a0]:=by rw [List.take_add_one,ha0];rfl
     rw [ht,List.filter_append,List.filter_eq_self.2 fun a ha=>by
      obtain ⟨j,hj⟩:=List.mem_iff_getElem?.1 ha
      rw [List.getElem?_take] at hj
      split at hj
      · rename_i hjn;rw [hfst j a hjn hj];rfl
      · cases hj]
     rw [show [a0].filter (fun a=>!p a)=[] by simp [hp0],List.append_nil]
     have:=x1a Ru.d (l:=l.take n) (w:=w0) (fun i a h=>by
      rw [List.getElem?_take] at h
      split at h
      · exact hw i a h
      · cases h)
     rwa [List.length_take,Nat.min_eq_left (by omega)] at this
end Gev
namespace Gev
open Go
variable {P:Program} {D:Tab} {B0:Nat} {Gd:World→Prop}
def inBs (n:Nat) (sm:Objs):Bool:=sm.all fun o=>match o with | some o=>o.inB n | none=>true
theorem j2v {n:Nat} {sm:Objs} (h:inBs n sm=true) (i:Nat) (o:Ob) (hi:lk sm i=some o):o.inB n=true:=by
 have hil:=z3d hi
 have e:sm[i]?=some (some o):=by
  unfold lk at hi
  rw [List.getD_eq_getElem?_getD,List.getElem?_eq_getElem hil] at hi
  rw [List.getElem?_eq_getElem hil];exact congrArg some hi
 unfold inBs at h
 rw [List.all_eq_true] at h
 exact h _ (List.mem_of_getElem? e)
theorem RunOk.put {f:Nat} {args:List AV} {sm sm':Objs} {r:AV} (h:RunOk P D B0 Gd f args sm r sm') (ls:List Nat) (hn:ls.Nodup) (hlen:ls.length=sm.length) (hlen':sm'.length=sm.length) {big big':Objs}
    (hs:∀ i,i<sm.length→lk big (ls.getD i 0)=(lk sm i).map (Ob.ren fun i=>ls.getD i 0)) (hs':∀ i,i<sm.length→lk big' (ls.getD i 0)=(lk sm' i).map (Ob.ren fun i=>ls.getD i 0)) (hrest:∀ l,(∀ i,i<sm.length→ls.getD i 0≠l)→lk big' l=lk big l)
    (hp:inBs sm.length sm=true) (hp':inBs sm.length sm'=true) (ha:args.all (AV.inB sm.length)=true) (hr:r.inB sm.length=true) :
    RunOk P D B0 Gd f (args.map (AV.ren fun i=>ls.getD i 0)) big (r.ren fun i=>ls.getD i 0) big':=by
 refine h.frameG (fun i=>ls.getD i 0) big big' (fun i j hi hj e=>?_) (Nat.le_of_eq hlen'.symm) hs (fun i h1 h2=>by omega) (by rw [hlen'];exact hs') (by rw [hlen'];exact hrest) (j2v hp) (by rw [hlen'];exact j2v hp') (fun a hx=>by simp only [List.all_eq_true] at ha;exact ha a hx) (by rw [hlen'];exact hr)
 have e2:ls.getD i 0=ls.getD j 0:=e
 simp only [List.getD_eq_getElem?_getD] at e2
 rw [List.getElem?_eq_getElem (by omega),List.getElem?_eq_getElem (by omega)] at e2
 have e':ls[i]?=ls[j]?:=by
  rw [List.getElem?_eq_getElem (by omega),List.getElem?_eq_getElem (by omega)]
  exact congrArg some e2
 exact (List.getElem?_inj (by omega) hn).1 e'
theorem RunOk.putN {f:Nat} {args:List AV} {sm sm':Objs} {r:AV} (h:RunOk P D B0 Gd f args sm r sm') (ls:List Nat) (hn:ls.Nodup) (hlen:ls.length=sm'.length) (hle:sm.length≤sm'.length) {big big':Objs}
    (hs:∀ i,i<sm.length→lk big (ls.getD i 0)=(lk sm i).map (Ob.ren fun i=>ls.getD i 0)) (hnew:∀ i,sm.length≤i→i<sm'.length→lk big (ls.getD i 0)=none)
    (hs':∀ i,i<sm'.length→lk big' (ls.getD i 0)=(lk sm' i).map (Ob.ren fun i=>ls.getD i 0)) (hrest:∀ l,(∀ i,i<sm'.length→ls.getD i 0≠l)→lk big' l=lk big l)
    (hp:inBs sm.length sm=true) (hp':inBs sm'.length sm'=true) (ha:args.all (AV.inB sm.length)=true) (hr:r.inB sm'.length=true) :
    RunOk P D B0 Gd f (args.map (AV.ren fun i=>ls.getD i 0)) big (r.ren fun i=>ls.getD i 0) big':=by
 refine h.frameG (fun i=>ls.getD i 0) big big' (fun i j hi hj e=>?_) hle hs hnew hs' hrest (j2v hp) (j2v hp') (fun a hx=>by simp only [List.all_eq_true] at ha;exact ha a hx) hr
 have e2:ls.getD i 0=ls.getD j 0:=e
 simp only [List.getD_eq_getElem?_getD] at e2
 rw [List.getElem?_eq_getElem (by omega),List.getElem?_eq_getElem (by omega)] at e2
 have e':ls[i]?=ls[j]?:=by
  rw [List.getElem?_eq_getElem (by omega),List.getElem?_eq_getElem (by omega)]
  exact congrArg some e2
 exact (List.getElem?_inj (by omega) hn).1 e'
theorem RunOk.swap {f:Nat} {args:List AV} {a b a' b':Ob} {r:AV} (h:RunOk P D B0 Gd f args [some a,some b] r [some a',some b']) (hp:inBs 2 [some a,some b]=true) (hp':inBs 2 [some a',some b']=true) (ha:args.all (AV.inB 2)=true) (hr:r.inB 2=true) :
    RunOk P D B0 Gd f (args.map (AV.ren fun i=>[1,0].getD i 0)) [some (b.ren fun i=>[1,0].getD i 0),some (a.ren fun i=>[1,0].getD i 0)] (r.ren fun i=>[1,0].getD i 0) [some (b'.ren fun i=>[1,0].getD i 0),some (a'.ren fun i=>[1,0].getD i 0)] :=
 h.put [1,0] (by decide) rfl rfl (by intro i hi;match i,hi with | 0,_=>rfl | 1,_=>rfl) (by intro i hi;match i,hi with | 0,_=>rfl | 1,_=>rfl) (by
  intro l hl
  match l with
  | 0=>exact absurd rfl (hl 1 (by simp))
  | 1=>exact absurd rfl (hl 0 (by simp))
  | l+2=>rfl) hp hp' ha hr
end Gev
namespace Gev
open Go Gb
variable {E:Env}
attribute [local irreducible] Sz
structure Cs (E:Env):Prop where
 sw:∀ l:List Sw,l.length≤1000→Rn E N3 [.c (.list (Ss l))] [] (.vec 0 l.length) [some (.vec D4 (Ss l))]
 pc:∀ l:List Pc,l.length≤1000→Rn E z2w [.c (.list (Ps l))] [] (.vec 0 l.length) [some (.vec x1j (Ps l))]
 hd:∀ l:List Hd,l.length≤1000→Rn E z3y [.c (.list (Hs l))] [] (.vec 0 l.length) [some (.vec k0i (Hs l))]
 ru:∀ l:List Ru,l.length≤1000→Rn E z3z [.c (.list (Rs l))] [] (.vec 0 l.length) [some (.vec C9 (Rs l))]
 ra:∀ l:List (List UInt8),l.length≤1000→Rn E z5h [.c (.list (R1 l))] [] (.vec 0 l.length) [some (.vec A2 (R1 l))]
noncomputable def rdv (p:List UInt8):Rat:=(rd p).getD 0
theorem q3r {l:List UInt8} (h:ok1 l=true):∃ q,l=decQ q:=by
 obtain ⟨x,hx⟩:=Option.isSome_iff_exists.1 h
 exact ⟨x,q7k hx⟩
theorem q7l (q:Rat):rdv (decQ q)=q:=by unfold rdv;rw [q7i];rfl
theorem q1a {l:List UInt8} (h:ok1 l=true):decQ (rdv l)=l:=by
 obtain ⟨q,rfl⟩:=q3r h
 rw [q7l]
theorem z5k {x:List UInt8} {K:Nat} (h:ok1 x=true) (k:x.length≤K):Sz (rdv x) K:=by
 obtain ⟨u,rfl⟩:=q3r h
 rw [q7l]
 exact Sz.of_len k
theorem z8f {x:List UInt8} (h:ok1 x=true):Sq (rdv x)=.c (.str (B x)):=by unfold Sq;rw [q1a h]
theorem x4q:200000≤Lim:=by rw [z2x];omega
theorem y0b (hlib:Lib E) {x:List UInt8} (h:ok1 x=true) (k:x.length≤40):Fn E X6 [.c (.str (B x))] (.c (.i64 (cmpQ (rdv x) 0))):=by
 have:=j7o hlib (z5k h k) (by have:=x4q;omega)
 rwa [z8f h] at this
theorem x5i (hlib:Lib E) {l:List (List UInt8)} (hl:l.length<1000) (hb:∀ x∈l,x.length≤Lim):Fn E z1y [.c (.list (R1 l))] (.c (.bool (l.all ok1))):=by
 have:=j7q (k6i (fun x=>!ok1 x) (by omega) fun x hx=>j0a (y2b hlib (hb x hx)))
 rwa [show (!l.any fun x=>!ok1 x)=l.all ok1 from by rw [List.all_eq_not_any_not]] at this
theorem x2s {ps:List Pc} {hs:RW} {id:Int} (hl:ps.length<9223372036854775807):Fn E y1l [.agg [.list (Ps ps),.list hs],.c (.i64 id)] (.c (.i64 (ix (fun p=>p.id == id) ps))):=by
 have h:=x1r (E:=E) (l:=ps) (c1_0:=id) (fun p=>p.id == id) hl fun a _=>by
  by_cases e:a.id=id
  · rw [show (a.id == id)=true by simp [e]];exact x3f y9s e
  · rw [show (a.id == id)=false by simp [e]];exact x3g y9s e
 exact j3r (y0a (h.swap rfl rfl rfl rfl))
theorem y8y {hs:List Hd} {ps:RW} {id:Int} (hl:hs.length<9223372036854775807):Fn E z8z [.agg [.list ps,.list (Hs hs)],.c (.i64 id)] (.c (.i64 (ix (fun p=>p.id == id) hs))):=by
 have h:=x5w (E:=E) (l:=hs) (c1_0:=id) (fun p=>p.id == id) hl fun a _=>by
  by_cases e:a.id=id
  · rw [show (a.id == id)=true by simp [e]];exact x8u x5g e
  · rw [show (a.id == id)=false by simp [e]];exact x8v x5g e
 exact q0o (y2q (h.swap rfl rfl rfl rfl))
def inH (l:List Sw) (h:Int):List Sw:=l.filter fun a=>a.ho == h
theorem k9e (hc:Cs E) {l:List Sw} {h:Int} (hl:l.length≤1000):Fn E x1f [.c (.list (Ss l)),.c (.i64 h)] (.c (.list (Ss (inH l h)))):=by
 obtain ⟨w,k,h1,h2,_⟩:=j4g (E:=E) (c1_0:=h) (l:=l) (w0:=Ss l) (fun i a ha=>z5j ha) (fun a=>!(a.ho == h)) (by omega) fun a _ objs ho=>by
  by_cases e:a.ho=h
  · rw [show (!(a.ho == h))=false by simp [e]]
    exact (q0q (E:=E) (i1:=a.pa) (i2:=a.un) e).sub [1] (by decide) rfl (by intro i hi;match i,hi with | 0,_=>exact ho) (by simp [Ob.plain]) rfl rfl
  · rw [show (!(a.ho == h))=true by simp [e]]
    exact (q0p (E:=E) (i1:=a.pa) (i2:=a.un) e).sub [1] (by decide) rfl (by intro i hi;match i,hi with | 0,_=>exact ho) (by simp [Ob.plain]) rfl rfl
 exact q5i (hc.sw l hl) (h1.swap rfl rfl rfl rfl) (by rw [h2];unfold inH;simp only [Bool.not_not])
def unS (l:List Sw) (id:Int):Int:=(l.map fun a=>if a.pa=id then a.un else 0).sum
theorem j3s {l:List Sw} {id:Int} (hl:l.length≤1000) (hu:∀ a∈l,-9≤a.un∧a.un≤1000000000):Fn E O1 [.c (.list (Ss l)),.c (.i64 id)] (.c (.i64 (unS l id))):=by
 have hq:=x1i l
 have h:=H7 (E:=E) (l:=l) (n:=0) (F:=O1) (k:=0) (fun (b:Int) a=>b+if a.pa=id then a.un else 0) (fun i b=>-9*i≤b∧b≤1000000000*i)
  (fun i b=>z2k id b (Ss l) ((Ss l).length:Int) (i:Nat)) (oe:=.exit 0) (fin:=fun b=>y3e b) (fun b hb=>x8x (by omega))
  (fun i a b ha hb=>by
   have hi:=C7 ha
   have hu:=hu a (List.mem_of_getElem? ha)
   by_cases e:a.pa=id
   · rw [if_pos e]
     exact ⟨by omega,fun o s ih=>k2q (by omega) (by omega) (A7 (z5j ha)) e (wi (by omega)) (wi (by omega)) ih⟩
   · rw [if_neg e]
     exact ⟨by omega,fun o s ih=>by
      rw [Int.add_zero] at ih
      exact k2r (by omega) (by omega) (A7 (z5j ha)) e (wi (by omega)) ih⟩)
  l.length 0 0 (by omega) ⟨by omega,by omega⟩
 have e:∀ (l:List Sw) b,l.foldl (fun (b:Int) a=>b+if a.pa=id then a.un else 0) b=b+unS l id:=by
  intro l
  induction l with
  | nil=>intro b;show b=b+0;omega
  | cons a l ih=>intro b;rw [List.foldl_cons,ih];unfold unS;rw [List.map_cons,List.sum_cons];omega
 rw [List.drop_zero,e,Int.zero_add] at h
 exact j7p h.2
def ordS (a b:Sw):Int:=if cmpI a.ho b.ho=0 then cmpI a.pa b.pa else cmpI a.ho b.ho
theorem v3f {x y:Int}:Fn E z0d [.c (.list [[.i64 x],[.i64 y]])] (.c (.i64 (if x=0 then y else x))):=by
 have h0:(0:Int)<(([[.i64 x],[.i64 y]]:RW).length:Int):=by simp
 have h1:(1:Int)<(([[.i64 x],[.i64 y]]:RW).length:Int):=by simp
 have h2:¬ (2:Int)<(([[.i64 x],[.i64 y]]:RW).length:Int):=by simp
 by_cases hx:x=0
 · rw [if_pos hx]
   by_cases hy:y=0
   · rw [hy] at h0 h1 h2 ⊢
     exact q0v (y3f (wi (m:=1) (by omega)) h0 (by decide) rfl hx (y3f (wi (m:=2) (by omega)) h1 (by decide) rfl rfl (k0o h2)))
   · exact k2x (y3f (wi (m:=1) (by omega)) h0 (by decide) rfl hx (y6w h1 (by decide) rfl hy))
 · rw [if_neg hx]
   exact k2x (y6w h0 (by decide) rfl hx)
theorem j3q (a b:Sw):Fn E y3z [.agg a.d,.agg b.d] (.c (.i64 (ordS a b))):=j7n (q0w _ _) (q0w _ _) v3f rfl
def fE {α:Type} (f:Nat→α→Int):Nat→List α→Int
 | _,[]=>0
 | i,a::l=>if f i a=0 then fE f (i+1) l else f i a
theorem k6h {α:Type} {n F k:Nat} {l:List α} (f:Nat→α→Int) (st:Nat→St) {oe:Out} {fin:St} {G:Int→St} (hend:Lp E n F k (st l.length) oe fin)
    (hstep:∀ i a,l[i]?=some a→(f i a=0→∀ o s,Lp E n F k (st (i+1)) o s→Lp E n F k (st i) o s)∧(f i a≠0→Lp E n F k (st i) .ret (G (f i a)))):∀ d i:Nat,i+d=l.length →
    (fE f i (l.drop i)=0∧Lp E n F k (st i) oe fin)∨(fE f i (l.drop i)≠0∧Lp E n F k (st i) .ret (G (fE f i (l.drop i))))
 | 0,i,hi=>by
  have e:i=l.length:=by omega
  rw [e,List.drop_length];exact .inl ⟨rfl,hend⟩
 | d+1,i,hi=>by
  obtain ⟨a,ha⟩:=z0w (l:=l) (i:=i) (by omega)
  rw [y7g ha]
  show (fE f i (a::l.drop (i+1))=0∧_)∨_
  unfold fE
  by_cases h0:f i a=0
  · rw [if_pos h0]
    rcases k6h f st hend hstep d (i+1) (by omega) with ⟨h1,h2⟩ | ⟨h1,h2⟩
    · exact .inl ⟨h1,(hstep i a ha).1 h0 _ _ h2⟩
    · exact .inr ⟨h1,(hstep i a ha).1 h0 _ _ h2⟩
  · rw [if_neg h0];exact .inr ⟨h0,(hstep i a ha).2 h0⟩
theorem x1p {α:Type} {f:Nat→α→Int}:∀ {l:List α} {i:Nat},fE f i l=0→∀ (j:Nat) a,l[j]?=some a→f (i+j) a=0
 | [],i,_,j,a,h=>by simp at h
 | b::l,i,h0,j,a,h=>by
  unfold fE at h0
  split at h0
  · rename_i h1
    match j,h with
    | 0,h=>cases h;exact h1
    | j+1,h=>have:=x1p h0 j a h;rwa [Nat.add_right_comm] at this
  · rename_i h1;exact absurd h0 h1
noncomputable def okP (p:Pc):Bool:=[p.ma,p.vo,p.wo].all ok1
noncomputable def okH (h:Hd):Bool:=[h.ro,h.mo,h.x,h.y,h.z].all ok1
def ShP (p:Pc):Prop:=p.ma.length≤40∧p.vo.length≤40∧p.wo.length≤40
def ShH (h:Hd):Prop:=h.ro.length≤40∧h.mo.length≤40∧h.x.length≤40∧h.y.length≤40∧h.z.length≤40
structure Sh (ps:List Pc) (hs:List Hd):Prop where
 np:ps.length≤7
 nh:hs.length≤7
 p:∀ p∈ps,ShP p
 h:∀ h∈hs,ShH h
noncomputable def fP (l:List Pc) (i:Nat) (p:Pc):Int :=
 if 1≤p.id∧p.id≤1073741824 then (if 1≤p.un∧p.un≤9 then (if 1≤p.cl∧p.cl≤9 then (if cmpQ (rdv p.ma) 0≤0 then 2 else if cmpQ (rdv p.vo) 0≤0 then 2 else if cmpQ (rdv p.wo) 0<0 then 2 else
  if nmB p.nm=true then (if 0<i then (if ((l[i-1]?).map Pc.id).getD 0≥p.id then 5 else 0) else 0) else 4) else 2) else 2) else 2
noncomputable def fH (l:List Hd) (i:Nat) (p:Hd):Int :=
 if 1≤p.id∧p.id≤1073741824 then (if cmpQ (rdv p.ro) 0<0 then 2 else if cmpQ (rdv p.mo) 0<0 then 2 else
  if nmB p.nm=true then (if 0<i then (if ((l[i-1]?).map Hd.id).getD 0≥p.id then 5 else 0) else 0) else 4) else 2
noncomputable def chkC (ps:List Pc) (hs:List Hd):Int :=
 if ps.all okP=true∧hs.all okH=true then (if ps.length>6∨hs.length>6 then 8 else if fE (fP ps) 0 ps=0 then fE (fH hs) 0 hs else fE (fP ps) 0 ps) else 1
theorem k6a {a b:Int} (h:1≤a∧a≤b):Fn E K6 [.c (.i64 a),.c (.i64 b)] (.c (.bool true)):=by have:=x2t (E:=E) (a:=a) (b:=b);rwa [decide_eq_true h] at this
theorem k5z {a b:Int} (h:¬ (1≤a∧a≤b)):Fn E K6 [.c (.i64 a),.c (.i64 b)] (.c (.bool false)):=by have:=x2t (E:=E) (a:=a) (b:=b);rwa [decide_eq_false h] at this
theorem j2y {s:List UInt8} {b:Bool} (h:nmB s=b):Fn E U6 [.c (.str (B s))] (.c (.bool b)):=h ▸ j3o
theorem chk_L0 (hlib:Lib E) {ps:List Pc} {hs:RW} (hp:∀ p∈ps,ShP p) (hl:ps.length<1000) :
    (ps.all okP=true∧Lp E 1 B1 0 (Y0 (Ps ps) ((Ps ps).length:Int) 0 (Ps ps) hs) (.exit 0) (y2y (Ps ps) hs)) ∨
    (¬ ps.all okP=true∧Lp E 1 B1 0 (Y0 (Ps ps) ((Ps ps).length:Int) 0 (Ps ps) hs) .ret (z9b (Ps ps) hs)):=by
 have hq:=z3l ps
 have hv:∀ p∈ps,Fn E z1y [.c (.list ([[.str (B p.ma)],[.str (B p.vo)],[.str (B p.wo)]]:RW))] (.c (.bool (okP p))):=fun p h=>by
  have hs:=hp p h
  have:=x4q
  exact x5i hlib (l:=[p.ma,p.vo,p.wo]) (by simp) (by simp;unfold ShP at hs;omega)
 have h:=M9 (E:=E) (l:=ps) (fun _ a=>!okP a) (fun i=>Y0 (Ps ps) ((Ps ps).length:Int) (i:Nat) (Ps ps) hs) (fun _ _ o s=>o=.ret∧s=z9b (Ps ps) hs) (x8b (by omega))
  (fun i a ha hb o s ih=>by
   have hi:=C7 ha;have hc:=hv a (List.mem_of_getElem? ha);have e:okP a=true:=by simpa using hb
   rw [e] at hc
   exact k2j (by omega) (by omega) (A7 (z1b ha)) hc rfl (wi (by omega)) ih)
  (fun i a ha hb=>by
   have hi:=C7 ha;have hc:=hv a (List.mem_of_getElem? ha);have e:okP a=false:=by simpa using hb
   rw [e] at hc
   exact ⟨_,_,⟨rfl,rfl⟩,x8a (by omega) (by omega) (A7 (z1b ha)) hc rfl⟩) ps.length 0 (by omega)
 rcases h with ⟨h1,h2⟩ | ⟨j,a,o,s,h1,h2,h3,h4,⟨rfl,rfl⟩,h5⟩
 · exact .inl ⟨List.all_eq_true.2 (fun a ha=>(List.mem_iff_getElem?.1 ha).elim fun j hj=>by simpa using h1 j a (Nat.zero_le _) hj),h2⟩
 · exact .inr ⟨fun h=>by { rw [List.all_eq_true.1 h a (List.mem_of_getElem? h2)] at h3;cases h3 },h5⟩
theorem chk_L1 (hlib:Lib E) {hs:List Hd} {ps:RW} (hp:∀ p∈hs,ShH p) (hl:hs.length<1000) :
    (hs.all okH=true∧Lp E 1 B1 1 (Y1 (Hs hs) ((Hs hs).length:Int) 0 ps (Hs hs)) (.exit 2) (y2z ps (Hs hs))) ∨
    (¬ hs.all okH=true∧Lp E 1 B1 1 (Y1 (Hs hs) ((Hs hs).length:Int) 0 ps (Hs hs)) .ret (z9c ps (Hs hs))):=by
 have hq:=z2j hs
 have hv:∀ p∈hs,Fn E z1y [.c (.list ([[.str (B p.ro)],[.str (B p.mo)],[.str (B p.x)],[.str (B p.y)],[.str (B p.z)]]:RW))] (.c (.bool (okH p))):=fun p h=>by
  have hs:=hp p h
  have:=x4q
  exact x5i hlib (l:=[p.ro,p.mo,p.x,p.y,p.z]) (by simp) (by simp;unfold ShH at hs;omega)
 have h:=M9 (E:=E) (l:=hs) (fun _ a=>!okH a) (fun i=>Y1 (Hs hs) ((Hs hs).length:Int) (i:Nat) ps (Hs hs)) (fun _ _ o s=>o=.ret∧s=z9c ps (Hs hs)) (x8d (by omega))
  (fun i a ha hb o s ih=>by
   have hi:=C7 ha;have hc:=hv a (List.mem_of_getElem? ha);have e:okH a=true:=by simpa using hb
   rw [e] at hc
   exact k2k (by omega) (by omega) (A7 (z8d ha)) hc rfl (wi (by omega)) ih)
  (fun i a ha hb=>by
   have hi:=C7 ha;have hc:=hv a (List.mem_of_getElem? ha);have e:okH a=false:=by simpa using hb
   rw [e] at hc
   exact ⟨_,_,⟨rfl,rfl⟩,x8c (by omega) (by omega) (A7 (z8d ha)) hc rfl⟩) hs.length 0 (by omega)
 rcases h with ⟨h1,h2⟩ | ⟨j,a,o,s,h1,h2,h3,h4,⟨rfl,rfl⟩,h5⟩
 · exact .inl ⟨List.all_eq_true.2 (fun a ha=>(List.mem_iff_getElem?.1 ha).elim fun j hj=>by simpa using h1 j a (Nat.zero_le _) hj),h2⟩
 · exact .inr ⟨fun h=>by { rw [List.all_eq_true.1 h a (List.mem_of_getElem? h2)] at h3;cases h3 },h5⟩
theorem outp {P Q:Prop} {v:Int} (hv:v≠0) (h:Q):(v=0→P)∧(v≠0→Q):=⟨fun e=>absurd e hv,fun _=>h⟩
theorem inp {P Q:Prop} (h:P):((0:Int)=0→P)∧((0:Int)≠0→Q):=⟨fun _=>h,fun e=>absurd rfl e⟩
theorem chk_L2 (hlib:Lib E) {ps:List Pc} {hs:RW} (hp:∀ p∈ps,ShP p) (ho:ps.all okP=true) (hl:ps.length<1000) :
    (fE (fP ps) 0 ps=0∧Lp E 1 B1 2 (G7 (Ps ps) ((Ps ps).length:Int) 0 (Ps ps) hs) (.exit 4) (y3a (Ps ps) hs)) ∨
    (fE (fP ps) 0 ps≠0∧Lp E 1 B1 2 (G7 (Ps ps) ((Ps ps).length:Int) 0 (Ps ps) hs) .ret (N6 (Ps ps) hs (fE (fP ps) 0 ps))):=by
 have hq:=z3l ps
 refine k6h (E:=E) (l:=ps) (fP ps) (fun i=>G7 (Ps ps) ((Ps ps).length:Int) (i:Nat) (Ps ps) hs) (G:=fun v=>N6 (Ps ps) hs v) (x8m (by omega)) (fun i a ha=>?_) ps.length 0 (by omega)
 have hi:=C7 ha
 have hm:=List.mem_of_getElem? ha
 have hs1:=hp a hm
 have ho:=List.all_eq_true.1 ho a hm
 unfold okP at ho
 simp only [List.all_cons,List.all_nil,Bool.and_true,Bool.and_eq_true] at ho
 have s1:=y0b hlib ho.1 hs1.1
 have s2:=y0b hlib ho.2.1 hs1.2.1
 have s3:=y0b hlib ho.2.2 hs1.2.2
 have g:=A7 (z1b ha)
 have b1:(i:Int)<((Ps ps).length:Int):=by omega
 have b2:(0:Int)≤(i:Int):=by omega
 unfold fP
 by_cases c1:1≤a.id∧a.id≤1073741824
 rotate_left
 · rw [if_neg c1];exact outp (by decide) (x8l b1 b2 g (k5z c1))
 have w1:=k6a (E:=E) c1
 rw [if_pos c1]
 by_cases c2:1≤a.un∧a.un≤9
 rotate_left
 · rw [if_neg c2];exact outp (by decide) (x8k b1 b2 g w1 (k5z c2))
 have w2:=k6a (E:=E) c2
 rw [if_pos c2]
 by_cases c3:1≤a.cl∧a.cl≤9
 rotate_left
 · rw [if_neg c3];exact outp (by decide) (x8j b1 b2 g w1 w2 (k5z c3))
 have w3:=k6a (E:=E) c3
 rw [if_pos c3]
 by_cases c4:cmpQ (rdv a.ma) 0≤0
 · rw [if_pos c4];exact outp (by decide) (x8e b1 b2 g w1 w2 w3 s1 c4)
 rw [if_neg c4]
 by_cases c5:cmpQ (rdv a.vo) 0≤0
 · rw [if_pos c5];exact outp (by decide) (x8f b1 b2 g w1 w2 w3 s1 c4 s2 c5)
 rw [if_neg c5]
 by_cases c6:cmpQ (rdv a.wo) 0<0
 · rw [if_pos c6];exact outp (by decide) (x8g b1 b2 g w1 w2 w3 s1 c4 s2 c5 s3 c6)
 rw [if_neg c6]
 cases c7:nmB a.nm with
 | false=>rw [if_neg (by simp)];exact outp (by decide) (x8i b1 b2 g w1 w2 w3 s1 c4 s2 c5 s3 c6 (j2y c7))
 | true =>
  rw [if_pos rfl]
  have w7:=j2y (E:=E) c7
  by_cases c8:0<i
  · rw [if_pos c8]
    obtain ⟨q,hq'⟩:=z0w (l:=ps) (i:=i-1) (by omega)
    rw [hq']
    show (((if q.id≥a.id then (5:Int) else 0)=0)→_)∧_
    by_cases c9:q.id≥a.id
    · rw [show ((if ((some q).map Pc.id).getD 0≥a.id then (5:Int) else 0))=5 from if_pos c9,if_pos c9];exact outp (by decide) (x8h b1 b2 g w1 w2 w3 s1 c4 s2 c5 s3 c6 w7 (by omega) (by omega) (A7 (z1b hq')) c9 (wi (by omega)))
    · rw [show ((if ((some q).map Pc.id).getD 0≥a.id then (5:Int) else 0))=0 from if_neg c9,if_neg c9];exact inp fun o s ih=>k2l b1 b2 g w1 w2 w3 s1 c4 s2 c5 s3 c6 w7 (by omega) (by omega) (A7 (z1b hq')) c9 (wi (by omega)) (wi (by omega)) ih
  · rw [if_neg c8]
    exact inp fun o s ih=>k2m b1 b2 g w1 w2 w3 s1 c4 s2 c5 s3 c6 w7 (by omega) (wi (by omega)) ih
theorem chk_L3 (hlib:Lib E) {hs:List Hd} {ps:RW} (hp:∀ p∈hs,ShH p) (ho:hs.all okH=true) (hl:hs.length<1000) :
    (fE (fH hs) 0 hs=0∧Lp E 1 B1 3 (J0 (Hs hs) ((Hs hs).length:Int) 0 ps (Hs hs)) (.exit 6) (y3b ps (Hs hs))) ∨
    (fE (fH hs) 0 hs≠0∧Lp E 1 B1 3 (J0 (Hs hs) ((Hs hs).length:Int) 0 ps (Hs hs)) .ret (V9 ps (Hs hs) (fE (fH hs) 0 hs))):=by
 have hq:=z2j hs
 refine k6h (E:=E) (l:=hs) (fH hs) (fun i=>J0 (Hs hs) ((Hs hs).length:Int) (i:Nat) ps (Hs hs)) (G:=fun v=>V9 ps (Hs hs) v) (x8s (by omega)) (fun i a ha=>?_) hs.length 0 (by omega)
 have hi:=C7 ha
 have hm:=List.mem_of_getElem? ha
 have hs1:=hp a hm
 have ho:=List.all_eq_true.1 ho a hm
 unfold okH at ho
 simp only [List.all_cons,List.all_nil,Bool.and_true,Bool.and_eq_true] at ho
 have s1:=y0b hlib ho.1 hs1.1
 have s2:=y0b hlib ho.2.1 hs1.2.1
 have g:=A7 (z8d ha)
 have b1:(i:Int)<((Hs hs).length:Int):=by omega
 have b2:(0:Int)≤(i:Int):=by omega
 unfold fH
 by_cases c1:1≤a.id∧a.id≤1073741824
 rotate_left
 · rw [if_neg c1];exact outp (by decide) (x8r b1 b2 g (k5z c1))
 have w1:=k6a (E:=E) c1
 rw [if_pos c1]
 by_cases c4:cmpQ (rdv a.ro) 0<0
 · rw [if_pos c4];exact outp (by decide) (x8n b1 b2 g w1 s1 c4)
 rw [if_neg c4]
 by_cases c5:cmpQ (rdv a.mo) 0<0
 · rw [if_pos c5];exact outp (by decide) (x8o b1 b2 g w1 s1 c4 s2 c5)
 rw [if_neg c5]
 cases c7:nmB a.nm with
 | false=>rw [if_neg (by simp)];exact outp (by decide) (x8q b1 b2 g w1 s1 c4 s2 c5 (j2y c7))
 | true =>
  rw [if_pos rfl]
  have w7:=j2y (E:=E) c7
  by_cases c8:0<i
  · rw [if_pos c8]
    obtain ⟨q,hq'⟩:=z0w (l:=hs) (i:=i-1) (by omega)
    rw [hq']
    show (((if q.id≥a.id then (5:Int) else 0)=0)→_)∧_
    by_cases c9:q.id≥a.id
    · rw [show ((if ((some q).map Hd.id).getD 0≥a.id then (5:Int) else 0))=5 from if_pos c9,if_pos c9];exact outp (by decide) (x8p b1 b2 g w1 s1 c4 s2 c5 w7 (by omega) (by omega) (A7 (z8d hq')) c9 (wi (by omega)))
    · rw [show ((if ((some q).map Hd.id).getD 0≥a.id then (5:Int) else 0))=0 from if_neg c9,if_neg c9];exact inp fun o s ih=>k2n b1 b2 g w1 s1 c4 s2 c5 w7 (by omega) (by omega) (A7 (z8d hq')) c9 (wi (by omega)) (wi (by omega)) ih
  · rw [if_neg c8]
    exact inp fun o s ih=>k2o b1 b2 g w1 s1 c4 s2 c5 w7 (by omega) (wi (by omega)) ih
theorem x4t (hlib:Lib E) {ps:List Pc} {hs:List Hd} (h:Sh ps hs):Fn E B1 [.agg [.list (Ps ps),.list (Hs hs)]] (.c (.i64 (chkC ps hs))):=by
 obtain ⟨n1,n2,hp,hh⟩:=h
 have l1:=z3l ps
 have l2:=z2j hs
 unfold chkC
 rcases chk_L0 hlib (hs:=Hs hs) hp (by omega) with ⟨o1,h1⟩ | ⟨o1,h1⟩
 rotate_left
 · rw [if_neg fun h=>o1 h.1];exact j7b h1
 rcases chk_L1 hlib (ps:=Ps ps) hh (by omega) with ⟨o2,h2⟩ | ⟨o2,h2⟩
 rotate_left
 · rw [if_neg fun h=>o2 h.2];exact j7c h1 h2
 rw [if_pos ⟨o1,o2⟩]
 by_cases c1:ps.length>6
 · rw [if_pos (.inl c1)];exact j7d h1 h2 (by omega)
 by_cases c2:hs.length>6
 · rw [if_pos (.inr c2)];exact j7e h1 h2 (by omega) (by omega)
 rw [if_neg (fun h=>h.elim c1 c2)]
 rcases chk_L2 hlib (hs:=Hs hs) hp o1 (by omega) with ⟨o3,h3⟩ | ⟨o3,h3⟩
 rotate_left
 · rw [if_neg o3];exact j7f h1 h2 (by omega) (by omega) h3
 rw [if_pos o3]
 rcases chk_L3 hlib (ps:=Ps ps) hh o2 (by omega) with ⟨o4,h4⟩ | ⟨o4,h4⟩
 · rw [o4];exact j7h h1 h2 (by omega) (by omega) h3 h4
 · exact j7g h1 h2 (by omega) (by omega) h3 h4
theorem j4d {α:Type} {n F k:Nat} {l:List α} (f:Nat→α→Int) (st:Nat→St) {oe:Out} {fin:St} {G:Int→St} (hend:Lp E n F k (st l.length) oe fin)
    (hstep:∀ i a,l[i]?=some a→(∀ j b,j<i→l[j]?=some b→f j b=0)→(f i a=0→∀ o s,Lp E n F k (st (i+1)) o s→Lp E n F k (st i) o s)∧(f i a≠0→Lp E n F k (st i) .ret (G (f i a)))):∀ d i:Nat,i+d=l.length→(∀ j b,j<i→l[j]?=some b→f j b=0) →
    (fE f i (l.drop i)=0∧Lp E n F k (st i) oe fin)∨(fE f i (l.drop i)≠0∧Lp E n F k (st i) .ret (G (fE f i (l.drop i))))
 | 0,i,hi,_=>by
  have e:i=l.length:=by omega
  rw [e,List.drop_length];exact .inl ⟨rfl,hend⟩
 | d+1,i,hi,hp=>by
  obtain ⟨a,ha⟩:=z0w (l:=l) (i:=i) (by omega)
  rw [y7g ha]
  show (fE f i (a::l.drop (i+1))=0∧_)∨_
  unfold fE
  by_cases h0:f i a=0
  · rw [if_pos h0]
    have hp':∀ j b,j<i+1→l[j]?=some b→f j b=0:=fun j b hj hb=>by
     by_cases e:j=i
     · rw [e] at hb ⊢;rw [ha] at hb;cases hb;exact h0
     · exact hp j b (by omega) hb
    rcases j4d f st hend hstep d (i+1) (by omega) hp' with ⟨h1,h2⟩ | ⟨h1,h2⟩
    · exact .inl ⟨h1,(hstep i a ha hp).1 h0 _ _ h2⟩
    · exact .inr ⟨h1,(hstep i a ha hp).1 h0 _ _ h2⟩
  · rw [if_neg h0];exact .inr ⟨h0,(hstep i a ha hp).2 h0⟩
def ixP (ps:List Pc) (id:Int):Int:=ix (fun p=>p.id == id) ps
def ixH (hs:List Hd) (id:Int):Int:=ix (fun p=>p.id == id) hs
def pcAt (ps:List Pc) (id:Int):Pc:=(ps[(ixP ps id).toNat]?).getD ⟨0,0,0,[],[],[],[]⟩
def hdAt (hs:List Hd) (id:Int):Hd:=(hs[(ixH hs id).toNat]?).getD ⟨0,[],[],[],[],[],[]⟩
theorem y1z {ps:List Pc} {id:Int} (h:¬ ixP ps id<0):ps[(ixP ps id).toNat]?=some (pcAt ps id):=by
 obtain ⟨a,h1,h2⟩:=j5m h
 unfold pcAt ixP
 rw [h1];rfl
theorem q3f {hs:List Hd} {id:Int} (h:¬ ixH hs id<0):hs[(ixH hs id).toNat]?=some (hdAt hs id):=by
 obtain ⟨a,h1,h2⟩:=j5m h
 unfold hdAt ixH
 rw [h1];rfl
def fS (ps:List Pc) (hs:List Hd) (l:List Sw) (i:Nat) (s:Sw):Int :=
 if ixP ps s.pa<0 then 7 else if ixH hs s.ho<0 then 7 else if s.un<1 then 2 else if 0<i∧ordS ((l[i-1]?).getD ⟨0,0,0⟩) s≥0 then 5 else
 if s.un>(pcAt ps s.pa).un then 12 else if unS (l.take (i+1)) s.pa>(pcAt ps s.pa).un then 12 else 0
noncomputable def stwC (ps:List Pc) (hs:List Hd) (l:List Sw):Int:=if chkC ps hs=0 then fE (fS ps hs l) 0 l else 1
theorem k6f {ps:List Pc} {hs:List Hd} (h:chkC ps hs=0):ps.all okP=true∧hs.all okH=true∧ps.length≤6∧hs.length≤6∧fE (fP ps) 0 ps=0∧fE (fH hs) 0 hs=0:=by
 unfold chkC at h
 by_cases c:ps.all okP=true∧hs.all okH=true
 · rw [if_pos c] at h
   by_cases c2:ps.length>6∨hs.length>6
   · rw [if_pos c2] at h;cases h
   · rw [if_neg c2] at h
     by_cases c3:fE (fP ps) 0 ps=0
     · rw [if_pos c3] at h;exact ⟨c.1,c.2,by omega,by omega,c3,h⟩
     · rw [if_neg c3] at h;exact absurd h c3
 · rw [if_neg c] at h;cases h
theorem v3p {l:List Pc} {i:Nat} {p:Pc} (h:fP l i p=0):(1≤p.id∧p.id≤1073741824)∧(1≤p.un∧p.un≤9)∧(1≤p.cl∧p.cl≤9):=by
 unfold fP at h
 by_cases c1:1≤p.id∧p.id≤1073741824
 · rw [if_pos c1] at h
   by_cases c2:1≤p.un∧p.un≤9
   · rw [if_pos c2] at h
     by_cases c3:1≤p.cl∧p.cl≤9
     · exact ⟨c1,c2,c3⟩
     · rw [if_neg c3] at h;cases h
   · rw [if_neg c2] at h;cases h
 · rw [if_neg c1] at h;cases h
theorem j3w {ps:List Pc} {hs:List Hd} (h:chkC ps hs=0) {p:Pc} (hp:p∈ps):(1≤p.id∧p.id≤1073741824)∧(1≤p.un∧p.un≤9)∧(1≤p.cl∧p.cl≤9):=by
 obtain ⟨j,hj⟩:=List.mem_iff_getElem?.1 hp
 exact v3p (x1p (k6f h).2.2.2.2.1 j p hj)
theorem q6x {ps:List Pc} {hs:List Hd} {l:List Sw} {i:Nat} {s:Sw} (h:fS ps hs l i s=0):¬ ixP ps s.pa<0∧¬ ixH hs s.ho<0∧1≤s.un∧s.un≤(pcAt ps s.pa).un:=by
 unfold fS at h
 by_cases c1:ixP ps s.pa<0
 · rw [if_pos c1] at h;cases h
 rw [if_neg c1] at h
 by_cases c2:ixH hs s.ho<0
 · rw [if_pos c2] at h;cases h
 rw [if_neg c2] at h
 by_cases c3:s.un<1
 · rw [if_pos c3] at h;cases h
 rw [if_neg c3] at h
 by_cases c4:0<i∧ordS ((l[i-1]?).getD ⟨0,0,0⟩) s≥0
 · rw [if_pos c4] at h;cases h
 rw [if_neg c4] at h
 by_cases c5:s.un>(pcAt ps s.pa).un
 · rw [if_pos c5] at h;cases h
 exact ⟨c1,c2,by omega,by omega⟩
theorem v3a (l:List Sw) (n:Nat):(Ss l).take n=Ss (l.take n):=by unfold Ss;rw [List.map_take]
theorem y5a (hlib:Lib E) {ps:List Pc} {hs:List Hd} {l:List Sw} (h:Sh ps hs) (hl:l.length≤1000) (hu:∀ a∈l,-9223372036854775808≤a.un∧a.un≤9223372036854775807):Fn E F0 [.agg [.list (Ps ps),.list (Hs hs)],.c (.list (Ss l))] (.c (.i64 (stwC ps hs l))):=by
 have hC:=x4t hlib h
 unfold stwC
 by_cases c0:chkC ps hs=0
 rotate_left
 · rw [if_neg c0];exact j3l hC c0
 rw [if_pos c0]
 have hq:=x1i l
 have n1:=h.np
 have n2:=h.nh
 have:=j4d (E:=E) (l:=l) (fS ps hs l) (fun i=>H1 (Ss l) (Ss l) ((Ss l).length:Int) (i:Nat) (Ps ps) (Hs hs)) (G:=fun v=>O7 (Ps ps) (Hs hs) v) (n:=1) (F:=F0) (k:=0) (oe:=.exit 0) (fin:=y1t (Ps ps) (Hs hs)) (x5f (by omega)) (fun i a ha hpre=>?_) l.length 0 (by omega) (fun j b hj=>by omega)
 · rcases this with ⟨h1,h2⟩ | ⟨h1,h2⟩
   · rw [List.drop_zero] at h1;rw [h1];exact j3n hC c0 h2
   · rw [List.drop_zero] at h2;exact j3m hC c0 h2
 have hi:=C7 ha
 have g:=A7 (z5j ha)
 have b1:(i:Int)<((Ss l).length:Int):=by omega
 have b2:(0:Int)≤(i:Int):=by omega
 have p1:=x2s (E:=E) (ps:=ps) (hs:=Hs hs) (id:=a.pa) (by omega)
 have p2:=y8y (E:=E) (hs:=hs) (ps:=Ps ps) (id:=a.ho) (by omega)
 unfold fS
 by_cases c1:ixP ps a.pa<0
 · rw [if_pos c1];exact outp (by decide) (x4x b1 b2 g p1 c1)
 rw [if_neg c1]
 by_cases c2:ixH hs a.ho<0
 · rw [if_pos c2];exact outp (by decide) (x4y b1 b2 g p1 c1 p2 c2)
 rw [if_neg c2]
 by_cases c3:a.un<1
 · rw [if_pos c3];exact outp (by decide) (x4z b1 b2 g p1 c1 p2 c2 c3)
 rw [if_neg c3]
 have gp:=z1b (y1z c1)
 have hun:=j3w c0 (List.mem_of_getElem? (y1z c1))
 have hu2:a.un≤(pcAt ps a.pa).un→∀ b∈l.take (i+1),-9≤b.un∧b.un≤1000000000:=fun hle b hb=>by
  obtain ⟨j,hj⟩:=List.mem_iff_getElem?.1 hb
  rw [List.getElem?_take] at hj
  split at hj
  · rename_i hji
    by_cases e:j=i
    · rw [e,ha] at hj;cases hj;omega
    · have:=q6x (hpre j b (by omega) hj)
      have h2:=j3w c0 (List.mem_of_getElem? (y1z this.1))
      omega
  · cases hj
 have hu3:a.un≤(pcAt ps a.pa).un→Fn E O1 [.c (.list (Ss (l.take (i+1)))),.c (.i64 a.pa)] (.c (.i64 (unS (l.take (i+1)) a.pa))):=fun hle=>j3s (by rw [List.length_take];omega) (hu2 hle)
 have hsl:(0:Int)≤0∧(0:Int)≤((i+1:Nat):Int)∧((i+1:Nat):Int)≤(Ss l).length∧∀ x∈Ss l,x.length=3:=⟨by omega,by omega,by omega,fun x hx=>by obtain ⟨y,_,rfl⟩:=List.mem_map.1 hx;rfl⟩
 have htk:List.drop 0 ((Ss l).take (Int.toNat ((i+1:Nat):Int)))=Ss (l.take (i+1)):=by rw [List.drop_zero,Int.toNat_natCast,v3a]
 by_cases c8:0<i
 · obtain ⟨q,hq'⟩:=z0w (l:=l) (i:=i-1) (by omega)
   have po:=j3q (E:=E) q a
   rw [hq']
   by_cases c4:ordS q a≥0
   · rw [if_pos ⟨c8,c4⟩];exact outp (by decide) (x5a b1 b2 g p1 c1 p2 c2 c3 (by omega) (by omega) (A7 (z5j hq')) po c4 (wi (by omega)))
   rw [if_neg fun h=>c4 h.2]
   by_cases c5:a.un>(pcAt ps a.pa).un
   · rw [if_pos c5];exact outp (by decide) (x5b b1 b2 g p1 c1 p2 c2 c3 (by omega) (by omega) (A7 (z5j hq')) po c4 (by unfold ixP at c1;omega) gp c5 (wi (by omega)))
   rw [if_neg c5]
   by_cases c6:unS (l.take (i+1)) a.pa>(pcAt ps a.pa).un
   · rw [if_pos c6];exact outp (by decide) (x5c b1 b2 g p1 c1 p2 c2 c3 (by omega) (by omega) (A7 (z5j hq')) po c4 (by unfold ixP at c1;omega) gp c5 hsl (hu3 (by omega)) c6 (wi (by omega)) (wi (by omega)) htk)
   · rw [if_neg c6];exact inp fun o s ih=>k0l b1 b2 g p1 c1 p2 c2 c3 (by omega) (by omega) (A7 (z5j hq')) po c4 (by unfold ixP at c1;omega) gp c5 hsl (hu3 (by omega)) c6 (wi (by omega)) (wi (by omega)) htk ih
 · rw [if_neg fun h=>c8 h.1]
   by_cases c5:a.un>(pcAt ps a.pa).un
   · rw [if_pos c5];exact outp (by decide) (x5d b1 b2 g p1 c1 p2 c2 c3 (by omega) (by unfold ixP at c1;omega) gp c5)
   rw [if_neg c5]
   by_cases c6:unS (l.take (i+1)) a.pa>(pcAt ps a.pa).un
   · rw [if_pos c6];exact outp (by decide) (x5e b1 b2 g p1 c1 p2 c2 c3 (by omega) (by unfold ixP at c1;omega) gp c5 hsl (hu3 (by omega)) c6 (wi (by omega)) htk)
   · rw [if_neg c6];exact inp fun o s ih=>k0m b1 b2 g p1 c1 p2 c2 c3 (by omega) (by unfold ixP at c1;omega) gp c5 hsl (hu3 (by omega)) c6 (wi (by omega)) htk ih
structure LD where
 (m v w x y z:Rat)
def LD.d (t:LD):List DV:=[.str (B (decQ t.m)),.str (B (decQ t.v)),.str (B (decQ t.w)),.str (B (decQ t.x)),.str (B (decQ t.y)),.str (B (decQ t.z))]
def LD.o:LD:=⟨0,0,0,0,0,0⟩
noncomputable def ladN (ps:List Pc) (hs:List Hd) (t:LD) (s:Sw):LD :=
 ⟨t.m+(s.un:Rat)*rdv (pcAt ps s.pa).ma,t.v+(s.un:Rat)*rdv (pcAt ps s.pa).vo,t.w+(s.un:Rat)*rdv (pcAt ps s.pa).wo,
  t.x+(s.un:Rat)*rdv (pcAt ps s.pa).ma*rdv (hdAt hs s.ho).x,t.y+(s.un:Rat)*rdv (pcAt ps s.pa).ma*rdv (hdAt hs s.ho).y,t.z+(s.un:Rat)*rdv (pcAt ps s.pa).ma*rdv (hdAt hs s.ho).z⟩
noncomputable def lad (ps:List Pc) (hs:List Hd) (l:List Sw):LD:=l.foldl (ladN ps hs) LD.o
def LD.Z (t:LD) (K:Nat):Prop:=Sz t.m K∧Sz t.v K∧Sz t.w K∧Sz t.x K∧Sz t.y K∧Sz t.z K
structure Rg (ps:List Pc) (hs:List Hd) (l:List Sw):Prop where
 sh:Sh ps hs
 ok:chkC ps hs=0
 st:∀ s∈l,¬ ixP ps s.pa<0∧¬ ixH hs s.ho<0∧1≤s.un∧s.un≤9
 ln:l.length≤1000
theorem Rg.of {ps:List Pc} {hs:List Hd} {l:List Sw} (h:Sh ps hs) (hl:l.length≤1000)(h0:stwC ps hs l=0):Rg ps hs l:=by
 unfold stwC at h0
 by_cases c:chkC ps hs=0
 · rw [if_pos c] at h0
   refine ⟨h,c,fun s hs'=>?_,hl⟩
   obtain ⟨j,hj⟩:=List.mem_iff_getElem?.1 hs'
   have:=q6x (x1p h0 j s hj)
   have h2:=j3w c (List.mem_of_getElem? (y1z this.1))
   exact ⟨this.1,this.2.1,by omega,by omega⟩
 · rw [if_neg c] at h0;cases h0
theorem Rg.filter {ps:List Pc} {hs:List Hd} {l:List Sw} (h:Rg ps hs l) (p:Sw→Bool):Rg ps hs (l.filter p) :=
 ⟨h.sh,h.ok,fun s hs=>h.st s (List.mem_filter.1 hs).1,Nat.le_trans (List.length_filter_le p l) h.ln⟩
theorem v1j {ps:List Pc} {hs:List Hd} (h:chkC ps hs=0) {p:Pc} (hp:p∈ps):ok1 p.ma=true∧ok1 p.vo=true∧ok1 p.wo=true:=by
 have:=List.all_eq_true.1 (k6f h).1 p hp
 unfold okP at this
 simpa using this
theorem v1i {ps:List Pc} {hs:List Hd} (h:chkC ps hs=0) {p:Hd} (hp:p∈hs):ok1 p.ro=true∧ok1 p.mo=true∧ok1 p.x=true∧ok1 p.y=true∧ok1 p.z=true:=by
 have:=List.all_eq_true.1 (k6f h).2.1 p hp
 unfold okH at this
 simpa using this
theorem k9z (hlib:Lib E) {z:Int} (h:-9223372036854775808≤z∧z≤9223372036854775807):Fn E y6r [.c (.i64 z)] (Sq (z:Rat)):=by
 have:=j3p (hlib.itoa z h)
 rwa [show decZ z=decQ (z:Rat) from (k2y z).symm] at this
theorem q7o {ps:List Pc} {hs:List Hd} {l:List Sw} (h:Rg ps hs l) {s:Sw} (hs':s∈l) :
    (ok1 (pcAt ps s.pa).ma=true∧ok1 (pcAt ps s.pa).vo=true∧ok1 (pcAt ps s.pa).wo=true∧ok1 (hdAt hs s.ho).x=true∧ok1 (hdAt hs s.ho).y=true∧ok1 (hdAt hs s.ho).z=true)∧Sz (s.un:Rat) 1 ∧
    Sz (rdv (pcAt ps s.pa).ma) 40∧Sz (rdv (pcAt ps s.pa).vo) 40∧Sz (rdv (pcAt ps s.pa).wo) 40∧Sz (rdv (hdAt hs s.ho).x) 40∧Sz (rdv (hdAt hs s.ho).y) 40∧Sz (rdv (hdAt hs s.ho).z) 40:=by
 obtain ⟨h1,h2,h3,h4⟩:=h.st s hs'
 have m1:=List.mem_of_getElem? (y1z h1)
 have m2:=List.mem_of_getElem? (q3f h2)
 obtain ⟨a1,a2,a3⟩:=v1j h.ok m1
 obtain ⟨_,_,b1,b2,b3⟩:=v1i h.ok m2
 have s1:=h.sh.p _ m1
 have s2:=h.sh.h _ m2
 exact ⟨⟨a1,a2,a3,b1,b2,b3⟩,Sz.int (by decide) (by omega),z5k a1 s1.1,z5k a2 s1.2.1,z5k a3 s1.2.2,z5k b1 s2.2.2.1,z5k b2 s2.2.2.2.1,z5k b3 s2.2.2.2.2⟩
theorem q7b {ps:List Pc} {hs:List Hd} {l:List Sw} (h:Rg ps hs l) {s:Sw} (hs':s∈l) {t:LD} {K:Nat} (ht:t.Z K):(ladN ps hs t s).Z (K+100):=by
 obtain ⟨_,u,m,v,w,x,y,z⟩:=q7o h hs'
 obtain ⟨t1,t2,t3,t4,t5,t6⟩:=ht
 exact ⟨(t1.add (u.mul m)).mono (by omega),(t2.add (u.mul v)).mono (by omega),(t3.add (u.mul w)).mono (by omega),(t4.add ((u.mul m).mul x)).mono (by omega),(t5.add ((u.mul m).mul y)).mono (by omega),(t6.add ((u.mul m).mul z)).mono (by omega)⟩
theorem v0u {ps:List Pc} {hs:List Hd} {l:List Sw} (h:Rg ps hs l):∀ (r:List Sw) (t:LD) (K:Nat),(∀ s∈r,s∈l)→t.Z K→(r.foldl (ladN ps hs) t).Z (K+100*r.length)
 | [],t,K,_,ht=>ht
 | s::r,t,K,hr,ht=>by
  have:=v0u h r (ladN ps hs t s) (K+100) (fun x hx=>hr x (List.mem_cons_of_mem _ hx)) (q7b h (hr s List.mem_cons_self) ht)
  rw [List.foldl_cons,List.length_cons]
  rwa [show K+100*(r.length+1)=K+100+100*r.length by omega]
theorem LD.o_sz:LD.o.Z 1:=⟨Sz.zero,Sz.zero,Sz.zero,Sz.zero,Sz.zero,Sz.zero⟩
theorem x5h (hlib:Lib E) {ps:List Pc} {hs:List Hd} {l:List Sw} (h:Rg ps hs l):Fn E X4 [.agg [.list (Ps ps),.list (Hs hs)],.c (.list (Ss l))] (.agg (lad ps hs l).d):=by
 have hq:=x1i l
 have n1:=h.sh.np
 have n2:=h.sh.nh
 have hln:=h.ln
 have hL:=x4q
 have hz:(B (decQ 0))=(⟨#[48]⟩:BA):=by rw [k6j];rfl
 have:=H7 (E:=E) (l:=l) (n:=3) (F:=X4) (k:=0) (ladN ps hs) (fun i t=>t.Z (1+100*i))
  (fun i t=>z0n (Ss l) ((Ss l).length:Int) (i:Nat) (Ps ps) (Hs hs) ⟨#[]⟩ ⟨#[]⟩ ⟨#[]⟩ ⟨#[]⟩ ⟨#[]⟩ ⟨#[]⟩ (B (decQ t.m)) (B (decQ t.v)) (B (decQ t.w)) (B (decQ t.x)) (B (decQ t.y)) (B (decQ t.z))) (oe:=.exit 0)
  (fin:=fun t=>y3d (Ps ps) (Hs hs) ⟨#[]⟩ ⟨#[]⟩ ⟨#[]⟩ ⟨#[]⟩ ⟨#[]⟩ ⟨#[]⟩ (B (decQ t.m)) (B (decQ t.v)) (B (decQ t.w)) (B (decQ t.x)) (B (decQ t.y)) (B (decQ t.z))) (fun t _=>x8w (by omega))
  (fun i a t ha ht=>by
   have hi:=C7 ha
   have hm:=List.mem_of_getElem? ha
   refine ⟨by have:=q7b h hm ht;rwa [show 1+100*(i+1)=1+100*i+100 by omega],fun o s ih=>?_⟩
   obtain ⟨t1,t2,t3,t4,t5,t6⟩:=ht
   obtain ⟨h1,h2,h3,h4⟩:=h.st a hm
   obtain ⟨⟨k1,k2,k3,k4,k5,k6⟩,u,m,v,w,x,y,z⟩:=q7o h hm
   have p1:=x2s (E:=E) (ps:=ps) (hs:=Hs hs) (id:=a.pa) (by omega)
   have p2:=y8y (E:=E) (hs:=hs) (ps:=Ps ps) (id:=a.ho) (by omega)
   have g1:=z1b (y1z h1)
   have g2:=z8d (q3f h2)
   have nu:=k9z hlib (z:=a.un) (by omega)
   have q1:=z9e hlib u m (by omega)
   have q2:=z9e hlib u v (by omega)
   have q3:=z9e hlib u w (by omega)
   have q4:=z9e hlib (u.mul m) x (by omega)
   have q5:=z9e hlib (u.mul m) y (by omega)
   have q6:=z9e hlib (u.mul m) z (by omega)
   rw [z8f k1] at q1
   rw [z8f k2] at q2
   rw [z8f k3] at q3
   rw [z8f k4] at q4
   rw [z8f k5] at q5
   rw [z8f k6] at q6
   exact k2p (by omega) (by omega) (A7 (z5j ha)) p1 (by unfold ixP at h1;omega) g1 p2 (by unfold ixH at h2;omega) g2 nu q1 (z9d hlib t1 (u.mul m) (by omega)) q2 (z9d hlib t2 (u.mul v) (by omega)) q3 (z9d hlib t3 (u.mul w) (by omega))
    q4 (z9d hlib t4 ((u.mul m).mul x) (by omega)) q5 (z9d hlib t5 ((u.mul m).mul y) (by omega)) q6 (z9d hlib t6 ((u.mul m).mul z) (by omega)) (wi (by omega)) ih)
  l.length 0 LD.o (by omega) LD.o_sz
 rw [List.drop_zero] at this
 have h2:=this.2
 show Fn E X4 _ (.agg (LD.d (l.foldl (ladN ps hs) LD.o)))
 have e:(fun i:Nat=>z0n (Ss l) ((Ss l).length:Int) (i:Nat) (Ps ps) (Hs hs) ⟨#[]⟩ ⟨#[]⟩ ⟨#[]⟩ ⟨#[]⟩ ⟨#[]⟩ ⟨#[]⟩ (B (decQ LD.o.m)) (B (decQ LD.o.v)) (B (decQ LD.o.w)) (B (decQ LD.o.x)) (B (decQ LD.o.y)) (B (decQ LD.o.z))) 0=z0n (Ss l) ((Ss l).length:Int) 0 (Ps ps) (Hs hs) ⟨#[]⟩ ⟨#[]⟩ ⟨#[]⟩ ⟨#[]⟩ ⟨#[]⟩ ⟨#[]⟩ ⟨#[48]⟩ ⟨#[48]⟩ ⟨#[48]⟩ ⟨#[48]⟩ ⟨#[48]⟩ ⟨#[48]⟩:=by
  show z0n _ _ _ _ _ _ _ _ _ _ _ (B (decQ 0)) (B (decQ 0)) (B (decQ 0)) (B (decQ 0)) (B (decQ 0)) (B (decQ 0))=_
  rw [hz];rfl
 exact j7j (e ▸ h2)
theorem v3r {hs:List Hd} {h:Hd} (hh:h∈hs):¬ ixH hs h.id<0:=fun e=>by
 have:=z5n.1 e
 rw [List.any_eq_false] at this
 exact this h hh (by simp)
theorem x7g:1000000000≤Lim:=by rw [z2x];omega
theorem q1l {ps:List Pc} {hs:List Hd} {l:List Sw} (h:Rg ps hs l) (id:Int):Rg ps hs (inH l id):=h.filter _
theorem j7i (hlib:Lib E) (hc:Cs E) {ps:List Pc} {hs:List Hd} {l:List Sw} (h:Rg ps hs l)(h0:stwC ps hs l=0) (hu:∀ a∈l,-9223372036854775808≤a.un∧a.un≤9223372036854775807) {id:Int} (hi:¬ ixH hs id<0) :
    Fn E x1e [.agg [.list (Ps ps),.list (Hs hs)],.c (.list (Ss l)),.c (.i64 id)] (.tup [.agg (lad ps hs (inH l id)).d,.c (.i64 0)]):=by
 have n2:=h.sh.nh
 have hS:=y5a hlib h.sh h.ln hu
 exact q0n hS h0 (y8y (by omega)) hi (k9e hc h.ln) (x5h hlib (q1l h id))
noncomputable def ovH (ps:List Pc) (hs:List Hd) (l:List Sw) (h:Hd):Bool:=decide (cmpQ (lad ps hs (inH l h.id)).m (rdv h.mo)>0∨cmpQ (lad ps hs (inH l h.id)).v (rdv h.ro)>0)
theorem lad_Z {ps:List Pc} {hs:List Hd} {l:List Sw} (h:Rg ps hs l):(lad ps hs l).Z 100001:=by
 have:=v0u h l LD.o 1 (fun s hs=>hs) LD.o_sz
 have hl:=h.ln
 obtain ⟨t1,t2,t3,t4,t5,t6⟩:=this
 have e:1+100*l.length≤100001:=by omega
 exact ⟨t1.mono e,t2.mono e,t3.mono e,t4.mono e,t5.mono e,t6.mono e⟩
theorem x8t (hlib:Lib E) (hc:Cs E) {ps:List Pc} {hs:List Hd} {l:List Sw} (h:Sh ps hs) (hl:l.length≤1000) (hu:∀ a∈l,-9223372036854775808≤a.un∧a.un≤9223372036854775807) :
    Fn E z5d [.agg [.list (Ps ps),.list (Hs hs)],.c (.list (Ss l))] (if stwC ps hs l=0 then .tup [.c (.i64 (ix (ovH ps hs l) hs)),.c (.i64 0)] else .tup [.c (.i64 0),.c (.i64 1)]):=by
 have hS:=y5a hlib h hl hu
 by_cases h0:stwC ps hs l=0
 · rw [if_pos h0]
   have hr:=Rg.of h hl h0
   have n2:=h.nh
   have hL:=x4q
   refine k0k hS h0 (x3q (ovH ps hs l) (by omega) fun a ha=>?_)
   obtain ⟨a1,a2,_⟩:=v1i hr.ok ha
   have sz:=h.h a ha
   have z:=lad_Z (q1l hr a.id)
   have e1:=k9e hc (h:=a.id) hl
   have e2:=x5h hlib (q1l hr a.id)
   have k1:=y3c hlib z.1 (z5k a2 sz.2.1) (by omega)
   have k2:=y3c hlib z.2.1 (z5k a1 sz.1) (by omega)
   rw [z8f a2] at k1
   rw [z8f a1] at k2
   unfold ovH
   by_cases c1:cmpQ (lad ps hs (inH l a.id)).m (rdv a.mo)>0
   · rw [decide_eq_true (.inl c1)];exact x4u e1 e2 k1 c1
   by_cases c2:cmpQ (lad ps hs (inH l a.id)).v (rdv a.ro)>0
   · rw [decide_eq_true (.inr c2)];exact x4v e1 e2 k1 c1 k2 c2
   · rw [decide_eq_false fun h=>h.elim c1 c2];exact x4w e1 e2 k1 c1 k2 c2
 · rw [if_neg h0];exact k0j hS h0
theorem k2d (hlib:Lib E) {x y:List UInt8} (h:ok1 x=true) (k:x.length≤1000) (h':ok1 y=true) (k':y.length≤1000):Fn E K7 [.c (.str (B x)),.c (.str (B y))] (.c (.i64 (cmpQ (rdv x) (rdv y)))):=by
 have:=y8n (z9t hlib (z5k h k) (z5k h' k') (by have:=x4q;omega))
 rwa [q1a h,q1a h'] at this
noncomputable def emp (x:List UInt8):Bool:=x.isEmpty || ok1 x
theorem Z5 {x:List UInt8}:B x=(⟨#[]⟩:BA)↔x=[]:=by exact ⟨fun h=>y5p (h.trans q9p.symm),fun h=>by rw [h];rfl⟩
theorem x0y (hlib:Lib E) {x:List UInt8} (h:x.length≤40):Fn E z1a [.c (.str (B x))] (.c (.bool (emp x))):=by
 unfold emp
 cases x with
 | nil=>exact j1o rfl
 | cons a x=>exact j1p (fun e=>by cases Z5.1 e) (y2b hlib (by have:=x4q;omega))
def clB (n:Int):Bool:=decide (1≤n∧n≤9)
theorem X1 {n:Int} {b:Bool} (h:clB n=b):Fn E I7 [.c (.i64 n)] (.c (.bool b)):=by
 subst h
 unfold clB
 by_cases h1:n≥1
 · by_cases h2:n≤9
   · rw [decide_eq_true ⟨h1,h2⟩];exact k5n h1 h2
   · rw [decide_eq_false fun h=>h2 h.2];exact k5o h1 h2
 · rw [decide_eq_false fun h=>h1 h.1];exact k5p h1
def fO (ps:List Pc) (hs:List Hd) (r:Ru):Int :=
 if r.kd=2 then (if r.a≥r.b then 2 else if clB r.a=true then (if clB r.b=true then 0 else 2) else 2) else if r.kd=3 then (if clB r.a=true then (if (hs.any fun h=>h.id == r.b)=true then 0 else 7) else 2) else
 if r.b=0 then (if (ps.any fun p=>p.id == r.a)=true then 0 else 7) else 2
theorem k8r {ps:List Pc} {hs:List Hd} {rs:RW} {r:Ru} (n1:ps.length≤1000) (n2:hs.length≤1000):Fn E N4 [.agg [.list (Ps ps),.list (Hs hs),.list rs],.agg r.d] (.c (.i64 (fO ps hs r))):=by
 unfold fO
 by_cases k2:r.kd=2
 · rw [if_pos k2]
   by_cases c1:r.a≥r.b
   · rw [if_pos c1];exact j2b k2 c1
   rw [if_neg c1]
   cases c2:clB r.a with
   | false=>rw [if_neg (by simp)];exact j2e k2 c1 (X1 c2)
   | true =>
    rw [if_pos rfl]
    cases c3:clB r.b with
    | false=>rw [if_neg (by simp)];exact j2d k2 c1 (X1 c2) (X1 c3)
    | true=>rw [if_pos rfl];exact j2c k2 c1 (X1 c2) (X1 c3)
 rw [if_neg k2]
 by_cases k3:r.kd=3
 · rw [if_pos k3]
   have h:=(k0s (E:=E) (c0_0:=B r.nm) (c0_1:=r.kd) (c0_2:=R1 r.fs) (c0_3:=B r.lo) (c0_4:=B r.hi) (c0_5:=r.a) (c0_6:=r.b) (l:=hs) (fun h=>h.id == r.b) (by omega) fun a _=>by
    by_cases e:a.id=r.b
    · rw [show (a.id == r.b)=true by simp [e]];exact k5q e
    · rw [show (a.id == r.b)=false by simp [e]];exact k5r e).sub [1] (by decide) rfl (objs:=[some (.cells [.c (.list (Ps ps)),.c (.list (Hs hs)),.c (.list rs)]),some (.cells [.c (.str (B r.nm)),.c (.i64 r.kd),.c (.list (R1 r.fs)),.c (.str (B r.lo)),.c (.str (B r.hi)),.c (.i64 r.a),.c (.i64 r.b)])]) (by intro i hi;match i,hi with | 0,_=>rfl) (by simp [Ob.plain]) rfl rfl
   cases c2:clB r.a with
   | false=>rw [if_neg (by simp)];exact j2h k2 k3 (X1 c2)
   | true =>
    rw [if_pos rfl]
    cases c3:(hs.any fun h=>h.id == r.b) with
    | false=>rw [c3] at h;rw [if_neg (by simp)];exact j2g k2 k3 (X1 c2) h
    | true=>rw [c3] at h;rw [if_pos rfl];exact j2f k2 k3 (X1 c2) h
 rw [if_neg k3]
 by_cases c1:r.b=0
 · rw [if_pos c1]
   have h:=(k0t (E:=E) (c0_0:=B r.nm) (c0_1:=r.kd) (c0_2:=R1 r.fs) (c0_3:=B r.lo) (c0_4:=B r.hi) (c0_5:=r.a) (c0_6:=r.b) (l:=ps) (fun h=>h.id == r.a) (by omega) fun a _=>by
    by_cases e:a.id=r.a
    · rw [show (a.id == r.a)=true by simp [e]];exact k5s e
    · rw [show (a.id == r.a)=false by simp [e]];exact k5t e).sub [1] (by decide) rfl (objs:=[some (.cells [.c (.list (Ps ps)),.c (.list (Hs hs)),.c (.list rs)]),some (.cells [.c (.str (B r.nm)),.c (.i64 r.kd),.c (.list (R1 r.fs)),.c (.str (B r.lo)),.c (.str (B r.hi)),.c (.i64 r.a),.c (.i64 r.b)])]) (by intro i hi;match i,hi with | 0,_=>rfl) (by simp [Ob.plain]) rfl rfl
   cases c3:(ps.any fun h=>h.id == r.a) with
   | false=>rw [c3] at h;rw [if_neg (by simp)];exact j2k k2 k3 c1 h
   | true=>rw [c3] at h;rw [if_pos rfl];exact j2j k2 k3 c1 h
 · rw [if_neg c1];exact j2i k2 k3 c1
noncomputable def fR (ps:List Pc) (hs:List Hd) (rs:List Ru) (i:Nat) (r:Ru):Int :=
 if r.fs.all ok1=true∧emp r.lo=true∧emp r.hi=true then (if nmB r.nm=true then (if (rs.take i).any (fun x=>x.nm == r.nm)=true then 6 else if r.kd<1∨r.kd>4 then 2 else
  if r.kd=1 then (if r.fs.length=hs.length∧r.a=0∧r.b=0 then (if r.lo=[]∧r.hi=[] then 2 else if r.lo≠[]∧r.hi≠[]∧cmpQ (rdv r.lo) (rdv r.hi)>0 then 2 else 0) else 10) else
  if r.fs.length>0∨r.lo≠[]∨r.hi≠[] then 10 else fO ps hs r) else 4) else 1
def ShR (r:Ru):Prop:=r.fs.length≤8∧(∀ x∈r.fs,x.length≤40)∧r.lo.length≤40∧r.hi.length≤40∧r.nm.length≤70
theorem v2z (l:List Ru) (n:Nat):(Rs l).take n=Rs (l.take n):=by unfold Rs;rw [List.map_take]
theorem j4o {x:List UInt8} (h:emp x=true) (hx:x≠[]):ok1 x=true:=by
 unfold emp at h
 cases x with
 | nil=>exact absurd rfl hx
 | cons a x=>exact h
theorem k8o (hlib:Lib E) {ps:List Pc} {hs:List Hd} {rs:List Ru} {i:Nat} {r:Ru} (n1:ps.length≤1000) (n2:hs.length≤1000) (n3:rs.length≤1000) (hi:rs[i]?=some r) (hr:ShR r):Fn E D8 [.agg [.list (Ps ps),.list (Hs hs),.list (Rs rs)],.c (.i64 (i:Nat))] (.c (.i64 (fR ps hs rs i r))):=by
 have hlt:=C7 hi
 have b1:(0:Int)≤(i:Nat):=by omega
 have g:=A7 (y1s hi)
 have l2:=z2j hs
 have l3:=z8e rs
 have hnm:=P3 r.nm
 have hL:=x4q
 have v:=k0p (E:=E) (l:=r.fs) (fun x=>!ok1 x) (by have:=hr.1;omega) fun x hx=>k5g (y2b hlib (by have:=hr.2.1 x hx;omega))
 rw [show (r.fs.any fun x=>!ok1 x)=!r.fs.all ok1 from by rw [List.all_eq_not_any_not,Bool.not_not]] at v
 have v1:=x0y hlib hr.2.2.1
 have v2:=x0y hlib hr.2.2.2.1
 unfold fR
 cases c1:r.fs.all ok1 with
 | false=>rw [c1] at v;rw [if_neg (by simp)];exact j1q b1 g v
 | true =>
 rw [c1] at v
 cases c2:emp r.lo with
 | false=>rw [c2] at v1;rw [if_neg (by simp)];exact k8n b1 g v v1
 | true =>
 rw [c2] at v1
 cases c3:emp r.hi with
 | false=>rw [c3] at v2;rw [if_neg (by simp)];exact k8m b1 g v v1 v2
 | true =>
 rw [c3] at v2
 rw [if_pos ⟨rfl,rfl,rfl⟩]
 by_cases c4:r.nm.length<1
 · rw [if_neg (by unfold nmB;simp;omega)];exact j1r b1 g v v1 v2 (by omega)
 by_cases c5:r.nm.length>64
 · rw [if_neg (by unfold nmB;simp;omega)];exact j1s b1 g v v1 v2 (by omega) (by omega)
 rw [if_pos (by unfold nmB;simp;omega)]
 have d1:¬ ((B r.nm).size:Int)<1:=by omega
 have d2:¬ ((B r.nm).size:Int)>64:=by omega
 have hsl:(0:Int)≤0∧(0:Int)≤((i:Nat):Int)∧((i:Nat):Int)≤(Rs rs).length∧∀ x∈Rs rs,x.length=7:=⟨by omega,by omega,by omega,fun x hx=>by obtain ⟨y,_,rfl⟩:=List.mem_map.1 hx;rfl⟩
 have htk:List.drop 0 ((Rs rs).take (Int.toNat ((i:Nat):Int)))=Rs (rs.take i):=by rw [List.drop_zero,Int.toNat_natCast,v2z]
 have t:=(k0q (E:=E) (c0_0:=B r.nm) (c0_1:=r.kd) (c0_2:=R1 r.fs) (c0_3:=B r.lo) (c0_4:=B r.hi) (c0_5:=r.a) (c0_6:=r.b) (l:=rs.take i) (fun x=>x.nm == r.nm) (by rw [List.length_take];omega) fun a _=>by
     by_cases e:a.nm=r.nm
     · rw [show (a.nm == r.nm)=true by simp [e]];exact k5h (by rw [e])
     · rw [show (a.nm == r.nm)=false by simp [e]];exact k5i (fun h=>e (y5p h))).sub [1] (by decide) rfl (objs:=[some (.cells [.c (.list (Ps ps)),.c (.list (Hs hs)),.c (.list (Rs rs))]),some (.cells [.c (.str (B r.nm)),.c (.i64 r.kd),.c (.list (R1 r.fs)),.c (.str (B r.lo)),.c (.str (B r.hi)),.c (.i64 r.a),.c (.i64 r.b)])]) (by intro i hi;match i,hi with | 0,_=>rfl) (by simp [Ob.plain]) rfl rfl
 cases c6:(rs.take i).any (fun x=>x.nm == r.nm) with
 | true=>rw [c6] at t;rw [if_pos rfl];exact j1t b1 g v v1 v2 d1 d2 hsl t htk
 | false =>
 rw [c6] at t
 rw [if_neg (by simp)]
 by_cases c7:r.kd<1
 · rw [if_pos (.inl c7)];exact j1u b1 g v v1 v2 d1 d2 hsl t c7 htk
 by_cases c8:r.kd>4
 · rw [if_pos (.inr c8)];exact j1v b1 g v v1 v2 d1 d2 hsl t c7 c8 htk
 rw [if_neg fun h=>h.elim c7 c8]
 have hf:=z4f r.fs
 by_cases c9:r.kd=1
 · rw [if_pos c9]
   by_cases c10:r.fs.length=hs.length
   rotate_left
   · rw [if_neg fun h=>c10 h.1];exact j1w b1 g v v1 v2 d1 d2 hsl t c7 c8 c9 (by omega) htk
   have c10':((R1 r.fs).length:Int)=((Hs hs).length:Int):=by omega
   by_cases c11:r.a=0
   rotate_left
   · rw [if_neg fun h=>c11 h.2.1];exact j1x b1 g v v1 v2 d1 d2 hsl t c7 c8 c9 c10' c11 htk
   by_cases c12:r.b=0
   rotate_left
   · rw [if_neg fun h=>c12 h.2.2];exact j1y b1 g v v1 v2 d1 d2 hsl t c7 c8 c9 c10' c11 c12 htk
   rw [if_pos ⟨c10,c11,c12⟩]
   by_cases c13:r.lo=[]
   · by_cases c14:r.hi=[]
     · rw [if_pos ⟨c13,c14⟩];exact j1z b1 g v v1 v2 d1 d2 hsl t c7 c8 c9 c10' c11 c12 (Z5.2 c13) (Z5.2 c14) htk
     · rw [if_neg fun h=>c14 h.2,if_neg fun h=>h.1 c13];exact k8e b1 g v v1 v2 d1 d2 hsl t c7 c8 c9 c10' c11 c12 (Z5.2 c13) (fun h=>c14 (Z5.1 h)) htk
   · rw [if_neg fun h=>c13 h.1]
     by_cases c14:r.hi=[]
     · rw [if_neg fun h=>h.2.1 c14];exact k8h b1 g v v1 v2 d1 d2 hsl t c7 c8 c9 c10' c11 c12 (fun h=>c13 (Z5.1 h)) (Z5.2 c14) htk
     · have k:=k2d hlib (j4o c2 c13) (by have:=hr.2.2.1;omega) (j4o c3 c14) (by have:=hr.2.2.2.1;omega)
       by_cases c15:cmpQ (rdv r.lo) (rdv r.hi)>0
       · rw [if_pos ⟨c13,c14,c15⟩];exact k8f b1 g v v1 v2 d1 d2 hsl t c7 c8 c9 c10' c11 c12 (fun h=>c13 (Z5.1 h)) (fun h=>c14 (Z5.1 h)) k c15 htk
       · rw [if_neg fun h=>c15 h.2.2];exact k8g b1 g v v1 v2 d1 d2 hsl t c7 c8 c9 c10' c11 c12 (fun h=>c13 (Z5.1 h)) (fun h=>c14 (Z5.1 h)) k c15 htk
 rw [if_neg c9]
 by_cases c10:r.fs.length>0
 · rw [if_pos (.inl c10)];exact k8i b1 g v v1 v2 d1 d2 hsl t c7 c8 c9 (by omega) htk
 by_cases c11:r.lo=[]
 rotate_left
 · rw [if_pos (.inr (.inl c11))];exact k8j b1 g v v1 v2 d1 d2 hsl t c7 c8 c9 (by omega) (fun h=>c11 (Z5.1 h)) htk
 by_cases c12:r.hi=[]
 rotate_left
 · rw [if_pos (.inr (.inr c12))];exact k8k b1 g v v1 v2 d1 d2 hsl t c7 c8 c9 (by omega) (Z5.2 c11) (fun h=>c12 (Z5.1 h)) htk
 rw [if_neg fun h=>h.elim c10 fun h=>h.elim (fun h=>h c11) fun h=>h c12]
 exact k8l b1 g v v1 v2 d1 d2 hsl t c7 c8 c9 (by omega) (Z5.2 c11) (Z5.2 c12) (k8r n1 n2) htk
def fI {α:Type} (f:Nat→α→Int):Nat→List α→Int
 | _,[]=>-1
 | i,a::l=>if f i a=0 then fI f (i+1) l else i
theorem j4c {α:Type} {n F k:Nat} {l:List α} (f:Nat→α→Int) (st:Nat→St) {oe:Out} {fin:St} {G:Int→Int→St} (hend:Lp E n F k (st l.length) oe fin)
    (hstep:∀ i a,l[i]?=some a→(f i a=0→∀ o s,Lp E n F k (st (i+1)) o s→Lp E n F k (st i) o s)∧(f i a≠0→Lp E n F k (st i) .ret (G i (f i a)))):∀ d i:Nat,i+d=l.length →
    (fE f i (l.drop i)=0∧fI f i (l.drop i)=-1∧Lp E n F k (st i) oe fin)∨(fE f i (l.drop i)≠0∧Lp E n F k (st i) .ret (G (fI f i (l.drop i)) (fE f i (l.drop i))))
 | 0,i,hi=>by
  have e:i=l.length:=by omega
  rw [e,List.drop_length];exact .inl ⟨rfl,rfl,hend⟩
 | d+1,i,hi=>by
  obtain ⟨a,ha⟩:=z0w (l:=l) (i:=i) (by omega)
  rw [y7g ha]
  show (fE f i (a::l.drop (i+1))=0∧_)∨_
  unfold fE fI
  by_cases h0:f i a=0
  · rw [if_pos h0,if_pos h0]
    rcases j4c f st hend hstep d (i+1) (by omega) with ⟨h1,h2,h3⟩ | ⟨h1,h2⟩
    · exact .inl ⟨h1,h2,(hstep i a ha).1 h0 _ _ h3⟩
    · exact .inr ⟨h1,(hstep i a ha).1 h0 _ _ h2⟩
  · rw [if_neg h0,if_neg h0];exact .inr ⟨h0,(hstep i a ha).2 h0⟩
noncomputable def chkE (ps:List Pc) (hs:List Hd) (rs:List Ru):Int:=if chkC ps hs=0 then (if rs.length>16 then 8 else fE (fR ps hs rs) 0 rs) else chkC ps hs
noncomputable def chkN (ps:List Pc) (hs:List Hd) (rs:List Ru):Int:=if chkC ps hs=0 then (if rs.length>16 then -1 else fI (fR ps hs rs) 0 rs) else -1
structure Sp (ps:List Pc) (hs:List Hd) (rs:List Ru):Prop where
 sh:Sh ps hs
 nr:rs.length≤17
 r:∀ r∈rs,ShR r
def Pb (ps:List Pc) (hs:List Hd) (rs:List Ru):List DV:=[.list (Ps ps),.list (Hs hs),.list (Rs rs)]
theorem z4n (hlib:Lib E) {ps:List Pc} {hs:List Hd} {rs:List Ru} (h:Sp ps hs rs):Fn E H0 [.agg (Pb ps hs rs)] (.tup [.c (.i64 (chkN ps hs rs)),.c (.i64 (chkE ps hs rs))]):=by
 have hC:=x4t hlib h.sh
 have n1:=h.sh.np
 have n2:=h.sh.nh
 have n3:=h.nr
 have l3:=z8e rs
 unfold chkN chkE
 by_cases c0:chkC ps hs=0
 rotate_left
 · rw [if_neg c0,if_neg c0];exact j0z hC c0
 rw [if_pos c0,if_pos c0]
 by_cases c1:rs.length>16
 · rw [if_pos c1,if_pos c1];exact j1a hC c0 (by omega)
 rw [if_neg c1,if_neg c1]
 have:=j4c (E:=E) (l:=rs) (fR ps hs rs) (fun i=>Z9 ((Rs rs).length:Int) (i:Nat) (Ps ps) (Hs hs) (Rs rs)) (G:=fun i v=>y0q (Ps ps) (Hs hs) (Rs rs) i v) (n:=1) (F:=H0) (k:=0) (oe:=.exit 0) (fin:=y0r (Ps ps) (Hs hs) (Rs rs)) (x3z (by omega)) (fun i a ha=>by
  have hi:=C7 ha
  have hf:=k8o hlib (ps:=ps) (hs:=hs) (by omega) (by omega) (by omega) ha (h.r a (List.mem_of_getElem? ha))
  exact ⟨fun e o s ih=>x9i (by omega) hf e (wi (by omega)) ih,fun e=>x3y (by omega) hf e⟩) rs.length 0 (by omega)
 rw [List.drop_zero] at this
 rcases this with ⟨h1,h2,h3⟩ | ⟨h1,h2⟩
 · rw [h1,h2];exact j1c hC c0 (by omega) h3
 · exact j1b hC c0 (by omega) h2
structure Sl (l:List Sw):Prop where
 n:l.length≤1000
 u:∀ a∈l,-9223372036854775808≤a.un∧a.un≤9223372036854775807
noncomputable def rgtB (ps:List Pc) (hs:List Hd) (rs:List Ru) (l:List Sw):Bool:=decide (chkE ps hs rs=0∧stwC ps hs l=0)
theorem z9l (hlib:Lib E) {ps:List Pc} {hs:List Hd} {rs:List Ru} {l:List Sw} (h:Sp ps hs rs) (hl:Sl l):Fn E P2 [.agg (Pb ps hs rs),.c (.list (Ss l))] (.c (.bool (rgtB ps hs rs l))):=by
 have hC:=z4n hlib h
 have hS:=y5a hlib h.sh hl.n hl.u
 unfold rgtB
 by_cases c0:chkE ps hs rs=0
 · by_cases c1:stwC ps hs l=0
   · rw [decide_eq_true ⟨c0,c1⟩];exact j2l hC c0 hS c1
   · rw [decide_eq_false fun h=>c1 h.2];exact j2m hC c0 hS c1
 · rw [decide_eq_false fun h=>c0 h.1];exact j2n hC c0
theorem y9u {ps:List Pc} {hs:List Hd} {rs:List Ru} (h:chkE ps hs rs=0):chkC ps hs=0∧rs.length≤16∧fE (fR ps hs rs) 0 rs=0:=by
 unfold chkE at h
 by_cases c0:chkC ps hs=0
 · rw [if_pos c0] at h
   by_cases c1:rs.length>16
   · rw [if_pos c1] at h;cases h
   · rw [if_neg c1] at h;exact ⟨c0,by omega,h⟩
 · rw [if_neg c0] at h;exact absurd h c0
theorem k3e {ps:List Pc} {hs:List Hd} {rs:List Ru} {i:Nat} {r:Ru} (h:fR ps hs rs i r=0):(r.fs.all ok1=true∧emp r.lo=true∧emp r.hi=true)∧(1≤r.kd∧r.kd≤4)∧(r.kd=1→r.fs.length=hs.length)∧(r.kd≠1→fO ps hs r=0)∧(rs.take i).any (fun x=>x.nm == r.nm)=false:=by
 unfold fR at h
 by_cases c1:r.fs.all ok1=true∧emp r.lo=true∧emp r.hi=true
 rotate_left
 · rw [if_neg c1] at h;cases h
 rw [if_pos c1] at h
 by_cases c2:nmB r.nm=true
 rotate_left
 · rw [if_neg c2] at h;cases h
 rw [if_pos c2] at h
 by_cases c3:(rs.take i).any (fun x=>x.nm == r.nm)=true
 · rw [if_pos c3] at h;cases h
 rw [if_neg c3] at h
 by_cases c4:r.kd<1∨r.kd>4
 · rw [if_pos c4] at h;cases h
 rw [if_neg c4] at h
 have c3':(rs.take i).any (fun x=>x.nm == r.nm)=false:=by cases e:(rs.take i).any (fun x=>x.nm == r.nm) with | true=>exact absurd e c3 | false=>rfl
 by_cases c5:r.kd=1
 · rw [if_pos c5] at h
   by_cases c6:r.fs.length=hs.length∧r.a=0∧r.b=0
   · exact ⟨c1,by omega,fun _=>c6.1,fun e=>absurd c5 e,c3'⟩
   · rw [if_neg c6] at h;cases h
 · rw [if_neg c5] at h
   by_cases c6:r.fs.length>0∨r.lo≠[]∨r.hi≠[]
   · rw [if_pos c6] at h;cases h
   · rw [if_neg c6] at h;exact ⟨c1,by omega,fun e=>absurd e c5,fun _=>h,c3'⟩
structure Rr (ps:List Pc) (hs:List Hd) (r:Ru):Prop where
 f:r.fs.length=hs.length
 o:∀ x∈r.fs,ok1 x=true
 s:ShR r
 lo:emp r.lo=true
 hi:emp r.hi=true
theorem Rr.of {ps:List Pc} {hs:List Hd} {rs:List Ru} (h:Sp ps hs rs)(h0:chkE ps hs rs=0) {i:Nat} {r:Ru} (hi:rs[i]?=some r) (hk:r.kd=1):Rr ps hs r:=by
 have hz:=x1p (y9u h0).2.2 i r hi
 rw [Nat.zero_add] at hz
 have:=k3e hz
 exact ⟨this.2.2.1 hk,List.all_eq_true.1 this.1.1,h.r r (List.mem_of_getElem? hi),this.1.2.1,this.1.2.2⟩
theorem j6o (hlib:Lib E) {a b:Rat} {K L:Nat} (ha:Sz a K) (hb:Sz b L) (h:K+L+1≤Lim):Fn E y8v [Sq a,Sq b] (Sq (a+b)):=j8r (x3a hlib ha hb h)
theorem y2m (hlib:Lib E) {a b:Rat} {K L:Nat} (ha:Sz a K) (hb:Sz b L) (h:K+L+1≤Lim):Fn E U7 [Sq a,Sq b] (Sq (a-b)):=j8t (j0j hlib ha hb h)
theorem y7l (hlib:Lib E) {a b:Rat} {K L:Nat} (ha:Sz a K) (hb:Sz b L) (h:K+L≤Lim):Fn E z9z [Sq a,Sq b] (Sq (a*b)):=j8s (x3b hlib ha hb h)
theorem y0z (hlib:Lib E) {a b:Rat} {K L:Nat} (ha:Sz a K) (hb:Sz b L) (h:K+L≤Lim):Fn E K7 [Sq a,Sq b] (.c (.i64 (cmpQ a b))):=y8n (z9t hlib ha hb h)
noncomputable def sumS (ps:List Pc) (hs:List Hd) (fs:List (List UInt8)) (l:List Sw):Rat:=(hs.zip fs).foldl (fun s x=>s+rdv x.2*(lad ps hs (inH l x.1.id)).m) 0
theorem v4r {α β:Type} {a:List α} {b:List β} {i:Nat} {x:α × β} (h:(a.zip b)[i]?=some x):a[i]?=some x.1∧b[i]?=some x.2:=by
 rw [List.getElem?_zip_eq_some] at h
 exact h
theorem y7m (hlib:Lib E) (hc:Cs E) {ps:List Pc} {hs:List Hd} {r:Ru} {rs:RW} {l:List Sw} (h:Rg ps hs l)(h0:stwC ps hs l=0) (hl:Sl l) (hr:Rr ps hs r) :
    Fn E z0g [.agg [.list (Ps ps),.list (Hs hs),.list rs],.agg r.d,.c (.list (Ss l))] (Sq (sumS ps hs r.fs l))∧Sz (sumS ps hs r.fs l) 1000000:=by
 have n2:=h.sh.nh
 have l2:=z2j hs
 have hL:=x7g
 have hf:=hr.f
 have hz:(B (decQ 0))=(⟨#[48]⟩:BA):=by rw [k6j];rfl
 have hlen:(hs.zip r.fs).length=hs.length:=by rw [List.length_zip];omega
 have:=H7 (E:=E) (l:=hs.zip r.fs) (n:=2) (F:=z0g) (k:=0) (fun (s:Rat) x=>s+rdv x.2*(lad ps hs (inH l x.1.id)).m) (fun i s=>Sz s (1+100100*i))
  (fun i s=>z8x (Ss l) (B (decQ s)) (Hs hs) ((Hs hs).length:Int) (i:Nat) (Ps ps) (Hs hs) rs (B r.nm) r.kd (R1 r.fs) (B r.lo) (B r.hi) r.a r.b) (oe:=.exit 0)
  (fin:=fun s=>y3y (Ps ps) (Hs hs) rs (B r.nm) r.kd (R1 r.fs) (B r.lo) (B r.hi) r.a r.b (B (decQ s))) (fun s _=>x9w (by omega))
  (fun i a s ha hs'=>by
   have hi:=C7 ha
   obtain ⟨g1,g2⟩:=v4r ha
   have hm:=List.mem_of_getElem? g1
   have z:=lad_Z (q1l h a.1.id)
   have ok:=hr.o _ (List.mem_of_getElem? g2)
   have sf:=z5k ok (hr.s.2.1 _ (List.mem_of_getElem? g2))
   have q:=y7l hlib sf z.1 (by omega)
   rw [z8f ok] at q
   exact ⟨(hs'.add (sf.mul z.1)).mono (by omega),fun o st ih=>k5u (by omega) (by omega) (A7 (z8d g1)) (j7i hlib hc h h0 hl.u (v3r hm)) (A7 (x1h g2)) q (j6o hlib hs' (sf.mul z.1) (by omega)) (wi (by omega)) ih⟩)
  (hs.zip r.fs).length 0 0 (by omega) Sz.zero
 rw [List.drop_zero] at this
 refine ⟨j8u ?_,this.1.mono (by omega)⟩
 have h2:=this.2
 rw [hz] at h2
 exact h2
noncomputable def exS (r:Ru) (s:Rat):Rat:=if r.hi≠[]∧cmpQ s (rdv r.hi)>0 then s-rdv r.hi else if r.lo≠[]∧cmpQ s (rdv r.lo)<0 then s-rdv r.lo else 0
theorem y8o (hlib:Lib E) {ps:List Pc} {hs:List Hd} {r:Ru} (hr:Rr ps hs r) {s:Rat} (hs':Sz s 1000000):Fn E P5 [.agg r.d,Sq s] (Sq (exS r s))∧Sz (exS r s) 1000100:=by
 have hL:=x7g
 have z0:(AV.c (.str (⟨#[48]⟩:BA)))=Sq 0:=y9t
 have kh:r.hi≠[]→(Fn E K7 [Sq s,.c (.str (B r.hi))] (.c (.i64 (cmpQ s (rdv r.hi))))∧Fn E U7 [Sq s,.c (.str (B r.hi))] (Sq (s-rdv r.hi)))∧Sz (s-rdv r.hi) 1000100:=fun e=>by
  have o:=j4o hr.hi e
  have z:=z5k o hr.s.2.2.2.1
  have a:=y0z hlib hs' z (by omega)
  have b:=y2m hlib hs' z (by omega)
  rw [z8f o] at a b
  exact ⟨⟨a,b⟩,(hs'.sub z).mono (by omega)⟩
 have kl:r.lo≠[]→(Fn E K7 [Sq s,.c (.str (B r.lo))] (.c (.i64 (cmpQ s (rdv r.lo))))∧Fn E U7 [Sq s,.c (.str (B r.lo))] (Sq (s-rdv r.lo)))∧Sz (s-rdv r.lo) 1000100:=fun e=>by
  have o:=j4o hr.lo e
  have z:=z5k o hr.s.2.2.1
  have a:=y0z hlib hs' z (by omega)
  have b:=y2m hlib hs' z (by omega)
  rw [z8f o] at a b
  exact ⟨⟨a,b⟩,(hs'.sub z).mono (by omega)⟩
 unfold exS
 by_cases c1:r.hi=[]
 · rw [if_neg fun h=>h.1 c1]
   by_cases c2:r.lo=[]
   · rw [if_neg fun h=>h.1 c2,← z0];exact ⟨k8d (Z5.2 c1) (Z5.2 c2),Sz.zero.mono (by omega)⟩
   · have k:=kl c2
     by_cases c3:cmpQ s (rdv r.lo)<0
     · rw [if_pos ⟨c2,c3⟩];exact ⟨k8b (Z5.2 c1) (fun h=>c2 (Z5.1 h)) k.1.1 c3 k.1.2,k.2⟩
     · rw [if_neg fun h=>c3 h.2,← z0];exact ⟨k8c (Z5.2 c1) (fun h=>c2 (Z5.1 h)) k.1.1 c3,Sz.zero.mono (by omega)⟩
 · have k':=kh c1
   by_cases c0:cmpQ s (rdv r.hi)>0
   · rw [if_pos ⟨c1,c0⟩];exact ⟨k7x (fun h=>c1 (Z5.1 h)) k'.1.1 c0 k'.1.2,k'.2⟩
   rw [if_neg fun h=>c0 h.2]
   by_cases c2:r.lo=[]
   · rw [if_neg fun h=>h.1 c2,← z0];exact ⟨k8a (fun h=>c1 (Z5.1 h)) k'.1.1 c0 (Z5.2 c2),Sz.zero.mono (by omega)⟩
   · have k:=kl c2
     by_cases c3:cmpQ s (rdv r.lo)<0
     · rw [if_pos ⟨c2,c3⟩];exact ⟨k7y (fun h=>c1 (Z5.1 h)) k'.1.1 c0 (fun h=>c2 (Z5.1 h)) k.1.1 c3 k.1.2,k.2⟩
     · rw [if_neg fun h=>c3 h.2,← z0];exact ⟨k7z (fun h=>c1 (Z5.1 h)) k'.1.1 c0 (fun h=>c2 (Z5.1 h)) k.1.1 c3,Sz.zero.mono (by omega)⟩
noncomputable def smE (ps:List Pc) (hs:List Hd) (rs:List Ru) (rule:Int) (l:List Sw):Int :=
 if rgtB ps hs rs l=true then (if rule<0∨rule≥rs.length then 7 else if ((rs[rule.toNat]?).map Ru.kd).getD 0=1 then 0 else 10) else 1
def ruAt (rs:List Ru) (rule:Int):Ru:=(rs[rule.toNat]?).getD ⟨[],0,[],[],[],0,0⟩
noncomputable def sumT (ps:List Pc) (hs:List Hd) (rs:List Ru) (rule:Int) (l:List Sw):List UInt8:=if smE ps hs rs rule l=0 then decQ (sumS ps hs (ruAt rs rule).fs l) else []
noncomputable def excT (ps:List Pc) (hs:List Hd) (rs:List Ru) (rule:Int) (l:List Sw):List UInt8:=if smE ps hs rs rule l=0 then decQ (exS (ruAt rs rule) (sumS ps hs (ruAt rs rule).fs l)) else []
theorem j6b {ps:List Pc} {hs:List Hd} {rs:List Ru} {l:List Sw} (h:Sp ps hs rs) (hl:Sl l) (hg:rgtB ps hs rs l=true):chkE ps hs rs=0∧stwC ps hs l=0∧Rg ps hs l:=by
 unfold rgtB at hg
 have:=of_decide_eq_true hg
 exact ⟨this.1,this.2,Rg.of h.sh hl.n this.2⟩
theorem q4v {ps:List Pc} {hs:List Hd} {rs:List Ru} {rule:Int} {l:List Sw} (h:smE ps hs rs rule l=0):rgtB ps hs rs l=true∧¬ rule<0∧¬ rule≥rs.length∧rs[rule.toNat]?=some (ruAt rs rule)∧(ruAt rs rule).kd=1:=by
 unfold smE at h
 cases c0:rgtB ps hs rs l with
 | false=>rw [c0] at h;cases h
 | true =>
  rw [c0,if_pos rfl] at h
  by_cases c1:rule<0∨rule≥rs.length
  · rw [if_pos c1] at h;cases h
  rw [if_neg c1] at h
  obtain ⟨r,hr⟩:=z0w (l:=rs) (i:=rule.toNat) (by omega)
  have e:ruAt rs rule=r:=by unfold ruAt;rw [hr];rfl
  rw [hr] at h
  rw [e]
  by_cases c2:r.kd=1
  · exact ⟨rfl,by omega,by omega,hr,c2⟩
  · rw [show ((if ((some r).map Ru.kd).getD 0=1 then (0:Int) else 10))=10 from if_neg c2] at h;cases h
theorem y8p (hlib:Lib E) (hc:Cs E) {ps:List Pc} {hs:List Hd} {rs:List Ru} {rule:Int} {l:List Sw} (h:Sp ps hs rs) (hl:Sl l) :
    Fn E V8 [.agg (Pb ps hs rs),.c (.i64 rule),.c (.list (Ss l))] (.tup [.c (.str (B (sumT ps hs rs rule l))),.c (.i64 (smE ps hs rs rule l))]):=by
 have hR:=z9l hlib h hl
 have l3:=z8e rs
 by_cases h0:smE ps hs rs rule l=0
 · obtain ⟨g0,g1,g2,g3,g4⟩:=q4v h0
   rw [g0] at hR
   obtain ⟨k1,k2,k3⟩:=j6b h hl g0
   unfold sumT
   rw [if_pos h0,h0]
   exact k8v hR g1 (by omega) (by omega) (y1s g3) g4 (y7m hlib hc k3 k2 hl (Rr.of h k1 g3 g4)).1
 · unfold sumT
   rw [if_neg h0]
   unfold smE at h0 ⊢
   cases c0:rgtB ps hs rs l with
   | false=>rw [c0] at hR;rw [if_neg (by simp)];exact k8w hR
   | true =>
    rw [c0] at hR
    rw [c0,if_pos rfl] at h0
    rw [if_pos rfl]
    by_cases c1:rule<0
    · rw [if_pos (.inl c1)];exact k8s hR c1
    by_cases c2:rule≥rs.length
    · rw [if_pos (.inr c2)];exact k8t hR c1 (by omega)
    rw [if_neg fun h=>h.elim c1 c2] at h0 ⊢
    obtain ⟨r,hr⟩:=z0w (l:=rs) (i:=rule.toNat) (by omega)
    rw [hr] at h0 ⊢
    by_cases c3:r.kd=1
    · exact absurd (if_pos c3) h0
    · rw [show ((if ((some r).map Ru.kd).getD 0=1 then (0:Int) else 10))=10 from if_neg c3]
      exact k8u hR c1 (by omega) (by omega) (y1s hr) c3
theorem j6n (hlib:Lib E) (hc:Cs E) {ps:List Pc} {hs:List Hd} {rs:List Ru} {rule:Int} {l:List Sw} (h:Sp ps hs rs) (hl:Sl l) :
    Fn E y8u [.agg (Pb ps hs rs),.c (.i64 rule),.c (.list (Ss l))] (.tup [.c (.str (B (sumT ps hs rs rule l))),.c (.i64 (smE ps hs rs rule l))]):=j8q (y8p hlib hc h hl)
theorem k4w (hlib:Lib E) (hc:Cs E) {ps:List Pc} {hs:List Hd} {rs:List Ru} {rule:Int} {l:List Sw} (h:Sp ps hs rs) (hl:Sl l) :
    Fn E z9a [.agg (Pb ps hs rs),.c (.i64 rule),.c (.list (Ss l))] (.tup [.c (.str (B (excT ps hs rs rule l))),.c (.i64 (smE ps hs rs rule l))]):=by
 have hS:=y8p hlib hc (rule:=rule) h hl
 unfold excT
 by_cases h0:smE ps hs rs rule l=0
 · obtain ⟨g0,g1,g2,g3,g4⟩:=q4v h0
   obtain ⟨k1,k2,k3⟩:=j6b h hl g0
   have hr:=Rr.of h k1 g3 g4
   unfold sumT at hS
   rw [if_pos h0,h0] at hS
   rw [if_pos h0,h0]
   exact k7t hS rfl (by omega) (y1s g3) (y8o hlib hr (y7m hlib hc (rs:=[]) k3 k2 hl hr).2).1
 · rw [if_neg h0];exact k7s hS h0
def y1d (ps:List Pc) (id:Int):Int:=(pcAt ps id).cl
theorem z9k {ps:List Pc} {hs rs:RW} {id:Int} (hn:ps.length≤1000) (h:¬ ixP ps id<0):Fn E z0z [.agg [.list (Ps ps),.list hs,.list rs],.c (.i64 id)] (.c (.i64 (y1d ps id))):=by
 have t:=(k1b (E:=E) (c0_0:=id) (l:=ps) (fun p=>p.id == id) (by omega) fun a _=>by
  by_cases e:a.id=id
  · rw [show (a.id == id)=true by simp [e]];exact k5e e
  · rw [show (a.id == id)=false by simp [e]];exact k5f e).sub [1] (by decide) rfl (objs:=[some (.cells [.c (.list (Ps ps)),.c (.list hs),.c (.list rs)]),some (.cells [.c (.i64 id)])]) (by intro i hi;match i,hi with | 0,_=>rfl) (by simp [Ob.plain]) rfl rfl
 have g:=z1b (y1z h)
 exact j1n t (by unfold ixP at h;omega) g
def aptB (ps:List Pc) (r:Ru) (l:List Sw):Bool:=l.any fun a=>l.any fun b=>a.ho == b.ho && (y1d ps a.pa == r.a && y1d ps b.pa == r.b)
def nevB (ps:List Pc) (r:Ru) (l:List Sw):Bool:=l.any fun s=>s.ho == r.b && y1d ps s.pa == r.a
def whoB (ps:List Pc) (r:Ru) (l:List Sw):Bool:=decide ((pcAt ps r.a).un-unS l r.a>0)
theorem q2o {α:Type} {l:List α} {p:α→Bool} (h:∀ j a,0≤j→l[j]?=some a→p a=false):l.any p=false:=by
 rw [List.any_eq_false];intro a ha
 obtain ⟨j,hj⟩:=List.mem_iff_getElem?.1 ha
 rw [h j a (Nat.zero_le _) hj];simp
theorem q2p {α:Type} {l:List α} {p:α→Bool} {j:Nat} {a:α} (h:l[j]?=some a) (hp:p a=true):l.any p=true:=List.any_eq_true.2 ⟨a,List.mem_of_getElem? h,hp⟩
theorem k7v {ps:List Pc} {hs:List Hd} {rs:RW} {r:Ru} {l:List Sw} (h:Rg ps hs l):Fn E C5 [.agg [.list (Ps ps),.list (Hs hs),.list rs],.agg r.d,.c (.list (Ss l))] (.c (.bool (aptB ps r l))):=by
 have n1:=h.sh.np
 have hln:=h.ln
 have hq:=x1i l
 have inner:∀ (i:Nat) (a:Sw),l[i]?=some a →
     ((l.any fun b=>a.ho == b.ho && (y1d ps a.pa == r.a && y1d ps b.pa == r.b))=false∧Lp E 3 C5 1 (I4 (Ss l) (Ss l) ((Ss l).length:Int) (i:Nat) (Ss l) ((Ss l).length:Int) 0 (Ps ps) (Hs hs) rs (B r.nm) r.kd (R1 r.fs) (B r.lo) (B r.hi) r.a r.b a.ho a.pa a.un) (.exit 2) (z6j (Ss l) (Ss l) ((Ss l).length:Int) (i:Nat) (Ps ps) (Hs hs) rs (B r.nm) r.kd (R1 r.fs) (B r.lo) (B r.hi) r.a r.b a.ho a.pa a.un)) ∨
     ((l.any fun b=>a.ho == b.ho && (y1d ps a.pa == r.a && y1d ps b.pa == r.b))=true∧Lp E 3 C5 1 (I4 (Ss l) (Ss l) ((Ss l).length:Int) (i:Nat) (Ss l) ((Ss l).length:Int) 0 (Ps ps) (Hs hs) rs (B r.nm) r.kd (R1 r.fs) (B r.lo) (B r.hi) r.a r.b a.ho a.pa a.un) .ret (z6i (Ps ps) (Hs hs) rs (B r.nm) r.kd (R1 r.fs) (B r.lo) (B r.hi) r.a r.b a.ho a.pa a.un)):=fun i a ha=>by
  have ka:=z9k (E:=E) (hs:=Hs hs) (rs:=rs) (by omega) (h.st a (List.mem_of_getElem? ha)).1
  have:=M9 (E:=E) (l:=l) (n:=3) (F:=C5) (k:=1) (fun _ b=>a.ho == b.ho && (y1d ps a.pa == r.a && y1d ps b.pa == r.b)) (fun j=>I4 (Ss l) (Ss l) ((Ss l).length:Int) (i:Nat) (Ss l) ((Ss l).length:Int) (j:Nat) (Ps ps) (Hs hs) rs (B r.nm) r.kd (R1 r.fs) (B r.lo) (B r.hi) r.a r.b a.ho a.pa a.un)
   (oe:=.exit 2) (fin:=z6j (Ss l) (Ss l) ((Ss l).length:Int) (i:Nat) (Ps ps) (Hs hs) rs (B r.nm) r.kd (R1 r.fs) (B r.lo) (B r.hi) r.a r.b a.ho a.pa a.un) (fun _ _ o s=>o=.ret∧s=z6i (Ps ps) (Hs hs) rs (B r.nm) r.kd (R1 r.fs) (B r.lo) (B r.hi) r.a r.b a.ho a.pa a.un) (x4k (by omega))
   (fun j b hb hf o s ih=>by
    have hj:=C7 hb
    have kb:=z9k (E:=E) (hs:=Hs hs) (rs:=rs) (by omega) (h.st b (List.mem_of_getElem? hb)).1
    by_cases c1:a.ho=b.ho
    · by_cases c2:y1d ps a.pa=r.a
      · by_cases c3:y1d ps b.pa=r.b
        · exfalso;simp [c1,c2,c3] at hf
        · exact x9t (by omega) (by omega) (A7 (z5j hb)) c1 ka c2 kb c3 (wi (by omega)) ih
      · exact x9u (by omega) (by omega) (A7 (z5j hb)) c1 ka c2 (wi (by omega)) ih
    · exact x9v (by omega) (by omega) (A7 (z5j hb)) c1 (wi (by omega)) ih)
   (fun j b hb hf=>by
    have hj:=C7 hb
    have kb:=z9k (E:=E) (hs:=Hs hs) (rs:=rs) (by omega) (h.st b (List.mem_of_getElem? hb)).1
    simp only [Bool.and_eq_true,beq_iff_eq] at hf
    exact ⟨_,_,⟨rfl,rfl⟩,x4j (by omega) (by omega) (A7 (z5j hb)) hf.1 ka hf.2.1 kb hf.2.2⟩) l.length 0 (by omega)
  rcases this with ⟨h1,h2⟩ | ⟨j,b,o,s,h1,h2,h3,h4,⟨rfl,rfl⟩,h5⟩
  · exact .inl ⟨q2o h1,h2⟩
  · exact .inr ⟨q2p h2 h3,h5⟩
 have:=M9 (E:=E) (l:=l) (n:=2) (F:=C5) (k:=0) (fun _ a=>l.any fun b=>a.ho == b.ho && (y1d ps a.pa == r.a && y1d ps b.pa == r.b)) (fun j=>z0b (Ss l) (Ss l) ((Ss l).length:Int) (j:Nat) (Ps ps) (Hs hs) rs (B r.nm) r.kd (R1 r.fs) (B r.lo) (B r.hi) r.a r.b)
     (oe:=.exit 0) (fin:=y0y (Ps ps) (Hs hs) rs (B r.nm) r.kd (R1 r.fs) (B r.lo) (B r.hi) r.a r.b) (fun _ _ o s=>o=.ret∧s=y0x (Ps ps) (Hs hs) rs (B r.nm) r.kd (R1 r.fs) (B r.lo) (B r.hi) r.a r.b) (x4i (by omega))
     (fun i a ha hf o s ih=>by
      have hi:=C7 ha
      rcases inner i a ha with ⟨h1,h2⟩ | ⟨h1,h2⟩
      · exact x9s (by omega) (by omega) (A7 (z5j ha)) h2 (wi (by omega)) ih
      · exact absurd (h1.symm.trans hf) (by simp))
     (fun i a ha hf=>by
      have hi:=C7 ha
      rcases inner i a ha with ⟨h1,h2⟩ | ⟨h1,h2⟩
      · exact absurd (h1.symm.trans hf) (by simp)
      · exact ⟨_,_,⟨rfl,rfl⟩,x4h (by omega) (by omega) (A7 (z5j ha)) h2⟩) l.length 0 (by omega)
 unfold aptB
 rcases this with ⟨h1,h2⟩ | ⟨j,b,o,s,h1,h2,h3,h4,⟨rfl,rfl⟩,h5⟩
 · rw [q2o h1];exact j1m h2
 · rw [q2p h2 h3];exact j1l h5
theorem k8p {ps:List Pc} {hs:List Hd} {rs:RW} {r:Ru} {l:List Sw} (h:Rg ps hs l):Fn E z3g [.agg [.list (Ps ps),.list (Hs hs),.list rs],.agg r.d,.c (.list (Ss l))] (.c (.bool (nevB ps r l))):=by
 have n1:=h.sh.np
 have hln:=h.ln
 have t:=k0r (E:=E) (c0_0:=B r.nm) (c0_1:=r.kd) (c0_2:=R1 r.fs) (c0_3:=B r.lo) (c0_4:=B r.hi) (c0_5:=r.a) (c0_6:=r.b) (c1_0:=Ps ps) (c1_1:=Hs hs) (c1_2:=rs) (l:=l) (fun s=>s.ho == r.b && y1d ps s.pa == r.a) (by omega) fun a ha=>by
  have ka:=z9k (E:=E) (hs:=Hs hs) (rs:=rs) (by omega) (h.st a ha).1
  by_cases c1:a.ho=r.b
  · by_cases c2:y1d ps a.pa=r.a
    · rw [show (a.ho == r.b && y1d ps a.pa == r.a)=true by simp [c1,c2]];exact k5j c1 ka c2
    · rw [show (a.ho == r.b && y1d ps a.pa == r.a)=false by simp [c2]];exact k5k c1 ka c2
  · rw [show (a.ho == r.b && y1d ps a.pa == r.a)=false by simp [c1]];exact k5l c1
 exact j2a (t.swap rfl rfl rfl rfl)
theorem k8x {ps:List Pc} {hs:List Hd} {rs:RW} {r:Ru} {l:List Sw} (h:Rg ps hs l) (hr:¬ ixP ps r.a<0):Fn E I8 [.agg [.list (Ps ps),.list (Hs hs),.list rs],.agg r.d,.c (.list (Ss l))] (.c (.bool (whoB ps r l))):=by
 have n1:=h.sh.np
 have hln:=h.ln
 have hq:=x1i l
 have t:=(k1h (E:=E) (c0_0:=B r.nm) (c0_1:=r.kd) (c0_2:=R1 r.fs) (c0_3:=B r.lo) (c0_4:=B r.hi) (c0_5:=r.a) (c0_6:=r.b) (l:=ps) (fun p=>p.id == r.a) (by omega) fun a _=>by
  by_cases e:a.id=r.a
  · rw [show (a.id == r.a)=true by simp [e]];exact k5v e
  · rw [show (a.id == r.a)=false by simp [e]];exact k5w e).sub [1] (by decide) rfl (objs:=[some (.cells [.c (.list (Ps ps)),.c (.list (Hs hs)),.c (.list rs)]),some (.cells [.c (.str (B r.nm)),.c (.i64 r.kd),.c (.list (R1 r.fs)),.c (.str (B r.lo)),.c (.str (B r.hi)),.c (.i64 r.a),.c (.i64 r.b)])]) (by intro i hi;match i,hi with | 0,_=>rfl) (by simp [Ob.plain]) rfl rfl
 have g:=z1b (y1z hr)
 have hun:=j3w h.ok (List.mem_of_getElem? (y1z hr))
 have h2:=H7 (E:=E) (l:=l) (n:=2) (F:=I8) (k:=0) (fun (b:Int) a=>b-if a.pa=r.a then a.un else 0) (fun i b=>-9*i≤b∧b≤9)
  (fun i b=>z0c b (Ss l) ((Ss l).length:Int) (i:Nat) (Ps ps) (Hs hs) rs (B r.nm) r.kd (R1 r.fs) (B r.lo) (B r.hi) r.a r.b) (oe:=.exit 0) (fin:=fun b=>y1a (Ps ps) (Hs hs) rs (B r.nm) r.kd (R1 r.fs) (B r.lo) (B r.hi) r.a r.b b) (fun b hb=>x4l (by omega))
  (fun i a b ha hb=>by
   have hi:=C7 ha
   have hu:=h.st a (List.mem_of_getElem? ha)
   by_cases e:a.pa=r.a
   · rw [if_pos e]
     exact ⟨by omega,fun o s ih=>x9x (by omega) (by omega) (A7 (z5j ha)) e (wi (by omega)) (wi (by omega)) ih⟩
   · rw [if_neg e]
     exact ⟨by omega,fun o s ih=>by
      rw [Int.sub_zero] at ih
      exact x9y (by omega) (by omega) (A7 (z5j ha)) e (wi (by omega)) ih⟩)
  l.length 0 (pcAt ps r.a).un (by omega) ⟨by omega,by omega⟩
 have e:∀ (l:List Sw) b,l.foldl (fun (b:Int) a=>b-if a.pa=r.a then a.un else 0) b=b-unS l r.a:=by
  intro l
  induction l with
  | nil=>intro b;show b=b-0;omega
  | cons a l ih=>intro b;rw [List.foldl_cons,ih];unfold unS;rw [List.map_cons,List.sum_cons];omega
 rw [List.drop_zero,e] at h2
 unfold whoB
 by_cases c:(pcAt ps r.a).un-unS l r.a>0
 · rw [decide_eq_true c];exact j2q t (by unfold ixP at hr;omega) g h2.2 c
 · rw [decide_eq_false c];exact j2r t (by unfold ixP at hr;omega) g h2.2 c
theorem j2o (hlib:Lib E) {a:Rat} {K:Nat} (ha:Sz a K) (h:K+1≤Lim):Fn E y6u [Sq a] (.c (.i64 (cmpQ a 0))):=by
 have:=y0z hlib ha Sz.zero h
 rw [← y9t] at this
 exact j6p this
noncomputable def sumB (ps:List Pc) (hs:List Hd) (r:Ru) (l:List Sw):Bool:=decide (cmpQ (exS r (sumS ps hs r.fs l)) 0≠0)
noncomputable def brk (ps:List Pc) (hs:List Hd) (r:Ru) (l:List Sw):Bool:=if r.kd=1 then sumB ps hs r l else if r.kd=2 then aptB ps r l else if r.kd=3 then nevB ps r l else whoB ps r l
theorem j2p (hlib:Lib E) (hc:Cs E) {ps:List Pc} {hs:List Hd} {r:Ru} {rs:RW} {l:List Sw} (h:Rg ps hs l)(h0:stwC ps hs l=0) (hl:Sl l) (hr:Rr ps hs r) :
    Fn E V4 [.agg [.list (Ps ps),.list (Hs hs),.list rs],.agg r.d,.c (.list (Ss l))] (.c (.bool (sumB ps hs r l))):=by
 have hL:=x7g
 obtain ⟨s1,s2⟩:=y7m hlib hc (rs:=rs) h h0 hl hr
 obtain ⟨e1,e2⟩:=y8o hlib hr s2
 have k:=j2o hlib e2 (by omega)
 unfold sumB
 by_cases c:cmpQ (exS r (sumS ps hs r.fs l)) 0=0
 · rw [decide_eq_false (fun h=>h c)];exact k2b s1 e1 k c
 · rw [decide_eq_true c];exact k2a s1 e1 k c
def I1 (l:List Int):RW:=l.map fun i=>[.i64 i]
theorem x4p (l:List Int):(I1 l).length=l.length:=by simp [I1]
noncomputable def brF (ps:List Pc) (hs:List Hd) (l:List Sw) (b:List Int) (x:Ru × Nat):List Int:=if brk ps hs x.1 l=true then b++[(x.2:Int)] else b
noncomputable def brI (ps:List Pc) (hs:List Hd) (rs:List Ru) (l:List Sw):List Int:=rs.zipIdx.foldl (brF ps hs l) []
theorem x2r {α:Type} {a:List α} {i:Nat} {x:α × Nat} (h:a.zipIdx[i]?=some x):a[i]?=some x.1∧x.2=i:=by
 rw [List.getElem?_zipIdx] at h
 obtain ⟨y,h1,h2⟩:=Option.map_eq_some_iff.1 h
 rw [← h2];exact ⟨h1,by simp⟩
theorem fO_kd4 {ps:List Pc} {hs:List Hd} {r:Ru} (h:fO ps hs r=0)(h2:r.kd≠2)(h3:r.kd≠3):¬ ixP ps r.a<0:=by
 unfold fO at h
 rw [if_neg h2,if_neg h3] at h
 by_cases c:r.b=0
 · rw [if_pos c] at h
   by_cases c2:(ps.any fun p=>p.id == r.a)=true
   · intro e
     have:=z5n.1 e
     rw [this] at c2;cases c2
   · rw [if_neg c2] at h;cases h
 · rw [if_neg c] at h;cases h
theorem y5s (hlib:Lib E) (hc:Cs E) {ps:List Pc} {hs:List Hd} {rs:List Ru} {l:List Sw} (h:Sp ps hs rs) (hl:Sl l) (hg:rgtB ps hs rs l=true) :
    Lp E 2 C0 0 (D2 (Ss l) 0 (Rs rs) ((Rs rs).length:Int) 0 (Ps ps) (Hs hs) (Rs rs) []) (.exit 0) (z1l (Ps ps) (Hs hs) (Rs rs) (brI ps hs rs l).length (I1 (brI ps hs rs l))):=by
 obtain ⟨k1,k2,k3⟩:=j6b h hl hg
 have l3:=z8e rs
 have n3:=h.nr
 have hz:rs.zipIdx.length=rs.length:=by simp
 have happ:∀ (b:List Int) (i:Int),(I1 b).take b.length++[[DV.i64 i]]=I1 (b++[i]):=fun b i=>by
  rw [show b.length=(I1 b).length from (x4p b).symm,List.take_length];unfold I1;rw [List.map_append];rfl
 have:=H7 (E:=E) (l:=rs.zipIdx) (n:=2) (F:=C0) (k:=0) (brF ps hs l) (fun i b=>b.length≤i)
  (fun i b=>D2 (Ss l) b.length (Rs rs) ((Rs rs).length:Int) (i:Nat) (Ps ps) (Hs hs) (Rs rs) (I1 b)) (oe:=.exit 0) (fin:=fun b=>z1l (Ps ps) (Hs hs) (Rs rs) b.length (I1 b)) (fun b hb=>x2m (by omega))
  (fun i x b hx hb=>by
   have hi:=C7 hx
   obtain ⟨g1,g2⟩:=x2r hx
   have g:=y1s g1
   have hz:=x1p (y9u k1).2.2 i x.1 g1
   rw [Nat.zero_add] at hz
   have hf:=k3e hz
   have b1:(i:Int)<((Rs rs).length:Int):=by omega
   have b2:(0:Int)≤(i:Nat):=by omega
   have hsz:(b.length+1)*8≤140737488355328∧b.length+1≤140737488355328:=by omega
   have hl1:∀ j:Int,b.length+1=(b++[j]).length:=fun j=>by simp
   unfold brF
   rw [g2]
   refine ⟨?_,fun o s ih=>?_⟩
   · split
     · rw [List.length_append];exact Nat.succ_le_succ hb
     · exact Nat.le_succ_of_le hb
   by_cases d1:x.1.kd=1
   · have hd:x.1.d=[.str (B x.1.nm),.i64 1,.list (R1 x.1.fs),.str (B x.1.lo),.str (B x.1.hi),.i64 x.1.a,.i64 x.1.b]:=by unfold Ru.d;rw [d1]
     have c:=j2p hlib hc (rs:=Rs rs) k3 k2 hl (Rr.of h k1 g1 d1)
     rw [hd] at g c
     have e:brk ps hs x.1 l=sumB ps hs x.1 l:=by unfold brk;rw [if_pos d1]
     rw [e] at ih
     cases c1:sumB ps hs x.1 l with
     | true=>rw [c1] at c ih;rw [if_pos rfl] at ih;exact x6x b1 b2 (A7 g) c hsz (happ b _) (hl1 _) (wi (by omega)) ih
     | false=>rw [c1] at c ih;rw [if_neg (by simp)] at ih;exact x6y b1 b2 (A7 g) c (wi (by omega)) ih
   by_cases d2:x.1.kd=2
   · have hd:x.1.d=[.str (B x.1.nm),.i64 2,.list (R1 x.1.fs),.str (B x.1.lo),.str (B x.1.hi),.i64 x.1.a,.i64 x.1.b]:=by unfold Ru.d;rw [d2]
     have c:=k7v (E:=E) (r:=x.1) (rs:=Rs rs) k3
     rw [hd] at g c
     have e:brk ps hs x.1 l=aptB ps x.1 l:=by unfold brk;rw [if_neg d1,if_pos d2]
     rw [e] at ih
     cases c1:aptB ps x.1 l with
     | true=>rw [c1] at c ih;rw [if_pos rfl] at ih;exact x6z b1 b2 (A7 g) c hsz (happ b _) (hl1 _) (wi (by omega)) ih
     | false=>rw [c1] at c ih;rw [if_neg (by simp)] at ih;exact x7a b1 b2 (A7 g) c (wi (by omega)) ih
   by_cases d3:x.1.kd=3
   · have hd:x.1.d=[.str (B x.1.nm),.i64 3,.list (R1 x.1.fs),.str (B x.1.lo),.str (B x.1.hi),.i64 x.1.a,.i64 x.1.b]:=by unfold Ru.d;rw [d3]
     have c:=k8p (E:=E) (r:=x.1) (rs:=Rs rs) k3
     rw [hd] at g c
     have e:brk ps hs x.1 l=nevB ps x.1 l:=by unfold brk;rw [if_neg d1,if_neg d2,if_pos d3]
     rw [e] at ih
     cases c1:nevB ps x.1 l with
     | true=>rw [c1] at c ih;rw [if_pos rfl] at ih;exact x7b b1 b2 (A7 g) c hsz (happ b _) (hl1 _) (wi (by omega)) ih
     | false=>rw [c1] at c ih;rw [if_neg (by simp)] at ih;exact x7c b1 b2 (A7 g) c (wi (by omega)) ih
   · have d4:x.1.kd=4:=by omega
     have hd:x.1.d=[.str (B x.1.nm),.i64 4,.list (R1 x.1.fs),.str (B x.1.lo),.str (B x.1.hi),.i64 x.1.a,.i64 x.1.b]:=by unfold Ru.d;rw [d4]
     have c:=k8x (E:=E) (r:=x.1) (rs:=Rs rs) k3 (fO_kd4 (hf.2.2.2.1 d1) d2 d3)
     rw [hd] at g c
     have e:brk ps hs x.1 l=whoB ps x.1 l:=by unfold brk;rw [if_neg d1,if_neg d2,if_neg d3]
     rw [e] at ih
     cases c1:whoB ps x.1 l with
     | true=>rw [c1] at c ih;rw [if_pos rfl] at ih;exact x7d b1 b2 (A7 g) c hsz (happ b _) (hl1 _) (wi (by omega)) ih
     | false=>rw [c1] at c ih;rw [if_neg (by simp)] at ih;exact x7e b1 b2 (A7 g) c (wi (by omega)) ih)
  rs.zipIdx.length 0 [] (by omega) (Nat.le_refl _)
 rw [List.drop_zero] at this
 exact this.2
theorem y8m (hlib:Lib E) (hc:Cs E) {ps:List Pc} {hs:List Hd} {rs:List Ru} {l:List Sw} (h:Sp ps hs rs) (hl:Sl l) (hg:rgtB ps hs rs l=true) :
    Fn E C0 [.agg (Pb ps hs rs),.c (.list (Ss l))] (.c (.list (I1 (brI ps hs rs l)))) :=
 k7w (y5s hlib hc h hl hg) (by rw [show (brI ps hs rs l).length=(I1 (brI ps hs rs l)).length from (x4p _).symm];exact List.take_length)
noncomputable def brR (ps:List Pc) (hs:List Hd) (rs:List Ru) (l:List Sw):List Int:=if rgtB ps hs rs l=true then brI ps hs rs l else []
noncomputable def brE (ps:List Pc) (hs:List Hd) (rs:List Ru) (l:List Sw):Int:=if rgtB ps hs rs l=true then 0 else 1
noncomputable def kpB (ps:List Pc) (hs:List Hd) (rs:List Ru) (l:List Sw):Bool:=rgtB ps hs rs l && ((brI ps hs rs l).isEmpty && !hs.any (ovH ps hs l))
theorem y8l (hlib:Lib E) (hc:Cs E) {ps:List Pc} {hs:List Hd} {rs:List Ru} {l:List Sw} (h:Sp ps hs rs) (hl:Sl l) :
    Fn E U1 [.agg (Pb ps hs rs),.c (.list (Ss l))] (.tup [.c (.list (I1 (brR ps hs rs l))),.c (.i64 (brE ps hs rs l))]):=by
 have hR:=z9l hlib h hl
 unfold brR brE
 cases c0:rgtB ps hs rs l with
 | false=>rw [c0] at hR;rw [if_neg (by simp),if_neg (by simp)];exact k7o hR
 | true=>rw [c0] at hR;rw [if_pos rfl,if_pos rfl];exact k7n hR (y8m hlib hc h hl c0)
theorem z9j (hlib:Lib E) (hc:Cs E) {ps:List Pc} {hs:List Hd} {rs:List Ru} {l:List Sw} (h:Sp ps hs rs) (hl:Sl l) :
    Fn E P1 [.agg (Pb ps hs rs),.c (.list (Ss l))] (.c (.bool (kpB ps hs rs l))):=by
 have hR:=z9l hlib h hl
 unfold kpB
 cases c0:rgtB ps hs rs l with
 | false=>rw [c0] at hR;exact j1g hR
 | true =>
  rw [c0] at hR
  obtain ⟨k1,k2,k3⟩:=j6b h hl c0
  have hB:=y8m hlib hc h hl c0
  have hO:=x8t hlib hc h.sh hl.n hl.u
  rw [if_pos k2] at hO
  have hlen:=x4p (brI ps hs rs l)
  cases hb:brI ps hs rs l with
  | cons a b=>rw [hb] at hB hlen;exact j1d hR hB (by rw [hlen,List.length_cons];omega)
  | nil =>
   rw [hb] at hB hlen
   cases ho:hs.any (ovH ps hs l) with
   | true=>exact j1f hR hB (by rw [hlen];simp) hO (fun e=>by rw [z5n.1 e] at ho;cases ho)
   | false=>exact j1e hR hB (by rw [hlen];simp) hO (z5n.2 ho)
def inB (ps:List Pc) (l:List Sw) (id c:Int):Bool:=l.any fun s=>s.ho == id && y1d ps s.pa == c
def fewP (p:Pc):Bool:=decide (p.ma.length≤40∧p.vo.length≤40∧p.wo.length≤40∧p.nm.length≤70)
def fewH (h:Hd):Bool:=decide (h.ro.length≤40∧h.mo.length≤40∧h.x.length≤40∧h.y.length≤40∧h.z.length≤40∧h.nm.length≤70)
def fewR (r:Ru):Bool:=decide ((r.nm.length≤70∧r.lo.length≤40∧r.hi.length≤40∧r.fs.length≤8)∧∀ x∈r.fs,x.length≤40)
def fewC (ps:List Pc) (hs:List Hd):Bool:=decide (ps.all fewP=true∧hs.all fewH=true∧ps.length≤7∧hs.length≤7)
def fewA (ps:List Pc) (hs:List Hd) (rs:List Ru):Bool:=decide (rs.all fewR=true∧fewC ps hs=true∧rs.length≤17)
theorem q1j {ps:List Pc} {hs:List Hd} {rs:List Ru} (h:fewA ps hs rs=true):Sp ps hs rs:=by
 obtain ⟨h1,h2,h3⟩:=of_decide_eq_true h
 obtain ⟨k1,k2,k3,k4⟩:=of_decide_eq_true h2
 refine ⟨⟨k3,k4,fun p hp=>?_,fun p hp=>?_⟩,h3,fun r hr=>?_⟩
 · have:=of_decide_eq_true (List.all_eq_true.1 k1 p hp);exact ⟨this.1,this.2.1,this.2.2.1⟩
 · have:=of_decide_eq_true (List.all_eq_true.1 k2 p hp);exact ⟨this.1,this.2.1,this.2.2.1,this.2.2.2.1,this.2.2.2.2.1⟩
 · have:=of_decide_eq_true (List.all_eq_true.1 h1 r hr);exact ⟨this.1.2.2.2,this.2,this.1.2.1,this.1.2.2.1,this.1.1⟩
theorem q5e {α:Type} {l:List α} {p:α→Bool} (h:∀ j a,0≤j→l[j]?=some a→(!p a)=false):l.all p=true :=
 List.all_eq_true.2 fun a ha=>(List.mem_iff_getElem?.1 ha).elim fun j hj=>by simpa using h j a (Nat.zero_le _) hj
theorem q1w {α:Type} {l:List α} {p:α→Bool} {j:Nat} {a:α} (h:l[j]?=some a) (hp:(!p a)=true):¬ l.all p=true:=fun k=>by
 rw [List.all_eq_true.1 k a (List.mem_of_getElem? h)] at hp;cases hp
theorem v4d {ps:List Pc} {hs:List Hd} (n1:ps.length≤9223372036854775807) (n2:hs.length≤9223372036854775807):Fn E F4 [.agg [.list (Ps ps),.list (Hs hs)]] (.c (.bool (fewC ps hs))):=by
 have l1:=z3l ps
 have l2:=z2j hs
 have t0:=M9 (E:=E) (l:=ps) (fun _ a=>!fewP a) (fun i=>z0i (i:Nat) (Ps ps) (Hs hs)) (fun _ _ o s=>o=.ret∧s=z4j (Ps ps) (Hs hs)) (k4b (by omega))
  (fun i a ha hb o s ih=>by
   have hi:=C7 ha
   have hb:fewP a=true:=by simpa using hb
   have hb:=of_decide_eq_true hb
   have s1:=P3 a.ma;have s2:=P3 a.vo;have s3:=P3 a.wo;have s4:=P3 a.nm
   exact j0v (by omega) (by omega) (A7 (z1b ha)) (by omega) (by omega) (by omega) (by omega) (wi (by omega)) ih)
  (fun i a ha hb=>by
   have hi:=C7 ha
   have g:=A7 (z1b ha)
   have b1:(i:Int)<((Ps ps).length:Int):=by omega
   have b2:(0:Int)≤(i:Nat):=by omega
   have hb:fewP a=false:=by simpa using hb
   have hb:=of_decide_eq_false hb
   have s1:=P3 a.ma;have s2:=P3 a.vo;have s3:=P3 a.wo;have s4:=P3 a.nm
   refine ⟨_,_,⟨rfl,rfl⟩,?_⟩
   by_cases c1:((B a.ma).size:Int)>40
   · exact k3x b1 b2 g c1
   by_cases c2:((B a.vo).size:Int)>40
   · exact k3y b1 b2 g c1 c2
   by_cases c3:((B a.wo).size:Int)>40
   · exact k3z b1 b2 g c1 c2 c3
   by_cases c4:((B a.nm).size:Int)>70
   · exact k4a b1 b2 g c1 c2 c3 c4
   · exact absurd ⟨by omega,by omega,by omega,by omega⟩ hb) ps.length 0 (by omega)
 have t1:=M9 (E:=E) (l:=hs) (fun _ a=>!fewH a) (fun i=>V2 (i:Nat) (Ps ps) (Hs hs)) (fun _ _ o s=>o=.ret∧s=z0q (Ps ps) (Hs hs)) (k4i (by omega))
  (fun i a ha hb o s ih=>by
   have hi:=C7 ha
   have hb:fewH a=true:=by simpa using hb
   have hb:=of_decide_eq_true hb
   have s1:=P3 a.ro;have s2:=P3 a.mo;have s3:=P3 a.x;have s4:=P3 a.y;have s5:=P3 a.z;have s6:=P3 a.nm
   exact j0w (by omega) (by omega) (A7 (z8d ha)) (by omega) (by omega) (by omega) (by omega) (by omega) (by omega) (wi (by omega)) ih)
  (fun i a ha hb=>by
   have hi:=C7 ha
   have g:=A7 (z8d ha)
   have b1:(i:Int)<((Hs hs).length:Int):=by omega
   have b2:(0:Int)≤(i:Nat):=by omega
   have hb:fewH a=false:=by simpa using hb
   have hb:=of_decide_eq_false hb
   have s1:=P3 a.ro;have s2:=P3 a.mo;have s3:=P3 a.x;have s4:=P3 a.y;have s5:=P3 a.z;have s6:=P3 a.nm
   refine ⟨_,_,⟨rfl,rfl⟩,?_⟩
   by_cases c1:((B a.ro).size:Int)>40
   · exact k4c b1 b2 g c1
   by_cases c2:((B a.mo).size:Int)>40
   · exact k4d b1 b2 g c1 c2
   by_cases c3:((B a.x).size:Int)>40
   · exact k4e b1 b2 g c1 c2 c3
   by_cases c4:((B a.y).size:Int)>40
   · exact k4f b1 b2 g c1 c2 c3 c4
   by_cases c5:((B a.z).size:Int)>40
   · exact k4g b1 b2 g c1 c2 c3 c4 c5
   by_cases c6:((B a.nm).size:Int)>70
   · exact k4h b1 b2 g c1 c2 c3 c4 c5 c6
   · exact absurd ⟨by omega,by omega,by omega,by omega,by omega,by omega⟩ hb) hs.length 0 (by omega)
 unfold fewC
 rcases t0 with ⟨h1,h2⟩ | ⟨j,a,o,s,h1,h2,h3,h4,⟨rfl,rfl⟩,h5⟩
 rotate_left
 · rw [decide_eq_false fun k=>q1w h2 h3 k.1];exact q4c h5
 rcases t1 with ⟨k1,k2⟩ | ⟨j,a,o,s,k1,k2,k3,k4,⟨rfl,rfl⟩,k5⟩
 rotate_left
 · rw [decide_eq_false fun k=>q1w k2 k3 k.2.1];exact q4d h2 k5
 by_cases c1:ps.length≤7
 · by_cases c2:hs.length≤7
   · rw [decide_eq_true ⟨q5e h1,q5e k1,c1,c2⟩];exact q4e h2 k2 (by omega) (by omega)
   · rw [decide_eq_false fun k=>c2 k.2.2.2];exact q4f h2 k2 (by omega) (by omega)
 · rw [decide_eq_false fun k=>c1 k.2.2.1];exact q4g h2 k2 (by omega)
theorem v4e {ps:List Pc} {hs:List Hd} {rs:List Ru} (n1:ps.length≤9223372036854775807) (n2:hs.length≤9223372036854775807) (n3:rs.length≤9223372036854775807):Fn E G0 [.agg (Pb ps hs rs)] (.c (.bool (fewA ps hs rs))):=by
 have l3:=z8e rs
 have hC:=v4d (E:=E) n1 n2
 have inner:∀ (i:Nat) (r:Ru),r.fs.length≤8 →
     ((∀ x∈r.fs,x.length≤40)∧Lp E 2 G0 1 (z1q (i:Nat) 0 (Ps ps) (Hs hs) (Rs rs) (B r.nm) r.kd (R1 r.fs) (B r.lo) (B r.hi) r.a r.b) (.exit 2) (y2d (i:Nat) (Ps ps) (Hs hs) (Rs rs) (B r.nm) r.kd (R1 r.fs) (B r.lo) (B r.hi) r.a r.b)) ∨
     (¬ (∀ x∈r.fs,x.length≤40)∧Lp E 2 G0 1 (z1q (i:Nat) 0 (Ps ps) (Hs hs) (Rs rs) (B r.nm) r.kd (R1 r.fs) (B r.lo) (B r.hi) r.a r.b) .ret (y2c (Ps ps) (Hs hs) (Rs rs) (B r.nm) r.kd (R1 r.fs) (B r.lo) (B r.hi) r.a r.b)):=fun i r h8=>by
  have lf:=z4f r.fs
  have t:=M9 (E:=E) (l:=r.fs) (n:=2) (F:=G0) (k:=1) (oe:=.exit 2) (fin:=y2d (i:Nat) (Ps ps) (Hs hs) (Rs rs) (B r.nm) r.kd (R1 r.fs) (B r.lo) (B r.hi) r.a r.b) (fun _ x=>decide (40<x.length)) (fun j=>z1q (i:Nat) (j:Nat) (Ps ps) (Hs hs) (Rs rs) (B r.nm) r.kd (R1 r.fs) (B r.lo) (B r.hi) r.a r.b)
   (fun _ _ o s=>o=.ret∧s=y2c (Ps ps) (Hs hs) (Rs rs) (B r.nm) r.kd (R1 r.fs) (B r.lo) (B r.hi) r.a r.b) (k4q (by omega))
   (fun j a ha hb o s ih=>by
    have hj:=C7 ha
    have hb:=of_decide_eq_false hb
    have s1:=P3 a
    exact j0y (by omega) (by omega) (A7 (x1h ha)) (by omega) (wi (by omega)) ih)
   (fun j a ha hb=>by
    have hj:=C7 ha
    have hb:=of_decide_eq_true hb
    have s1:=P3 a
    exact ⟨_,_,⟨rfl,rfl⟩,k4p (by omega) (by omega) (A7 (x1h ha)) (by omega)⟩) r.fs.length 0 (by omega)
  rcases t with ⟨h1,h2⟩ | ⟨j,a,o,s,h1,h2,h3,h4,⟨rfl,rfl⟩,h5⟩
  · exact .inl ⟨fun x hx=>by
     obtain ⟨j,hj⟩:=List.mem_iff_getElem?.1 hx
     have:=of_decide_eq_false (h1 j x (Nat.zero_le _) hj)
     omega,h2⟩
  · exact .inr ⟨fun k=>by
     have:=k a (List.mem_of_getElem? h2)
     have:=of_decide_eq_true h3
     omega,h5⟩
 have t0:=M9 (E:=E) (l:=rs) (fun _ a=>!fewR a) (fun i=>Y3 (i:Nat) (Ps ps) (Hs hs) (Rs rs)) (fun _ _ o s=>o=.ret∧s=z2o (Ps ps) (Hs hs) (Rs rs)) (k4o (by omega))
  (fun i a ha hb o s ih=>by
   have hi:=C7 ha
   have hb:fewR a=true:=by simpa using hb
   have hb:=of_decide_eq_true hb
   have s1:=P3 a.nm;have s2:=P3 a.lo;have s3:=P3 a.hi;have s4:=z4f a.fs
   rcases inner i a hb.1.2.2.2 with ⟨k1,k2⟩ | ⟨k1,k2⟩
   · exact j0x (by omega) (by omega) (A7 (y1s ha)) (by omega) (by omega) (by omega) (by omega) k2 (wi (by omega)) ih
   · exact absurd hb.2 k1)
  (fun i a ha hb=>by
   have hi:=C7 ha
   have g:=A7 (y1s ha)
   have b1:(i:Int)<((Rs rs).length:Int):=by omega
   have b2:(0:Int)≤(i:Nat):=by omega
   have hb:fewR a=false:=by simpa using hb
   have hb:=of_decide_eq_false hb
   have s1:=P3 a.nm;have s2:=P3 a.lo;have s3:=P3 a.hi;have s4:=z4f a.fs
   refine ⟨_,_,⟨rfl,rfl⟩,?_⟩
   by_cases c1:((B a.nm).size:Int)>70
   · exact k4j b1 b2 g c1
   by_cases c2:((B a.lo).size:Int)>40
   · exact k4k b1 b2 g c1 c2
   by_cases c3:((B a.hi).size:Int)>40
   · exact k4l b1 b2 g c1 c2 c3
   by_cases c4:((R1 a.fs).length:Int)>8
   · exact k4m b1 b2 g c1 c2 c3 c4
   rcases inner i a (by omega) with ⟨k1,k2⟩ | ⟨k1,k2⟩
   · exact absurd ⟨⟨by omega,by omega,by omega,by omega⟩,k1⟩ hb
   · exact k4n b1 b2 g c1 c2 c3 c4 k2) rs.length 0 (by omega)
 unfold fewA
 rcases t0 with ⟨h1,h2⟩ | ⟨j,a,o,s,h1,h2,h3,h4,⟨rfl,rfl⟩,h5⟩
 rotate_left
 · rw [decide_eq_false fun k=>q1w h2 h3 k.1];exact q4h h5
 cases c0:fewC ps hs with
 | false=>rw [c0] at hC;rw [decide_eq_false fun k=>by { have:=k.2.1;cases this }];exact q4k h2 hC
 | true =>
  rw [c0] at hC
  by_cases c1:rs.length≤17
  · rw [decide_eq_true ⟨q5e h1,rfl,c1⟩];exact q4i h2 hC (by omega)
  · rw [decide_eq_false fun k=>c1 k.2.2];exact q4j h2 hC (by omega)
theorem Ps_w (l:List Pc):∀ y∈Ps l,y.length=7:=fun y hy=>by obtain ⟨p,_,rfl⟩:=List.mem_map.1 hy;rfl
theorem Hs_w (l:List Hd):∀ y∈Hs l,y.length=7:=fun y hy=>by obtain ⟨p,_,rfl⟩:=List.mem_map.1 hy;rfl
theorem R1_w (l:List (List UInt8)):∀ y∈R1 l,y.length=1:=fun y hy=>by obtain ⟨p,_,rfl⟩:=List.mem_map.1 hy;rfl
theorem j4e (w:RW):((([]:RW).take 0)++w).take (0+w.length)=w:=by rw [Nat.zero_add,List.take_nil,List.nil_append,List.take_length]
theorem v1y {ps:List Pc} {hs:List Hd} (n1:ps.length≤1000) (n2:hs.length≤1000):Fn E x1g [.agg [.list (Ps ps),.list (Hs hs)]] (.agg [.list (Ps ps),.list (Hs hs)]):=by
 have l1:=z3l ps
 have l2:=z2j hs
 exact q2d (Ps_w ps) ⟨by omega,by omega⟩ (Hs_w hs) ⟨by omega,by omega⟩ rfl rfl rfl rfl (j4e _) (j4e _)
theorem q8y {ps:List Pc} {hs:List Hd} {rs:List Ru} (n3:rs.length≤1000) (n4:∀ r∈rs,r.fs.length≤1000) :
    Lp E 3 V1 0 (z6x 0 (Ps ps) (Hs hs) (Rs rs) (Ps ps) (Hs hs) 0 []) (.exit 0) (y0k (Ps ps) (Hs hs) (Rs rs) (Ps ps) (Hs hs) rs.length (Rs rs)):=by
 have l3:=z8e rs
 have:=H7 (E:=E) (l:=rs) (n:=3) (F:=V1) (k:=0) (fun (b:List Ru) r=>b++[r]) (fun i b=>b.length=i) (fun i b=>z6x (i:Nat) (Ps ps) (Hs hs) (Rs rs) (Ps ps) (Hs hs) b.length (Rs b)) (oe:=.exit 0) (fin:=fun b=>y0k (Ps ps) (Hs hs) (Rs rs) (Ps ps) (Hs hs) b.length (Rs b)) (fun b hb=>k1s (by omega))
  (fun i r b hr hb=>by
   have hi:=C7 hr
   have lf:=z4f r.fs
   have h4:=n4 r (List.mem_of_getElem? hr)
   refine ⟨by simp [hb],fun o s ih=>?_⟩
   exact k7h (by omega) (by omega) (A7 (y1s hr)) (R1_w r.fs) ⟨by omega,by omega⟩ ⟨by omega,by omega⟩ rfl rfl (j4e _)
    (r10:=Rs (b++[r])) (by rw [show b.length=(Rs b).length from (z8e b).symm,List.take_length];unfold Rs;rw [List.map_append];rfl) (n3:=(b++[r]).length) (by simp) (wi (by omega)) ih)
  rs.length 0 [] (by omega) rfl
 have e:∀ (l b:List Ru),l.foldl (fun (b:List Ru) r=>b++[r]) b=b++l:=by
  intro l
  induction l with
  | nil=>intro b;simp
  | cons a l ih=>intro b;rw [List.foldl_cons,ih];simp
 rw [List.drop_zero,e,List.nil_append] at this
 exact this.2
theorem v1z {ps:List Pc} {hs:List Hd} {rs:List Ru} (n1:ps.length≤1000) (n2:hs.length≤1000) (n3:rs.length≤1000) (n4:∀ r∈rs,r.fs.length≤1000):Fn E V1 [.agg (Pb ps hs rs)] (.agg (Pb ps hs rs)) :=
 q2e (v1y n1 n2) (q8y n3 n4) (by rw [show rs.length=(Rs rs).length from (z8e rs).symm,List.take_length])
theorem k0g {l:List Int} {i:Nat} {x:Int} (h:l[i]?=some x):(I1 l)[i]?=some [.i64 x]:=by simp [I1,h]
theorem j9i {a b:List Int} (ha:a.length≤1000) (hb:b.length≤1000):Fn E G9 [.c (.list (I1 a)),.c (.list (I1 b))] (.c (.bool (a == b))):=by
 have l1:=x4p a
 have l2:=x4p b
 by_cases hl:a.length=b.length
 rotate_left
 · rw [show (a == b)=false from by rw [beq_eq_false_iff_ne];exact fun e=>hl (by rw [e])]
   exact k1u (by omega)
 have t:=M9 (E:=E) (l:=a) (fun i x=>!(b[i]? == some x)) (fun i=>U3 (I1 a) (I1 b) ((I1 a).length:Int) (i:Nat)) (fun _ _ o s=>o=.ret∧s=z7d) (y9i (by omega))
  (fun i x hx hb' o s ih=>by
   have hi:=C7 hx
   have e:b[i]?=some x:=by simpa using hb'
   exact x2c (by omega) (by omega) (A7 (k0g hx)) (A7 (k0g e)) rfl (wi (by omega)) ih)
  (fun i x hx hb'=>by
   have hi:=C7 hx
   obtain ⟨y,hy⟩:=z0w (l:=b) (i:=i) (by omega)
   have e:¬ x=y:=fun e=>by rw [hy,e] at hb';simp at hb'
   exact ⟨_,_,⟨rfl,rfl⟩,y9h (by omega) (by omega) (A7 (k0g hx)) (A7 (k0g hy)) e⟩) a.length 0 (by omega)
 rcases t with ⟨h1,h2⟩ | ⟨j,x,o,s,h1,h2,h3,h4,⟨rfl,rfl⟩,h5⟩
 · have e:a=b:=by
    apply List.ext_getElem?
    intro i
    by_cases hi:i<a.length
    · obtain ⟨x,hx⟩:=z0w hi
      have:=h1 i x (Nat.zero_le _) hx
      rw [hx]
      have e:b[i]?=some x:=by simpa using this
      exact e.symm
    · rw [List.getElem?_eq_none (by omega),List.getElem?_eq_none (by omega)]
   rw [show (a == b)=true from by simp [e]]
   exact k1w (by omega) h2
 · rw [show (a == b)=false from by
    rw [beq_eq_false_iff_ne]
    intro e
    rw [← e,h2] at h3
    simp at h3]
   exact k1v (by omega) h5
def drR (rs:List Ru) (nm:List UInt8):List Ru:=rs.filter fun r=>!(r.nm == nm)
theorem x3d (hlib:Lib E) (hc:Cs E) {ps:List Pc} {hs:List Hd} {rs:List Ru} {rule:Nat} {r:Ru} (h:Sp ps hs rs)(h0:chkE ps hs rs=0) (hr:rs[rule]?=some r) :
    Fn E N5 [.agg (Pb ps hs rs),.c (.i64 (rule:Nat))] (.tup [.agg (Pb ps hs (drR rs r.nm)),.c (.i64 0)]):=by
 have hC:=z4n hlib h
 have n1:=h.sh.np
 have n2:=h.sh.nh
 have n3:=h.nr
 have l3:=z8e rs
 have hlt:=C7 hr
 obtain ⟨w,k,d1,d2,d3⟩:=k0v (E:=E) (c1_0:=B r.nm) (l:=rs) (w0:=Rs rs) (fun i a ha=>y1s ha) (fun a=>a.nm == r.nm) (by omega) fun a _ objs ho=>by
  by_cases e:a.nm=r.nm
  · rw [show (a.nm == r.nm)=true by simp [e]]
    exact (k7p (E:=E) (i0:=a.kd) (r0:=R1 a.fs) (s1:=B a.lo) (s2:=B a.hi) (i1:=a.a) (i2:=a.b) (s3:=B r.nm) (by rw [e])).sub [1] (by decide) rfl (by intro i hi;match i,hi with | 0,_=>exact ho) (by simp [Ob.plain]) rfl rfl
  · rw [show (a.nm == r.nm)=false by simp [e]]
    exact (k7q (E:=E) (i0:=a.kd) (r0:=R1 a.fs) (s1:=B a.lo) (s2:=B a.hi) (i1:=a.a) (i2:=a.b) (s3:=B r.nm) (fun h=>e (y5p h))).sub [1] (by decide) rfl (by intro i hi;match i,hi with | 0,_=>exact ho) (by simp [Ob.plain]) rfl rfl
 have d2':w.take k=Rs (drR rs r.nm):=d2
 have hlen:(drR rs r.nm).length≤rs.length:=List.length_filter_le _ _
 have hget:∀ (i:Nat) a,i<k→(drR rs r.nm)[i]?=some a→w[i]?=some a.d:=fun i a hi ha=>by
  have:=y1s ha
  rw [← d2',List.getElem?_take,if_pos hi] at this
  exact this
 have hDk:(Rs (drR rs r.nm)).length=min k w.length:=by rw [← d2',List.length_take]
 have hDl:=z8e (drR rs r.nm)
 have big:∀ (v11 v13:RW),Rn E D7 [.vec 6 rs.length,.fn F2 [.ptr 2 0]] [some (.cells [.c (.list (Ps ps)),.c (.list (Hs hs)),.c (.list (Rs rs))]),some (.cells [.nils,.nils,.nils]),some (.cells [.c (.str (B r.nm))]),some (.fro v11),some (.fro v13),some (.cells [.c (.list (Ps ps)),.c (.list (Hs hs)),.c (.list [])]),some (.vec C9 (Rs rs))]
     (.vec 6 k) [some (.cells [.c (.list (Ps ps)),.c (.list (Hs hs)),.c (.list (Rs rs))]),some (.cells [.nils,.nils,.nils]),some (.cells [.c (.str (B r.nm))]),some (.fro v11),some (.fro v13),some (.cells [.c (.list (Ps ps)),.c (.list (Hs hs)),.c (.list [])]),some (.vec C9 w)]:=fun v11 v13 =>
  d1.put [6,2] (by decide) rfl rfl (by intro i hi;match i,hi with | 0,_=>rfl | 1,_=>rfl) (by intro i hi;match i,hi with | 0,_=>rfl | 1,_=>rfl) (by
   intro l hl
   match l with
   | 0=>rfl
   | 1=>rfl
   | 2=>exact absurd rfl (hl 1 (by simp))
   | 3=>rfl
   | 4=>rfl
   | 5=>rfl
   | 6=>exact absurd rfl (hl 0 (by simp))
   | l+7=>rfl) rfl rfl rfl rfl
 have hkl:k=(drR rs r.nm).length:=by omega
 have lp:=H7 (E:=E) (l:=drR rs r.nm) (n:=7) (F:=N5) (k:=0) (fun (b:Unit) _=>b) (fun _ _=>True) (fun i _=>z6r ((k:Nat):Int) (i:Nat) (Ps ps) (Hs hs) (Rs rs) (B r.nm) (Ps ps) (Hs hs) (Ps ps) (Hs hs) k w) (oe:=.exit 0) (fin:=fun _=>y2l (Ps ps) (Hs hs) (Rs rs) (B r.nm) (Ps ps) (Hs hs) (Ps ps) (Hs hs) k w) (fun _ _=>x6v (by omega))
  (fun i a b ha _=>⟨trivial,fun o s ih=>by
   have hi:=C7 ha
   have hw:=hget i a (by omega) ha
   have hm:a∈rs:=(List.mem_filter.1 (List.mem_of_getElem? ha)).1
   have hf:=(h.r a hm).1
   refine k1z (r11:=R1 a.fs) (r12:=w) (by omega) ⟨by omega,by omega⟩ (A7 hw) (hc.ra a.fs (by omega)) (by rw [← z4f a.fs,List.take_length]) ?_ (wi (by omega)) ih
   rw [Int.toNat_natCast]
   apply List.ext_getElem?
   intro j
   by_cases e:j=i
   · subst e
     rw [List.getElem?_set_self (List.getElem?_eq_some_iff.1 hw).1,hw];rfl
   · rw [List.getElem?_set_ne (by omega)]⟩)
  (drR rs r.nm).length 0 () (by omega) trivial
 exact j6m hC h0 (by omega) (by omega) (by omega) (A7 (y1s hr)) (hc.pc ps (by omega)) (hc.hd hs (by omega)) (hc.ru rs (by omega)) (big _ _) lp.2 (by rw [← z3l ps,List.take_length]) (by rw [← z2j hs,List.take_length]) d2'
def rowF (of:Nat→Nat→List UInt8) (np nh:Nat):List (List UInt8):=(List.range np).flatMap fun i=>(List.range nh).map (of i)
theorem z6w {n j k:Nat} (h:(List.range n)[j]?=some k):k=j:=by
 obtain ⟨h1,h2⟩:=List.getElem?_eq_some_iff.1 h
 rw [List.getElem_range] at h2;exact h2.symm
theorem y0n {α β:Type} (f:α→β):∀ (l:List α) (b:List β),l.foldl (fun b a=>b++[f a]) b=b++l.map f
 | [],b=>by simp
 | a::l,b=>by rw [List.foldl_cons,y0n f l];simp
theorem y3i {α β:Type} (f:α→List β):∀ (l:List α) (b:List β),l.foldl (fun b a=>b++f a) b=b++l.flatMap f
 | [],b=>by simp
 | a::l,b=>by rw [List.foldl_cons,y3i f l];simp
theorem y0i (b:List (List UInt8)) (x:List UInt8):((R1 b).take b.length)++[[.str (B x)]]=R1 (b++[x]):=by
 rw [show b.length=(R1 b).length from (z4f b).symm,List.take_length];unfold R1;rw [List.map_append];rfl
theorem q4l {a0:List UInt8} {ps:List Pc} {hs:List Hd} {c1_0:Int} {c4_0 c4_1:Nat} {w5 w6:RW} (of:Nat→Nat→List UInt8) (n1:ps.length≤1000) (n2:hs.length≤1000) (n3:c4_0≤1000) (n4:c4_1≤1000)
    (hf:∀ (i k:Nat) (objs:Objs),i<ps.length→k<hs.length→lk objs 0=some (.cells [.fn A0 []])→lk objs 1=some (.cells [.c (.i64 c1_0)])→Rn E O2 [.c (.i64 (i:Nat)),.c (.i64 (k:Nat)),.ptr 0 0,.ptr 1 0] objs (.c (.str (B (of i k)))) objs) :
    Rn E A1 [.c (.str (B a0)),.fn O2 [.ptr 0 0,.ptr 1 0],.ptr 2 0,.ptr 3 0,.ptr 4 0] [some (.cells [.fn A0 []]),some (.cells [.c (.i64 c1_0)]),some (.cells [.c (.list (Ps ps))]),some (.cells [.c (.list (Hs hs))]),some (.cells [.vec 5 c4_0,.vec 6 c4_1,.nils]),some (.vec A3 w5),some (.vec A2 w6)] (.tup [])
     [some (.cells [.fn A0 []]),some (.cells [.c (.i64 c1_0)]),some (.cells [.c (.list (Ps ps))]),some (.cells [.c (.list (Hs hs))]),some (.cells [.vec 7 (c4_0+1),.vec 8 (c4_1+1),.nils]),some .dead,some .dead,some (.vec A3 (w5.take c4_0++[[.list (R1 (rowF of ps.length hs.length))]])),some (.vec A2 (w6.take c4_1++[[.str (B a0)]]))]:=by
 have l1:=z3l ps
 have l2:=z2j hs
 have r1:(List.range ps.length).length=ps.length:=List.length_range
 have r2:(List.range hs.length).length=hs.length:=List.length_range
 have inner:∀ (i:Nat) (b:List (List UInt8)),i<ps.length→b.length≤1000*i→Lp E 8 A1 1 (z0a (B a0) b.length (i:Nat) ((Ps ps).length:Int) (i:Nat) ((Hs hs).length:Int) 0 c1_0 (Ps ps) (Hs hs) c4_0 c4_1 w5 w6 (R1 b)) (.exit 2)
     (z3j (B a0) ((Ps ps).length:Int) (i:Nat) c1_0 (Ps ps) (Hs hs) c4_0 c4_1 w5 w6 (b++(List.range hs.length).map (of i)).length (R1 (b++(List.range hs.length).map (of i)))):=fun i b hi hb=>by
  have:=H7 (E:=E) (l:=List.range hs.length) (n:=8) (F:=A1) (k:=1) (fun (b:List (List UInt8)) k=>b++[of i k]) (fun k b'=>b'.length≤1000*i+k)
   (fun k b=>z0a (B a0) b.length (i:Nat) ((Ps ps).length:Int) (i:Nat) ((Hs hs).length:Int) (k:Nat) c1_0 (Ps ps) (Hs hs) c4_0 c4_1 w5 w6 (R1 b)) (oe:=.exit 2) (fin:=fun b=>z3j (B a0) ((Ps ps).length:Int) (i:Nat) c1_0 (Ps ps) (Hs hs) c4_0 c4_1 w5 w6 b.length (R1 b)) (fun b _=>x0x (by omega))
   (fun k x b hx hb=>by
    have hk:=C7 hx
    have e:=z6w hx
    subst e
    exact ⟨by rw [List.length_append];exact Nat.succ_le_succ hb,fun o s ih=>x4b (by omega) (hf i x _ hi (by omega) rfl rfl) (by omega) (y0i b _) (by simp) (wi (by omega)) ih⟩)
   hs.length 0 b (by omega) (by omega)
  rw [List.drop_zero,y0n] at this
  exact this.2
 have:=H7 (E:=E) (l:=List.range ps.length) (n:=7) (F:=A1) (k:=0) (fun (b:List (List UInt8)) i=>b++(List.range hs.length).map (of i)) (fun i b=>b.length≤1000*i)
  (fun i b=>z2v (B a0) b.length ((Ps ps).length:Int) (i:Nat) c1_0 (Ps ps) (Hs hs) c4_0 c4_1 w5 w6 (R1 b)) (oe:=.exit 0) (fin:=fun b=>z8w (B a0) c1_0 (Ps ps) (Hs hs) c4_0 c4_1 w5 w6 b.length (R1 b)) (fun b _=>x0w (by omega))
  (fun i x b hx hb=>by
   have hi:=C7 hx
   have e:=z6w hx
   subst e
   exact ⟨by rw [List.length_append,List.length_map];omega,fun o s ih=>x4a (by omega) (inner x b (by omega) hb) (wi (by omega)) ih⟩)
  ps.length 0 [] (by omega) (by simp)
 rw [List.drop_zero,y3i,List.nil_append] at this
 exact y0s this.2 (by omega) (by omega) (by rw [show (List.flatMap _ _:List (List UInt8)).length=(R1 (rowF of ps.length hs.length)).length from (z4f _).symm];exact List.take_length) rfl rfl rfl rfl
theorem q4m {a0:List UInt8} {ps:List Pc} {hs:List Hd} {c1_0:Int} {c4_0 c4_1:Nat} {w5 w6:RW} (of:Nat→Nat→List UInt8) (n1:ps.length≤1000) (n2:hs.length≤1000) (n3:c4_0≤1000) (n4:c4_1≤1000)
    (hf:∀ (i k:Nat) (objs:Objs),i<ps.length→k<hs.length→lk objs 0=some (.cells [.fn A0 []])→lk objs 1=some (.cells [.c (.i64 c1_0)])→lk objs 2=some (.cells [.c (.list (Ps ps))])→Rn E O3 [.c (.i64 (i:Nat)),.c (.i64 (k:Nat)),.ptr 0 0,.ptr 1 0,.ptr 2 0] objs (.c (.str (B (of i k)))) objs) :
    Rn E A1 [.c (.str (B a0)),.fn O3 [.ptr 0 0,.ptr 1 0,.ptr 2 0],.ptr 2 0,.ptr 3 0,.ptr 4 0] [some (.cells [.fn A0 []]),some (.cells [.c (.i64 c1_0)]),some (.cells [.c (.list (Ps ps))]),some (.cells [.c (.list (Hs hs))]),some (.cells [.vec 5 c4_0,.vec 6 c4_1,.nils]),some (.vec A3 w5),some (.vec A2 w6)] (.tup [])
     [some (.cells [.fn A0 []]),some (.cells [.c (.i64 c1_0)]),some (.cells [.c (.list (Ps ps))]),some (.cells [.c (.list (Hs hs))]),some (.cells [.vec 7 (c4_0+1),.vec 8 (c4_1+1),.nils]),some .dead,some .dead,some (.vec A3 (w5.take c4_0++[[.list (R1 (rowF of ps.length hs.length))]])),some (.vec A2 (w6.take c4_1++[[.str (B a0)]]))]:=by
 have l1:=z3l ps
 have l2:=z2j hs
 have r1:(List.range ps.length).length=ps.length:=List.length_range
 have r2:(List.range hs.length).length=hs.length:=List.length_range
 have inner:∀ (i:Nat) (b:List (List UInt8)),i<ps.length→b.length≤1000*i→Lp E 8 A1 1 (Y7 (B a0) b.length (i:Nat) ((Ps ps).length:Int) (i:Nat) ((Hs hs).length:Int) 0 c1_0 (Ps ps) (Hs hs) c4_0 c4_1 w5 w6 (R1 b)) (.exit 2)
     (z2z (B a0) ((Ps ps).length:Int) (i:Nat) c1_0 (Ps ps) (Hs hs) c4_0 c4_1 w5 w6 (b++(List.range hs.length).map (of i)).length (R1 (b++(List.range hs.length).map (of i)))):=fun i b hi hb=>by
  have:=H7 (E:=E) (l:=List.range hs.length) (n:=8) (F:=A1) (k:=1) (fun (b:List (List UInt8)) k=>b++[of i k]) (fun k b'=>b'.length≤1000*i+k)
   (fun k b=>Y7 (B a0) b.length (i:Nat) ((Ps ps).length:Int) (i:Nat) ((Hs hs).length:Int) (k:Nat) c1_0 (Ps ps) (Hs hs) c4_0 c4_1 w5 w6 (R1 b)) (oe:=.exit 2) (fin:=fun b=>z2z (B a0) ((Ps ps).length:Int) (i:Nat) c1_0 (Ps ps) (Hs hs) c4_0 c4_1 w5 w6 b.length (R1 b)) (fun b _=>y9n (by omega))
   (fun k x b hx hb=>by
    have hk:=C7 hx
    have e:=z6w hx
    subst e
    exact ⟨by rw [List.length_append];exact Nat.succ_le_succ hb,fun o s ih=>x2h (by omega) (hf i x _ hi (by omega) rfl rfl rfl) (by omega) (y0i b _) (by simp) (wi (by omega)) ih⟩)
   hs.length 0 b (by omega) (by omega)
  rw [List.drop_zero,y0n] at this
  exact this.2
 have:=H7 (E:=E) (l:=List.range ps.length) (n:=7) (F:=A1) (k:=0) (fun (b:List (List UInt8)) i=>b++(List.range hs.length).map (of i)) (fun i b=>b.length≤1000*i)
  (fun i b=>z1h (B a0) b.length ((Ps ps).length:Int) (i:Nat) c1_0 (Ps ps) (Hs hs) c4_0 c4_1 w5 w6 (R1 b)) (oe:=.exit 0) (fin:=fun b=>z7k (B a0) c1_0 (Ps ps) (Hs hs) c4_0 c4_1 w5 w6 b.length (R1 b)) (fun b _=>y9j (by omega))
  (fun i x b hx hb=>by
   have hi:=C7 hx
   have e:=z6w hx
   subst e
   exact ⟨by rw [List.length_append,List.length_map];omega,fun o s ih=>x2d (by omega) (inner x b (by omega) hb) (wi (by omega)) ih⟩)
  ps.length 0 [] (by omega) (by simp)
 rw [List.drop_zero,y3i,List.nil_append] at this
 exact y0t this.2 (by omega) (by omega) (by rw [show (List.flatMap _ _:List (List UInt8)).length=(R1 (rowF of ps.length hs.length)).length from (z4f _).symm];exact List.take_length) rfl rfl rfl rfl
theorem q4n {a0:List UInt8} {ps:List Pc} {hs:List Hd} {c1_0:Int} {c4_0 c4_1:Nat} {w5 w6:RW} (of:Nat→Nat→List UInt8) (n1:ps.length≤1000) (n2:hs.length≤1000) (n3:c4_0≤1000) (n4:c4_1≤1000)
    (hf:∀ (i k:Nat) (objs:Objs),i<ps.length→k<hs.length→lk objs 0=some (.cells [.fn A0 []])→lk objs 1=some (.cells [.c (.i64 c1_0)])→lk objs 2=some (.cells [.c (.list (Ps ps))])→Rn E O4 [.c (.i64 (i:Nat)),.c (.i64 (k:Nat)),.ptr 0 0,.ptr 1 0,.ptr 2 0] objs (.c (.str (B (of i k)))) objs) :
    Rn E A1 [.c (.str (B a0)),.fn O4 [.ptr 0 0,.ptr 1 0,.ptr 2 0],.ptr 2 0,.ptr 3 0,.ptr 4 0] [some (.cells [.fn A0 []]),some (.cells [.c (.i64 c1_0)]),some (.cells [.c (.list (Ps ps))]),some (.cells [.c (.list (Hs hs))]),some (.cells [.vec 5 c4_0,.vec 6 c4_1,.nils]),some (.vec A3 w5),some (.vec A2 w6)] (.tup [])
     [some (.cells [.fn A0 []]),some (.cells [.c (.i64 c1_0)]),some (.cells [.c (.list (Ps ps))]),some (.cells [.c (.list (Hs hs))]),some (.cells [.vec 7 (c4_0+1),.vec 8 (c4_1+1),.nils]),some .dead,some .dead,some (.vec A3 (w5.take c4_0++[[.list (R1 (rowF of ps.length hs.length))]])),some (.vec A2 (w6.take c4_1++[[.str (B a0)]]))]:=by
 have l1:=z3l ps
 have l2:=z2j hs
 have r1:(List.range ps.length).length=ps.length:=List.length_range
 have r2:(List.range hs.length).length=hs.length:=List.length_range
 have inner:∀ (i:Nat) (b:List (List UInt8)),i<ps.length→b.length≤1000*i→Lp E 8 A1 1 (Y8 (B a0) b.length (i:Nat) ((Ps ps).length:Int) (i:Nat) ((Hs hs).length:Int) 0 c1_0 (Ps ps) (Hs hs) c4_0 c4_1 w5 w6 (R1 b)) (.exit 2)
     (z3a (B a0) ((Ps ps).length:Int) (i:Nat) c1_0 (Ps ps) (Hs hs) c4_0 c4_1 w5 w6 (b++(List.range hs.length).map (of i)).length (R1 (b++(List.range hs.length).map (of i)))):=fun i b hi hb=>by
  have:=H7 (E:=E) (l:=List.range hs.length) (n:=8) (F:=A1) (k:=1) (fun (b:List (List UInt8)) k=>b++[of i k]) (fun k b'=>b'.length≤1000*i+k)
   (fun k b=>Y8 (B a0) b.length (i:Nat) ((Ps ps).length:Int) (i:Nat) ((Hs hs).length:Int) (k:Nat) c1_0 (Ps ps) (Hs hs) c4_0 c4_1 w5 w6 (R1 b)) (oe:=.exit 2) (fin:=fun b=>z3a (B a0) ((Ps ps).length:Int) (i:Nat) c1_0 (Ps ps) (Hs hs) c4_0 c4_1 w5 w6 b.length (R1 b)) (fun b _=>y9o (by omega))
   (fun k x b hx hb=>by
    have hk:=C7 hx
    have e:=z6w hx
    subst e
    exact ⟨by rw [List.length_append];exact Nat.succ_le_succ hb,fun o s ih=>x2i (by omega) (hf i x _ hi (by omega) rfl rfl rfl) (by omega) (y0i b _) (by simp) (wi (by omega)) ih⟩)
   hs.length 0 b (by omega) (by omega)
  rw [List.drop_zero,y0n] at this
  exact this.2
 have:=H7 (E:=E) (l:=List.range ps.length) (n:=7) (F:=A1) (k:=0) (fun (b:List (List UInt8)) i=>b++(List.range hs.length).map (of i)) (fun i b=>b.length≤1000*i)
  (fun i b=>z1i (B a0) b.length ((Ps ps).length:Int) (i:Nat) c1_0 (Ps ps) (Hs hs) c4_0 c4_1 w5 w6 (R1 b)) (oe:=.exit 0) (fin:=fun b=>z7l (B a0) c1_0 (Ps ps) (Hs hs) c4_0 c4_1 w5 w6 b.length (R1 b)) (fun b _=>y9k (by omega))
  (fun i x b hx hb=>by
   have hi:=C7 hx
   have e:=z6w hx
   subst e
   exact ⟨by rw [List.length_append,List.length_map];omega,fun o s ih=>x2e (by omega) (inner x b (by omega) hb) (wi (by omega)) ih⟩)
  ps.length 0 [] (by omega) (by simp)
 rw [List.drop_zero,y3i,List.nil_append] at this
 exact y0u this.2 (by omega) (by omega) (by rw [show (List.flatMap _ _:List (List UInt8)).length=(R1 (rowF of ps.length hs.length)).length from (z4f _).symm];exact List.take_length) rfl rfl rfl rfl
theorem q4o {a0:List UInt8} {ps:List Pc} {hs:List Hd} {r:Ru} {c4_0 c4_1:Nat} {w5 w6:RW} (of:Nat→Nat→List UInt8) (n1:ps.length≤1000) (n2:hs.length≤1000) (n3:c4_0≤1000) (n4:c4_1≤1000)
    (hf:∀ (i k:Nat) (objs:Objs),i<ps.length→k<hs.length→lk objs 0=some (.cells [.c (.list (Ps ps))])→lk objs 1=some (.cells [.c (.str (B r.nm)),.c (.i64 r.kd),.c (.list (R1 r.fs)),.c (.str (B r.lo)),.c (.str (B r.hi)),.c (.i64 r.a),.c (.i64 r.b)])→Rn E I6 [.c (.i64 (i:Nat)),.c (.i64 (k:Nat)),.ptr 0 0,.ptr 1 0] objs (.c (.str (B (of i k)))) objs) :
    Rn E A1 [.c (.str (B a0)),.fn I6 [.ptr 0 0,.ptr 1 0],.ptr 0 0,.ptr 2 0,.ptr 3 0] [some (.cells [.c (.list (Ps ps))]),some (.cells [.c (.str (B r.nm)),.c (.i64 r.kd),.c (.list (R1 r.fs)),.c (.str (B r.lo)),.c (.str (B r.hi)),.c (.i64 r.a),.c (.i64 r.b)]),some (.cells [.c (.list (Hs hs))]),some (.cells [.vec 4 c4_0,.vec 5 c4_1,.nils]),some (.vec A3 w5),some (.vec A2 w6)] (.tup [])
     [some (.cells [.c (.list (Ps ps))]),some (.cells [.c (.str (B r.nm)),.c (.i64 r.kd),.c (.list (R1 r.fs)),.c (.str (B r.lo)),.c (.str (B r.hi)),.c (.i64 r.a),.c (.i64 r.b)]),some (.cells [.c (.list (Hs hs))]),some (.cells [.vec 6 (c4_0+1),.vec 7 (c4_1+1),.nils]),some .dead,some .dead,some (.vec A3 (w5.take c4_0++[[.list (R1 (rowF of ps.length hs.length))]])),some (.vec A2 (w6.take c4_1++[[.str (B a0)]]))]:=by
 have l1:=z3l ps
 have l2:=z2j hs
 have r1:(List.range ps.length).length=ps.length:=List.length_range
 have r2:(List.range hs.length).length=hs.length:=List.length_range
 have inner:∀ (i:Nat) (b:List (List UInt8)),i<ps.length→b.length≤1000*i→Lp E 7 A1 1 (Y9 (B a0) b.length (i:Nat) ((Ps ps).length:Int) (i:Nat) ((Hs hs).length:Int) 0 (Ps ps) (B r.nm) r.kd (R1 r.fs) (B r.lo) (B r.hi) r.a r.b (Hs hs) c4_0 c4_1 w5 w6 (R1 b)) (.exit 2)
     (z3b (B a0) ((Ps ps).length:Int) (i:Nat) (Ps ps) (B r.nm) r.kd (R1 r.fs) (B r.lo) (B r.hi) r.a r.b (Hs hs) c4_0 c4_1 w5 w6 (b++(List.range hs.length).map (of i)).length (R1 (b++(List.range hs.length).map (of i)))):=fun i b hi hb=>by
  have:=H7 (E:=E) (l:=List.range hs.length) (n:=7) (F:=A1) (k:=1) (fun (b:List (List UInt8)) k=>b++[of i k]) (fun k b'=>b'.length≤1000*i+k)
   (fun k b=>Y9 (B a0) b.length (i:Nat) ((Ps ps).length:Int) (i:Nat) ((Hs hs).length:Int) (k:Nat) (Ps ps) (B r.nm) r.kd (R1 r.fs) (B r.lo) (B r.hi) r.a r.b (Hs hs) c4_0 c4_1 w5 w6 (R1 b)) (oe:=.exit 2) (fin:=fun b=>z3b (B a0) ((Ps ps).length:Int) (i:Nat) (Ps ps) (B r.nm) r.kd (R1 r.fs) (B r.lo) (B r.hi) r.a r.b (Hs hs) c4_0 c4_1 w5 w6 b.length (R1 b)) (fun b _=>y9p (by omega))
   (fun k x b hx hb=>by
    have hk:=C7 hx
    have e:=z6w hx
    subst e
    exact ⟨by rw [List.length_append];exact Nat.succ_le_succ hb,fun o s ih=>x2j (by omega) (hf i x _ hi (by omega) rfl rfl) (by omega) (y0i b _) (by simp) (wi (by omega)) ih⟩)
   hs.length 0 b (by omega) (by omega)
  rw [List.drop_zero,y0n] at this
  exact this.2
 have:=H7 (E:=E) (l:=List.range ps.length) (n:=6) (F:=A1) (k:=0) (fun (b:List (List UInt8)) i=>b++(List.range hs.length).map (of i)) (fun i b=>b.length≤1000*i)
  (fun i b=>z1j (B a0) b.length ((Ps ps).length:Int) (i:Nat) (Ps ps) (B r.nm) r.kd (R1 r.fs) (B r.lo) (B r.hi) r.a r.b (Hs hs) c4_0 c4_1 w5 w6 (R1 b)) (oe:=.exit 0) (fin:=fun b=>z7m (B a0) (Ps ps) (B r.nm) r.kd (R1 r.fs) (B r.lo) (B r.hi) r.a r.b (Hs hs) c4_0 c4_1 w5 w6 b.length (R1 b)) (fun b _=>y9l (by omega))
  (fun i x b hx hb=>by
   have hi:=C7 hx
   have e:=z6w hx
   subst e
   exact ⟨by rw [List.length_append,List.length_map];omega,fun o s ih=>x2f (by omega) (inner x b (by omega) hb) (wi (by omega)) ih⟩)
  ps.length 0 [] (by omega) (by simp)
 rw [List.drop_zero,y3i,List.nil_append] at this
 exact y0v this.2 (by omega) (by omega) (by rw [show (List.flatMap _ _:List (List UInt8)).length=(R1 (rowF of ps.length hs.length)).length from (z4f _).symm];exact List.take_length) rfl rfl rfl rfl
theorem k9l {a0:List UInt8} {ps:List Pc} {hs:List Hd} {r:Ru} {c4_0 c4_1:Nat} {w5 w6:RW} (of:Nat→Nat→List UInt8) (n1:ps.length≤1000) (n2:hs.length≤1000) (n3:c4_0≤1000) (n4:c4_1≤1000)
    (hf:∀ (i k:Nat) (objs:Objs),i<ps.length→k<hs.length→lk objs 0=some (.cells [.c (.list (Ps ps))])→lk objs 1=some (.cells [.c (.str (B r.nm)),.c (.i64 r.kd),.c (.list (R1 r.fs)),.c (.str (B r.lo)),.c (.str (B r.hi)),.c (.i64 r.a),.c (.i64 r.b)])→Rn E H4 [.c (.i64 (i:Nat)),.c (.i64 (k:Nat)),.ptr 0 0,.ptr 1 0] objs (.c (.str (B (of i k)))) objs) :
    Rn E A1 [.c (.str (B a0)),.fn H4 [.ptr 0 0,.ptr 1 0],.ptr 0 0,.ptr 2 0,.ptr 3 0] [some (.cells [.c (.list (Ps ps))]),some (.cells [.c (.str (B r.nm)),.c (.i64 r.kd),.c (.list (R1 r.fs)),.c (.str (B r.lo)),.c (.str (B r.hi)),.c (.i64 r.a),.c (.i64 r.b)]),some (.cells [.c (.list (Hs hs))]),some (.cells [.vec 4 c4_0,.vec 5 c4_1,.nils]),some (.vec A3 w5),some (.vec A2 w6)] (.tup [])
     [some (.cells [.c (.list (Ps ps))]),some (.cells [.c (.str (B r.nm)),.c (.i64 r.kd),.c (.list (R1 r.fs)),.c (.str (B r.lo)),.c (.str (B r.hi)),.c (.i64 r.a),.c (.i64 r.b)]),some (.cells [.c (.list (Hs hs))]),some (.cells [.vec 6 (c4_0+1),.vec 7 (c4_1+1),.nils]),some .dead,some .dead,some (.vec A3 (w5.take c4_0++[[.list (R1 (rowF of ps.length hs.length))]])),some (.vec A2 (w6.take c4_1++[[.str (B a0)]]))]:=by
 have l1:=z3l ps
 have l2:=z2j hs
 have r1:(List.range ps.length).length=ps.length:=List.length_range
 have r2:(List.range hs.length).length=hs.length:=List.length_range
 have inner:∀ (i:Nat) (b:List (List UInt8)),i<ps.length→b.length≤1000*i→Lp E 7 A1 1 (Z0 (B a0) b.length (i:Nat) ((Ps ps).length:Int) (i:Nat) ((Hs hs).length:Int) 0 (Ps ps) (B r.nm) r.kd (R1 r.fs) (B r.lo) (B r.hi) r.a r.b (Hs hs) c4_0 c4_1 w5 w6 (R1 b)) (.exit 2)
     (z3c (B a0) ((Ps ps).length:Int) (i:Nat) (Ps ps) (B r.nm) r.kd (R1 r.fs) (B r.lo) (B r.hi) r.a r.b (Hs hs) c4_0 c4_1 w5 w6 (b++(List.range hs.length).map (of i)).length (R1 (b++(List.range hs.length).map (of i)))):=fun i b hi hb=>by
  have:=H7 (E:=E) (l:=List.range hs.length) (n:=7) (F:=A1) (k:=1) (fun (b:List (List UInt8)) k=>b++[of i k]) (fun k b'=>b'.length≤1000*i+k)
   (fun k b=>Z0 (B a0) b.length (i:Nat) ((Ps ps).length:Int) (i:Nat) ((Hs hs).length:Int) (k:Nat) (Ps ps) (B r.nm) r.kd (R1 r.fs) (B r.lo) (B r.hi) r.a r.b (Hs hs) c4_0 c4_1 w5 w6 (R1 b)) (oe:=.exit 2) (fin:=fun b=>z3c (B a0) ((Ps ps).length:Int) (i:Nat) (Ps ps) (B r.nm) r.kd (R1 r.fs) (B r.lo) (B r.hi) r.a r.b (Hs hs) c4_0 c4_1 w5 w6 b.length (R1 b)) (fun b _=>y9q (by omega))
   (fun k x b hx hb=>by
    have hk:=C7 hx
    have e:=z6w hx
    subst e
    exact ⟨by rw [List.length_append];exact Nat.succ_le_succ hb,fun o s ih=>x2k (by omega) (hf i x _ hi (by omega) rfl rfl) (by omega) (y0i b _) (by simp) (wi (by omega)) ih⟩)
   hs.length 0 b (by omega) (by omega)
  rw [List.drop_zero,y0n] at this
  exact this.2
 have:=H7 (E:=E) (l:=List.range ps.length) (n:=6) (F:=A1) (k:=0) (fun (b:List (List UInt8)) i=>b++(List.range hs.length).map (of i)) (fun i b=>b.length≤1000*i)
  (fun i b=>z1k (B a0) b.length ((Ps ps).length:Int) (i:Nat) (Ps ps) (B r.nm) r.kd (R1 r.fs) (B r.lo) (B r.hi) r.a r.b (Hs hs) c4_0 c4_1 w5 w6 (R1 b)) (oe:=.exit 0) (fin:=fun b=>z7n (B a0) (Ps ps) (B r.nm) r.kd (R1 r.fs) (B r.lo) (B r.hi) r.a r.b (Hs hs) c4_0 c4_1 w5 w6 b.length (R1 b)) (fun b _=>y9m (by omega))
  (fun i x b hx hb=>by
   have hi:=C7 hx
   have e:=z6w hx
   subst e
   exact ⟨by rw [List.length_append,List.length_map];omega,fun o s ih=>x2g (by omega) (inner x b (by omega) hb) (wi (by omega)) ih⟩)
  ps.length 0 [] (by omega) (by simp)
 rw [List.drop_zero,y3i,List.nil_append] at this
 exact y0w this.2 (by omega) (by omega) (by rw [show (List.flatMap _ _:List (List UInt8)).length=(R1 (rowF of ps.length hs.length)).length from (z4f _).symm];exact List.take_length) rfl rfl rfl rfl
def RA (l:List (List (List UInt8))):RW:=l.map fun r=>[.list (R1 r)]
theorem q9s (l:List (List (List UInt8))):(RA l).length=l.length:=by simp [RA]
theorem x7h (b:List (List (List UInt8))) (x:List (List UInt8)):((RA b).take b.length)++[[.list (R1 x)]]=RA (b++[x]):=by
 rw [show b.length=(RA b).length from (q9s b).symm,List.take_length];unfold RA;rw [List.map_append];rfl
def onT (b:Bool) (x:List UInt8):List UInt8:=bif b then x else [48]
theorem k7i (b:Bool) (x:List UInt8):Fn E A0 [.c (.bool b),.c (.str (B x))] (.c (.str (B (onT b x)))):=by
 cases b with
 | true=>exact k4x
 | false=>exact k4y
theorem clo_3 (i k j:Nat) (objs:Objs)(h0:lk objs 0=some (.cells [.fn A0 []]))(h1:lk objs 1=some (.cells [.c (.i64 (j:Nat))])):Rn E O2 [.c (.i64 (i:Nat)),.c (.i64 (k:Nat)),.ptr 0 0,.ptr 1 0] objs (.c (.str (B (onT (i == j) [49])))) objs:=by
 have e:((i:Int) == (j:Int))=(i == j):=by rw [Bool.eq_iff_iff];simp;omega
 have h:=k4z (E:=E) (i0:=(i:Nat)) (i1:=(k:Nat)) (i2:=(j:Nat)) (k7i (i == j) [49]) e
 exact h.put [0,1] (by decide) rfl rfl (big:=objs) (big':=objs) (by intro i hi;match i,hi with | 0,_=>exact h0 | 1,_=>exact h1) (by intro i hi;match i,hi with | 0,_=>exact h0 | 1,_=>exact h1) (fun _ _=>rfl) rfl rfl rfl rfl
def rlx0 (np nh:Nat) (b:List (List (List UInt8)) × List (List UInt8)) (x:Pc × Nat):List (List (List UInt8)) × List (List UInt8):=(b.1++[rowF (fun i _=>onT (i == x.2) [49]) np nh],b.2++[decZ x.1.un])
theorem k5m (hlib:Lib E) {z:Int} (h:-9223372036854775808≤z∧z≤9223372036854775807):Fn E y2x [.c (.i64 z)] (.c (.str (B (decZ z)))):=k8q (hlib.itoa z h)
theorem v2e (hlib:Lib E) {ps:List Pc} {hs:List Hd} {rs:RW} {n:Int} (n1:ps.length≤7) (n2:hs.length≤7) (hu:∀ p∈ps,1≤p.un∧p.un≤9) :
    Lp E 6 A8 0 (z2d n (Ps ps) ((Ps ps).length:Int) 0 (Ps ps) (Hs hs) rs (Ps ps) (Hs hs) 0 0 [] []) (.exit 0)
     (z6d n (Ps ps) (Hs hs) rs (Ps ps) (Hs hs) (ps.zipIdx.foldl (rlx0 ps.length hs.length) ([],[])).1.length (ps.zipIdx.foldl (rlx0 ps.length hs.length) ([],[])).2.length (RA (ps.zipIdx.foldl (rlx0 ps.length hs.length) ([],[])).1) (R1 (ps.zipIdx.foldl (rlx0 ps.length hs.length) ([],[])).2)):=by
 have l1:=z3l ps
 have hz:ps.zipIdx.length=ps.length:=by simp
 have:=H7 (E:=E) (l:=ps.zipIdx) (n:=6) (F:=A8) (k:=0) (rlx0 ps.length hs.length) (fun i b=>b.1.length=i∧b.2.length=i)
  (fun i b=>z2d n (Ps ps) ((Ps ps).length:Int) (i:Nat) (Ps ps) (Hs hs) rs (Ps ps) (Hs hs) b.1.length b.2.length (RA b.1) (R1 b.2)) (oe:=.exit 0)
  (fin:=fun b=>z6d n (Ps ps) (Hs hs) rs (Ps ps) (Hs hs) b.1.length b.2.length (RA b.1) (R1 b.2)) (fun b hb=>x4c (by omega))
  (fun i x b hx hb=>by
   have hi:=C7 hx
   obtain ⟨g1,g2⟩:=x2r hx
   have hun:=hu x.1 (List.mem_of_getElem? g1)
   refine ⟨⟨by simp [rlx0,hb.1],by simp [rlx0,hb.2]⟩,fun o s ih=>?_⟩
   have row:=q4l (E:=E) (a0:=decZ x.1.un) (ps:=ps) (hs:=hs) (c1_0:=(i:Nat)) (c4_0:=b.1.length) (c4_1:=b.2.length) (w5:=RA b.1) (w6:=R1 b.2) (fun i' _=>onT (i' == i) [49]) (by omega) (by omega) (by omega) (by omega) (fun i' k objs _ _ h0 h1=>clo_3 i' k i objs h0 h1)
   rw [x7h,y0i] at row
   unfold rlx0 at ih
   rw [g2] at ih
   have fr:=row.putN [5,8,2,3,4,6,7,10,11] (by decide) rfl (by simp)
    (big:=[some (.cells [.c (.list (Ps ps)),.c (.list (Hs hs)),.c (.list rs)]),some (.cells [.nils,.nils,.nils]),some (.cells [.c (.list (Ps ps))]),some (.cells [.c (.list (Hs hs))]),some (.cells [.vec 6 b.1.length,.vec 7 b.2.length,.nils]),some (.cells [.fn A0 []]),some (.vec A3 (RA b.1)),some (.vec A2 (R1 b.2)),some (.cells [.c (.i64 (i:Nat))]),some (.cells [.c (.i64 x.1.id),.c (.i64 x.1.un),.c (.i64 x.1.cl),.c (.str (B x.1.nm)),.c (.str (B x.1.ma)),.c (.str (B x.1.vo)),.c (.str (B x.1.wo))])])
    (big':=[some (.cells [.c (.list (Ps ps)),.c (.list (Hs hs)),.c (.list rs)]),some (.cells [.nils,.nils,.nils]),some (.cells [.c (.list (Ps ps))]),some (.cells [.c (.list (Hs hs))]),some (.cells [.vec 10 (b.1.length+1),.vec 11 (b.2.length+1),.nils]),some (.cells [.fn A0 []]),some .dead,some .dead,some (.cells [.c (.i64 (i:Nat))]),some (.cells [.c (.i64 x.1.id),.c (.i64 x.1.un),.c (.i64 x.1.cl),.c (.str (B x.1.nm)),.c (.str (B x.1.ma)),.c (.str (B x.1.vo)),.c (.str (B x.1.wo))]),some (.vec A3 (RA (b.1++[rowF (fun i' _=>onT (i' == i) [49]) ps.length hs.length]))),some (.vec A2 (R1 (b.2++[decZ x.1.un])))])
    (by intro i hi;match i,hi with | 0,_=>rfl | 1,_=>rfl | 2,_=>rfl | 3,_=>rfl | 4,_=>rfl | 5,_=>rfl | 6,_=>rfl)
    (by intro i hi hi';match i,hi,hi' with | 7,_,_=>rfl | 8,_,_=>rfl)
    (by intro i hi;match i,hi with | 0,_=>rfl | 1,_=>rfl | 2,_=>rfl | 3,_=>rfl | 4,_=>rfl | 5,_=>rfl | 6,_=>rfl | 7,_=>rfl | 8,_=>rfl)
    (by
     intro l hl
     match l with
     | 0=>rfl
     | 1=>rfl
     | 2=>exact absurd rfl (hl 2 (by simp))
     | 3=>exact absurd rfl (hl 3 (by simp))
     | 4=>exact absurd rfl (hl 4 (by simp))
     | 5=>exact absurd rfl (hl 0 (by simp))
     | 6=>exact absurd rfl (hl 5 (by simp))
     | 7=>exact absurd rfl (hl 6 (by simp))
     | 8=>exact absurd rfl (hl 1 (by simp))
     | 9=>rfl
     | 10=>exact absurd rfl (hl 7 (by simp))
     | 11=>exact absurd rfl (hl 8 (by simp))
     | l+12=>rfl) rfl rfl rfl rfl
   rw [List.length_append,List.length_append] at ih
   exact x9j (by omega) (by omega) (A7 (z1b g1)) (k5m hlib (by omega)) fr (wi (by omega)) ih)
  ps.zipIdx.length 0 ([],[]) (by omega) ⟨rfl,rfl⟩
 rw [List.drop_zero] at this
 exact this.2
theorem clo_4 {ps:List Pc} (i k j:Nat) (objs:Objs) (hi:i<ps.length)(h0:lk objs 0=some (.cells [.fn A0 []]))(h1:lk objs 1=some (.cells [.c (.i64 (j:Nat))]))(h2:lk objs 2=some (.cells [.c (.list (Ps ps))])):Rn E O3 [.c (.i64 (i:Nat)),.c (.i64 (k:Nat)),.ptr 0 0,.ptr 1 0,.ptr 2 0] objs (.c (.str (B (onT (k == j) (((ps[i]?).map Pc.ma).getD []))))) objs:=by
 have e:((k:Int) == (j:Int))=(k == j):=by rw [Bool.eq_iff_iff];simp;omega
 obtain ⟨p,hp⟩:=z0w hi
 rw [hp]
 have h:=k5a (E:=E) (i0:=(i:Nat)) (i1:=(k:Nat)) (i2:=(j:Nat)) (r0:=Ps ps) (by omega) (A7 (z1b hp)) (k7i (k == j) p.ma) e
 exact h.put [0,1,2] (by decide) rfl rfl (big:=objs) (big':=objs) (by intro i hi;match i,hi with | 0,_=>exact h0 | 1,_=>exact h1 | 2,_=>exact h2) (by intro i hi;match i,hi with | 0,_=>exact h0 | 1,_=>exact h1 | 2,_=>exact h2) (fun _ _=>rfl) rfl rfl rfl rfl
def rlx1 (ps:List Pc) (nh:Nat) (b:List (List (List UInt8)) × List (List UInt8)) (x:Hd × Nat):List (List (List UInt8)) × List (List UInt8):=(b.1++[rowF (fun i k=>onT (k == x.2) (((ps[i]?).map Pc.ma).getD [])) ps.length nh],b.2++[x.1.mo])
theorem v2f {ps:List Pc} {hs:List Hd} {rs:RW} {n:Int} {b0:List (List (List UInt8)) × List (List UInt8)} (n1:ps.length≤7) (n2:hs.length≤7) (m1:b0.1.length≤100) (m2:b0.2.length≤100) :
    Lp E 8 A8 1 (z2e n (Hs hs) ((Hs hs).length:Int) 0 (Ps ps) (Hs hs) rs (Ps ps) (Hs hs) b0.1.length b0.2.length (RA b0.1) (R1 b0.2)) (.exit 2)
     (z6e n (Ps ps) (Hs hs) rs (Ps ps) (Hs hs) (hs.zipIdx.foldl (rlx1 ps hs.length) b0).1.length (hs.zipIdx.foldl (rlx1 ps hs.length) b0).2.length (RA (hs.zipIdx.foldl (rlx1 ps hs.length) b0).1) (R1 (hs.zipIdx.foldl (rlx1 ps hs.length) b0).2)):=by
 have l2:=z2j hs
 have hz:hs.zipIdx.length=hs.length:=by simp
 have:=H7 (E:=E) (l:=hs.zipIdx) (n:=8) (F:=A8) (k:=1) (rlx1 ps hs.length) (fun i b=>b.1.length≤100+i∧b.2.length≤100+i)
  (fun i b=>z2e n (Hs hs) ((Hs hs).length:Int) (i:Nat) (Ps ps) (Hs hs) rs (Ps ps) (Hs hs) b.1.length b.2.length (RA b.1) (R1 b.2)) (oe:=.exit 2)
  (fin:=fun b=>z6e n (Ps ps) (Hs hs) rs (Ps ps) (Hs hs) b.1.length b.2.length (RA b.1) (R1 b.2)) (fun b hb=>x4d (by omega))
  (fun i x b hx hb=>by
   have hi:=C7 hx
   obtain ⟨g1,g2⟩:=x2r hx
   refine ⟨⟨by unfold rlx1;rw [List.length_append];exact Nat.succ_le_succ hb.1,by unfold rlx1;rw [List.length_append];exact Nat.succ_le_succ hb.2⟩,fun o s ih=>?_⟩
   have row:=q4m (E:=E) (a0:=x.1.mo) (ps:=ps) (hs:=hs) (c1_0:=(i:Nat)) (c4_0:=b.1.length) (c4_1:=b.2.length) (w5:=RA b.1) (w6:=R1 b.2) (fun i' k'=>onT (k' == i) (((ps[i']?).map Pc.ma).getD [])) (by omega) (by omega) (by omega) (by omega) (fun i' k objs hi' _ h0 h1 h2=>clo_4 i' k i objs hi' h0 h1 h2)
   rw [x7h,y0i] at row
   unfold rlx1 at ih
   rw [g2] at ih
   have fr:=row.putN [5,10,2,3,4,8,9,12,13] (by decide) rfl (by simp)
    (big:=[some (.cells [.c (.list (Ps ps)),.c (.list (Hs hs)),.c (.list rs)]),some (.cells [.nils,.nils,.nils]),some (.cells [.c (.list (Ps ps))]),some (.cells [.c (.list (Hs hs))]),some (.cells [.vec 8 b.1.length,.vec 9 b.2.length,.nils]),some (.cells [.fn A0 []]),some .dead,some .dead,some (.vec A3 (RA b.1)),some (.vec A2 (R1 b.2)),some (.cells [.c (.i64 (i:Nat))]),some (.cells [.c (.i64 x.1.id),.c (.str (B x.1.nm)),.c (.str (B x.1.ro)),.c (.str (B x.1.mo)),.c (.str (B x.1.x)),.c (.str (B x.1.y)),.c (.str (B x.1.z))])])
    (big':=[some (.cells [.c (.list (Ps ps)),.c (.list (Hs hs)),.c (.list rs)]),some (.cells [.nils,.nils,.nils]),some (.cells [.c (.list (Ps ps))]),some (.cells [.c (.list (Hs hs))]),some (.cells [.vec 12 (b.1.length+1),.vec 13 (b.2.length+1),.nils]),some (.cells [.fn A0 []]),some .dead,some .dead,some .dead,some .dead,some (.cells [.c (.i64 (i:Nat))]),some (.cells [.c (.i64 x.1.id),.c (.str (B x.1.nm)),.c (.str (B x.1.ro)),.c (.str (B x.1.mo)),.c (.str (B x.1.x)),.c (.str (B x.1.y)),.c (.str (B x.1.z))]),some (.vec A3 (RA (b.1++[rowF (fun i' k'=>onT (k' == i) (((ps[i']?).map Pc.ma).getD [])) ps.length hs.length]))),some (.vec A2 (R1 (b.2++[x.1.mo])))])
    (by intro i hi;match i,hi with | 0,_=>rfl | 1,_=>rfl | 2,_=>rfl | 3,_=>rfl | 4,_=>rfl | 5,_=>rfl | 6,_=>rfl)
    (by intro i hi hi';match i,hi,hi' with | 7,_,_=>rfl | 8,_,_=>rfl)
    (by intro i hi;match i,hi with | 0,_=>rfl | 1,_=>rfl | 2,_=>rfl | 3,_=>rfl | 4,_=>rfl | 5,_=>rfl | 6,_=>rfl | 7,_=>rfl | 8,_=>rfl)
    (by
     intro l hl
     match l with
     | 0=>rfl
     | 1=>rfl
     | 2=>exact absurd rfl (hl 2 (by simp))
     | 3=>exact absurd rfl (hl 3 (by simp))
     | 4=>exact absurd rfl (hl 4 (by simp))
     | 5=>exact absurd rfl (hl 0 (by simp))
     | 6=>rfl
     | 7=>rfl
     | 8=>exact absurd rfl (hl 5 (by simp))
     | 9=>exact absurd rfl (hl 6 (by simp))
     | 10=>exact absurd rfl (hl 1 (by simp))
     | 11=>rfl
     | 12=>exact absurd rfl (hl 7 (by simp))
     | 13=>exact absurd rfl (hl 8 (by simp))
     | l+14=>rfl) rfl rfl rfl rfl
   rw [List.length_append,List.length_append] at ih
   exact x9k (by omega) (by omega) (A7 (z8d g1)) fr (wi (by omega)) ih)
  hs.zipIdx.length 0 b0 (by omega) ⟨m1,m2⟩
 rw [List.drop_zero] at this
 exact this.2
theorem clo_5 {ps:List Pc} (i k j:Nat) (objs:Objs) (hi:i<ps.length)(h0:lk objs 0=some (.cells [.fn A0 []]))(h1:lk objs 1=some (.cells [.c (.i64 (j:Nat))]))(h2:lk objs 2=some (.cells [.c (.list (Ps ps))])):Rn E O4 [.c (.i64 (i:Nat)),.c (.i64 (k:Nat)),.ptr 0 0,.ptr 1 0,.ptr 2 0] objs (.c (.str (B (onT (k == j) (((ps[i]?).map Pc.vo).getD []))))) objs:=by
 have e:((k:Int) == (j:Int))=(k == j):=by rw [Bool.eq_iff_iff];simp;omega
 obtain ⟨p,hp⟩:=z0w hi
 rw [hp]
 have h:=k5b (E:=E) (i0:=(i:Nat)) (i1:=(k:Nat)) (i2:=(j:Nat)) (r0:=Ps ps) (by omega) (A7 (z1b hp)) (k7i (k == j) p.vo) e
 exact h.put [0,1,2] (by decide) rfl rfl (big:=objs) (big':=objs) (by intro i hi;match i,hi with | 0,_=>exact h0 | 1,_=>exact h1 | 2,_=>exact h2) (by intro i hi;match i,hi with | 0,_=>exact h0 | 1,_=>exact h1 | 2,_=>exact h2) (fun _ _=>rfl) rfl rfl rfl rfl
def rlx2 (ps:List Pc) (nh:Nat) (b:List (List (List UInt8)) × List (List UInt8)) (x:Hd × Nat):List (List (List UInt8)) × List (List UInt8):=(b.1++[rowF (fun i k=>onT (k == x.2) (((ps[i]?).map Pc.vo).getD [])) ps.length nh],b.2++[x.1.ro])
theorem v2g {ps:List Pc} {hs:List Hd} {rs:RW} {n:Int} {b0:List (List (List UInt8)) × List (List UInt8)} (n1:ps.length≤7) (n2:hs.length≤7) (m1:b0.1.length≤100) (m2:b0.2.length≤100) :
    Lp E 10 A8 2 (z2f n (Hs hs) ((Hs hs).length:Int) 0 (Ps ps) (Hs hs) rs (Ps ps) (Hs hs) b0.1.length b0.2.length (RA b0.1) (R1 b0.2)) (.exit 4)
     (z6f n (Ps ps) (Hs hs) rs (Ps ps) (Hs hs) (hs.zipIdx.foldl (rlx2 ps hs.length) b0).1.length (hs.zipIdx.foldl (rlx2 ps hs.length) b0).2.length (RA (hs.zipIdx.foldl (rlx2 ps hs.length) b0).1) (R1 (hs.zipIdx.foldl (rlx2 ps hs.length) b0).2)):=by
 have l2:=z2j hs
 have hz:hs.zipIdx.length=hs.length:=by simp
 have:=H7 (E:=E) (l:=hs.zipIdx) (n:=10) (F:=A8) (k:=2) (rlx2 ps hs.length) (fun i b=>b.1.length≤100+i∧b.2.length≤100+i)
  (fun i b=>z2f n (Hs hs) ((Hs hs).length:Int) (i:Nat) (Ps ps) (Hs hs) rs (Ps ps) (Hs hs) b.1.length b.2.length (RA b.1) (R1 b.2)) (oe:=.exit 4)
  (fin:=fun b=>z6f n (Ps ps) (Hs hs) rs (Ps ps) (Hs hs) b.1.length b.2.length (RA b.1) (R1 b.2)) (fun b hb=>x4e (by omega))
  (fun i x b hx hb=>by
   have hi:=C7 hx
   obtain ⟨g1,g2⟩:=x2r hx
   refine ⟨⟨by unfold rlx2;rw [List.length_append];exact Nat.succ_le_succ hb.1,by unfold rlx2;rw [List.length_append];exact Nat.succ_le_succ hb.2⟩,fun o s ih=>?_⟩
   have row:=q4n (E:=E) (a0:=x.1.ro) (ps:=ps) (hs:=hs) (c1_0:=(i:Nat)) (c4_0:=b.1.length) (c4_1:=b.2.length) (w5:=RA b.1) (w6:=R1 b.2) (fun i' k'=>onT (k' == i) (((ps[i']?).map Pc.vo).getD [])) (by omega) (by omega) (by omega) (by omega) (fun i' k objs hi' _ h0 h1 h2=>clo_5 i' k i objs hi' h0 h1 h2)
   rw [x7h,y0i] at row
   unfold rlx2 at ih
   rw [g2] at ih
   have fr:=row.putN [5,12,2,3,4,10,11,14,15] (by decide) rfl (by simp)
    (big:=[some (.cells [.c (.list (Ps ps)),.c (.list (Hs hs)),.c (.list rs)]),some (.cells [.nils,.nils,.nils]),some (.cells [.c (.list (Ps ps))]),some (.cells [.c (.list (Hs hs))]),some (.cells [.vec 10 b.1.length,.vec 11 b.2.length,.nils]),some (.cells [.fn A0 []]),some .dead,some .dead,some .dead,some .dead,some (.vec A3 (RA b.1)),some (.vec A2 (R1 b.2)),some (.cells [.c (.i64 (i:Nat))]),some (.cells [.c (.i64 x.1.id),.c (.str (B x.1.nm)),.c (.str (B x.1.ro)),.c (.str (B x.1.mo)),.c (.str (B x.1.x)),.c (.str (B x.1.y)),.c (.str (B x.1.z))])])
    (big':=[some (.cells [.c (.list (Ps ps)),.c (.list (Hs hs)),.c (.list rs)]),some (.cells [.nils,.nils,.nils]),some (.cells [.c (.list (Ps ps))]),some (.cells [.c (.list (Hs hs))]),some (.cells [.vec 14 (b.1.length+1),.vec 15 (b.2.length+1),.nils]),some (.cells [.fn A0 []]),some .dead,some .dead,some .dead,some .dead,some .dead,some .dead,some (.cells [.c (.i64 (i:Nat))]),some (.cells [.c (.i64 x.1.id),.c (.str (B x.1.nm)),.c (.str (B x.1.ro)),.c (.str (B x.1.mo)),.c (.str (B x.1.x)),.c (.str (B x.1.y)),.c (.str (B x.1.z))]),some (.vec A3 (RA (b.1++[rowF (fun i' k'=>onT (k' == i) (((ps[i']?).map Pc.vo).getD [])) ps.length hs.length]))),some (.vec A2 (R1 (b.2++[x.1.ro])))])
    (by intro i hi;match i,hi with | 0,_=>rfl | 1,_=>rfl | 2,_=>rfl | 3,_=>rfl | 4,_=>rfl | 5,_=>rfl | 6,_=>rfl)
    (by intro i hi hi';match i,hi,hi' with | 7,_,_=>rfl | 8,_,_=>rfl)
    (by intro i hi;match i,hi with | 0,_=>rfl | 1,_=>rfl | 2,_=>rfl | 3,_=>rfl | 4,_=>rfl | 5,_=>rfl | 6,_=>rfl | 7,_=>rfl | 8,_=>rfl)
    (by
     intro l hl
     match l with
     | 0=>rfl
     | 1=>rfl
     | 2=>exact absurd rfl (hl 2 (by simp))
     | 3=>exact absurd rfl (hl 3 (by simp))
     | 4=>exact absurd rfl (hl 4 (by simp))
     | 5=>exact absurd rfl (hl 0 (by simp))
     | 6=>rfl
     | 7=>rfl
     | 8=>rfl
     | 9=>rfl
     | 10=>exact absurd rfl (hl 5 (by simp))
     | 11=>exact absurd rfl (hl 6 (by simp))
     | 12=>exact absurd rfl (hl 1 (by simp))
     | 13=>rfl
     | 14=>exact absurd rfl (hl 7 (by simp))
     | 15=>exact absurd rfl (hl 8 (by simp))
     | l+16=>rfl) rfl rfl rfl rfl
   rw [List.length_append,List.length_append] at ih
   exact x9l (by omega) (by omega) (A7 (z8d g1)) fr (wi (by omega)) ih)
  hs.zipIdx.length 0 b0 (by omega) ⟨m1,m2⟩
 rw [List.drop_zero] at this
 exact this.2
theorem v2i {ps:List Pc} {hs:List Hd} {rs w12 w13:RW} {c0 c1:Nat} (n1:ps.length≤7) (n2:hs.length≤7) :
    Lp E 14 A8 4 (z2g (Ps ps) ((Ps ps).length:Int) 0 (Ps ps) (Hs hs) rs (Ps ps) (Hs hs) c0 c1 0 w12 w13 []) (.exit 8)
     (z6h (Ps ps) (Hs hs) rs (Ps ps) (Hs hs) c0 c1 w12 w13 (ps.flatMap fun p=>List.replicate hs.length p.wo).length (R1 (ps.flatMap fun p=>List.replicate hs.length p.wo))):=by
 have l1:=z3l ps
 have l2:=z2j hs
 have r2:(List.range hs.length).length=hs.length:=List.length_range
 have inner:∀ (i:Nat) (p:Pc) (b:List (List UInt8)),i<ps.length→b.length≤100*i→Lp E 16 A8 5 (z0x (Ps ps) ((Ps ps).length:Int) (i:Nat) ((Hs hs).length:Int) 0 (Ps ps) (Hs hs) rs (Ps ps) (Hs hs) c0 c1 b.length w12 w13 p.id p.un p.cl (B p.nm) (B p.ma) (B p.vo) (B p.wo) (R1 b)) (.exit 10)
     (z4c (Ps ps) ((Ps ps).length:Int) (i:Nat) (Ps ps) (Hs hs) rs (Ps ps) (Hs hs) c0 c1 w12 w13 p.id p.un p.cl (B p.nm) (B p.ma) (B p.vo) (B p.wo) (b++List.replicate hs.length p.wo).length (R1 (b++List.replicate hs.length p.wo))):=fun i p b hi hb=>by
  have:=H7 (E:=E) (l:=List.range hs.length) (n:=16) (F:=A8) (k:=5) (fun (b:List (List UInt8)) _=>b++[p.wo]) (fun k b'=>b'.length≤100*i+k)
   (fun k b=>z0x (Ps ps) ((Ps ps).length:Int) (i:Nat) ((Hs hs).length:Int) (k:Nat) (Ps ps) (Hs hs) rs (Ps ps) (Hs hs) c0 c1 b.length w12 w13 p.id p.un p.cl (B p.nm) (B p.ma) (B p.vo) (B p.wo) (R1 b)) (oe:=.exit 10) (fin:=fun b=>z4c (Ps ps) ((Ps ps).length:Int) (i:Nat) (Ps ps) (Hs hs) rs (Ps ps) (Hs hs) c0 c1 w12 w13 p.id p.un p.cl (B p.nm) (B p.ma) (B p.vo) (B p.wo) b.length (R1 b)) (fun b _=>x2l (by omega))
   (fun k x b hx hb=>by
    have hk:=C7 hx
    exact ⟨by rw [List.length_append];exact Nat.succ_le_succ hb,fun o s ih=>x6w (by omega) (by omega) (y0i b _) (by simp) (wi (by omega)) ih⟩)
   hs.length 0 b (by omega) (by omega)
  rw [List.drop_zero,y0n (fun _:Nat=>p.wo),List.map_const',r2] at this
  exact this.2
 have:=H7 (E:=E) (l:=ps) (n:=14) (F:=A8) (k:=4) (fun (b:List (List UInt8)) p=>b++List.replicate hs.length p.wo) (fun i b=>b.length≤100*i)
  (fun i b=>z2g (Ps ps) ((Ps ps).length:Int) (i:Nat) (Ps ps) (Hs hs) rs (Ps ps) (Hs hs) c0 c1 b.length w12 w13 (R1 b)) (oe:=.exit 8) (fin:=fun b=>z6h (Ps ps) (Hs hs) rs (Ps ps) (Hs hs) c0 c1 w12 w13 b.length (R1 b)) (fun b _=>x4g (by omega))
  (fun i p b hp hb=>by
   have hi:=C7 hp
   exact ⟨by rw [List.length_append,List.length_replicate];omega,fun o s ih=>x9r (by omega) (by omega) (A7 (z1b hp)) (inner i p b hi hb) (wi (by omega)) ih⟩)
  ps.length 0 [] (by omega) (by simp)
 rw [List.drop_zero,y3i,List.nil_append] at this
 exact this.2
abbrev RuO (r:Ru):Option Ob:=some (.cells [.c (.str (B r.nm)),.c (.i64 r.kd),.c (.list (R1 r.fs)),.c (.str (B r.lo)),.c (.str (B r.hi)),.c (.i64 r.a),.c (.i64 r.b)])
noncomputable def mfQ (ps:List Pc) (fs:List (List UInt8)) (i k:Nat):Rat:=rdv (((ps[i]?).map Pc.ma).getD [])*rdv ((fs[k]?).getD [])
theorem clo_6 (hlib:Lib E) {ps:List Pc} {r:Ru} (hp:∀ p∈ps,ok1 p.ma=true∧p.ma.length≤40) (hr:∀ x∈r.fs,ok1 x=true∧x.length≤40) (i k:Nat) (objs:Objs) (hi:i<ps.length) (hk:k<r.fs.length)(h0:lk objs 0=some (.cells [.c (.list (Ps ps))]))(h1:lk objs 1=RuO r) :
    Rn E I6 [.c (.i64 (i:Nat)),.c (.i64 (k:Nat)),.ptr 0 0,.ptr 1 0] objs (.c (.str (B (decQ (mfQ ps r.fs i k))))) objs:=by
 obtain ⟨p,hp'⟩:=z0w hi
 obtain ⟨x,hx⟩:=z0w hk
 have hL:=x7g
 have o1:=hp p (List.mem_of_getElem? hp')
 have o2:=hr x (List.mem_of_getElem? hx)
 have m:=y7l hlib (z5k o1.1 o1.2) (z5k o2.1 o2.2) (by omega)
 rw [z8f o1.1,z8f o2.1] at m
 unfold mfQ
 rw [hp',hx]
 have h:=k5c (E:=E) (i0:=(i:Nat)) (i1:=(k:Nat)) (r0:=Ps ps) (s0:=B r.nm) (i2:=r.kd) (r1:=R1 r.fs) (s1:=B r.lo) (s2:=B r.hi) (i3:=r.a) (i4:=r.b) (by omega) (A7 (z1b hp')) (by omega) (A7 (x1h hx)) m
 exact h.put [0,1] (by decide) rfl rfl (big:=objs) (big':=objs) (by intro i hi;match i,hi with | 0,_=>exact h0 | 1,_=>exact h1) (by intro i hi;match i,hi with | 0,_=>exact h0 | 1,_=>exact h1) (fun _ _=>rfl) rfl rfl rfl rfl
theorem clo_7 (hlib:Lib E) {ps:List Pc} {r:Ru} (hp:∀ p∈ps,ok1 p.ma=true∧p.ma.length≤40) (hr:∀ x∈r.fs,ok1 x=true∧x.length≤40) (i k:Nat) (objs:Objs) (hi:i<ps.length) (hk:k<r.fs.length)(h0:lk objs 0=some (.cells [.c (.list (Ps ps))]))(h1:lk objs 1=RuO r) :
    Rn E H4 [.c (.i64 (i:Nat)),.c (.i64 (k:Nat)),.ptr 0 0,.ptr 1 0] objs (.c (.str (B (decQ (0-mfQ ps r.fs i k))))) objs:=by
 obtain ⟨p,hp'⟩:=z0w hi
 obtain ⟨x,hx⟩:=z0w hk
 have hL:=x7g
 have o1:=hp p (List.mem_of_getElem? hp')
 have o2:=hr x (List.mem_of_getElem? hx)
 have s1:=z5k o1.1 o1.2
 have s2:=z5k o2.1 o2.2
 have m:=y7l hlib s1 s2 (by omega)
 rw [z8f o1.1,z8f o2.1] at m
 have n:=y2m hlib Sz.zero (s1.mul s2) (by omega)
 rw [← y9t] at n
 unfold mfQ
 rw [hp',hx]
 have h:=k5d (E:=E) (i0:=(i:Nat)) (i1:=(k:Nat)) (r0:=Ps ps) (s0:=B r.nm) (i2:=r.kd) (r1:=R1 r.fs) (s1:=B r.lo) (s2:=B r.hi) (i3:=r.a) (i4:=r.b) (by omega) (A7 (z1b hp')) (by omega) (A7 (x1h hx)) m n
 exact h.put [0,1] (by decide) rfl rfl (big:=objs) (big':=objs) (by intro i hi;match i,hi with | 0,_=>exact h0 | 1,_=>exact h1) (by intro i hi;match i,hi with | 0,_=>exact h0 | 1,_=>exact h1) (fun _ _=>rfl) rfl rfl rfl rfl
theorem v2b (hlib:Lib E) {ps:List Pc} {hs:List Hd} {rs:RW} {r:Ru} {b:List (List (List UInt8)) × List (List UInt8)} {a0:List UInt8} (n1:ps.length≤7) (n2:hs.length≤7) (m1:b.1.length≤900) (m2:b.2.length≤900) (hf:r.fs.length=hs.length) (hp:∀ p∈ps,ok1 p.ma=true∧p.ma.length≤40) (hr:∀ x∈r.fs,ok1 x=true∧x.length≤40) :
    Rn E A1 [.c (.str (B a0)),.fn I6 [.ptr 2 0,.ptr 14 0],.ptr 2 0,.ptr 3 0,.ptr 4 0] [some (.cells [.c (.list (Ps ps)),.c (.list (Hs hs)),.c (.list rs)]),some (.cells [.nils,.nils,.nils]),some (.cells [.c (.list (Ps ps))]),some (.cells [.c (.list (Hs hs))]),some (.cells [.vec 12 b.1.length,.vec 13 b.2.length,.nils]),some (.cells [.fn A0 []]),some .dead,some .dead,some .dead,some .dead,some .dead,some .dead,some (.vec A3 (RA b.1)),some (.vec A2 (R1 b.2)),RuO r] (.tup []) [some (.cells [.c (.list (Ps ps)),.c (.list (Hs hs)),.c (.list rs)]),some (.cells [.nils,.nils,.nils]),some (.cells [.c (.list (Ps ps))]),some (.cells [.c (.list (Hs hs))]),some (.cells [.vec 15 (b.1.length+1),.vec 16 (b.2.length+1),.nils]),some (.cells [.fn A0 []]),some .dead,some .dead,some .dead,some .dead,some .dead,some .dead,some .dead,some .dead,RuO r,some (.vec A3 (RA (b.1++[rowF (fun i k=>decQ (mfQ ps r.fs i k)) ps.length hs.length]))),some (.vec A2 (R1 (b.2++[a0])))]:=by
 have row:=q4o (E:=E) (a0:=a0) (ps:=ps) (hs:=hs) (r:=r) (c4_0:=b.1.length) (c4_1:=b.2.length) (w5:=RA b.1) (w6:=R1 b.2) (fun i k=>decQ (mfQ ps r.fs i k)) (by omega) (by omega) (by omega) (by omega) (fun i' k objs hi' hk' h0 h1=>clo_6 hlib hp hr i' k objs hi' (by omega) h0 h1)
 rw [x7h,y0i] at row
 exact row.putN [2,14,3,4,12,13,15,16] (by decide) rfl (by simp)
  (by intro i hi;match i,hi with | 0,_=>rfl | 1,_=>rfl | 2,_=>rfl | 3,_=>rfl | 4,_=>rfl | 5,_=>rfl)
  (by intro i hi hi';match i,hi,hi' with | 6,_,_=>rfl | 7,_,_=>rfl)
  (by intro i hi;match i,hi with | 0,_=>rfl | 1,_=>rfl | 2,_=>rfl | 3,_=>rfl | 4,_=>rfl | 5,_=>rfl | 6,_=>rfl | 7,_=>rfl)
  (by
   intro l hl
   match l with
    | 0=>rfl
    | 1=>rfl
    | 2=>exact absurd rfl (hl 0 (by simp))
    | 3=>exact absurd rfl (hl 2 (by simp))
    | 4=>exact absurd rfl (hl 3 (by simp))
    | 5=>rfl
    | 6=>rfl
    | 7=>rfl
    | 8=>rfl
    | 9=>rfl
    | 10=>rfl
    | 11=>rfl
    | 12=>exact absurd rfl (hl 4 (by simp))
    | 13=>exact absurd rfl (hl 5 (by simp))
    | 14=>exact absurd rfl (hl 1 (by simp))
    | 15=>exact absurd rfl (hl 6 (by simp))
    | 16=>exact absurd rfl (hl 7 (by simp))
    | l+17=>rfl) rfl rfl rfl rfl
theorem v2c (hlib:Lib E) {ps:List Pc} {hs:List Hd} {rs:RW} {r:Ru} {b:List (List (List UInt8)) × List (List UInt8)} {a0:List UInt8} (n1:ps.length≤7) (n2:hs.length≤7) (m1:b.1.length≤900) (m2:b.2.length≤900) (hf:r.fs.length=hs.length) (hp:∀ p∈ps,ok1 p.ma=true∧p.ma.length≤40) (hr:∀ x∈r.fs,ok1 x=true∧x.length≤40) :
    Rn E A1 [.c (.str (B a0)),.fn H4 [.ptr 2 0,.ptr 14 0],.ptr 2 0,.ptr 3 0,.ptr 4 0] [some (.cells [.c (.list (Ps ps)),.c (.list (Hs hs)),.c (.list rs)]),some (.cells [.nils,.nils,.nils]),some (.cells [.c (.list (Ps ps))]),some (.cells [.c (.list (Hs hs))]),some (.cells [.vec 12 b.1.length,.vec 13 b.2.length,.nils]),some (.cells [.fn A0 []]),some .dead,some .dead,some .dead,some .dead,some .dead,some .dead,some (.vec A3 (RA b.1)),some (.vec A2 (R1 b.2)),RuO r] (.tup []) [some (.cells [.c (.list (Ps ps)),.c (.list (Hs hs)),.c (.list rs)]),some (.cells [.nils,.nils,.nils]),some (.cells [.c (.list (Ps ps))]),some (.cells [.c (.list (Hs hs))]),some (.cells [.vec 15 (b.1.length+1),.vec 16 (b.2.length+1),.nils]),some (.cells [.fn A0 []]),some .dead,some .dead,some .dead,some .dead,some .dead,some .dead,some .dead,some .dead,RuO r,some (.vec A3 (RA (b.1++[rowF (fun i k=>decQ (0-mfQ ps r.fs i k)) ps.length hs.length]))),some (.vec A2 (R1 (b.2++[a0])))]:=by
 have row:=k9l (E:=E) (a0:=a0) (ps:=ps) (hs:=hs) (r:=r) (c4_0:=b.1.length) (c4_1:=b.2.length) (w5:=RA b.1) (w6:=R1 b.2) (fun i k=>decQ (0-mfQ ps r.fs i k)) (by omega) (by omega) (by omega) (by omega) (fun i' k objs hi' hk' h0 h1=>clo_7 hlib hp hr i' k objs hi' (by omega) h0 h1)
 rw [x7h,y0i] at row
 exact row.putN [2,14,3,4,12,13,15,16] (by decide) rfl (by simp)
  (by intro i hi;match i,hi with | 0,_=>rfl | 1,_=>rfl | 2,_=>rfl | 3,_=>rfl | 4,_=>rfl | 5,_=>rfl)
  (by intro i hi hi';match i,hi,hi' with | 6,_,_=>rfl | 7,_,_=>rfl)
  (by intro i hi;match i,hi with | 0,_=>rfl | 1,_=>rfl | 2,_=>rfl | 3,_=>rfl | 4,_=>rfl | 5,_=>rfl | 6,_=>rfl | 7,_=>rfl)
  (by
   intro l hl
   match l with
    | 0=>rfl
    | 1=>rfl
    | 2=>exact absurd rfl (hl 0 (by simp))
    | 3=>exact absurd rfl (hl 2 (by simp))
    | 4=>exact absurd rfl (hl 3 (by simp))
    | 5=>rfl
    | 6=>rfl
    | 7=>rfl
    | 8=>rfl
    | 9=>rfl
    | 10=>rfl
    | 11=>rfl
    | 12=>exact absurd rfl (hl 4 (by simp))
    | 13=>exact absurd rfl (hl 5 (by simp))
    | 14=>exact absurd rfl (hl 1 (by simp))
    | 15=>exact absurd rfl (hl 6 (by simp))
    | 16=>exact absurd rfl (hl 7 (by simp))
    | l+17=>rfl) rfl rfl rfl rfl
theorem v2d (hlib:Lib E) {ps:List Pc} {hs:List Hd} {rs:RW} {r:Ru} {b:List (List (List UInt8)) × List (List UInt8)} {a0:List UInt8} (n1:ps.length≤7) (n2:hs.length≤7) (m1:b.1.length≤900) (m2:b.2.length≤900) (hf:r.fs.length=hs.length) (hp:∀ p∈ps,ok1 p.ma=true∧p.ma.length≤40) (hr:∀ x∈r.fs,ok1 x=true∧x.length≤40) :
    Rn E A1 [.c (.str (B a0)),.fn H4 [.ptr 2 0,.ptr 14 0],.ptr 2 0,.ptr 3 0,.ptr 4 0] [some (.cells [.c (.list (Ps ps)),.c (.list (Hs hs)),.c (.list rs)]),some (.cells [.nils,.nils,.nils]),some (.cells [.c (.list (Ps ps))]),some (.cells [.c (.list (Hs hs))]),some (.cells [.vec 15 b.1.length,.vec 16 b.2.length,.nils]),some (.cells [.fn A0 []]),some .dead,some .dead,some .dead,some .dead,some .dead,some .dead,some .dead,some .dead,RuO r,some (.vec A3 (RA b.1)),some (.vec A2 (R1 b.2))] (.tup []) [some (.cells [.c (.list (Ps ps)),.c (.list (Hs hs)),.c (.list rs)]),some (.cells [.nils,.nils,.nils]),some (.cells [.c (.list (Ps ps))]),some (.cells [.c (.list (Hs hs))]),some (.cells [.vec 17 (b.1.length+1),.vec 18 (b.2.length+1),.nils]),some (.cells [.fn A0 []]),some .dead,some .dead,some .dead,some .dead,some .dead,some .dead,some .dead,some .dead,RuO r,some .dead,some .dead,some (.vec A3 (RA (b.1++[rowF (fun i k=>decQ (0-mfQ ps r.fs i k)) ps.length hs.length]))),some (.vec A2 (R1 (b.2++[a0])))]:=by
 have row:=k9l (E:=E) (a0:=a0) (ps:=ps) (hs:=hs) (r:=r) (c4_0:=b.1.length) (c4_1:=b.2.length) (w5:=RA b.1) (w6:=R1 b.2) (fun i k=>decQ (0-mfQ ps r.fs i k)) (by omega) (by omega) (by omega) (by omega) (fun i' k objs hi' hk' h0 h1=>clo_7 hlib hp hr i' k objs hi' (by omega) h0 h1)
 rw [x7h,y0i] at row
 exact row.putN [2,14,3,4,15,16,17,18] (by decide) rfl (by simp)
  (by intro i hi;match i,hi with | 0,_=>rfl | 1,_=>rfl | 2,_=>rfl | 3,_=>rfl | 4,_=>rfl | 5,_=>rfl)
  (by intro i hi hi';match i,hi,hi' with | 6,_,_=>rfl | 7,_,_=>rfl)
  (by intro i hi;match i,hi with | 0,_=>rfl | 1,_=>rfl | 2,_=>rfl | 3,_=>rfl | 4,_=>rfl | 5,_=>rfl | 6,_=>rfl | 7,_=>rfl)
  (by
   intro l hl
   match l with
    | 0=>rfl
    | 1=>rfl
    | 2=>exact absurd rfl (hl 0 (by simp))
    | 3=>exact absurd rfl (hl 2 (by simp))
    | 4=>exact absurd rfl (hl 3 (by simp))
    | 5=>rfl
    | 6=>rfl
    | 7=>rfl
    | 8=>rfl
    | 9=>rfl
    | 10=>rfl
    | 11=>rfl
    | 12=>rfl
    | 13=>rfl
    | 14=>exact absurd rfl (hl 1 (by simp))
    | 15=>exact absurd rfl (hl 4 (by simp))
    | 16=>exact absurd rfl (hl 5 (by simp))
    | 17=>exact absurd rfl (hl 6 (by simp))
    | 18=>exact absurd rfl (hl 7 (by simp))
    | l+19=>rfl) rfl rfl rfl rfl
noncomputable def rlxH (ps:List Pc) (nh:Nat) (b:List (List (List UInt8)) × List (List UInt8)) (r:Ru):List (List (List UInt8)) × List (List UInt8):=(b.1++[rowF (fun i k=>decQ (mfQ ps r.fs i k)) ps.length nh],b.2++[r.hi])
noncomputable def rlxL (ps:List Pc) (nh:Nat) (b:List (List (List UInt8)) × List (List UInt8)) (r:Ru):List (List (List UInt8)) × List (List UInt8):=(b.1++[rowF (fun i k=>decQ (0-mfQ ps r.fs i k)) ps.length nh],b.2++[decQ (0-rdv r.lo)])
noncomputable def rlx3 (ps:List Pc) (nh:Nat) (b:List (List (List UInt8)) × List (List UInt8)) (r:Ru):List (List (List UInt8)) × List (List UInt8) :=
 if r.kd=1 then (if r.hi=[] then (if r.lo=[] then b else rlxL ps nh b r) else (if r.lo=[] then rlxH ps nh b r else rlxL ps nh (rlxH ps nh b r) r)) else b
theorem v2h (hlib:Lib E) {ps:List Pc} {hs:List Hd} {rs:List Ru} {n:Int} {b0:List (List (List UInt8)) × List (List UInt8)} (n1:ps.length≤7) (n2:hs.length≤7) (n3:rs.length≤17) (m1:b0.1.length≤100) (m2:b0.2.length≤100) (hp:∀ p∈ps,ok1 p.ma=true∧p.ma.length≤40)
    (hR:∀ r∈rs,r.kd=1→Rr ps hs r) :
    Lp E 12 A8 3 (H5 n (Rs rs) ((Rs rs).length:Int) 0 (Ps ps) (Hs hs) (Rs rs) (Ps ps) (Hs hs) b0.1.length b0.2.length (RA b0.1) (R1 b0.2)) (.exit 6)
     (z6g n (Ps ps) (Hs hs) (Rs rs) (Ps ps) (Hs hs) (rs.foldl (rlx3 ps hs.length) b0).1.length (rs.foldl (rlx3 ps hs.length) b0).2.length (RA (rs.foldl (rlx3 ps hs.length) b0).1) (R1 (rs.foldl (rlx3 ps hs.length) b0).2)):=by
 have l3:=z8e rs
 have:=H7 (E:=E) (l:=rs) (n:=12) (F:=A8) (k:=3) (rlx3 ps hs.length) (fun i b=>b.1.length≤100+2*i∧b.2.length≤100+2*i)
  (fun i b=>H5 n (Rs rs) ((Rs rs).length:Int) (i:Nat) (Ps ps) (Hs hs) (Rs rs) (Ps ps) (Hs hs) b.1.length b.2.length (RA b.1) (R1 b.2)) (oe:=.exit 6)
  (fin:=fun b=>z6g n (Ps ps) (Hs hs) (Rs rs) (Ps ps) (Hs hs) b.1.length b.2.length (RA b.1) (R1 b.2)) (fun b hb=>x4f (by omega))
  (fun i r b hr hb=>by
   have hi:=C7 hr
   have g:=A7 (y1s hr)
   have b1:(i:Int)<((Rs rs).length:Int):=by omega
   have b2:(0:Int)≤(i:Nat):=by omega
   have hm:=List.mem_of_getElem? hr
   have hL:=x7g
   unfold rlx3
   by_cases k1:r.kd=1
   rotate_left
   · rw [if_neg k1];exact ⟨by omega,fun o s ih=>x9m b1 b2 g k1 (wi (by omega)) ih⟩
   rw [if_pos k1]
   have hrr:=hR r hm k1
   have hx:∀ x∈r.fs,ok1 x=true∧x.length≤40:=fun x h=>⟨hrr.o x h,hrr.s.2.1 x h⟩
   have sub:r.lo≠[]→Fn E U7 [.c (.str ⟨#[48]⟩),.c (.str (B r.lo))] (.c (.str (B (decQ (0-rdv r.lo))))):=fun e=>by
    have o:=j4o hrr.lo e
    have m:=y2m hlib Sz.zero (z5k o hrr.s.2.2.1) (by omega)
    rw [← y9t,z8f o] at m
    exact m
   by_cases k2:r.hi=[]
   · rw [if_pos k2]
     by_cases k3:r.lo=[]
     · rw [if_pos k3];exact ⟨by omega,fun o s ih=>x9q b1 b2 g k1 (Z5.2 k2) (Z5.2 k3) (wi (by omega)) ih⟩
     · rw [if_neg k3]
       refine ⟨⟨by unfold rlxL;rw [List.length_append];simp;omega,by unfold rlxL;rw [List.length_append];simp;omega⟩,fun o s ih=>?_⟩
       have row:=v2c (E:=E) hlib (rs:=Rs rs) (b:=b) (a0:=decQ (0-rdv r.lo)) n1 n2 (by omega) (by omega) hrr.f hp hx
       unfold rlxL at ih
       rw [List.length_append,List.length_append] at ih
       exact x9p b1 b2 g k1 (Z5.2 k2) (fun h=>k3 (Z5.1 h)) (sub k3) row (wi (by omega)) ih
   · rw [if_neg k2]
     have row:=v2b (E:=E) hlib (rs:=Rs rs) (b:=b) (a0:=r.hi) n1 n2 (by omega) (by omega) hrr.f hp hx
     by_cases k3:r.lo=[]
     · rw [if_pos k3]
       refine ⟨⟨by unfold rlxH;rw [List.length_append];simp;omega,by unfold rlxH;rw [List.length_append];simp;omega⟩,fun o s ih=>?_⟩
       unfold rlxH at ih
       rw [List.length_append,List.length_append] at ih
       exact x9o b1 b2 g k1 (fun h=>k2 (Z5.1 h)) row (Z5.2 k3) (wi (by omega)) ih
     · rw [if_neg k3]
       refine ⟨⟨by unfold rlxL rlxH;rw [List.length_append,List.length_append];simp;omega,by unfold rlxL rlxH;rw [List.length_append,List.length_append];simp;omega⟩,fun o s ih=>?_⟩
       have row2:=v2d (E:=E) hlib (rs:=Rs rs) (b:=rlxH ps hs.length b r) (a0:=decQ (0-rdv r.lo)) n1 n2 (by unfold rlxH;rw [List.length_append];simp;omega) (by unfold rlxH;rw [List.length_append];simp;omega) hrr.f hp hx
       have e1:(rlxH ps hs.length b r).1.length=b.1.length+1:=by unfold rlxH;rw [List.length_append];rfl
       have e2:(rlxH ps hs.length b r).2.length=b.2.length+1:=by unfold rlxH;rw [List.length_append];rfl
       rw [e1,e2] at row2
       rw [show (rlxL ps hs.length (rlxH ps hs.length b r) r).1.length=b.1.length+1+1 by unfold rlxL;rw [List.length_append,e1];rfl,show (rlxL ps hs.length (rlxH ps hs.length b r) r).2.length=b.2.length+1+1 by unfold rlxL;rw [List.length_append,e2];rfl] at ih
       exact x9n b1 b2 g k1 (fun h=>k2 (Z5.1 h)) row (fun h=>k3 (Z5.1 h)) (sub k3) row2 (wi (by omega)) ih)
  rs.length 0 b0 (by omega) ⟨by omega,by omega⟩
 rw [List.drop_zero] at this
 exact this.2
theorem k3f {α:Type} (f:List (List (List UInt8)) × List (List UInt8)→α→List (List (List UInt8)) × List (List UInt8)) (hf:∀ b x,(f b x).1.length=b.1.length+1∧(f b x).2.length=b.2.length+1):∀ (l:List α) b,(l.foldl f b).1.length=b.1.length+l.length∧(l.foldl f b).2.length=b.2.length+l.length
 | [],b=>⟨rfl,rfl⟩
 | x::l,b=>by
  have h:=hf b x
  have:=k3f f hf l (f b x)
  rw [List.foldl_cons,List.length_cons];omega
noncomputable def k0b (ps:List Pc) (hs:List Hd) (rs:List Ru):List (List (List UInt8)) × List (List UInt8) :=
 rs.foldl (rlx3 ps hs.length) (hs.zipIdx.foldl (rlx2 ps hs.length) (hs.zipIdx.foldl (rlx1 ps hs.length) (ps.zipIdx.foldl (rlx0 ps.length hs.length) ([],[]))))
def rlxC (ps:List Pc) (hs:List Hd):List (List UInt8):=ps.flatMap fun p=>List.replicate hs.length p.wo
noncomputable def rlxE (ps:List Pc) (hs:List Hd) (rs:List Ru):Int:=if chkE ps hs rs=0 then (if ps.length*hs.length>12∨(k0b ps hs rs).2.length>12 then 8 else 0) else 1
theorem k7u (hlib:Lib E) {ps:List Pc} {hs:List Hd} {rs:List Ru} (h:Sp ps hs rs):Fn E A8 [.agg (Pb ps hs rs)]
    (if rlxE ps hs rs=0 then .tup [.agg [.list (RA (k0b ps hs rs).1),.list (R1 (k0b ps hs rs).2),.list (R1 (rlxC ps hs))],.c (.i64 0)] else .tup [.agg [.list [],.list [],.list []],.c (.i64 (rlxE ps hs rs))]):=by
 have hC:=z4n hlib h
 have n1:=h.sh.np
 have n2:=h.sh.nh
 have n3:=h.nr
 have l1:=z3l ps
 have l2:=z2j hs
 unfold rlxE
 by_cases c0:chkE ps hs rs=0
 rotate_left
 · rw [if_neg c0,if_neg (by decide)];exact j1h hC c0
 rw [if_pos c0]
 have hcc:=(y9u c0).1
 have z1:=k3f (rlx0 ps.length hs.length) (fun b x=>by unfold rlx0;simp) ps.zipIdx ([],[])
 have z2:=k3f (rlx1 ps hs.length) (fun b x=>by unfold rlx1;simp) hs.zipIdx (ps.zipIdx.foldl (rlx0 ps.length hs.length) ([],[]))
 have z3:=k3f (rlx2 ps hs.length) (fun b x=>by unfold rlx2;simp) hs.zipIdx (hs.zipIdx.foldl (rlx1 ps hs.length) (ps.zipIdx.foldl (rlx0 ps.length hs.length) ([],[])))
 simp only [List.length_zipIdx,List.length_nil] at z1 z2 z3
 have q0:=v2e (E:=E) hlib (ps:=ps) (hs:=hs) (rs:=Rs rs) (n:=((ps.length*hs.length:Nat):Int)) n1 n2 fun p hp=>(j3w hcc hp).2.1
 have q1:=v2f (E:=E) (ps:=ps) (hs:=hs) (rs:=Rs rs) (n:=((ps.length*hs.length:Nat):Int)) (b0:=ps.zipIdx.foldl (rlx0 ps.length hs.length) ([],[])) n1 n2 (by omega) (by omega)
 have q2:=v2g (E:=E) (ps:=ps) (hs:=hs) (rs:=Rs rs) (n:=((ps.length*hs.length:Nat):Int)) (b0:=hs.zipIdx.foldl (rlx1 ps hs.length) (ps.zipIdx.foldl (rlx0 ps.length hs.length) ([],[]))) n1 n2 (by omega) (by omega)
 have q3:=v2h (E:=E) hlib (ps:=ps) (hs:=hs) (rs:=rs) (n:=((ps.length*hs.length:Nat):Int)) (b0:=hs.zipIdx.foldl (rlx2 ps hs.length) (hs.zipIdx.foldl (rlx1 ps hs.length) (ps.zipIdx.foldl (rlx0 ps.length hs.length) ([],[])))) n1 n2 n3 (by omega) (by omega) (fun p hp=>⟨(v1j hcc hp).1,(h.sh.p p hp).1⟩) fun r hr hk=>by
  obtain ⟨i,hi⟩:=List.mem_iff_getElem?.1 hr
  exact Rr.of h c0 hi hk
 have e:IntKind.i64.wrap (((Ps ps).length:Int)*((Hs hs).length:Int))=((ps.length*hs.length:Nat):Int):=by
  rw [l1,l2]
  have hm:ps.length*hs.length≤7*7:=Nat.mul_le_mul n1 n2
  exact wi ⟨by rw [Int.natCast_mul],by omega,by omega⟩
 by_cases c1:ps.length*hs.length>12
 · rw [show (if ps.length*hs.length>12∨(k0b ps hs rs).2.length>12 then (8:Int) else 0)=8 from if_pos (.inl c1),if_neg (by decide)];exact j1i hC c0 q0 q1 q2 q3 (by omega) e
 by_cases c2:(k0b ps hs rs).2.length>12
 · rw [show (if ps.length*hs.length>12∨(k0b ps hs rs).2.length>12 then (8:Int) else 0)=8 from if_pos (.inr c2),if_neg (by decide)];exact j1j hC c0 q0 q1 q2 q3 (by omega) (by unfold k0b at c2;omega) e
 rw [show (if ps.length*hs.length>12∨(k0b ps hs rs).2.length>12 then (8:Int) else 0)=0 from if_neg (fun h=>h.elim c1 c2),if_pos rfl]
 exact j1k hC c0 q0 q1 q2 q3 (by omega) (by unfold k0b at c2;omega) (v2i n1 n2) e (by rw [← q9s,List.take_length];rfl) (by rw [← z4f,List.take_length];rfl) (by rw [← z4f,List.take_length];rfl)
theorem k7l {α:Type} {n F k:Nat} {l:List α} (st:Nat→St) {oe:Out} {fin:St} (hend:Lp E n F k (st l.length) oe fin) (hstep:∀ i a,l[i]?=some a→∀ o s,Lp E n F k (st (i+1)) o s→Lp E n F k (st i) o s):Lp E n F k (st 0) oe fin :=
 (H7 (E:=E) (l:=l) (β:=Unit) (fun _ _=>()) (fun _ _=>True) (fun i _=>st i) (fin:=fun _=>fin) (fun _ _=>hend) (fun i a _ ha _=>⟨trivial,hstep i a ha⟩) l.length 0 () (by omega) trivial).2
noncomputable def drE (ps:List Pc) (hs:List Hd) (rs:List Ru) (rule:Int):Int:=if chkE ps hs rs=0 then (if rule<0∨rule≥rs.length then 7 else 0) else 1
noncomputable def drV (ps:List Pc) (hs:List Hd) (rs:List Ru) (rule:Int):AV:=if drE ps hs rs rule=0 then .tup [.agg (Pb ps hs (rs.eraseIdx rule.toNat)),.c (.i64 0)] else .tup [.agg [.list [],.list [],.list []],.c (.i64 (drE ps hs rs rule))]
theorem v0k {ps:List Pc} {hs:List Hd} {rs:List Ru} (h0:chkE ps hs rs=0) {k:Nat} {r:Ru} (hr:rs[k]?=some r):drR rs r.nm=rs.eraseIdx k:=by
 have hz:=x1p (y9u h0).2.2
 have hd:∀ i x,rs[i]?=some x→(rs.take i).any (fun y=>y.nm == x.nm)=false:=fun i x hx=>by have:=(k3e (hz i x hx)).2.2.2.2;rw [Nat.zero_add] at this;exact this
 have hlt:=C7 hr
 unfold drR
 rw [List.eraseIdx_eq_take_drop_succ]
 conv=>lhs;rw [← List.take_append_drop k rs,y7g hr,List.filter_append,List.filter_cons_of_neg (by simp)]
 congr 1
 · rw [List.filter_eq_self]
   intro y hy
   have:=List.any_eq_false.1 (hd k r hr) y hy
   simpa using this
 · rw [List.filter_eq_self]
   intro y hy
   obtain ⟨j,hj⟩:=List.mem_iff_getElem?.1 hy
   rw [List.getElem?_drop] at hj
   have:=List.any_eq_false.1 (hd _ y hj) r (by
    rw [List.mem_iff_getElem?]
    exact ⟨k,by rw [List.getElem?_take,if_pos (by omega)];exact hr⟩)
   have hn:¬ r.nm=y.nm:=by simpa using this
   simp only [Bool.not_eq_true',beq_eq_false_iff_ne]
   exact fun e=>hn e.symm
theorem k7r (hlib:Lib E) (hc:Cs E) {ps:List Pc} {hs:List Hd} {rs:List Ru} {rule:Int} (h:Sp ps hs rs):Fn E N5 [.agg (Pb ps hs rs),.c (.i64 rule)] (drV ps hs rs rule):=by
 have hC:=z4n hlib h
 have l3:=z8e rs
 unfold drV drE
 by_cases c0:chkE ps hs rs=0
 rotate_left
 · rw [if_neg c0,if_neg (by decide)];exact j6j hC c0
 rw [if_pos c0]
 by_cases c1:rule<0
 · rw [if_pos (Or.inl c1),if_neg (by decide)];exact j6k hC c0 c1
 by_cases c2:rule≥rs.length
 · rw [if_pos (Or.inr c2),if_neg (by decide)];exact j6l hC c0 c1 (by omega)
 rw [show (if rule<0∨rule≥(rs.length:Int) then (7:Int) else 0)=0 from if_neg (fun e=>e.elim c1 c2),if_pos rfl]
 obtain ⟨r,hr⟩:=z0w (l:=rs) (i:=rule.toNat) (by omega)
 have k:=x3d hlib hc h c0 hr
 rw [v0k c0 hr,show ((rule.toNat:Nat):Int)=rule by omega] at k
 exact k
end Gev
namespace Go.Proofs
open Go.Shelf
def Tryz.lays169_ren:Go.Shelf.Ren:=⟨fun | 169=>282 | n=>n,fun | 70=>271 | 9=>9 | 0=>0 | 72=>273 | 37=>190 | 127=>294 | 3=>3 | 5=>5 | n=>n,fun | n=>n⟩
theorem Tryz.lays169:Go.Proofs.Lays.n169 Tryz.prog Tryz.lays169_ren:={
 mixed:=by kernel_rfl
 f169:=Tryz.func282.trans (congrArg some (by kernel_rfl))
 t0:=Tryz.underlying0
 a0:=Tryz.isAgg0
 z0:=Tryz.sizeOf0
 v0:=Tryz.zeroValue0
 t3:=Tryz.underlying3
 a3:=Tryz.isAgg3
 z3:=Tryz.sizeOf3
 v3:=Tryz.zeroValue3
 t9:=Tryz.underlying9
 a9:=Tryz.isAgg9
 z9:=Tryz.sizeOf9
 v9:=Tryz.zeroValue9
 t37:=Tryz.underlying190
 a37:=Tryz.isAgg190
 z37:=Tryz.sizeOf190
 v37:=Tryz.zeroValue190
 t70:=Tryz.underlying271
 a70:=Tryz.isAgg271
 z70:=Tryz.sizeOf271
 v70:=Tryz.zeroValue271
 t72:=Tryz.underlying273
 a72:=Tryz.isAgg273
 z72:=Tryz.sizeOf273
 v72:=Tryz.zeroValue273
 t127:=Tryz.underlying294
 a127:=Tryz.isAgg294
 z127:=Tryz.sizeOf294
 v127:=Tryz.zeroValue294 }
theorem Tryz.Builder_Extra_169:Builder.Extra Tryz.prog Tryz.lays169_ren:={
 sizeBuilder:=by kernel_rfl
 liesBuilder:=by kernel_rfl
 t5:=Tryz.underlying5
 a5:=Tryz.isAgg5
 z5:=Tryz.sizeOf5
 v5:=Tryz.zeroValue5
 infoByte:=by kernel_rfl
 cellsByte:=by kernel_rfl
 sizeByte:=by kernel_rfl
 neB5:=by decide }
def Tryz.lays103_ren:Go.Shelf.Ren:=⟨fun | 103=>230 | 210=>256 | 206=>275 | n=>n,fun | 9=>9 | 4=>4 | 24=>232 | 3=>3 | n=>n,fun | n=>n⟩
theorem Tryz.lays103:Go.Proofs.Lays.n103 Tryz.prog Tryz.lays103_ren:={
 mixed:=by kernel_rfl
 f103:=Tryz.func230.trans (congrArg some (by kernel_rfl))
 f206:=Tryz.func275.trans (congrArg some (by kernel_rfl))
 f210:=Tryz.func256.trans (congrArg some (by kernel_rfl))
 t3:=Tryz.underlying3
 a3:=Tryz.isAgg3
 z3:=Tryz.sizeOf3
 v3:=Tryz.zeroValue3
 t4:=Tryz.underlying4
 a4:=Tryz.isAgg4
 z4:=Tryz.sizeOf4
 v4:=Tryz.zeroValue4
 t9:=Tryz.underlying9
 a9:=Tryz.isAgg9
 z9:=Tryz.sizeOf9
 v9:=Tryz.zeroValue9
 t24:=Tryz.underlying232
 a24:=Tryz.isAgg232
 z24:=Tryz.sizeOf232
 v24:=Tryz.zeroValue232 }
open Go.RowKit in
theorem Tryz.strings_CutPrefix (s p:ByteArray) (w:World) :
    Calls Tryz.prog 230 #[.string s,.string p] w fun e w'=>e=.returned (.tuple #[.string ⟨(Lib.trimPrefix s.data.toList p.data.toList).toArray⟩,.bool (Lib.hasPrefix s.data.toList p.data.toList)])∧w'=w:=Any.strings_CutPrefix Tryz.lays103 s p w
open Go.RowKit in
theorem Tryz.Builder_String_any_k (B b:Nat) (l:List UInt8) (w:World) (h:Lib.IsBuilderF 273 5 B b (Lib.byteCells l) w) (hBw:B≤w.heap.size) :
    Calls Tryz.prog 282 #[.pointer (some ⟨b,0,none⟩)] w fun e w'=>e=.returned (.string ⟨l.toArray⟩)∧(Lib.IsBuilderF 273 5 B b (Lib.byteCells l) w'∧Below B w w'∧Lib.OthersKept 5 (some b) w w'):=Any.Builder_String_any_k Tryz.lays169 Tryz.Builder_Extra_169 B b l w h hBw
def Tryz.lays283_ren:Go.Shelf.Ren:=⟨fun | 283=>224 | n=>n,fun | 3=>3 | 9=>9 | 4=>4 | n=>n,fun | n=>n⟩
theorem Tryz.lays283:Go.Proofs.Lays.n283 Tryz.prog Tryz.lays283_ren:={
 mixed:=by kernel_rfl
 f283:=Tryz.func224.trans (congrArg some (by kernel_rfl))
 t3:=Tryz.underlying3
 a3:=Tryz.isAgg3
 z3:=Tryz.sizeOf3
 v3:=Tryz.zeroValue3
 t4:=Tryz.underlying4
 a4:=Tryz.isAgg4
 z4:=Tryz.sizeOf4
 v4:=Tryz.zeroValue4
 t9:=Tryz.underlying9
 a9:=Tryz.isAgg9
 z9:=Tryz.sizeOf9
 v9:=Tryz.zeroValue9 }
open Go.Lib in
theorem Tryz.internal_strconv_small (i:Nat) (h:i<100) (w:World) :
    Calls Tryz.prog 224 #[.int .i64 i] w fun e w'=>e=.returned (.string ⟨(Lib.decDigits i).toArray⟩)∧w'=w:=Any.internal_strconv_small Tryz.lays283 i h w
def Tryz.laysM284_ren:Go.Shelf.Ren:=⟨fun | 284=>225 | 129=>242 | 317=>241 | 318=>243 | n=>n,fun | 53=>176 | 3=>3 | 212=>247 | 0=>0 | 4=>4 | 46=>170 | 5=>5 | 9=>9 | n=>n,fun | 17=>0 | n=>n⟩
theorem Tryz.laysM284:Go.Proofs.LaysM.n284 Tryz.prog Tryz.laysM284_ren:={
 mixed:=by kernel_rfl
 f129:=Tryz.func242.trans (congrArg some (by kernel_rfl))
 f284:=Tryz.func225.trans (congrArg some (by kernel_rfl))
 f317:=Tryz.func241.trans (congrArg some (by kernel_rfl))
 f318:=Tryz.func243.trans (congrArg some (by kernel_rfl))
 t0:=Tryz.underlying0
 a0:=Tryz.isAgg0
 z0:=Tryz.sizeOf0
 v0:=Tryz.zeroValue0
 t3:=Tryz.underlying3
 a3:=Tryz.isAgg3
 z3:=Tryz.sizeOf3
 v3:=Tryz.zeroValue3
 t4:=Tryz.underlying4
 a4:=Tryz.isAgg4
 z4:=Tryz.sizeOf4
 v4:=Tryz.zeroValue4
 t5:=Tryz.underlying5
 a5:=Tryz.isAgg5
 z5:=Tryz.sizeOf5
 v5:=Tryz.zeroValue5
 t9:=Tryz.underlying9
 a9:=Tryz.isAgg9
 z9:=Tryz.sizeOf9
 v9:=Tryz.zeroValue9
 t46:=Tryz.underlying170
 a46:=Tryz.isAgg170
 z46:=Tryz.sizeOf170
 v46:=Tryz.zeroValue170
 t53:=Tryz.underlying176
 a53:=Tryz.isAgg176
 z53:=Tryz.sizeOf176
 v53:=Tryz.zeroValue176
 t212:=Tryz.underlying247
 a212:=Tryz.isAgg247
 z212:=Tryz.sizeOf247
 v212:=Tryz.zeroValue247
 g17:=by kernel_rfl
 i0:=by kernel_rfl
 i3:=by kernel_rfl
 i4:=by kernel_rfl
 i5:=by kernel_rfl
 i9:=by kernel_rfl
 i46:=by kernel_rfl
 i53:=by kernel_rfl
 i212:=by kernel_rfl
 m17:=by kernel_rfl }
open Go.Lib in
theorem Tryz.internal_strconv_numDigits (u:Nat)(h1:1≤u)(h2:u<18446744073709551616) (w:World) (htab:Lib.TabIs Tryz.prog w "internal/strconv.uint64pow10" .u64 Lib.pow10Tab) :
    Calls Tryz.prog 225 #[.int .u64 u] w fun e w'=>e=.returned (.int .i64 (Lib.nDigits u))∧w'=w:=Any.internal_strconv_numDigits Tryz.laysM284 u h1 h2 w htab
def Tryz.lays285_ren:Go.Shelf.Ren:=⟨fun | 285=>226 | n=>n,fun | 37=>190 | 53=>176 | 3=>3 | 4=>4 | 51=>130 | 9=>9 | 5=>5 | 0=>0 | n=>n,fun | n=>n⟩
theorem Tryz.lays285:Go.Proofs.Lays.n285 Tryz.prog Tryz.lays285_ren:={
 mixed:=by kernel_rfl
 f285:=Tryz.func226.trans (congrArg some (by kernel_rfl))
 t0:=Tryz.underlying0
 a0:=Tryz.isAgg0
 z0:=Tryz.sizeOf0
 v0:=Tryz.zeroValue0
 t3:=Tryz.underlying3
 a3:=Tryz.isAgg3
 z3:=Tryz.sizeOf3
 v3:=Tryz.zeroValue3
 t4:=Tryz.underlying4
 a4:=Tryz.isAgg4
 z4:=Tryz.sizeOf4
 v4:=Tryz.zeroValue4
 t5:=Tryz.underlying5
 a5:=Tryz.isAgg5
 z5:=Tryz.sizeOf5
 v5:=Tryz.zeroValue5
 t9:=Tryz.underlying9
 a9:=Tryz.isAgg9
 z9:=Tryz.sizeOf9
 v9:=Tryz.zeroValue9
 t37:=Tryz.underlying190
 a37:=Tryz.isAgg190
 z37:=Tryz.sizeOf190
 v37:=Tryz.zeroValue190
 t51:=Tryz.underlying130
 a51:=Tryz.isAgg130
 z51:=Tryz.sizeOf130
 v51:=Tryz.zeroValue130
 t53:=Tryz.underlying176
 a53:=Tryz.isAgg176
 z53:=Tryz.sizeOf176
 v53:=Tryz.zeroValue176 }
open Go.RowKit Go.Sort Go.Lib in
theorem Tryz.internal_strconv_formatBase10 (blk off cap:Nat) (u:Nat) (d:Array UInt8) (w:World) (hH:Holds (fun (b:UInt8)=>Value.int .u8 (b.toNat:Int)) w blk off d) (hu:u<10 ^ d.size) (hu64:u<18446744073709551616) (hsz:d.size<4611686018427387904) :
    Calls Tryz.prog 226 #[.slice (some ⟨blk,off,none⟩) d.size cap,.int .u64 u] w fun e w' =>
     e=.returned (.tuple #[])∧∃ (n v':Nat) (dk:Array UInt8),w'=(putRow (fun (b:UInt8)=>Value.int .u8 (b.toNat:Int)) w blk off dk).drewN n∧FmtInv d.size u 0 v' dk:=Any.internal_strconv_formatBase10 Tryz.lays285 blk off cap u d w hH hu hu64 hsz
def Tryz.laysM171_ren:Go.Shelf.Ren:=⟨fun | 171=>146 | 243=>188 | 246=>209 | 283=>224 | 284=>225 | 285=>226 | 286=>227 | 129=>242 | 317=>241 | 318=>243 | 319=>244 | 320=>245 | 337=>266 | 338=>267 | n=>n,fun | 3=>3 | 9=>9 | 2=>2 | 4=>4 | 171=>226 | 0=>0 | 53=>176 | 37=>190 | 5=>5 | 173=>229 | 212=>247 | 51=>130 | 20=>20 | 213=>248 | 46=>170 | 232=>283 | 233=>284 | n=>n,fun | 17=>0 | 18=>2 | 19=>3 | n=>n⟩
theorem Tryz.laysM171:Go.Proofs.LaysM.n171 Tryz.prog Tryz.laysM171_ren:={
 mixed:=by kernel_rfl
 f129:=Tryz.func242.trans (congrArg some (by kernel_rfl))
 f171:=Tryz.func146.trans (congrArg some (by kernel_rfl))
 f243:=Tryz.func188.trans (congrArg some (by kernel_rfl))
 f246:=Tryz.func209.trans (congrArg some (by kernel_rfl))
 f283:=Tryz.func224.trans (congrArg some (by kernel_rfl))
 f284:=Tryz.func225.trans (congrArg some (by kernel_rfl))
 f285:=Tryz.func226.trans (congrArg some (by kernel_rfl))
 f286:=Tryz.func227.trans (congrArg some (by kernel_rfl))
 f317:=Tryz.func241.trans (congrArg some (by kernel_rfl))
 f318:=Tryz.func243.trans (congrArg some (by kernel_rfl))
 f319:=Tryz.func244.trans (congrArg some (by kernel_rfl))
 f320:=Tryz.func245.trans (congrArg some (by kernel_rfl))
 f337:=Tryz.func266.trans (congrArg some (by kernel_rfl))
 f338:=Tryz.func267.trans (congrArg some (by kernel_rfl))
 t0:=Tryz.underlying0
 a0:=Tryz.isAgg0
 z0:=Tryz.sizeOf0
 v0:=Tryz.zeroValue0
 t2:=Tryz.underlying2
 a2:=Tryz.isAgg2
 z2:=Tryz.sizeOf2
 v2:=Tryz.zeroValue2
 t3:=Tryz.underlying3
 a3:=Tryz.isAgg3
 z3:=Tryz.sizeOf3
 v3:=Tryz.zeroValue3
 t4:=Tryz.underlying4
 a4:=Tryz.isAgg4
 z4:=Tryz.sizeOf4
 v4:=Tryz.zeroValue4
 t5:=Tryz.underlying5
 a5:=Tryz.isAgg5
 z5:=Tryz.sizeOf5
 v5:=Tryz.zeroValue5
 t9:=Tryz.underlying9
 a9:=Tryz.isAgg9
 z9:=Tryz.sizeOf9
 v9:=Tryz.zeroValue9
 t20:=Tryz.underlying20
 a20:=Tryz.isAgg20
 z20:=Tryz.sizeOf20
 v20:=Tryz.zeroValue20
 t37:=Tryz.underlying190
 a37:=Tryz.isAgg190
 z37:=Tryz.sizeOf190
 v37:=Tryz.zeroValue190
 t46:=Tryz.underlying170
 a46:=Tryz.isAgg170
 z46:=Tryz.sizeOf170
 v46:=Tryz.zeroValue170
 t51:=Tryz.underlying130
 a51:=Tryz.isAgg130
 z51:=Tryz.sizeOf130
 v51:=Tryz.zeroValue130
 t53:=Tryz.underlying176
 a53:=Tryz.isAgg176
 z53:=Tryz.sizeOf176
 v53:=Tryz.zeroValue176
 t171:=Tryz.underlying226
 a171:=Tryz.isAgg226
 z171:=Tryz.sizeOf226
 v171:=Tryz.zeroValue226
 t173:=Tryz.underlying229
 a173:=Tryz.isAgg229
 z173:=Tryz.sizeOf229
 v173:=Tryz.zeroValue229
 t212:=Tryz.underlying247
 a212:=Tryz.isAgg247
 z212:=Tryz.sizeOf247
 v212:=Tryz.zeroValue247
 t213:=Tryz.underlying248
 a213:=Tryz.isAgg248
 z213:=Tryz.sizeOf248
 t232:=Tryz.underlying283
 a232:=Tryz.isAgg283
 z232:=Tryz.sizeOf283
 v232:=Tryz.zeroValue283
 t233:=Tryz.underlying284
 a233:=Tryz.isAgg284
 z233:=Tryz.sizeOf284
 v233:=Tryz.zeroValue284
 g17:=by kernel_rfl
 g18:=by kernel_rfl
 g19:=by kernel_rfl
 i0:=by kernel_rfl
 i2:=by kernel_rfl
 i3:=by kernel_rfl
 i4:=by kernel_rfl
 i5:=by kernel_rfl
 i9:=by kernel_rfl
 i20:=by kernel_rfl
 i37:=by kernel_rfl
 i46:=by kernel_rfl
 i51:=by kernel_rfl
 i53:=by kernel_rfl
 i171:=by kernel_rfl
 i173:=by kernel_rfl
 i212:=by kernel_rfl
 i232:=by kernel_rfl
 i233:=by kernel_rfl
 m17:=by kernel_rfl
 m18:=by kernel_rfl
 m19:=by kernel_rfl }
open Go.RowKit Go.Sort Go.Lib in
theorem Tryz.strconv_Itoa (n:Int)(h0:-9223372036854775808≤n)(h1:n≤9223372036854775807) (w:World) (htab:Lib.TabIs Tryz.prog w "internal/strconv.uint64pow10" .u64 Lib.pow10Tab) :
    Calls Tryz.prog 146 #[.int .i64 n] w fun e w'=>e=.returned (.string ⟨(Lib.itoa n).toArray⟩)∧∃ k os,w'=grow (w.drewN k) os:=Any.strconv_Itoa Tryz.laysM171 n h0 h1 w htab
def Tryz.laysM173_ren:Go.Shelf.Ren:=⟨fun | 173=>288 | 246=>209 | 283=>224 | 284=>225 | 285=>226 | 286=>227 | 129=>242 | 317=>241 | 318=>243 | 319=>244 | 320=>245 | 337=>266 | 338=>267 | n=>n,fun | 2=>2 | 3=>3 | 9=>9 | 4=>4 | 171=>226 | 0=>0 | 53=>176 | 37=>190 | 5=>5 | 173=>229 | 212=>247 | 51=>130 | 20=>20 | 213=>248 | 46=>170 | 232=>283 | 233=>284 | n=>n,fun | 17=>0 | 18=>2 | 19=>3 | n=>n⟩
theorem Tryz.laysM173:Go.Proofs.LaysM.n173 Tryz.prog Tryz.laysM173_ren:={
 mixed:=by kernel_rfl
 f129:=Tryz.func242.trans (congrArg some (by kernel_rfl))
 f173:=Tryz.func288.trans (congrArg some (by kernel_rfl))
 f246:=Tryz.func209.trans (congrArg some (by kernel_rfl))
 f283:=Tryz.func224.trans (congrArg some (by kernel_rfl))
 f284:=Tryz.func225.trans (congrArg some (by kernel_rfl))
 f285:=Tryz.func226.trans (congrArg some (by kernel_rfl))
 f286:=Tryz.func227.trans (congrArg some (by kernel_rfl))
 f317:=Tryz.func241.trans (congrArg some (by kernel_rfl))
 f318:=Tryz.func243.trans (congrArg some (by kernel_rfl))
 f319:=Tryz.func244.trans (congrArg some (by kernel_rfl))
 f320:=Tryz.func245.trans (congrArg some (by kernel_rfl))
 f337:=Tryz.func266.trans (congrArg some (by kernel_rfl))
 f338:=Tryz.func267.trans (congrArg some (by kernel_rfl))
 t0:=Tryz.underlying0
 a0:=Tryz.isAgg0
 z0:=Tryz.sizeOf0
 v0:=Tryz.zeroValue0
 t2:=Tryz.underlying2
 a2:=Tryz.isAgg2
 z2:=Tryz.sizeOf2
 v2:=Tryz.zeroValue2
 t3:=Tryz.underlying3
 a3:=Tryz.isAgg3
 z3:=Tryz.sizeOf3
 v3:=Tryz.zeroValue3
 t4:=Tryz.underlying4
 a4:=Tryz.isAgg4
 z4:=Tryz.sizeOf4
 v4:=Tryz.zeroValue4
 t5:=Tryz.underlying5
 a5:=Tryz.isAgg5
 z5:=Tryz.sizeOf5
 v5:=Tryz.zeroValue5
 t9:=Tryz.underlying9
 a9:=Tryz.isAgg9
 z9:=Tryz.sizeOf9
 v9:=Tryz.zeroValue9
 t20:=Tryz.underlying20
 a20:=Tryz.isAgg20
 z20:=Tryz.sizeOf20
 v20:=Tryz.zeroValue20
 t37:=Tryz.underlying190
 a37:=Tryz.isAgg190
 z37:=Tryz.sizeOf190
 v37:=Tryz.zeroValue190
 t46:=Tryz.underlying170
 a46:=Tryz.isAgg170
 z46:=Tryz.sizeOf170
 v46:=Tryz.zeroValue170
 t51:=Tryz.underlying130
 a51:=Tryz.isAgg130
 z51:=Tryz.sizeOf130
 v51:=Tryz.zeroValue130
 t53:=Tryz.underlying176
 a53:=Tryz.isAgg176
 z53:=Tryz.sizeOf176
 v53:=Tryz.zeroValue176
 t171:=Tryz.underlying226
 a171:=Tryz.isAgg226
 z171:=Tryz.sizeOf226
 v171:=Tryz.zeroValue226
 t173:=Tryz.underlying229
 a173:=Tryz.isAgg229
 z173:=Tryz.sizeOf229
 v173:=Tryz.zeroValue229
 t212:=Tryz.underlying247
 a212:=Tryz.isAgg247
 z212:=Tryz.sizeOf247
 v212:=Tryz.zeroValue247
 t213:=Tryz.underlying248
 a213:=Tryz.isAgg248
 z213:=Tryz.sizeOf248
 t232:=Tryz.underlying283
 a232:=Tryz.isAgg283
 z232:=Tryz.sizeOf283
 v232:=Tryz.zeroValue283
 t233:=Tryz.underlying284
 a233:=Tryz.isAgg284
 z233:=Tryz.sizeOf284
 v233:=Tryz.zeroValue284
 g17:=by kernel_rfl
 g18:=by kernel_rfl
 g19:=by kernel_rfl
 i0:=by kernel_rfl
 i2:=by kernel_rfl
 i3:=by kernel_rfl
 i4:=by kernel_rfl
 i5:=by kernel_rfl
 i9:=by kernel_rfl
 i20:=by kernel_rfl
 i37:=by kernel_rfl
 i46:=by kernel_rfl
 i51:=by kernel_rfl
 i53:=by kernel_rfl
 i171:=by kernel_rfl
 i173:=by kernel_rfl
 i212:=by kernel_rfl
 i232:=by kernel_rfl
 i233:=by kernel_rfl
 m17:=by kernel_rfl
 m18:=by kernel_rfl
 m19:=by kernel_rfl }
open Go.RowKit Go.Sort Go.Lib in
theorem Tryz.strconv_FormatInt_10 (n:Int)(h0:-9223372036854775808≤n)(h1:n≤9223372036854775807) (w:World) (htab:Lib.TabIs Tryz.prog w "internal/strconv.uint64pow10" .u64 Lib.pow10Tab) :
    Calls Tryz.prog 288 #[.int .i64 n,.int .i64 10] w fun e w'=>e=.returned (.string ⟨(Lib.itoa n).toArray⟩)∧∃ k os,w'=grow (w.drewN k) os:=Any.strconv_FormatInt_10 Tryz.laysM173 n h0 h1 w htab
def Tryz.laysC174_ren:Go.Shelf.Ren:=⟨fun | 174=>287 | 247=>302 | 245=>292 | 287=>291 | 279=>306 | 280=>307 | 281=>308 | 282=>309 | 321=>304 | 322=>305 | 316=>315 | 171=>146 | 205=>316 | 243=>188 | 246=>209 | 283=>224 | 284=>225 | 285=>226 | 286=>227 | 129=>242 | 317=>241 | 318=>243 | 319=>244 | 320=>245 | 337=>266 | 338=>267 | n=>n,fun | 9=>9 | 3=>3 | 2=>2 | 75=>267 | 85=>285 | 4=>4 | 167=>299 | 5=>5 | 53=>176 | 175=>268 | 46=>170 | 168=>301 | 37=>190 | 0=>0 | 210=>312 | 21=>21 | 127=>294 | 145=>317 | 143=>315 | 171=>226 | 173=>229 | 212=>247 | 51=>130 | 20=>20 | 213=>248 | 232=>283 | 233=>284 | 80=>224 | n=>n,fun | 15=>4 | 16=>5 | 17=>0 | 18=>2 | 19=>3 | n=>n⟩
theorem Tryz.laysC174:Go.Proofs.LaysC.n174 Tryz.prog Tryz.laysC174_ren:={
 mixed:=by kernel_rfl
 f129:=Tryz.func242.trans (congrArg some (by kernel_rfl))
 f171:=Tryz.func146.trans (congrArg some (by kernel_rfl))
 f174:=Tryz.func287.trans (congrArg some (by kernel_rfl))
 f205:=Tryz.func316.trans (congrArg some (by kernel_rfl))
 f243:=Tryz.func188.trans (congrArg some (by kernel_rfl))
 f245:=Tryz.func292.trans (congrArg some (by kernel_rfl))
 f246:=Tryz.func209.trans (congrArg some (by kernel_rfl))
 f247:=Tryz.func302.trans (congrArg some (by kernel_rfl))
 f279:=Tryz.func306.trans (congrArg some (by kernel_rfl))
 f280:=Tryz.func307.trans (congrArg some (by kernel_rfl))
 f281:=Tryz.func308.trans (congrArg some (by kernel_rfl))
 f282:=Tryz.func309.trans (congrArg some (by kernel_rfl))
 f283:=Tryz.func224.trans (congrArg some (by kernel_rfl))
 f284:=Tryz.func225.trans (congrArg some (by kernel_rfl))
 f285:=Tryz.func226.trans (congrArg some (by kernel_rfl))
 f286:=Tryz.func227.trans (congrArg some (by kernel_rfl))
 f287:=Tryz.func291.trans (congrArg some (by kernel_rfl))
 f316:=Tryz.func315.trans (congrArg some (by kernel_rfl))
 f317:=Tryz.func241.trans (congrArg some (by kernel_rfl))
 f318:=Tryz.func243.trans (congrArg some (by kernel_rfl))
 f319:=Tryz.func244.trans (congrArg some (by kernel_rfl))
 f320:=Tryz.func245.trans (congrArg some (by kernel_rfl))
 f321:=Tryz.func304.trans (congrArg some (by kernel_rfl))
 f322:=Tryz.func305.trans (congrArg some (by kernel_rfl))
 f337:=Tryz.func266.trans (congrArg some (by kernel_rfl))
 f338:=Tryz.func267.trans (congrArg some (by kernel_rfl))
 t0:=Tryz.underlying0
 a0:=Tryz.isAgg0
 z0:=Tryz.sizeOf0
 v0:=Tryz.zeroValue0
 t2:=Tryz.underlying2
 a2:=Tryz.isAgg2
 z2:=Tryz.sizeOf2
 v2:=Tryz.zeroValue2
 t3:=Tryz.underlying3
 a3:=Tryz.isAgg3
 z3:=Tryz.sizeOf3
 v3:=Tryz.zeroValue3
 t4:=Tryz.underlying4
 a4:=Tryz.isAgg4
 z4:=Tryz.sizeOf4
 v4:=Tryz.zeroValue4
 t5:=Tryz.underlying5
 a5:=Tryz.isAgg5
 z5:=Tryz.sizeOf5
 v5:=Tryz.zeroValue5
 t9:=Tryz.underlying9
 a9:=Tryz.isAgg9
 z9:=Tryz.sizeOf9
 v9:=Tryz.zeroValue9
 t20:=Tryz.underlying20
 a20:=Tryz.isAgg20
 z20:=Tryz.sizeOf20
 v20:=Tryz.zeroValue20
 t21:=Tryz.underlying21
 a21:=Tryz.isAgg21
 z21:=Tryz.sizeOf21
 v21:=Tryz.zeroValue21
 t37:=Tryz.underlying190
 a37:=Tryz.isAgg190
 z37:=Tryz.sizeOf190
 v37:=Tryz.zeroValue190
 t46:=Tryz.underlying170
 a46:=Tryz.isAgg170
 z46:=Tryz.sizeOf170
 v46:=Tryz.zeroValue170
 t51:=Tryz.underlying130
 a51:=Tryz.isAgg130
 z51:=Tryz.sizeOf130
 v51:=Tryz.zeroValue130
 t53:=Tryz.underlying176
 a53:=Tryz.isAgg176
 z53:=Tryz.sizeOf176
 v53:=Tryz.zeroValue176
 t75:=Tryz.underlying267
 a75:=Tryz.isAgg267
 z75:=Tryz.sizeOf267
 v75:=Tryz.zeroValue267
 t85:=Tryz.underlying285
 a85:=Tryz.isAgg285
 z85:=Tryz.sizeOf285
 v85:=Tryz.zeroValue285
 t127:=Tryz.underlying294
 a127:=Tryz.isAgg294
 z127:=Tryz.sizeOf294
 v127:=Tryz.zeroValue294
 t143:=Tryz.underlying315
 a143:=Tryz.isAgg315
 z143:=Tryz.sizeOf315
 v143:=Tryz.zeroValue315
 t145:=Tryz.underlying317
 a145:=Tryz.isAgg317
 z145:=Tryz.sizeOf317
 v145:=Tryz.zeroValue317
 t167:=Tryz.underlying299
 a167:=Tryz.isAgg299
 z167:=Tryz.sizeOf299
 v167:=Tryz.zeroValue299
 t168:=Tryz.underlying301
 a168:=Tryz.isAgg301
 z168:=Tryz.sizeOf301
 v168:=Tryz.zeroValue301
 t171:=Tryz.underlying226
 a171:=Tryz.isAgg226
 z171:=Tryz.sizeOf226
 v171:=Tryz.zeroValue226
 t173:=Tryz.underlying229
 a173:=Tryz.isAgg229
 z173:=Tryz.sizeOf229
 v173:=Tryz.zeroValue229
 t175:=Tryz.underlying268
 a175:=Tryz.isAgg268
 z175:=Tryz.sizeOf268
 v175:=Tryz.zeroValue268
 t210:=Tryz.underlying312
 a210:=Tryz.isAgg312
 z210:=Tryz.sizeOf312
 v210:=Tryz.zeroValue312
 t212:=Tryz.underlying247
 a212:=Tryz.isAgg247
 z212:=Tryz.sizeOf247
 v212:=Tryz.zeroValue247
 t213:=Tryz.underlying248
 a213:=Tryz.isAgg248
 z213:=Tryz.sizeOf248
 t232:=Tryz.underlying283
 a232:=Tryz.isAgg283
 z232:=Tryz.sizeOf283
 v232:=Tryz.zeroValue283
 t233:=Tryz.underlying284
 a233:=Tryz.isAgg284
 z233:=Tryz.sizeOf284
 v233:=Tryz.zeroValue284
 g15:=by kernel_rfl
 g16:=by kernel_rfl
 g17:=by kernel_rfl
 g18:=by kernel_rfl
 g19:=by kernel_rfl
 t80:=Tryz.underlying224
 a80:=Tryz.isAgg224
 z80:=Tryz.sizeOf224
 v80:=Tryz.zeroValue224
 i0:=by kernel_rfl
 i2:=by kernel_rfl
 i3:=by kernel_rfl
 i4:=by kernel_rfl
 i5:=by kernel_rfl
 i9:=by kernel_rfl
 i20:=by kernel_rfl
 i21:=by kernel_rfl
 i37:=by kernel_rfl
 i46:=by kernel_rfl
 i51:=by kernel_rfl
 i53:=by kernel_rfl
 i75:=by kernel_rfl
 i80:=by kernel_rfl
 i85:=by kernel_rfl
 i127:=by kernel_rfl
 i143:=by kernel_rfl
 i145:=by kernel_rfl
 i167:=by kernel_rfl
 i168:=by kernel_rfl
 i171:=by kernel_rfl
 i173:=by kernel_rfl
 i175:=by kernel_rfl
 i210:=by kernel_rfl
 i212:=by kernel_rfl
 i232:=by kernel_rfl
 i233:=by kernel_rfl
 m15:=by kernel_rfl
 m16:=by kernel_rfl
 m17:=by kernel_rfl
 m18:=by kernel_rfl
 m19:=by kernel_rfl
 c0:=by kernel_rfl
 c2:=by kernel_rfl
 c3:=by kernel_rfl
 c4:=by kernel_rfl
 c5:=by kernel_rfl
 c9:=by kernel_rfl
 c20:=by kernel_rfl
 c21:=by kernel_rfl
 c37:=by kernel_rfl
 c46:=by kernel_rfl
 c51:=by kernel_rfl
 c53:=by kernel_rfl
 c75:=by kernel_rfl
 c80:=by kernel_rfl
 c85:=by kernel_rfl
 c127:=by kernel_rfl
 c143:=by kernel_rfl
 c145:=by kernel_rfl
 c167:=by kernel_rfl
 c168:=by kernel_rfl
 c171:=by kernel_rfl
 c173:=by kernel_rfl
 c175:=by kernel_rfl
 c210:=by kernel_rfl
 c212:=by kernel_rfl
 c213:=by kernel_rfl
 c232:=by kernel_rfl
 c233:=by kernel_rfl }
open Go.RowKit in
theorem Tryz.strconv_ParseInt_10_at64_ok (s:ByteArray) (hmax:s.size≤9223372036854775806) (v:Int) (h:Lib.parseIntB 64 s.data.toList=.ok v) (w:World) :
    Calls Tryz.prog 287 #[.string s,.int .i64 10,.int .i64 64] w fun e w'=>e=.returned (.tuple #[.int .i64 v,.nilIface])∧(w'=w∨∃ t,w'=Lib.bytesWorld w 5 t):=Any.strconv_ParseInt_10_at64_ok Tryz.laysC174 s hmax v h w
def Tryz.laysPu14_ren:Go.Shelf.Ren:=⟨fun | 14=>276 | 16=>291 | 17=>292 | 19=>304 | 20=>305 | 21=>306 | 22=>307 | 23=>308 | 24=>309 | 25=>315 | 27=>146 | 26=>316 | 28=>188 | 29=>209 | 30=>224 | 31=>225 | 32=>226 | 33=>227 | 35=>242 | 34=>241 | 36=>243 | 37=>244 | 38=>245 | 39=>266 | 40=>267 | n=>n,fun | 9=>9 | 3=>3 | 22=>176 | 24=>267 | 25=>268 | 4=>4 | 34=>299 | 5=>5 | 36=>170 | 37=>190 | 0=>0 | 39=>301 | 21=>21 | 44=>312 | 47=>294 | 50=>317 | 48=>315 | 2=>2 | 52=>226 | 55=>229 | 59=>247 | 60=>130 | 20=>20 | 61=>248 | 65=>283 | 66=>284 | 67=>224 | n=>n,fun | 0=>4 | 1=>5 | 2=>0 | 3=>2 | 4=>3 | n=>n⟩
theorem Tryz.laysPu14:Go.Proofs.LaysPu.n14 Tryz.prog Tryz.laysPu14_ren:={
 mixed:=by kernel_rfl
 f14:=Tryz.func276.trans (congrArg some (by kernel_rfl))
 f16:=Tryz.func291.trans (congrArg some (by kernel_rfl))
 f17:=Tryz.func292.trans (congrArg some (by kernel_rfl))
 f19:=Tryz.func304.trans (congrArg some (by kernel_rfl))
 f20:=Tryz.func305.trans (congrArg some (by kernel_rfl))
 f21:=Tryz.func306.trans (congrArg some (by kernel_rfl))
 f22:=Tryz.func307.trans (congrArg some (by kernel_rfl))
 f23:=Tryz.func308.trans (congrArg some (by kernel_rfl))
 f24:=Tryz.func309.trans (congrArg some (by kernel_rfl))
 f25:=Tryz.func315.trans (congrArg some (by kernel_rfl))
 f26:=Tryz.func316.trans (congrArg some (by kernel_rfl))
 f27:=Tryz.func146.trans (congrArg some (by kernel_rfl))
 f28:=Tryz.func188.trans (congrArg some (by kernel_rfl))
 f29:=Tryz.func209.trans (congrArg some (by kernel_rfl))
 f30:=Tryz.func224.trans (congrArg some (by kernel_rfl))
 f31:=Tryz.func225.trans (congrArg some (by kernel_rfl))
 f32:=Tryz.func226.trans (congrArg some (by kernel_rfl))
 f33:=Tryz.func227.trans (congrArg some (by kernel_rfl))
 f34:=Tryz.func241.trans (congrArg some (by kernel_rfl))
 f35:=Tryz.func242.trans (congrArg some (by kernel_rfl))
 f36:=Tryz.func243.trans (congrArg some (by kernel_rfl))
 f37:=Tryz.func244.trans (congrArg some (by kernel_rfl))
 f38:=Tryz.func245.trans (congrArg some (by kernel_rfl))
 f39:=Tryz.func266.trans (congrArg some (by kernel_rfl))
 f40:=Tryz.func267.trans (congrArg some (by kernel_rfl))
 t0:=Tryz.underlying0
 a0:=Tryz.isAgg0
 z0:=Tryz.sizeOf0
 v0:=Tryz.zeroValue0
 i0:=by kernel_rfl
 t2:=Tryz.underlying2
 a2:=Tryz.isAgg2
 z2:=Tryz.sizeOf2
 v2:=Tryz.zeroValue2
 i2:=by kernel_rfl
 t3:=Tryz.underlying3
 a3:=Tryz.isAgg3
 z3:=Tryz.sizeOf3
 v3:=Tryz.zeroValue3
 i3:=by kernel_rfl
 t4:=Tryz.underlying4
 a4:=Tryz.isAgg4
 z4:=Tryz.sizeOf4
 v4:=Tryz.zeroValue4
 i4:=by kernel_rfl
 t5:=Tryz.underlying5
 a5:=Tryz.isAgg5
 z5:=Tryz.sizeOf5
 v5:=Tryz.zeroValue5
 i5:=by kernel_rfl
 t9:=Tryz.underlying9
 a9:=Tryz.isAgg9
 z9:=Tryz.sizeOf9
 v9:=Tryz.zeroValue9
 i9:=by kernel_rfl
 t20:=Tryz.underlying20
 a20:=Tryz.isAgg20
 z20:=Tryz.sizeOf20
 v20:=Tryz.zeroValue20
 i20:=by kernel_rfl
 t21:=Tryz.underlying21
 a21:=Tryz.isAgg21
 z21:=Tryz.sizeOf21
 v21:=Tryz.zeroValue21
 i21:=by kernel_rfl
 t22:=Tryz.underlying176
 a22:=Tryz.isAgg176
 z22:=Tryz.sizeOf176
 v22:=Tryz.zeroValue176
 i22:=by kernel_rfl
 t24:=Tryz.underlying267
 a24:=Tryz.isAgg267
 z24:=Tryz.sizeOf267
 v24:=Tryz.zeroValue267
 i24:=by kernel_rfl
 t25:=Tryz.underlying268
 a25:=Tryz.isAgg268
 z25:=Tryz.sizeOf268
 v25:=Tryz.zeroValue268
 i25:=by kernel_rfl
 t34:=Tryz.underlying299
 a34:=Tryz.isAgg299
 z34:=Tryz.sizeOf299
 v34:=Tryz.zeroValue299
 i34:=by kernel_rfl
 c34:=by kernel_rfl
 t36:=Tryz.underlying170
 a36:=Tryz.isAgg170
 z36:=Tryz.sizeOf170
 v36:=Tryz.zeroValue170
 i36:=by kernel_rfl
 t37:=Tryz.underlying190
 a37:=Tryz.isAgg190
 z37:=Tryz.sizeOf190
 v37:=Tryz.zeroValue190
 i37:=by kernel_rfl
 t39:=Tryz.underlying301
 a39:=Tryz.isAgg301
 z39:=Tryz.sizeOf301
 v39:=Tryz.zeroValue301
 i39:=by kernel_rfl
 t44:=Tryz.underlying312
 a44:=Tryz.isAgg312
 z44:=Tryz.sizeOf312
 v44:=Tryz.zeroValue312
 i44:=by kernel_rfl
 t47:=Tryz.underlying294
 a47:=Tryz.isAgg294
 z47:=Tryz.sizeOf294
 v47:=Tryz.zeroValue294
 i47:=by kernel_rfl
 t48:=Tryz.underlying315
 a48:=Tryz.isAgg315
 z48:=Tryz.sizeOf315
 v48:=Tryz.zeroValue315
 i48:=by kernel_rfl
 t50:=Tryz.underlying317
 a50:=Tryz.isAgg317
 z50:=Tryz.sizeOf317
 v50:=Tryz.zeroValue317
 i50:=by kernel_rfl
 t52:=Tryz.underlying226
 a52:=Tryz.isAgg226
 z52:=Tryz.sizeOf226
 v52:=Tryz.zeroValue226
 i52:=by kernel_rfl
 t55:=Tryz.underlying229
 a55:=Tryz.isAgg229
 z55:=Tryz.sizeOf229
 v55:=Tryz.zeroValue229
 i55:=by kernel_rfl
 t59:=Tryz.underlying247
 a59:=Tryz.isAgg247
 z59:=Tryz.sizeOf247
 v59:=Tryz.zeroValue247
 i59:=by kernel_rfl
 t60:=Tryz.underlying130
 a60:=Tryz.isAgg130
 z60:=Tryz.sizeOf130
 v60:=Tryz.zeroValue130
 i60:=by kernel_rfl
 t61:=Tryz.underlying248
 a61:=Tryz.isAgg248
 z61:=Tryz.sizeOf248
 t65:=Tryz.underlying283
 a65:=Tryz.isAgg283
 z65:=Tryz.sizeOf283
 v65:=Tryz.zeroValue283
 i65:=by kernel_rfl
 t66:=Tryz.underlying284
 a66:=Tryz.isAgg284
 z66:=Tryz.sizeOf284
 v66:=Tryz.zeroValue284
 i66:=by kernel_rfl
 t67:=Tryz.underlying224
 a67:=Tryz.isAgg224
 z67:=Tryz.sizeOf224
 v67:=Tryz.zeroValue224
 i67:=by kernel_rfl
 g0:=by kernel_rfl
 m0:=by kernel_rfl
 g1:=by kernel_rfl
 m1:=by kernel_rfl
 g2:=by kernel_rfl
 m2:=by kernel_rfl
 g3:=by kernel_rfl
 m3:=by kernel_rfl
 g4:=by kernel_rfl
 m4:=by kernel_rfl }
open Go.RowKit in
theorem Tryz.strconv_ParseUint_10_at32_ok (s:ByteArray) (hmax:s.size≤9223372036854775806) (u:Nat) (h:Lib.parseUintB 32 s.data.toList=.ok u) (w:World) :
    Calls Tryz.prog 276 #[.string s,.int .i64 10,.int .i64 32] w fun e w'=>e=.returned (.tuple #[.int .u64 u,.nilIface])∧(w'=w∨w'=Lib.bytesWorld w 5 s):=Any.strconv_ParseUint_10_at32_ok Tryz.laysPu14 s hmax u h w
def Tryz.lays145_ren:Go.Shelf.Ren:=⟨fun | 145=>198 | 220=>213 | 219=>229 | 217=>252 | 225=>253 | 224=>254 | 267=>255 | 266=>273 | 314=>274 | n=>n,fun | 9=>9 | 4=>4 | 59=>124 | 3=>3 | 5=>5 | 46=>170 | 146=>263 | 51=>130 | n=>n,fun | 1=>1 | n=>n⟩
theorem Tryz.lays145:Go.Proofs.Lays.n145 Tryz.prog Tryz.lays145_ren:={
 mixed:=by kernel_rfl
 f145:=Tryz.func198.trans (congrArg some (by kernel_rfl))
 f217:=Tryz.func252.trans (congrArg some (by kernel_rfl))
 f219:=Tryz.func229.trans (congrArg some (by kernel_rfl))
 f220:=Tryz.func213.trans (congrArg some (by kernel_rfl))
 f224:=Tryz.func254.trans (congrArg some (by kernel_rfl))
 f225:=Tryz.func253.trans (congrArg some (by kernel_rfl))
 f266:=Tryz.func273.trans (congrArg some (by kernel_rfl))
 f267:=Tryz.func255.trans (congrArg some (by kernel_rfl))
 f314:=Tryz.func274.trans (congrArg some (by kernel_rfl))
 t3:=Tryz.underlying3
 a3:=Tryz.isAgg3
 z3:=Tryz.sizeOf3
 v3:=Tryz.zeroValue3
 t4:=Tryz.underlying4
 a4:=Tryz.isAgg4
 z4:=Tryz.sizeOf4
 v4:=Tryz.zeroValue4
 t5:=Tryz.underlying5
 a5:=Tryz.isAgg5
 z5:=Tryz.sizeOf5
 v5:=Tryz.zeroValue5
 t9:=Tryz.underlying9
 a9:=Tryz.isAgg9
 z9:=Tryz.sizeOf9
 v9:=Tryz.zeroValue9
 t46:=Tryz.underlying170
 a46:=Tryz.isAgg170
 z46:=Tryz.sizeOf170
 v46:=Tryz.zeroValue170
 t51:=Tryz.underlying130
 a51:=Tryz.isAgg130
 z51:=Tryz.sizeOf130
 v51:=Tryz.zeroValue130
 t59:=Tryz.underlying124
 a59:=Tryz.isAgg124
 z59:=Tryz.sizeOf124
 v59:=Tryz.zeroValue124
 t146:=Tryz.underlying263
 a146:=Tryz.isAgg263
 z146:=Tryz.sizeOf263
 v146:=Tryz.zeroValue263
 g1:=by kernel_rfl }
open Go.RowKit Go.Lib in
theorem Tryz.strings_Cut (s sep:ByteArray) (m:Int) (w:World) (hs:s.size<4294967281) (hm:w.cell? ⟨1,0,none⟩=some (.int .i64 m)) :
    Calls Tryz.prog 198 #[.string s,.string sep] w fun e w'=>e=.returned (.tuple #[.string ⟨(Lib.cut s.data.toList sep.data.toList).1.toArray⟩,.string ⟨(Lib.cut s.data.toList sep.data.toList).2.1.toArray⟩,.bool (Lib.cut s.data.toList sep.data.toList).2.2])∧∃ n,w'=w.drewN n:=Any.strings_Cut Tryz.lays145 s sep m w hs hm
def Tryz.laysM145_ren:Go.Shelf.Ren:=⟨fun | 145=>198 | 220=>213 | 219=>229 | 217=>252 | 225=>253 | 224=>254 | 267=>255 | 266=>273 | 314=>274 | n=>n,fun | 9=>9 | 4=>4 | 59=>124 | 3=>3 | 5=>5 | 46=>170 | 146=>263 | 51=>130 | n=>n,fun | 1=>1 | n=>n⟩
theorem Tryz.laysM145:Go.Proofs.LaysM.n145 Tryz.prog Tryz.laysM145_ren:={
 mixed:=by kernel_rfl
 f145:=Tryz.func198.trans (congrArg some (by kernel_rfl))
 f217:=Tryz.func252.trans (congrArg some (by kernel_rfl))
 f219:=Tryz.func229.trans (congrArg some (by kernel_rfl))
 f220:=Tryz.func213.trans (congrArg some (by kernel_rfl))
 f224:=Tryz.func254.trans (congrArg some (by kernel_rfl))
 f225:=Tryz.func253.trans (congrArg some (by kernel_rfl))
 f266:=Tryz.func273.trans (congrArg some (by kernel_rfl))
 f267:=Tryz.func255.trans (congrArg some (by kernel_rfl))
 f314:=Tryz.func274.trans (congrArg some (by kernel_rfl))
 t3:=Tryz.underlying3
 a3:=Tryz.isAgg3
 z3:=Tryz.sizeOf3
 v3:=Tryz.zeroValue3
 t4:=Tryz.underlying4
 a4:=Tryz.isAgg4
 z4:=Tryz.sizeOf4
 v4:=Tryz.zeroValue4
 t5:=Tryz.underlying5
 a5:=Tryz.isAgg5
 z5:=Tryz.sizeOf5
 v5:=Tryz.zeroValue5
 t9:=Tryz.underlying9
 a9:=Tryz.isAgg9
 z9:=Tryz.sizeOf9
 v9:=Tryz.zeroValue9
 t46:=Tryz.underlying170
 a46:=Tryz.isAgg170
 z46:=Tryz.sizeOf170
 v46:=Tryz.zeroValue170
 t51:=Tryz.underlying130
 a51:=Tryz.isAgg130
 z51:=Tryz.sizeOf130
 v51:=Tryz.zeroValue130
 t59:=Tryz.underlying124
 a59:=Tryz.isAgg124
 z59:=Tryz.sizeOf124
 v59:=Tryz.zeroValue124
 t146:=Tryz.underlying263
 a146:=Tryz.isAgg263
 z146:=Tryz.sizeOf263
 v146:=Tryz.zeroValue263
 g1:=by kernel_rfl
 i3:=by kernel_rfl
 i4:=by kernel_rfl
 i5:=by kernel_rfl
 i9:=by kernel_rfl
 i46:=by kernel_rfl
 i51:=by kernel_rfl
 i59:=by kernel_rfl
 i146:=by kernel_rfl
 m1:=by kernel_rfl
 s1_3:=fun w h=>Go.Proofs.cell_of_shapedOpen_int (zero:=#[.int .i64 0]) (t:=3) h (of_decide_eq_true (by kernel_rfl)) (by kernel_rfl) rfl (by kernel_rfl) (by kernel_rfl) Tryz.underlying3 }
def Tryz.lays105_ren:Go.Shelf.Ren:=⟨fun | 105=>281 | 212=>296 | 99=>297 | 165=>298 | 166=>280 | 170=>299 | 169=>282 | 263=>311 | 264=>312 | 206=>275 | 240=>295 | 241=>313 | 276=>310 | 277=>317 | n=>n,fun | 9=>9 | 3=>3 | 4=>4 | 20=>20 | 0=>0 | 46=>170 | 109=>291 | 5=>5 | 72=>273 | 76=>278 | 51=>130 | 146=>263 | 53=>176 | 148=>307 | 70=>271 | 37=>190 | 75=>267 | 127=>294 | 164=>304 | 80=>224 | n=>n,fun | n=>n⟩
theorem Tryz.lays105:Go.Proofs.Lays.n105 Tryz.prog Tryz.lays105_ren:={
 mixed:=by kernel_rfl
 f99:=Tryz.func297.trans (congrArg some (by kernel_rfl))
 f105:=Tryz.func281.trans (congrArg some (by kernel_rfl))
 f165:=Tryz.func298.trans (congrArg some (by kernel_rfl))
 f166:=Tryz.func280.trans (congrArg some (by kernel_rfl))
 f169:=Tryz.func282.trans (congrArg some (by kernel_rfl))
 f170:=Tryz.func299.trans (congrArg some (by kernel_rfl))
 f206:=Tryz.func275.trans (congrArg some (by kernel_rfl))
 f212:=Tryz.func296.trans (congrArg some (by kernel_rfl))
 f240:=Tryz.func295.trans (congrArg some (by kernel_rfl))
 f241:=Tryz.func313.trans (congrArg some (by kernel_rfl))
 f263:=Tryz.func311.trans (congrArg some (by kernel_rfl))
 f264:=Tryz.func312.trans (congrArg some (by kernel_rfl))
 f276:=Tryz.func310.trans (congrArg some (by kernel_rfl))
 f277:=Tryz.func317.trans (congrArg some (by kernel_rfl))
 t0:=Tryz.underlying0
 a0:=Tryz.isAgg0
 z0:=Tryz.sizeOf0
 v0:=Tryz.zeroValue0
 t3:=Tryz.underlying3
 a3:=Tryz.isAgg3
 z3:=Tryz.sizeOf3
 v3:=Tryz.zeroValue3
 t4:=Tryz.underlying4
 a4:=Tryz.isAgg4
 z4:=Tryz.sizeOf4
 v4:=Tryz.zeroValue4
 t5:=Tryz.underlying5
 a5:=Tryz.isAgg5
 z5:=Tryz.sizeOf5
 v5:=Tryz.zeroValue5
 t9:=Tryz.underlying9
 a9:=Tryz.isAgg9
 z9:=Tryz.sizeOf9
 v9:=Tryz.zeroValue9
 t20:=Tryz.underlying20
 a20:=Tryz.isAgg20
 z20:=Tryz.sizeOf20
 v20:=Tryz.zeroValue20
 t37:=Tryz.underlying190
 a37:=Tryz.isAgg190
 z37:=Tryz.sizeOf190
 v37:=Tryz.zeroValue190
 t46:=Tryz.underlying170
 a46:=Tryz.isAgg170
 z46:=Tryz.sizeOf170
 v46:=Tryz.zeroValue170
 t51:=Tryz.underlying130
 a51:=Tryz.isAgg130
 z51:=Tryz.sizeOf130
 v51:=Tryz.zeroValue130
 t53:=Tryz.underlying176
 a53:=Tryz.isAgg176
 z53:=Tryz.sizeOf176
 v53:=Tryz.zeroValue176
 t70:=Tryz.underlying271
 a70:=Tryz.isAgg271
 z70:=Tryz.sizeOf271
 v70:=Tryz.zeroValue271
 t72:=Tryz.underlying273
 a72:=Tryz.isAgg273
 z72:=Tryz.sizeOf273
 v72:=Tryz.zeroValue273
 t75:=Tryz.underlying267
 a75:=Tryz.isAgg267
 z75:=Tryz.sizeOf267
 v75:=Tryz.zeroValue267
 t76:=Tryz.underlying278
 a76:=Tryz.isAgg278
 z76:=Tryz.sizeOf278
 v76:=Tryz.zeroValue278
 t109:=Tryz.underlying291
 a109:=Tryz.isAgg291
 z109:=Tryz.sizeOf291
 v109:=Tryz.zeroValue291
 t127:=Tryz.underlying294
 a127:=Tryz.isAgg294
 z127:=Tryz.sizeOf294
 v127:=Tryz.zeroValue294
 t146:=Tryz.underlying263
 a146:=Tryz.isAgg263
 z146:=Tryz.sizeOf263
 v146:=Tryz.zeroValue263
 t148:=Tryz.underlying307
 a148:=Tryz.isAgg307
 z148:=Tryz.sizeOf307
 v148:=Tryz.zeroValue307
 t164:=Tryz.underlying304
 a164:=Tryz.isAgg304
 z164:=Tryz.sizeOf304
 v164:=Tryz.zeroValue304 }
theorem Tryz.Builder_Extra_105:Builder.Extra Tryz.prog Tryz.lays105_ren:={
 sizeBuilder:=by kernel_rfl
 liesBuilder:=by kernel_rfl
 t5:=Tryz.underlying5
 a5:=Tryz.isAgg5
 z5:=Tryz.sizeOf5
 v5:=Tryz.zeroValue5
 infoByte:=by kernel_rfl
 cellsByte:=by kernel_rfl
 sizeByte:=by kernel_rfl
 neB5:=by decide }
open Go.RowKit Go.Lib in
theorem Tryz.strings_Repeat (s:ByteArray) (c:Nat) (w:World) (hc:c≤9223372036854775807) (hlen:s.size*c≤140737488355328) :
    Calls Tryz.prog 281 #[.string s,.int .i64 c] w fun e w'=>e=.returned (.string ⟨(Lib.repeatL s.data.toList c).toArray⟩)∧Below w.heap.size w w':=Any.strings_Repeat Tryz.lays105 Tryz.Builder_Extra_105 s c w hc hlen
end Go.Proofs
namespace Go.Proofs
open Go.Shelf Go.RowKit
theorem Tryz.WriteString_k (B b:Nat) (bs:List Value) (s:ByteArray) (w:World) (h:Lib.IsBuilderF 273 5 B b bs w) (hlen:bs.length+s.size≤140737488355328) (hBw:B≤w.heap.size) :
    Calls Tryz.prog 280 #[.pointer (some ⟨b,0,none⟩),.string s] w fun e w'=>e=.returned (.tuple #[.int .i64 s.size,.nilIface])∧(Lib.BuilderAtF 273 5 B b (.pointer (some ⟨b,0,none⟩)) (bs++Lib.strCells s) w'∧Below B w w'∧Lib.OthersKept 5 (some b) w w'):=Any.Builder_WriteString_k { Tryz.lays105 with } Tryz.Builder_Extra_105 B b bs s w h hlen hBw
end Go.Proofs
namespace Go.Proofs
open Go.Shelf Go.RowKit Go.Sort Go.Lib
set_option maxHeartbeats 6400000 in
set_option maxRecDepth 100000 in
theorem Tryz.internal_FormatUint (u:Nat)(h1:u<18446744073709551616) (w:World)
    (htab:Lib.TabIs Tryz.prog w "internal/strconv.uint64pow10" .u64 Lib.pow10Tab) :
    Calls Tryz.prog 294 #[.int .u64 u,.int .i64 10] w fun e w'=>e=.returned (.string ⟨(Lib.decDigits u).toArray⟩)∧∃ k os,w'=grow (w.drewN k) os:=by
 by_cases hs:u<100
 · go_enter Tryz.func294,Tryz.ntmps294
   go_wp2_with (go_at_call 224;refine (Tryz.internal_strconv_small u hs _).mono ?_;rintro e w' ⟨rfl,rfl⟩)
   go_ret
   exact ⟨rfl,0,#[],by simp [World.drewN_zero]⟩
 · have hu1:1≤u:=by omega
   have hnd20:Lib.nDigits u≤20:=by have:=Lib.numDigits_eq u hu1 h1;split at this <;> omega
   have hal:Tryz.prog.arrayLen 226=24:=by kernel_rfl
   have hsl1:∀ W,(Instr.sliceAt 226 (.pointer (some ⟨w.heap.size,0,none⟩)) none (some (.int .i64 (Lib.nDigits u:Int))) none).run Tryz.prog W=.ok (.slice (some ⟨w.heap.size,0,none⟩) (Lib.nDigits u) 24) W:=fun W=>by
    rw [run_sliceAt_array_h W 226 ⟨w.heap.size,0,none⟩ (by kernel_rfl) .i64 (Lib.nDigits u:Int) (by omega) (by rw [hal];omega)]
    go_simp
   have hH0:Holds (fun (b:UInt8)=>Value.int .u8 (b.toNat:Int)) (w.alloc (.cells Lib.zeros24 226)) w.heap.size 0 (Array.replicate (Lib.nDigits u) 0):=fun j hj=>by
    have hj':j<Lib.nDigits u:=by simpa using hj
    refine ⟨?_,World.frozen?_alloc_new _ _ _ _⟩
    rw [World.cell?_alloc_new,Lib.zeros24_at _ (by omega),getElem!_pos _ j hj]
    simp
   have hfmt:=Tryz.internal_strconv_formatBase10 w.heap.size 0 24 u (Array.replicate (Lib.nDigits u) 0) (w.alloc (.cells Lib.zeros24 226)) hH0 (by rw [Array.size_replicate];exact Lib.lt_pow_nDigits u) h1 (by rw [Array.size_replicate];omega)
   rw [Array.size_replicate] at hfmt
   have HH0:=Lib.hid hH0
   clear hH0 hal
   go_enter Tryz.func294,Tryz.ntmps294
   go_wp2_with (go_at_call 225;refine (Tryz.internal_strconv_numDigits u hu1 h1 _ (Lib.tabIs_alloc htab _)).mono ?_;rintro e w' ⟨rfl,rfl⟩)
   go_at_call 226
   refine hfmt.mono ?_
   rintro e w' ⟨rfl,k,v',dk,rfl,hF⟩
   have hcv:(convert 190 9 (.slice (some ⟨w.heap.size,0,none⟩) (Lib.nDigits u) 24)).run Tryz.prog ((putRow (fun (b:UInt8)=>Value.int .u8 (b.toNat:Int)) (w.alloc (.cells Lib.zeros24 226)) w.heap.size 0 dk).drewN k)=.ok (.string ⟨(Lib.decDigits u).toArray⟩) ((putRow (fun (b:UInt8)=>Value.int .u8 (b.toNat:Int)) (w.alloc (.cells Lib.zeros24 226)) w.heap.size 0 dk).drewN k):=by
    have h:=run_convert_bytes_back (P:=Tryz.prog) ((putRow (fun (b:UInt8)=>Value.int .u8 (b.toNat:Int)) (w.alloc (.cells Lib.zeros24 226)) w.heap.size 0 dk).drewN k) 190 9 5 ⟨w.heap.size,0,none⟩ 24 (Lib.decDigits u) (by kernel_rfl) (by kernel_rfl) (by kernel_rfl) (fun j hj=>by
     rw [Lib.row_is_numeral hF j hj,Lib.add_plain,World.cell?_drewN]
     exact cell?_putRow (fun (b:UInt8)=>Value.int .u8 (b.toNat:Int)) _ w.heap.size 0 _ dk HH0.out (by rw [hF.size,Array.size_replicate]) j (by rw [hF.size];rw [Lib.decDigits_length] at hj;exact hj))
    rw [Lib.decDigits_length] at h
    exact h
   go_wp2
   go_ret
   obtain ⟨os,eo⟩:=(by
    rw [alloc_eq_grow]
    obtain ⟨os',_,e⟩:=putRow_grow_new (fun (b:UInt8)=>Value.int .u8 (b.toNat:Int)) w #[.cells Lib.zeros24 226] w.heap.size 0 dk (Nat.le_refl _)
    exact ⟨os',by rw [e];rfl⟩:∃ os,(putRow (fun (b:UInt8)=>Value.int .u8 (b.toNat:Int)) (w.alloc (.cells Lib.zeros24 226)) w.heap.size 0 dk).drewN k=grow (w.drewN k) os)
   exact ⟨rfl,k,os,eo⟩
set_option maxRecDepth 100000 in
theorem Tryz.strconv_FormatUint (u:Nat)(h1:u<18446744073709551616) (w:World)
    (htab:Lib.TabIs Tryz.prog w "internal/strconv.uint64pow10" .u64 Lib.pow10Tab) :
    Calls Tryz.prog 279 #[.int .u64 u,.int .i64 10] w fun e w'=>e=.returned (.string ⟨(Lib.decDigits u).toArray⟩)∧∃ k os,w'=grow (w.drewN k) os:=by
 go_enter Tryz.func279,Tryz.ntmps279
 go_wp2_with (go_at_call 294;refine (Tryz.internal_FormatUint u h1 _ htab).mono ?_;rintro e w' ⟨rfl,k,os,rfl⟩)
 go_ret
 exact ⟨rfl,k,os,rfl⟩
end Go.Proofs
namespace Go.Proofs
open Go.RowKit Go.Shelf
attribute [local go_sem] Oper.semAt_some
def upto {α:Type} (f:Nat→α) (k:Nat):List α:=(List.range k).map f
theorem k9a {α:Type} (f:Nat→α) (k:Nat):upto f (k+1)=upto f k++[f k]:=by simp [upto,List.range_succ]
theorem q4y {α:Type} (f:Nat→α) (k:Nat):(upto f k).length=k:=by simp [upto]
def down {len:Nat} (h:0<len) (j:Nat):{ m:Nat // m<len }:=⟨len-1-j,by omega⟩
set_option maxRecDepth 100000 in
set_option maxHeartbeats 2000000 in
theorem q9y (F:Fence) (n:Nat)(h7:F.fn 293) (hro:F.round=none) (hn:1≤n) (l Bs len cap:Nat)(h1:0<len) (a:Addr) (z:Nat→Int) (hreach:len*4≤140737488351232) (Kp:World→World→Prop)
    (Bx:World→Prop) (hBx:∀ W,Bx W→W.cell? ⟨Bs,0,none⟩=some (.slice (some a) len cap)∧∀ j,j<len→W.cell? (a.add j)=some (.int .u32 (z j)))
    (hKp:∀ W W',Bx W→Kp W W'→Bx W') (J Jx:List { m:Nat // m<len }→World→Prop)
    (hY:∀ pre x W,J pre W→pre.length<len→YieldAt F (n-1) Tryz.prog l #[.int .i64 (x.1:Nat),.int .u32 (z x.1)] W fun e W' =>
     (e=.returned (.bool true)∧J (pre++[x]) W'∧Kp W W')∨(e=.returned (.bool false)∧Jx (pre++[x]) W'))
    (W:World) (hW:Bx W)(h0:J [] W) :
    CallsIn F n Tryz.prog 293 #[.func (.yield l) #[] #[],.pointer (some ⟨Bs,0,none⟩)] W fun e W'=>(∃ v,e=.returned v) ∧
     ((∃ ys,ys=upto (down h1) len∧J ys W')∨(∃ pre,(∃ k,k≤len∧pre=upto (down h1) k)∧Jx pre W')):=by
 refine callsIn_of_wp Tryz.func293 rfl h7 ?_ hro
 simp only [Tryz.ntmps293,List.size_toArray,List.length_cons,List.length_nil,Nat.reduceAdd,Nat.reduceSub,Array.replicate_succ,Array.replicate_zero,List.push_toArray,List.append_toArray,List.nil_append,List.cons_append]
 have hs:=(hBx W hW).1
 gi_wp2
 gi_loopw [3] (fun i wr=>∃ k:Nat,k≤len∧i=.int .i64 ((len:Int)-1-k)∧J (upto (down h1) k) wr∧Bx wr)
  (fun i _=>(intOf i+1).toNat)
 case atStart=>exact ⟨0,Nat.zero_le _,by simp,h0,hW⟩
 case round =>
  obtain ⟨k,hk,rfl,hJs,hnx⟩:=hrel
  have hs':=(hBx _ hnx).1
  by_cases hlt:k<len
  · obtain ⟨m,hm⟩:∃ m:Nat,m+k+1=len:=⟨len-1-k,by omega⟩
    have hcx':=(hBx _ hnx).2 m (by omega)
    have hi:((len:Int)-1-k)=(m:Int):=by omega
    have hmk:len-1-k=m:=by omega
    have hml:m<len:=by omega
    rw [hi]
    clear hBx hi
    obtain ⟨fn,tmps,assign,body,hy,hR⟩:=hY _ ⟨m,hml⟩ wr hJs (by rw [q4y];exact hlt)
    dsimp only at hy
    have hmk:=Lib.hid hmk
    gi_wp2
    refine hR.mono ?_
    rintro e W3 (⟨rfl,hJ3,hk3⟩ | ⟨rfl,hJx3⟩)
    · -- THE ROUND GOES ON
      gi_wp2
      go_roundw
      case rel=>exact ⟨k+1,by omega,by simp;omega,by rw [k9a,show down h1 k=⟨m,hml⟩ from Subtype.ext hmk.out];exact hJ3,hKp _ _ hnx hk3⟩
      case measure=>simp [intOf]
    · gi_wp2
      refine bodyPost_ret (results_none rfl _ _ _) rfl ?_
      exact ⟨⟨_,rfl⟩,.inr ⟨_,⟨k+1,by omega,by rw [k9a,show down h1 k=⟨m,hml⟩ from Subtype.ext hmk.out]⟩,hJx3⟩⟩
  · obtain rfl:k=len:=by omega
    have hi:((k:Int)-1-k)=-1:=by omega
    rw [hi]
    gi_wp2
    go_end0
    exact ⟨⟨_,rfl⟩,.inl ⟨_,rfl,hJs⟩⟩
set_option maxHeartbeats 1000000 in
theorem back_in (F:Fence) (n:Nat)(h5:F.fn 278) (hro:F.round=none) (a:Option Addr) (len cap:Nat) (w:World) :
    CallsIn F n Tryz.prog 278 #[.slice a len cap] w fun e w'=>e=.returned (.func (.func 293) #[] #[.pointer (some ⟨w.heap.size,0,none⟩)])∧w'=w.alloc (.cells #[.slice a len cap] 236):=by
 refine callsIn_of_wp Tryz.func278 rfl h5 ?_ hro
 simp only [Tryz.ntmps278,List.size_toArray,List.length_cons,List.length_nil,Nat.reduceAdd,Nat.reduceSub,Array.replicate_succ,Array.replicate_zero,List.push_toArray,List.append_toArray,List.nil_append,List.cons_append]
 gi_wp2
 go_ret
 exact ⟨rfl,rfl⟩
def Bx (Bs len cap:Nat) (a:Addr) (z:Nat→Int) (W:World):Prop:=W.cell? ⟨Bs,0,none⟩=some (.slice (some a) len cap)∧∀ j,j<len→W.cell? (a.add j)=some (.int .u32 (z j))
theorem add_blk (a:Addr) (n:Nat):(a.add n).block=a.block:=by unfold Addr.add;split <;> rfl
theorem Bx.below {Bs len cap:Nat} {a:Addr} {z:Nat→Int} {w W:World} (h:Bx Bs len cap a z w) (hB:Bs<w.heap.size) (ha:a.block<w.heap.size) (hb:Below w.heap.size w W):Bx Bs len cap a z W :=
 ⟨(hb.cell (p:=⟨Bs,0,none⟩) hB).trans h.1,fun j hj=>(hb.cell (p:=a.add j) (by rw [add_blk];exact ha)).trans (h.2 j hj)⟩
theorem back_stops (F:Fence) (n:Nat)(h7:F.fn 293) (hro:F.round=none) (hn:1≤n) (Bs len cap:Nat)(h1:0<len) (a:Addr) (z:Nat→Int) (hreach:len*4≤140737488351232) (w:World) (hB:Bs<w.heap.size) (ha:a.block<w.heap.size) (hbx:Bx Bs len cap a z w) :
    SeqStopsK F n Tryz.prog 293 #[.pointer (some ⟨Bs,0,none⟩)] (fun x:{ m:Nat // m<len }=>#[Value.int .i64 (x.1:Nat),Value.int .u32 (z x.1)]) (fun W W'=>Bx Bs len cap a z W→Bx Bs len cap a z W') (fun ys=>ys=upto (down h1) len) (fun _=>True) len w:=fun l J Jx W hW _ _ hY h0 =>
 (q9y F n h7 hro hn l Bs len cap h1 a z hreach _ (Bx Bs len cap a z) (fun W h=>h) (fun W W' h hk=>hk h) J Jx hY W (hbx.below hB ha hW) h0).mono fun e W' ⟨he,h⟩=>⟨he,h.imp id fun ⟨pre,_,hj⟩=>⟨pre,trivial,hj⟩⟩
end Go.Proofs
