/- A part of the proof: see the last text of this claim. -/
import Derived.Test.YtpjpnmjbaedkmaaGreatDoorE
import Derived.RangeFuncNested
import Derived.RangeFuncBound
import Derived.RangeFuncFrom
import Derived.WalkKit
import Derived.Laws.ResultCell
import Derived.Laws.Rows
import Derived.Shelf.SlicesE.Clone
import GoSem.ClaimChange
import Derived.WideShapes
import Derived.ChangeArms
import Derived.Test.YtpjpnmjbaedkmaaGreatDoorRows
import Derived.Lib.LaidTab
import Derived.ProofKit
import Derived.LaidMore
import Derived.Stop.Joined
import Derived.SizedLaws
import Derived.OpenShut
import Derived.HandedShaped
import Derived.Test.YtpjpnmjbaedkmaaGreatDoorTie
import Derived.Test.YtpjpnmjbaedkmaaGreatDoorCards
set_option linter.unusedSectionVars false
set_option linter.unusedVariables false
set_option linter.unusedSimpArgs false
namespace Gev
open Go Go.RowKit
variable {α : Type} {P : Program}
def Abide {β : Type} (B : Nat) (J : β → World → Prop) : Prop := ∀ s W W', J s W → B ≤ W.heap.size → Kept (fun b => B ≤ b) W W' → J s W'
def Gives (P : Program) (n : Nat) (gf : Nat) (lb : Array Value) (encs : α → Array Value) (bx : Nat) (ok : α → Prop) (xs : List α) (w0 : World) : Prop :=
  ∀ (l : Nat) (J : List α → World → Prop) (W : World), Kept (fun _ => False) w0 W → Abide W.heap.size J →
    (∀ pre x W1, ok x → J pre W1 → YieldAt Fence.wide (n - 1) P l (encs x) W1 fun e W' => e = .returned (.bool true) ∧ J (pre ++ [x]) W' ∧ Kept (fun b => b = bx ∨ (w0.heap.size ≤ b ∧ b < W.heap.size)) W1 W') →
    J [] W → CallsIn Fence.wide n P gf (#[.func (.yield l) #[] #[]] ++ lb) W fun e W' => (∃ v, e = .returned v) ∧ J xs W'
theorem kept_put {W : World} {l : Nat} (o : Obj) {q : Nat → Prop} (hq : q l) : Kept q W (W.putObj l o) :=
  ⟨fun b _ hn => World.putObj_heap_other (fun e => hn (e ▸ hq)), by simp [World.putObj], rfl, rfl, rfl⟩
theorem range_gives {n : Nat} {g : Operand} {ps : Array Tmp} {assign body : Code} {Q : Exit → Act → World → Prop} {a : Act} {w : World} {gf : Nat} {lb : Array Value} (hg : a.eval g = .func (.func gf) #[] lb)
    (eg : ∀ args w, (callFunc gf args).run P w = .ok (.enter gf args) w) {encs : α → Array Value} {bx : Nat} (hbx : bx < w.heap.size) {ok : α → Prop} {xs : List α} (hG : Gives P (n - 1) gf lb encs bx ok xs w) (hps : ∀ x, (encs x).size = ps.size)
    (I : List α → World → Prop) (hI : Abide w.heap.size I) (h0 : I [] w) (a₁ : α → Act)
    (hassign : ∀ (l : Nat) (x : α) (W : World) (K : Act → World → Prop), K (a₁ x) W →
      assign.wpIn (Fence.wide.inRound l) (n - 1 - 1) P (Exit.then K (fun _ _ _ => False)) { tmps := (ps.zip (encs x)).foldl (fun t (p, v) => t.setIfInBounds p v) a.tmps, defers := [] } W)
    (hbody : ∀ (l : Nat) (pre : List α) (x : α) (W : World), ok x → I pre W → w.heap.size ≤ W.heap.size → body.wpIn (Fence.wide.inRound l) (n - 1 - 1) P (fun e _ W' => e = .normal ∧ I (pre ++ [x]) W' ∧ Kept (fun b => b = bx) W W') (a₁ x) W)
    (hdone : ∀ (W : World), I xs W → w.heap.size ≤ W.heap.size → W.heap[w.heap.size]? = some (.deferred (some [])) → Q .normal { a with defers := { target := .collected w.heap.size, args := #[] } :: a.defers } W) :
    (Code.rangeFunc g ps assign body).wpIn Fence.wide n P Q a w := by
  refine wpIn_rangeFunc fun fn hfn => ?_
  have hen := run_enterLoop_outer (P := P) (w := w) fn a.tmps ps assign body
  obtain ⟨r0, hr0⟩ : ∃ r0 : Loop, r0 = { state := .ready, pending := none, fn, tmps := a.tmps, params := ps, assign, body, defers := w.heap.size } := ⟨_, rfl⟩
  obtain ⟨W1, hW1⟩ : ∃ W1, W1 = (w.alloc (.deferred (some []))).alloc (.loop r0) := ⟨_, rfl⟩
  rw [← hr0, ← hW1] at hen
  have hs1 : W1.heap.size = w.heap.size + 1 + 1 := by rw [hW1]; simp
  have hL : W1.heap[w.heap.size + 1]? = some (.loop r0) := by
    rw [hW1]; have := World.alloc_heap_new (w.alloc (.deferred (some []))) (.loop r0); rwa [World.size_alloc] at this
  have hD : W1.heap[w.heap.size]? = some (.deferred (some [])) := by
    rw [hW1]; exact (Below.heap_alloc _ _ _ (by simp)).trans (World.alloc_heap_new w _)
  have hk : Kept (fun _ => False) w W1 := by
    rw [hW1]; exact (Kept.alloc (fun _ => False) _ _).trans (Kept.alloc (fun _ => False) _ _) (fun _ h => False.elim h)
  have up : ∀ {A B : World} {q : Nat → Prop}, Kept q A B → (∀ b, q b → w.heap.size ≤ b) → Kept (fun b => w.heap.size ≤ b) A B := fun h hq => h.mono hq
  refine ⟨w.heap.size + 1, _, W1, { target := .fn (.func gf) lb, args := #[.func (.yield (w.heap.size + 1)) #[] #[]] }, W1, gf, #[.func (.yield (w.heap.size + 1)) #[] #[]] ++ lb, W1, hen, ?_, fun _ _ => trivial, ?_, fun h => by simp [Fence.wide] at h, ?_⟩
  · simp only [resolve, hg]
    simp [go_sem]
  · simp [invoke, go_sem, eg]
  refine (hG (w.heap.size + 1) (fun pre W => I pre W ∧ w.heap.size + 1 + 1 ≤ W.heap.size ∧ W.heap[w.heap.size + 1]? = some (.loop r0) ∧ W.heap[w.heap.size]? = some (.deferred (some []))) W1 hk ?_ ?_
    ⟨hI _ _ _ h0 (Nat.le_refl _) (up hk fun _ h => False.elim h), by omega, hL, hD⟩).mono ?_
  · rintro s A B ⟨i1, i2, i3, i4⟩ hA hAB
    rw [hs1] at hA hAB
    exact ⟨hI _ _ _ i1 (by omega) (up hAB fun b h => by omega), Nat.le_trans i2 hAB.size, (hAB.heap _ (by omega) (by omega)).trans i3, (hAB.heap _ (by omega) (by omega)).trans i4⟩
  · rintro pre x W hx ⟨i1, i2, i3, i4⟩
    have hy := run_yield (P := P) (args := encs x) i3 (by rw [hr0]; exact hps x)
    rw [hr0] at hy
    refine ⟨fn, _, assign, body, hy, roundIn_of_wpIn hfn (hassign _ x W _ ?_)⟩
    have hb := run_beginRound (P := P) i3 (by rw [hr0])
    refine ⟨_, hb, ?_⟩
    obtain ⟨W2, hW2⟩ : ∃ W2, W2 = W.putObj (w.heap.size + 1) (.loop { r0 with state := .busy }) := ⟨_, rfl⟩
    rw [← hW2]
    have k2 : Kept (fun b => b = w.heap.size + 1) W W2 := by rw [hW2]; exact kept_put _ rfl
    have l2 : W2.heap[w.heap.size + 1]? = some (.loop { r0 with state := .busy }) := by rw [hW2]; exact World.putObj_heap_same (by omega)
    have d2 : W2.heap[w.heap.size]? = some (.deferred (some [])) := (k2.heap _ (by omega) (by omega)).trans i4
    refine wpIn_mono (hbody _ pre x W2 hx (hI _ _ _ i1 (by omega) (up k2 fun b h => by omega)) (Nat.le_trans (by omega) k2.size)) ?_
    rintro e a3 W3 ⟨rfl, j1, k3⟩
    have s3 : w.heap.size + 1 + 1 ≤ W3.heap.size := Nat.le_trans i2 (Nat.le_trans k2.size k3.size)
    have l3 : W3.heap[w.heap.size + 1]? = some (.loop { r0 with state := .busy }) := (k3.heap _ (Nat.lt_of_lt_of_le (by omega) k2.size) (by omega)).trans l2
    have d3 : W3.heap[w.heap.size]? = some (.deferred (some [])) := (k3.heap _ (Nat.lt_of_lt_of_le (by omega) k2.size) (by omega)).trans d2
    have he := run_endRound (P := P) none l3
    have e0 : ({ ({ r0 with state := .busy } : Loop) with state := if (none : Option Code).isNone then LoopState.ready else .done, pending := none } : Loop) = r0 := by rw [hr0]; rfl
    rw [e0] at he
    have k4 : Kept (fun b => b = w.heap.size + 1) W3 (W3.putObj (w.heap.size + 1) (.loop r0)) := kept_put _ rfl
    refine ⟨_, _, he, rfl, ⟨hI _ _ _ j1 (by omega) (up k4 fun b h => by omega), Nat.le_trans s3 k4.size, World.putObj_heap_same (by omega), (k4.heap _ (by omega) (by omega)).trans d3⟩, ?_⟩
    rw [hs1]
    refine (k2.mono (own' := fun b => b = bx ∨ (w.heap.size ≤ b ∧ b < w.heap.size + 1 + 1)) (fun b h => by omega)).trans ((k3.mono (own' := fun b => b = bx ∨ (w.heap.size ≤ b ∧ b < w.heap.size + 1 + 1)) (fun b h => .inl h)).trans k4 (fun b h => .inl (by omega))) (fun b h => .inl h)
  · rintro e W2 ⟨⟨v, rfl⟩, i1, i2, i3, i4⟩
    have he := run_endLoop (P := P) i3 (by rw [hr0]; simp)
    obtain ⟨W4, hW4⟩ : ∃ W4, W4 = W2.putObj (w.heap.size + 1) (.loop { r0 with state := .exhausted }) := ⟨_, rfl⟩
    have k4 : Kept (fun b => b = w.heap.size + 1) W2 W4 := by rw [hW4]; exact kept_put _ rfl
    rw [← hW4, show r0.pending = none by rw [hr0]] at he
    have k5 := k4.size
    exact ⟨none, _, he, hdone W4 (hI _ _ _ i1 (by omega) (up k4 fun b h => by omega)) (by omega) ((k4.heap _ (by omega) (by omega)).trans i4)⟩
end Gev
namespace Gev
open Go Gb
def slope1 (a b : Rat × Rat) : Option Rat := if a.1 - b.1 = 0 then none else some ((a.2 - b.2) / (a.1 - b.1))
def lohi : Option (Rat × Rat) → Rat → Option (Rat × Rat)
  | none, s => some (s, s)
  | some (l, h), s => some (if s < l then s else l, if h < s then s else h)
def lohi? (o : Option (Rat × Rat)) : Option Rat → Option (Rat × Rat)
  | none => o
  | some s => lohi o s
def rowS (a : Rat × Rat) (l : List (Rat × Rat)) : List Rat := l.filterMap (slope1 a)
def slopesTo (qs : List (Rat × Rat)) : Nat → List Rat
  | 0 => []
  | i + 1 => slopesTo qs i ++ rowS (qs.getD i (0, 0)) (qs.take i)
def spreadI (qs : List (Rat × Rat)) : Option (Rat × Rat) := (slopesTo qs qs.length).foldl lohi none
theorem rowS_snoc (a b : Rat × Rat) (l : List (Rat × Rat)) : rowS a (l ++ [b]) = rowS a l ++ (slope1 a b).toList := by
  unfold rowS
  rw [List.filterMap_append]
  cases h : slope1 a b <;> simp [h]
theorem fold_row {o : Option (Rat × Rat)} {a b : Rat × Rat} {l : List (Rat × Rat)} : (rowS a (l ++ [b])).foldl lohi o = lohi? ((rowS a l).foldl lohi o) (slope1 a b) := by
  rw [rowS_snoc, List.foldl_append]
  cases slope1 a b <;> rfl
theorem fold_to {qs : List (Rat × Rat)} {i : Nat} {a} (h : qs[i]? = some a) : (slopesTo qs (i + 1)).foldl lohi none = (rowS a (qs.take i)).foldl lohi ((slopesTo qs i).foldl lohi none) := by
  show (slopesTo qs i ++ rowS (qs.getD i (0, 0)) (qs.take i)).foldl lohi none = _
  rw [List.foldl_append, List.getD_eq_getElem?_getD, h]; rfl
theorem slope1_Sz {a b : Rat × Rat} {s : Rat} (ha : Sz a.1 300 ∧ Sz a.2 300) (hb : Sz b.1 300 ∧ Sz b.2 300) (h : slope1 a b = some s) : Sz s 1300 := by
  unfold slope1 at h
  split at h
  · cases h
  · cases h; exact ((ha.2.sub hb.2).div (ha.1.sub hb.1)).mono (by omega)
def OSz (o : Option (Rat × Rat)) : Prop := ∀ l h, o = some (l, h) → Sz l 1300 ∧ Sz h 1300
theorem OSz.none : OSz none := fun _ _ h => by cases h
theorem OSz.step {o : Option (Rat × Rat)} (h : OSz o) {s : Rat} (hs : Sz s 1300) : OSz (lohi o s) := by
  intro l k e
  cases o with
  | none => cases e; exact ⟨hs, hs⟩
  | some p =>
    obtain ⟨x, y⟩ := p
    obtain ⟨h1, h2⟩ := h x y rfl
    cases e
    constructor <;> split <;> assumption
theorem OSz.fold {l : List Rat} (hl : ∀ s ∈ l, Sz s 1300) : ∀ {o : Option (Rat × Rat)}, OSz o → OSz (l.foldl lohi o) := by
  induction l with
  | nil => intro o h; exact h
  | cons s l ih => intro o h; exact ih (fun x hx => hl x (by simp [hx])) (h.step (hl s (by simp)))
theorem rowS_Sz {a : Rat × Rat} {l : List (Rat × Rat)} (ha : Sz a.1 300 ∧ Sz a.2 300) (hl : In l) : ∀ s ∈ rowS a l, Sz s 1300 := by
  intro s hs
  obtain ⟨b, hb, e⟩ := List.mem_filterMap.1 hs
  exact slope1_Sz ha (hl b hb) e
theorem In.take {qs : List (Rat × Rat)} (h : In qs) (n : Nat) : In (qs.take n) := fun q hq => h q (List.mem_of_mem_take hq)
theorem slopesTo_Sz {qs : List (Rat × Rat)} (hq : In qs) : ∀ i, i ≤ qs.length → ∀ s ∈ slopesTo qs i, Sz s 1300
  | 0, _, s, hs => by cases hs
  | i + 1, hi, s, hs => by
    obtain ⟨a, ha⟩ := get_ex (l := qs) (i := i) (by omega)
    rcases List.mem_append.1 hs with h | h
    · exact slopesTo_Sz hq i (by omega) s h
    · rw [List.getD_eq_getElem?_getD, ha] at h
      exact rowS_Sz (hq a (List.mem_of_getElem? ha)) (hq.take i) s h
def ivI : Option (Rat × Rat) → AV
  | none => .tup [.agg [.str ⟨#[]⟩, .str ⟨#[]⟩], .c (.i64 18)]
  | some (l, h) => .tup [.agg [.str (B (decQ l)), .str (B (decQ h))], .c (.i64 0)]
noncomputable def sprI (l : List (List UInt8 × List UInt8)) : AV := if startI l = 0 then ivI (spreadI (nums l)) else .tup [.agg [.str ⟨#[]⟩, .str ⟨#[]⟩], .c (.i64 (startI l))]
end Gev
namespace Gev
open Go Gb
variable {E : Env}
attribute [local irreducible] Sz
abbrev lo0 (o : Option (Rat × Rat)) : Rat := (o.getD (0, 0)).1
abbrev hi0 (o : Option (Rat × Rat)) : Rat := (o.getD (0, 0)).2
theorem r54_spread_in {qs : List (Rat × Rat)} (hq : In qs) (hn : qs.length ≤ 16) {i : Nat} {a : Rat × Rat} (ha : qs[i]? = some a) {o0 : Option (Rat × Rat)} (h0 : OSz o0) : ∀ d k : Nat, k + d = i →
    Lp E 3 F_ref54_Spread 1 (ref54_Spread_L1 (Q2 qs) ((rowS a (qs.take k)).foldl lohi o0).isSome (i : Nat) (k : Nat) ⟨#[]⟩ ⟨#[]⟩ (q0 (lo0 ((rowS a (qs.take k)).foldl lohi o0))) (q1 (lo0 ((rowS a (qs.take k)).foldl lohi o0))) (q2 (lo0 ((rowS a (qs.take k)).foldl lohi o0))) (q0 (hi0 ((rowS a (qs.take k)).foldl lohi o0))) (q1 (hi0 ((rowS a (qs.take k)).foldl lohi o0))) (q2 (hi0 ((rowS a (qs.take k)).foldl lohi o0)))) (.exit 2)
      (ref54_Spread_L1e0 (Q2 qs) (i : Nat) ⟨#[]⟩ ⟨#[]⟩ ((rowS a (qs.take i)).foldl lohi o0).isSome (q0 (lo0 ((rowS a (qs.take i)).foldl lohi o0))) (q1 (lo0 ((rowS a (qs.take i)).foldl lohi o0))) (q2 (lo0 ((rowS a (qs.take i)).foldl lohi o0))) (q0 (hi0 ((rowS a (qs.take i)).foldl lohi o0))) (q1 (hi0 ((rowS a (qs.take i)).foldl lohi o0))) (q2 (hi0 ((rowS a (qs.take i)).foldl lohi o0))))
  | 0, k, hk => by
    obtain rfl : k = i := by omega
    exact ref54_Spread_L1e0_x0 (by omega)
  | d + 1, k, hk => by
    have hl := Lim_val
    have hi := (List.getElem?_eq_some_iff.1 ha).1
    obtain ⟨b, hb⟩ := get_ex (l := qs) (i := k) (by omega)
    have za := hq a (List.mem_of_getElem? ha)
    have zb := hq b (List.mem_of_getElem? hb)
    have ih := r54_spread_in hq hn ha h0 d (k + 1) (by omega)
    have ho : OSz ((rowS a (qs.take k)).foldl lohi o0) := h0.fold (rowS_Sz za (hq.take k))
    rw [take_get hb, fold_row] at ih
    generalize (rowS a (qs.take k)).foldl lohi o0 = o at ih ho
    generalize (rowS a (qs.take i)).foldl lohi o0 = oe at ih
    have ga : (Q2 qs)[Int.toNat ((i : Nat) : Int)]? = some [.str (B (decQ a.1)), .str (B (decQ a.2))] := by rw [Int.toNat_natCast]; exact Q2_get ha
    have gb : (Q2 qs)[Int.toNat ((k : Nat) : Int)]? = some [.str (B (decQ b.1)), .str (B (decQ b.2))] := by rw [Int.toNat_natCast]; exact Q2_get hb
    have hs := r3_Sub (E := E) za.1 zb.1 (by omega)
    have hg := r3_Sign (E := E) (a.1 - b.1)
    by_cases hz : a.1 - b.1 = 0
    · have e : slope1 a b = none := by unfold slope1; rw [if_pos hz]
      rw [e] at ih
      exact ref54_Spread_L1_r0 (v15 := ((k + 1 : Nat) : Int)) (wi (by omega)) (by omega) (by omega) ga (r54_num za.1 (by omega)) (by omega) gb (r54_num zb.1 (by omega)) hs hg (sgn_zero.2 hz) ih
    · have e : slope1 a b = some ((a.2 - b.2) / (a.1 - b.1)) := by unfold slope1; rw [if_neg hz]
      have zs := slope1_Sz za zb e
      rw [e] at ih
      have ht := r3_Sub (E := E) za.2 zb.2 (by omega)
      have hd := r3_Div (E := E) (za.2.sub zb.2) (za.1.sub zb.1) (by omega) hz
      generalize (a.2 - b.2) / (a.1 - b.1) = s at ih zs hd
      cases o with
      | none =>
        have e1 : (if s < s then s else s) = s := by split <;> rfl
        have k1 := r3_Least (E := E) zs zs (by omega)
        have k2 := r3_Most (E := E) zs zs (by omega)
        rw [e1] at k1 k2
        exact ref54_Spread_L1_r2 (v33 := ((k + 1 : Nat) : Int)) (wi (by omega)) (by omega) (by omega) ga (r54_num za.1 (by omega)) (by omega) gb (r54_num zb.1 (by omega)) hs hg (fun e => hz (sgn_zero.1 e)) (r54_num za.2 (by omega)) (r54_num zb.2 (by omega)) ht hd k1 k2 ih
      | some p =>
        obtain ⟨x, y⟩ := p
        obtain ⟨zx, zy⟩ := ho x y rfl
        exact ref54_Spread_L1_r1 (v33 := ((k + 1 : Nat) : Int)) (wi (by omega)) (by omega) (by omega) ga (r54_num za.1 (by omega)) (by omega) gb (r54_num zb.1 (by omega)) hs hg (fun e => hz (sgn_zero.1 e)) (r54_num za.2 (by omega)) (r54_num zb.2 (by omega)) ht hd (r3_Least zx zs (by omega)) (r3_Most zy zs (by omega)) ih
theorem r54_spread_out {qs : List (Rat × Rat)} (hq : In qs) (hn : qs.length ≤ 16) : ∀ d i : Nat, i + d = qs.length →
    Lp E 3 F_ref54_Spread 0 (ref54_Spread_L0 (Q2 qs) ((slopesTo qs i).foldl lohi none).isSome (i : Nat) ⟨#[]⟩ ⟨#[]⟩ (q0 (lo0 ((slopesTo qs i).foldl lohi none))) (q1 (lo0 ((slopesTo qs i).foldl lohi none))) (q2 (lo0 ((slopesTo qs i).foldl lohi none))) (q0 (hi0 ((slopesTo qs i).foldl lohi none))) (q1 (hi0 ((slopesTo qs i).foldl lohi none))) (q2 (hi0 ((slopesTo qs i).foldl lohi none)))) (.exit 0)
      (ref54_Spread_L0e0 ⟨#[]⟩ ⟨#[]⟩ (spreadI qs).isSome (q0 (lo0 (spreadI qs))) (q1 (lo0 (spreadI qs))) (q2 (lo0 (spreadI qs))) (q0 (hi0 (spreadI qs))) (q1 (hi0 (spreadI qs))) (q2 (hi0 (spreadI qs))))
  | 0, i, hi => by
    obtain rfl : i = qs.length := by omega
    exact ref54_Spread_L0e0_x0 (by rw [Q2_len]; omega)
  | d + 1, i, hi => by
    obtain ⟨a, ha⟩ := get_ex (l := qs) (i := i) (by omega)
    have ih := r54_spread_out hq hn d (i + 1) (by omega)
    have h := r54_spread_in (E := E) hq hn ha (o0 := (slopesTo qs i).foldl lohi none) (OSz.none.fold (slopesTo_Sz hq i (by omega))) i 0 (by omega)
    rw [fold_to ha] at ih
    exact ref54_Spread_L0_r0 (v8 := ((i + 1 : Nat) : Int)) (wi (by omega)) (by rw [Q2_len]; omega) h ih
theorem r54_Spread {l : List (List UInt8 × List UInt8)} (hf : Few l) : Fn E F_ref54_Spread [.c (.list (R2 l))] (sprI l) := by
  unfold sprI
  by_cases h0 : startI l = 0
  · rw [if_pos h0]
    have hs := r54_ready (E := E) hf
    rw [h0] at hs
    obtain ⟨qs, rfl, h2, hn⟩ := start_zero h0
    have hq := Tx_in hf
    rw [Tx_R2] at hs ⊢
    rw [nums_Tx]
    have hlp := r54_spread_out (E := E) hq hn qs.length 0 (by omega)
    have hz : OSz (spreadI qs) := OSz.none.fold (slopesTo_Sz hq _ (Nat.le_refl _))
    generalize spreadI qs = o at hlp hz ⊢
    cases o with
    | none => exact ref54_Spread_2 hs rfl r3_zero hlp
    | some p =>
      obtain ⟨x, y⟩ := p
      obtain ⟨zx, zy⟩ := hz x y rfl
      have hl := Lim_val
      exact ref54_Spread_1 hs rfl r3_zero hlp (r3_To zx (by omega)) (r3_To zy (by omega))
  · rw [if_neg h0]; exact ref54_Spread_0 (r54_ready hf) h0
end Gev
namespace Gev
open Go Gb Go.Proofs Go.RowKit Go.Shelf
attribute [local go_sem] Oper.semAt_some
variable {E : Env}
theorem calls_str2 {f : Nat} {a b c : ByteArray} (h : Fn E f [.c (.str a), .c (.str b)] (.c (.str c))) (w : World) (hg : E.Gd w) (hB : E.B0 ≤ w.heap.size) :
    Calls Tryz.prog f #[.string a, .string b] w fun e w' => e = .returned (.string c) ∧ Kept (fun _ => False) w w' := by
  refine Calls.mono (h.calls w (fun _ => False) #[_, _] hg hB (fun _ h => h.elim) rfl fun i v x h1 h2 => ?_) ?_
  · match i, h1, h2 with
    | 0, h1, h2 => cases h1; cases h2; exact .c (.str _)
    | 1, h1, h2 => cases h1; cases h2; exact .c (.str _)
  · rintro e w' ⟨v, rfl, _, k2, k3⟩
    cases k3 with | c k3 => cases k3; exact ⟨rfl, k2⟩
theorem calls_int1 {f : Nat} {a : ByteArray} {n : Int} (h : Fn E f [.c (.str a)] (.c (.i64 n))) (w : World) (hg : E.Gd w) (hB : E.B0 ≤ w.heap.size) :
    Calls Tryz.prog f #[.string a] w fun e w' => e = .returned (.int .i64 n) ∧ Kept (fun _ => False) w w' := by
  refine Calls.mono (h.calls w (fun _ => False) #[_] hg hB (fun _ h => h.elim) rfl fun i v x h1 h2 => ?_) ?_
  · match i, h1, h2 with
    | 0, h1, h2 => cases h1; cases h2; exact .c (.str _)
  · rintro e w' ⟨v, rfl, _, k2, k3⟩
    cases k3 with | c k3 => cases k3; exact ⟨rfl, k2⟩
end Gev
namespace Go.Proofs
open Go.RowKit Go.Shelf Go.Sort Gev
attribute [local go_sem] Oper.semAt_some
theorem slopes_raw (a : Option Addr) (len cap : Nat) (w : World) : Calls Tryz.prog 59 #[.slice a len cap] w fun e w' => e = .returned (.func (.func 98) #[] #[.pointer (some ⟨w.heap.size, 0, none⟩)]) ∧ w' = w.alloc (.cells #[.slice a len cap] 22) := by
  go_enter Tryz.func59, Tryz.ntmps59
  go_wp2
  go_ret
  exact ⟨rfl, rfl⟩
end Go.Proofs
namespace Go.Proofs
open Go.RowKit Go.Shelf Go.Sort Gev Gb
attribute [local go_sem] Oper.semAt_some
variable {E : Env}
def RowQ (a : Addr) (qs : List (Rat × Rat)) (W : World) : Prop := ∀ (j : Nat) q, qs[j]? = some q → W.cell? (a.add (j * 2)) = some (.string (B (decQ q.1))) ∧ W.cell? ((a.add (j * 2)).add 1) = some (.string (B (decQ q.2)))
structure SprK (E : Env) (qs : List (Rat × Rat)) (a : Addr) (Bs cap bx N : Nat) (w0 W : World) : Prop where
  kept : Kept (fun b => b = bx ∨ w0.heap.size ≤ b) w0 W
  size : N ≤ W.heap.size
  gd : E.Gd W
  b0 : E.B0 ≤ W.heap.size
  box : W.cell? ⟨Bs, 0, none⟩ = some (.slice (some a) qs.length cap)
  row : RowQ a qs W
theorem SprK.mk' {qs : List (Rat × Rat)} {a : Addr} {Bs cap bx N : Nat} {w0 W : World} (hG : E.Gd w0) (hB : E.B0 ≤ bx) (hb : bx < w0.heap.size) (hs : w0.cell? ⟨Bs, 0, none⟩ = some (.slice (some a) qs.length cap)) (hBs : Bs ≠ bx) (ha : a.block ≠ bx) (hr : RowQ a qs w0)
    (hk : Kept (fun b => b = bx ∨ w0.heap.size ≤ b) w0 W) (hN : N ≤ W.heap.size) : SprK E qs a Bs cap bx N w0 W := by
  have c : ∀ {p : Addr} {v : Value}, w0.cell? p = some v → p.block ≠ bx → W.cell? p = some v := fun {p v} h hp => hk.cell h (fun e => e.elim hp (fun e => by have := cell_lt h; omega))
  refine ⟨hk, hN, E.hs w0 _ (fun b hb' => hk.heap b (by omega) (by omega)) hk.size hG, by have := hk.size; omega, c hs hBs, fun j q hj => ⟨c (hr j q hj).1 (by rw [add_block]; exact ha), c (hr j q hj).2 (by rw [add_block, add_block]; exact ha)⟩⟩
theorem SprK.alloc {qs : List (Rat × Rat)} {a : Addr} {Bs cap bx N : Nat} {w0 W : World} (hs : ∀ W', Kept (fun b => b = bx ∨ w0.heap.size ≤ b) w0 W' → N ≤ W'.heap.size → SprK E qs a Bs cap bx N w0 W') (h : SprK E qs a Bs cap bx N w0 W) {W' : World} {q : Nat → Prop} (hk : Kept q W W') (hq : ∀ b, q b → b = bx ∨ w0.heap.size ≤ b) : SprK E qs a Bs cap bx N w0 W' :=
  hs W' (h.kept.trans hk fun b hb => .inl (hq b hb)) (Nat.le_trans h.size hk.size)
theorem cell0 (w : World) (x y : Value) : (w.alloc (.cells #[x, y] 33)).cell? ⟨w.heap.size, 0, none⟩ = some x := by simp
theorem cell1 (w : World) (x y : Value) : (w.alloc (.cells #[x, y] 33)).cell? ⟨w.heap.size, 1, none⟩ = some y := by simp
theorem take_nil {α : Type} (l : List α) : l.take 0 = [] := rfl
set_option maxRecDepth 100000 in
set_option maxHeartbeats 4000000 in
theorem slopes_gives (hlib : Lib E) (n : Nat) (hn : 1 ≤ n) {qs : List (Rat × Rat)} (hq : In qs) (hlen : qs.length ≤ 1000) {a : Addr} {Bs cap bx : Nat} {w0 : World} (hG : E.Gd w0) (hB : E.B0 ≤ bx) (hb : bx < w0.heap.size) (hs : w0.cell? ⟨Bs, 0, none⟩ = some (.slice (some a) qs.length cap)) (hBs : Bs ≠ bx) (ha : a.block ≠ bx) (hr : RowQ a qs w0) (hcap : qs.length ≤ cap) :
    Gives Tryz.prog n 98 #[.pointer (some ⟨Bs, 0, none⟩)] (fun s : Rat => #[.string (B (decQ s))]) bx (fun s => Sz s 1300) (slopesTo qs qs.length) w0 := by
  intro l J W hW hJ hY h0
  have hK : ∀ (W' : World), Kept (fun b => b = bx ∨ w0.heap.size ≤ b) w0 W' → W.heap.size ≤ W'.heap.size → SprK E qs a Bs cap bx W.heap.size w0 W' := fun W' hk hN => SprK.mk' hG hB hb hs hBs ha hr hk hN
  have k0 := hK W (hW.mono fun _ h => h.elim) (Nat.le_refl _)
  have hWs := hW.size
  clear hs hr hG
  refine callsIn_of_wp Tryz.func98 rfl trivial ?_ rfl
  simp only [Tryz.ntmps98, List.size_toArray, List.length_cons, List.length_nil, Nat.reduceAdd, Nat.reduceSub, Array.replicate_succ, Array.replicate_zero, List.push_toArray, List.append_toArray, List.nil_append, List.cons_append]
  have hs := k0.box
  gi_wp2
  gi_loopw [10] (fun i wr => ∃ k : Nat, k ≤ qs.length ∧ i = .int .i64 k ∧ J (slopesTo qs k) wr ∧ SprK E qs a Bs cap bx W.heap.size w0 wr) (fun i _ => (qs.length - intOf i).toNat)
  case atStart => exact ⟨0, Nat.zero_le _, rfl, h0, k0⟩
  case round =>
    obtain ⟨k, hk, rfl, hJs, hks⟩ := hrel
    rename World => V
    by_cases hlt : k < qs.length
    · obtain ⟨q, hqk⟩ := Gev.get_ex hlt
      have hs' := hks.box
      obtain ⟨c1, c2'⟩ := hks.row k q hqk
      have c2 : V.cell? ⟨(a.add (k * 2)).block, (a.add (k * 2)).off + 1, none⟩ = some (.string (B (decQ q.2))) := c2'
      clear c2'
      have zq := hq q (List.mem_of_getElem? hqk)
      have k4 : Kept (fun _ => False) V (V.alloc (.cells #[.string (B (decQ q.1)), .string (B (decQ q.2))] 33)) := Kept.alloc _ _ _
      have hk4 := hks.alloc hK k4 (fun _ h => False.elim h)
      have hs4 := hk4.box
      have b40 := cell0 V (.string (B (decQ q.1))) (.string (B (decQ q.2)))
      have b41 := cell1 V (.string (B (decQ q.1))) (.string (B (decQ q.2)))
      have hJ4 : J (slopesTo qs k ++ rowS q (qs.take 0)) (V.alloc (.cells #[.string (B (decQ q.1)), .string (B (decQ q.2))] 33)) := by
        rw [take_nil]; show J (slopesTo qs k ++ []) _; rw [List.append_nil]; exact hJ _ _ _ hJs hks.size (k4.mono fun _ h => h.elim)
      have hsz4 : V.heap.size < (V.alloc (.cells #[.string (B (decQ q.1)), .string (B (decQ q.2))] 33)).heap.size := by simp
      have hwr := hks.size
      clear k4
      gi_wp2
      clear c1 c2
      gi_loopw [19] (fun i w2 => ∃ j : Nat, j ≤ k ∧ i = .int .i64 j ∧ J (slopesTo qs k ++ rowS q (qs.take j)) w2 ∧ SprK E qs a Bs cap bx W.heap.size w0 w2 ∧ w2.cell? ⟨V.heap.size, 0, none⟩ = some (.string (B (decQ q.1))) ∧ w2.cell? ⟨V.heap.size, 1, none⟩ = some (.string (B (decQ q.2))) ∧ V.heap.size < w2.heap.size) (fun i _ => (k - intOf i).toNat)
      case atStart => exact ⟨0, Nat.zero_le _, rfl, hJ4, hk4, b40, b41, hsz4⟩
      case round =>
        clear hJ4 hk4 b40 b41 hsz4 hs4 hs' hJs hks
        obtain ⟨j, hj, rfl, hJs, hks, b40, b41, hsz⟩ := hrel
        by_cases hjk : j < k
        · obtain ⟨p, hpj⟩ := Gev.get_ex (l := qs) (i := j) (by omega)
          obtain ⟨c1, c2'⟩ := hks.row j p hpj
          have c2 : wr.cell? ⟨(a.add (j * 2)).block, (a.add (j * 2)).off + 1, none⟩ = some (.string (B (decQ p.2))) := c2'
          have zp := hq p (List.mem_of_getElem? hpj)
          have hl := Lim_val
          have e1 := calls_str2 (inc_sub hlib zq.1 zp.1 (by omega))
          have e2 := calls_int1 (inc_sign hlib (zq.1.sub zp.1) (by omega))
          have e3 := calls_str2 (inc_sub hlib zq.2 zp.2 (by omega))
          have e4 : q.1 - p.1 ≠ 0 → _ := fun h => calls_str2 (inc_div hlib (zq.2.sub zp.2) (zq.1.sub zp.1) (by omega) h)
          obtain ⟨W5, hW5⟩ : ∃ W5, W5 = wr.alloc (.cells #[.string (B (decQ p.1)), .string (B (decQ p.2))] 33) := ⟨_, rfl⟩
          have ka : Kept (fun _ => False) wr W5 := by rw [hW5]; exact Kept.alloc _ _ _
          have k5 := hks.alloc hK ka (fun _ h => False.elim h)
          have ok : ∀ {w' : World}, Kept (fun _ => False) W5 w' → SprK E qs a Bs cap bx W.heap.size w0 w' := fun h => k5.alloc hK h (fun _ h => False.elim h)
          have k55 : Kept (fun _ => False) W5 (wr.alloc (.cells #[.string (B (decQ p.1)), .string (B (decQ p.2))] 33)) := by rw [hW5]; exact Kept.refl _ _
          have cf : ∀ {w' : World}, Kept (fun _ => False) W5 w' → (w'.cell? ⟨V.heap.size, 0, none⟩ = some (.string (B (decQ q.1))) ∧ w'.cell? ⟨V.heap.size, 1, none⟩ = some (.string (B (decQ q.2)))) ∧ w'.cell? ⟨wr.heap.size, 0, none⟩ = some (.string (B (decQ p.1))) ∧ w'.cell? ⟨wr.heap.size, 1, none⟩ = some (.string (B (decQ p.2))) := fun {w'} h =>
            ⟨⟨(ka.trans h fun _ h => False.elim h).cell b40 id, (ka.trans h fun _ h => False.elim h).cell b41 id⟩, h.cell (by rw [hW5]; exact cell0 _ _ _) id, h.cell (by rw [hW5]; exact cell1 _ _ _) id⟩
          have hJ5 : ∀ {w' : World}, Kept (fun _ => False) W5 w' → J (slopesTo qs k ++ rowS q (qs.take j)) w' := fun h => hJ _ _ _ hJs hks.size ((ka.trans h fun _ h => False.elim h).mono fun _ h => False.elim h)
          have hsz5 : V.heap.size < W5.heap.size := Nat.lt_of_lt_of_le hsz ka.size
          clear hW5 c2' b40 b41
          have f1 : ∀ w', Kept (fun _ => False) W5 w' → Calls Tryz.prog 47 #[.string (B (decQ q.1)), .string (B (decQ p.1))] w' fun e w2 => e = .returned (.string (B (decQ (q.1 - p.1)))) ∧ Kept (fun _ => False) W5 w2 := fun w' h => Calls.mono (e1 w' (ok h).gd (ok h).b0) fun e w2 ⟨x, y⟩ => ⟨x, h.trans y fun _ h => False.elim h⟩
          have f2 : ∀ w', Kept (fun _ => False) W5 w' → Calls Tryz.prog 48 #[.string (B (decQ (q.1 - p.1)))] w' fun e w2 => e = .returned (.int .i64 (cmpQ (q.1 - p.1) 0)) ∧ Kept (fun _ => False) W5 w2 := fun w' h => Calls.mono (e2 w' (ok h).gd (ok h).b0) fun e w2 ⟨x, y⟩ => ⟨x, h.trans y fun _ h => False.elim h⟩
          have f3 : ∀ w', Kept (fun _ => False) W5 w' → Calls Tryz.prog 47 #[.string (B (decQ q.2)), .string (B (decQ p.2))] w' fun e w2 => e = .returned (.string (B (decQ (q.2 - p.2)))) ∧ Kept (fun _ => False) W5 w2 := fun w' h => Calls.mono (e3 w' (ok h).gd (ok h).b0) fun e w2 ⟨x, y⟩ => ⟨x, h.trans y fun _ h => False.elim h⟩
          have hrow : rowS q (qs.take (j + 1)) = rowS q (qs.take j) ++ (slope1 q p).toList := by rw [take_get hpj, rowS_snoc]
          have g0 := cf k55
          obtain ⟨⟨g01, g02⟩, g03, g04⟩ := g0
          clear e1 e2 e3
          by_cases hz : q.1 - p.1 = 0
          · have hsl : slope1 q p = none := by unfold slope1; rw [if_pos hz]
            have hc : cmpQ (q.1 - p.1) 0 = 0 := cmpQ_zero.2 hz
            rw [hc] at f2
            rw [hsl] at hrow
            clear e4 f3 hc hsl hz
            generalize B (decQ (q.1 - p.1)) = d1 at f1 f2
            generalize B (decQ q.1) = m1 at f1 g01 cf
            generalize B (decQ q.2) = m2 at g02 cf
            generalize B (decQ p.1) = n1 at f1 g03 c1 cf k55
            generalize B (decQ p.2) = n2 at g04 c2 cf k55
            gi_wp2_with (first
              | (refine ⟨trivial, ?_⟩; gi_at_call 47; refine (callsIn_wide.2 (f1 _ k55)).mono ?_; rintro e w6 ⟨rfl, k6⟩)
              | (refine ⟨trivial, ?_⟩; gi_at_call 48; refine (callsIn_wide.2 (f2 _ k6)).mono ?_; rintro e w7 ⟨rfl, k7⟩))
            refine ⟨trivial, ?_⟩
            gi_wp2
            refine ⟨trivial, ?_⟩
            gi_wp2
            try refine ⟨fun _ h => (by cases h), ?_⟩
            gi_wp2
            obtain ⟨⟨h1, h2⟩, -⟩ := cf k7
            go_roundw
            case rel => exact ⟨j + 1, by omega, by simp, by rw [hrow]; simpa using hJ5 k7, ok k7, h1, h2, Nat.lt_of_lt_of_le hsz5 k7.size⟩
            case measure => simp [intOf]; omega
          · have hsl : slope1 q p = some ((q.2 - p.2) / (q.1 - p.1)) := by unfold slope1; rw [if_neg hz]
            have hc : cmpQ (q.1 - p.1) 0 ≠ 0 := fun e => hz (cmpQ_zero.1 e)
            have zs := slope1_Sz zq zp hsl
            have e4 := e4 hz
            have f4 : ∀ w', Kept (fun _ => False) W5 w' → Calls Tryz.prog 41 #[.string (B (decQ (q.2 - p.2))), .string (B (decQ (q.1 - p.1)))] w' fun e w2 => e = .returned (.string (B (decQ ((q.2 - p.2) / (q.1 - p.1))))) ∧ Kept (fun _ => False) W5 w2 := fun w' h => Calls.mono (e4 w' (ok h).gd (ok h).b0) fun e w2 ⟨x, y⟩ => ⟨x, h.trans y fun _ h => False.elim h⟩
            rw [hsl] at hrow
            clear e4 hsl hz
            have hyy := hY (slopesTo qs k ++ rowS q (qs.take j)) ((q.2 - p.2) / (q.1 - p.1))
            clear hY
            generalize cmpQ (q.1 - p.1) 0 = c at f2 hc
            generalize (q.2 - p.2) / (q.1 - p.1) = s at f4 hrow zs hyy
            generalize B (decQ (q.1 - p.1)) = d1 at f1 f2 f4
            generalize B (decQ (q.2 - p.2)) = d2 at f3 f4
            generalize B (decQ q.1) = m1 at f1 g01 cf
            generalize B (decQ q.2) = m2 at f3 g02 cf
            generalize B (decQ p.1) = n1 at f1 g03 c1 cf k55
            generalize B (decQ p.2) = n2 at f3 g04 c2 cf k55
            gi_wp2_with (first
              | (refine ⟨trivial, ?_⟩; gi_at_call 47; refine (callsIn_wide.2 (f1 _ k55)).mono ?_; rintro e w6 ⟨rfl, k6⟩; clear f1)
              | (refine ⟨trivial, ?_⟩; gi_at_call 48; refine (callsIn_wide.2 (f2 _ k6)).mono ?_; rintro e w7 ⟨rfl, k7⟩; obtain ⟨⟨g71, g72⟩, g73, g74⟩ := cf k7)
              | (refine ⟨trivial, ?_⟩; gi_at_call 47; refine (callsIn_wide.2 (f3 _ k7)).mono ?_; rintro e w8 ⟨rfl, k8⟩)
              | (refine ⟨trivial, ?_⟩; gi_at_call 41; refine (callsIn_wide.2 (f4 _ k8)).mono ?_; rintro e w9 ⟨rfl, k9⟩; obtain ⟨fn, tmps, assign, body, hy, hR⟩ := hyy w9 zs (hJ5 k9)))
            have hcb : (c != 0) = true := by simpa using hc
            simp only [hcb]
            refine hR.mono ?_
            rintro e W10 ⟨rfl, hJ10, k10⟩
            gi_wp2
            obtain ⟨⟨h1, h2⟩, -⟩ := cf k9
            have n1 : ∀ b, b < wr.heap.size → W.heap.size ≤ b → ¬ (b = bx ∨ w0.heap.size ≤ b ∧ b < W.heap.size) := fun b _ h2 => by omega
            go_roundw
            case rel => exact ⟨j + 1, by omega, by simp, by rw [hrow, ← List.append_assoc]; exact hJ10, (ok k9).alloc hK k10 (fun b h => h.imp id fun h => h.1), k10.cell h1 (n1 V.heap.size (by omega) hwr), k10.cell h2 (n1 V.heap.size (by omega) hwr), Nat.lt_of_lt_of_le hsz5 (Nat.le_trans k9.size k10.size)⟩
            case measure => simp [intOf]; omega
        · obtain rfl : j = k := by omega
          gi_wp2
          go_roundw
          case rel => exact ⟨j + 1, by omega, by simp, by show J (slopesTo qs j ++ rowS (qs.getD j (0, 0)) (qs.take j)) _; rw [List.getD_eq_getElem?_getD, hqk]; exact hJs, hks⟩
          case measure => simp [intOf]; omega
    · obtain rfl : k = qs.length := by omega
      gi_wp2
      go_end0
      exact ⟨⟨_, rfl⟩, hJs⟩
end Go.Proofs
namespace Go.Proofs
open Go.RowKit Go.Shelf Go.Sort Gev Gb
attribute [local go_sem] Oper.semAt_some
variable {E : Env}
def loT : Option (Rat × Rat) → ByteArray
  | none => ⟨#[]⟩
  | some (l, _) => B (decQ l)
def hiT : Option (Rat × Rat) → ByteArray
  | none => ⟨#[]⟩
  | some (_, h) => B (decQ h)
structure SprI (w : World) (bx : Nat) (w0 : World) (pre : List Rat) (W : World) : Prop where
  sz : OSz (pre.foldl lohi none)
  box : W.heap[bx]? = some (.cells #[.string (loT (pre.foldl lohi none)), .string (hiT (pre.foldl lohi none))] 35 (0, 0))
  kept : Kept (fun b => b = bx ∨ w0.heap.size ≤ b) w0 W
theorem SprI.abide (w : World) {bx : Nat} {w0 : World} (hb : bx < w0.heap.size) : Abide w0.heap.size (SprI w bx w0) := fun s A B h hA hk =>
  ⟨h.sz, (hk.heap bx (by omega) (by omega)).trans h.box, h.kept.trans hk fun b hb => .inl (.inr hb)⟩
theorem set_lo {W : World} {b : Nat} {x y : Value} {t : TypeId} (v : Value) (h : W.heap[b]? = some (.cells #[x, y] t (0, 0))) : (W.setCell ⟨b, 0, none⟩ v).heap[b]? = some (.cells #[v, y] t (0, 0)) := by
  simp [World.setCell, Array.getElem?_modify, h]
theorem set_hi {W : World} {b : Nat} {x y : Value} {t : TypeId} (v : Value) (h : W.heap[b]? = some (.cells #[x, y] t (0, 0))) : (W.setCell ⟨b, 1, none⟩ v).heap[b]? = some (.cells #[x, v] t (0, 0)) := by
  simp [World.setCell, Array.getElem?_modify, h]
theorem box4 {W : World} {b : Nat} {x y : Value} {t : TypeId} (h : W.heap[b]? = some (.cells #[x, y] t (0, 0))) : W.cell? ⟨b, 0, none⟩ = some x ∧ W.cell? ⟨b, 1, none⟩ = some y ∧ W.frozen? ⟨b, 0, none⟩ = false ∧ W.frozen? ⟨b, 1, none⟩ = false :=
  ⟨by simp [World.cell?, h], by simp [World.cell?, h], by simp [World.frozen?, h], by simp [World.frozen?, h]⟩
theorem calls_int2 {f : Nat} {a b : ByteArray} {n : Int} (h : Gev.Fn E f [.c (.str a), .c (.str b)] (.c (.i64 n))) (w : World) (hg : E.Gd w) (hB : E.B0 ≤ w.heap.size) :
    Calls Tryz.prog f #[.string a, .string b] w fun e w' => e = .returned (.int .i64 n) ∧ Kept (fun _ => False) w w' := by
  refine Calls.mono (h.calls w (fun _ => False) #[_, _] hg hB (fun _ h => h.elim) rfl fun i v x h1 h2 => ?_) ?_
  · match i, h1, h2 with
    | 0, h1, h2 => cases h1; cases h2; exact .c (.str _)
    | 1, h1, h2 => cases h1; cases h2; exact .c (.str _)
  · rintro e w' ⟨v, rfl, _, k2, k3⟩
    cases k3 with | c k3 => cases k3; exact ⟨rfl, k2⟩
theorem in_heap {W : World} {b : Nat} {o : Obj} (h : W.heap[b]? = some o) : b < W.heap.size := (Array.getElem?_eq_some_iff.1 h).1
theorem not_empty {l : List UInt8} (h : l ≠ []) : (B l).toList.isEmpty = false := by
  rw [toList_eq, B_list]
  cases l with
  | nil => exact absurd rfl h
  | cons => rfl
theorem u35 : ∃ d, Tryz.prog.underlying 35 = some d ∧ (match d with | .struct _ | .array _ _ => true | _ => false) = true := by
  have h : (match Tryz.prog.underlying 35 with | some (.struct _) => true | _ => false) = true := by kernel_rfl
  cases hu : Tryz.prog.underlying 35 with
  | none => rw [hu] at h; cases h
  | some d => rw [hu] at h; cases d <;> first | exact ⟨_, rfl, rfl⟩ | cases h
theorem kept_set (W : World) (b i : Nat) (v : Value) : Kept (fun x => x = b) W (W.setCell ⟨b, i, none⟩ v) :=
  ⟨fun k _ hk => by simp [World.setCell, Array.getElem?_modify]; intro e; exact absurd e.symm hk, by simp [World.setCell], rfl, rfl, rfl⟩
set_option maxRecDepth 100000 in
set_option maxHeartbeats 4000000 in
theorem spread_raw (hlib : Lib E) {qs : List (Rat × Rat)} (hq : In qs) (hlen : qs.length ≤ 1000) (a : Addr) (cap : Nat) (hcap : qs.length ≤ cap) (w : World) (hG : E.Gd w) (hB : E.B0 ≤ w.heap.size) (ha : a.block < w.heap.size) (hr : RowQ a qs w)
    (x1 x2 : ByteArray) (c : Int) (hx1 : x1 = loT (spreadI qs)) (hx2 : x2 = hiT (spreadI qs)) (hc : c = if (spreadI qs).isSome then 0 else 18)
    (hst : ∀ w', Kept (fun _ => False) w w' → Calls Tryz.prog 39 #[.slice (some a) qs.length cap] w' fun e w2 => e = .returned (.int .i64 0) ∧ Kept (fun _ => False) w' w2) :
    Calls Tryz.prog 17 #[.slice (some a) qs.length cap] w fun e w' => e = .returned (.tuple #[.agg #[.string x1, .string x2], .int .i64 c]) ∧ Kept (fun _ => False) w w' := by
  have hx : RowKit.Hid (x1 = loT (spreadI qs) ∧ x2 = hiT (spreadI qs) ∧ c = if (spreadI qs).isSome then 0 else 18) := Go.Lib.hid ⟨hx1, hx2, hc⟩
  clear hx1 hx2 hc
  refine (callsIn_wide (n := 3)).1 ?_
  have h1 : 1 ≤ 3 := by omega
  refine callsIn_of_wp_marks Tryz.func17 rfl trivial ?_ rfl
  simp only [Tryz.ntmps17, List.size_toArray, List.length_cons, List.length_nil, Nat.reduceAdd, Nat.reduceSub, Array.replicate_succ, Array.replicate_zero, List.push_toArray, List.append_toArray, List.nil_append, List.cons_append]
  have ka : Kept (fun _ => False) w (w.alloc (.cells #[.string ⟨#[]⟩, .string ⟨#[]⟩] 35)) := Kept.alloc _ _ _
  gi_wp2_with (first
    | (refine ⟨trivial, ?_⟩; gi_at_call 39; refine (callsIn_wide.2 (hst _ ka)).mono ?_; rintro e w1 ⟨rfl, k1⟩)
    | (refine ⟨trivial, ?_⟩; gi_at_call 59; refine (callsIn_wide.2 (slopes_raw _ _ _ _)).mono ?_; rintro e w2 ⟨rfl, hw2⟩))
  rw [← hw2]
  have kb : Kept (fun _ => False) (w1.alloc (.cells #[.string ⟨#[]⟩, .string ⟨#[]⟩] 35)) w2 := by rw [hw2]; exact Kept.alloc _ _ _
  have kc := (Kept.alloc (fun _ => False) w1 (.cells #[.string ⟨#[]⟩, .string ⟨#[]⟩] 35)).trans kb (fun _ h => False.elim h)
  have k2 := (ka.trans k1 (fun _ h => False.elim h)).trans kc (fun _ h => False.elim h)
  have hs1 : w.heap.size < w1.heap.size := Nat.lt_of_lt_of_le (by simp) k1.size
  have hbx : w1.heap.size < w2.heap.size := Nat.lt_of_lt_of_le (by simp) kb.size
  have hbox : w2.heap[w1.heap.size]? = some (.cells #[.string ⟨#[]⟩, .string ⟨#[]⟩] 35 (0, 0)) := (kb.heap _ (by simp) id).trans (World.alloc_heap_new w1 _)
  have hres : w2.heap[w.heap.size]? = some (.cells #[.string ⟨#[]⟩, .string ⟨#[]⟩] 35 (0, 0)) := (kc.heap _ hs1 id).trans ((k1.heap _ (by simp) id).trans (World.alloc_heap_new w _))
  have hcp : w2.cell? ⟨w1.heap.size + 1, 0, none⟩ = some (.slice (some a) qs.length cap) := by
    have := World.alloc_heap_new (w1.alloc (.cells #[.string ⟨#[]⟩, .string ⟨#[]⟩] 35)) (.cells #[.slice (some a) qs.length cap] 22)
    rw [← hw2, World.size_alloc] at this
    simp [World.cell?, this]
  have hG2 : E.Gd w2 := E.hs w _ (fun b hb => k2.heap b (by omega) id) k2.size hG
  have hr2 : RowQ a qs w2 := fun j q hj => ⟨k2.cell (hr j q hj).1 id, k2.cell (hr j q hj).2 id⟩
  clear hw2 kb
  refine range_gives (n := 3) (gf := 98) (lb := #[.pointer (some ⟨w1.heap.size + 1, 0, none⟩)]) rfl (enters_of Tryz.func98 (by kernel_rfl) rfl) (bx := w1.heap.size) hbx (slopes_gives hlib 2 (by omega) hq hlen hG2 (by omega) hbx hcp (by omega) (by omega) hr2 hcap) (fun _ => rfl)
    (SprI w w1.heap.size w2) (SprI.abide w hbx) ⟨OSz.none, hbox, Kept.refl _ _⟩
    (fun x => { tmps := #[.slice (some a) qs.length cap, undef, .pointer (some ⟨w.heap.size, 0, none⟩), .int .i64 0, .int .i64 0, .pointer (some ⟨w1.heap.size, 0, none⟩), .string (B (decQ x)), .slice (some a) qs.length cap, .int .i64 0, .int .i64 0, .bool false, undef, undef, .slice (some a) qs.length cap, .func (.func 98) #[] #[.pointer (some ⟨w1.heap.size + 1, 0, none⟩)], .string (B (decQ x)), undef, undef, undef, undef, undef, undef, undef, undef, undef, undef, undef, undef, undef, undef, undef, undef, undef, undef, undef, undef, undef, undef, undef, undef, undef, undef, undef, undef, undef], defers := [] }) ?assign ?body ?done
  case assign =>
    intro l x W K hK
    gi_wp2
    exact hK
  case body =>
    rintro l pre x W zx ⟨i1, i2, i3⟩ hWs
    have hfold : (pre ++ [x]).foldl lohi none = lohi (pre.foldl lohi none) x := by rw [List.foldl_append]; rfl
    have fin : ∀ (W' : World), OSz (lohi (pre.foldl lohi none) x) → W'.heap[w1.heap.size]? = some (.cells #[.string (loT (lohi (pre.foldl lohi none) x)), .string (hiT (lohi (pre.foldl lohi none) x))] 35 (0, 0)) → Kept (fun b => b = w1.heap.size) W W' → SprI w w1.heap.size w2 (pre ++ [x]) W' ∧ Kept (fun b => b = w1.heap.size) W W' := fun W' f1 f2 f3 =>
      ⟨⟨by rw [hfold]; exact f1, by rw [hfold]; exact f2, i3.trans f3 fun b hb => .inl (.inl hb)⟩, f3⟩
    clear hfold
    generalize pre.foldl lohi none = o at i1 i2 fin
    have c0 : W.cell? ⟨w1.heap.size, 0, none⟩ = some (.string (loT o)) := by simp [World.cell?, i2]
    have c1 : W.cell? ⟨w1.heap.size, 1, none⟩ = some (.string (hiT o)) := by simp [World.cell?, i2]
    have cf0 : W.frozen? ⟨w1.heap.size, 0, none⟩ = false := by simp [World.frozen?, i2]
    have cf1 : W.frozen? ⟨w1.heap.size, 1, none⟩ = false := by simp [World.frozen?, i2]
    cases o with
    | none =>
      simp only [loT, hiT] at c0 c1
      gi_wp2
      refine ⟨trivial, ?_⟩
      gi_wp2
      refine ⟨trivial, ?_⟩
      gi_wp2
      exact fin _ (i1.step zx) (set_hi _ (set_lo _ i2)) ((kept_set _ _ _ _).trans (kept_set _ _ _ _) fun b h => .inl h)
    | some lh =>
      obtain ⟨lo, hi⟩ := lh
      obtain ⟨zl, zh⟩ := i1 lo hi rfl
      have hl := Lim_val
      have ok : ∀ {w' : World}, Kept (fun b => b = w1.heap.size) W w' → E.Gd w' ∧ E.B0 ≤ w'.heap.size := fun {w'} h => by
        have h3 := i3.trans h fun b hb => .inl (.inl hb)
        exact ⟨E.hs w2 _ (fun b hb => h3.heap b (by omega) (by omega)) h3.size hG2, by have := h3.size; omega⟩
      have f1 : ∀ w', Kept (fun b => b = w1.heap.size) W w' → Calls Tryz.prog 60 #[.string (B (decQ x)), .string (B (decQ lo))] w' fun e w2 => e = .returned (.int .i64 (cmpQ x lo)) ∧ Kept (fun _ => False) w' w2 := fun w' h => calls_int2 (inc_compare hlib zx zl (by omega)) w' (ok h).1 (ok h).2
      have f2 : ∀ w', Kept (fun b => b = w1.heap.size) W w' → Calls Tryz.prog 60 #[.string (B (decQ x)), .string (B (decQ hi))] w' fun e w2 => e = .returned (.int .i64 (cmpQ x hi)) ∧ Kept (fun _ => False) w' w2 := fun w' h => calls_int2 (inc_compare hlib zx zh (by omega)) w' (ok h).1 (ok h).2
      have l1 : cmpQ x lo < 0 ↔ x < lo := cmpQ_lt
      have l2 : 0 < cmpQ x hi ↔ hi < x := cmpQ_gt
      have fin2 := fin
      clear fin ok
      simp only [lohi, loT, hiT] at c0 c1 i2 fin2
      have nl := not_empty (decQ_ne lo)
      have nh := not_empty (decQ_ne hi)
      generalize cmpQ x lo = d1 at f1 l1
      generalize cmpQ x hi = d2 at f2 l2
      have st := i1.step zx
      simp only [lohi] at st
      by_cases hlt : x < lo
      · rw [if_pos hlt] at fin2 st
        have hd := l1.2 hlt
        by_cases hgt : hi < x
        · rw [if_pos hgt] at fin2 st
          have hd2 := l2.2 hgt
          clear hlt hgt l1 l2 zl zh i1
          generalize B (decQ lo) = tl at *
          generalize B (decQ hi) = th at *
          generalize B (decQ x) = tx at *
          gi_wp2_with (first
            | (refine ⟨trivial, ?_⟩; gi_at_call 60; refine (CallsIn.inRound l (callsIn_wide.2 (f1 W (Kept.refl _ _)))).mono ?_; rintro e w6 ⟨rfl, k6⟩; clear f1; have i6 := (k6.heap _ (in_heap i2) id).trans i2; obtain ⟨c60, c61, c6f, c6g⟩ := box4 i6)
            | (refine ⟨trivial, ?_⟩; gi_at_call 60; refine (CallsIn.inRound l (callsIn_wide.2 (f2 (w6.setCell ⟨w1.heap.size, 0, none⟩ (.string tx)) ((k6.mono fun _ h => False.elim h).trans (kept_set w6 w1.heap.size 0 (.string tx)) fun b h => .inl h)))).mono ?_; rintro e w7 ⟨rfl, k7⟩; have i7 := (k7.heap _ (in_heap (set_lo (.string tx) i6)) id).trans (set_lo (.string tx) i6); obtain ⟨c70, c71, c7f, c7g⟩ := box4 i7))
          exact fin2 _ st (set_hi _ i7) ((((k6.mono fun _ h => False.elim h).trans (kept_set _ _ _ _) fun b h => .inl h).trans (k7.mono fun _ h => False.elim h) fun b h => .inl h).trans (kept_set _ _ _ _) fun b h => .inl h)
        · rw [if_neg hgt] at fin2 st
          have hd2 : ¬ 0 < d2 := fun e => hgt (l2.1 e)
          clear hlt hgt l1 l2 zl zh i1
          generalize B (decQ lo) = tl at *
          generalize B (decQ hi) = th at *
          generalize B (decQ x) = tx at *
          gi_wp2_with (first
            | (refine ⟨trivial, ?_⟩; gi_at_call 60; refine (CallsIn.inRound l (callsIn_wide.2 (f1 W (Kept.refl _ _)))).mono ?_; rintro e w6 ⟨rfl, k6⟩; clear f1; have i6 := (k6.heap _ (in_heap i2) id).trans i2; obtain ⟨c60, c61, c6f, c6g⟩ := box4 i6)
            | (refine ⟨trivial, ?_⟩; gi_at_call 60; refine (CallsIn.inRound l (callsIn_wide.2 (f2 (w6.setCell ⟨w1.heap.size, 0, none⟩ (.string tx)) ((k6.mono fun _ h => False.elim h).trans (kept_set w6 w1.heap.size 0 (.string tx)) fun b h => .inl h)))).mono ?_; rintro e w7 ⟨rfl, k7⟩; have i7 := (k7.heap _ (in_heap (set_lo (.string tx) i6)) id).trans (set_lo (.string tx) i6); obtain ⟨c70, c71, c7f, c7g⟩ := box4 i7))
          exact fin2 _ st i7 (((k6.mono fun _ h => False.elim h).trans (kept_set _ _ _ _) fun b h => .inl h).trans (k7.mono fun _ h => False.elim h) fun b h => .inl h)
      · rw [if_neg hlt] at fin2 st
        have hd : ¬ d1 < 0 := fun e => hlt (l1.1 e)
        by_cases hgt : hi < x
        · rw [if_pos hgt] at fin2 st
          have hd2 := l2.2 hgt
          clear hlt hgt l1 l2 zl zh i1
          generalize B (decQ lo) = tl at *
          generalize B (decQ hi) = th at *
          generalize B (decQ x) = tx at *
          gi_wp2_with (first
            | (refine ⟨trivial, ?_⟩; gi_at_call 60; refine (CallsIn.inRound l (callsIn_wide.2 (f1 W (Kept.refl _ _)))).mono ?_; rintro e w6 ⟨rfl, k6⟩; clear f1; have i6 := (k6.heap _ (in_heap i2) id).trans i2; obtain ⟨c60, c61, c6f, c6g⟩ := box4 i6)
            | (refine ⟨trivial, ?_⟩; gi_at_call 60; refine (CallsIn.inRound l (callsIn_wide.2 (f2 w6 (k6.mono fun _ h => False.elim h)))).mono ?_; rintro e w7 ⟨rfl, k7⟩; have i7 := (k7.heap _ (in_heap i6) id).trans i6; obtain ⟨c70, c71, c7f, c7g⟩ := box4 i7))
          exact fin2 _ st (set_hi _ i7) (((k6.mono fun _ h => False.elim h).trans (k7.mono fun _ h => False.elim h) fun b h => .inl h).trans (kept_set _ _ _ _) fun b h => .inl h)
        · rw [if_neg hgt] at fin2 st
          have hd2 : ¬ 0 < d2 := fun e => hgt (l2.1 e)
          clear hlt hgt l1 l2 zl zh i1
          generalize B (decQ lo) = tl at *
          generalize B (decQ hi) = th at *
          generalize B (decQ x) = tx at *
          gi_wp2_with (first
            | (refine ⟨trivial, ?_⟩; gi_at_call 60; refine (CallsIn.inRound l (callsIn_wide.2 (f1 W (Kept.refl _ _)))).mono ?_; rintro e w6 ⟨rfl, k6⟩; clear f1; have i6 := (k6.heap _ (in_heap i2) id).trans i2; obtain ⟨c60, c61, c6f, c6g⟩ := box4 i6)
            | (refine ⟨trivial, ?_⟩; gi_at_call 60; refine (CallsIn.inRound l (callsIn_wide.2 (f2 w6 (k6.mono fun _ h => False.elim h)))).mono ?_; rintro e w7 ⟨rfl, k7⟩; have i7 := (k7.heap _ (in_heap i6) id).trans i6; obtain ⟨c70, c71, c7f, c7g⟩ := box4 i7))
          exact fin2 _ st i7 ((k6.mono fun _ h => False.elim h).trans (k7.mono fun _ h => False.elim h) fun b h => .inl h)
  case done =>
    rintro W ⟨i1, i2, i3⟩ hWs hD
    obtain ⟨hx1, hx2, hc⟩ := hx.out
    clear hx
    have hres' := (i3.heap w.heap.size (by omega) (by omega)).trans hres
    change OSz (spreadI qs) at i1
    change W.heap[w1.heap.size]? = some (.cells #[.string (loT (spreadI qs)), .string (hiT (spreadI qs))] 35 (0, 0)) at i2
    obtain ⟨c0, c1, cf0, cf1⟩ := box4 i2
    obtain ⟨r0, r1, rf0, rf1⟩ := box4 hres'
    have kW : Kept (fun _ => False) w W := ⟨fun b hb _ => (i3.heap b (by omega) (by omega)).trans (k2.heap b hb id), by have := k2.size; omega, i3.os.trans k2.os, i3.tape.trans k2.tape, i3.output.trans k2.output⟩
    have hne : w.heap.size ≠ w2.heap.size := by omega
    obtain ⟨d, hu, hdd⟩ := u35
    have fin : ∀ (X Y : ByteArray) (W' : World) (tmps : Array Value), W' = (W.setCell ⟨w.heap.size, 0, none⟩ (.string X)).setCell ⟨w.heap.size, 1, none⟩ (.string Y) → tmps.getD 2 undef = .pointer (some ⟨w.heap.size, 0, none⟩) →
        LeavesInM Fence.wide 3 Tryz.prog Tryz.f17 tmps (fun e w' => e = .returned (.tuple #[.agg #[.string X, .string Y], tmps.getD 3 undef]) ∧ Kept (fun _ => False) w w') [{ target := .collected w2.heap.size, args := #[] }] .returning W' := by
      intro X Y W' tmps hW' ht
      have kp : Kept (fun b => b = w.heap.size) W W' := by rw [hW']; exact (kept_set _ _ _ _).trans (kept_set _ _ _ _) fun b h => .inl h
      have hb : W'.heap[w.heap.size]? = some (.cells #[.string X, .string Y] 35 (0, 0)) := by rw [hW']; exact set_hi _ (set_lo _ hres')
      have hD' := (kp.heap _ (in_heap hD) (Ne.symm hne)).trans hD
      have kq : Kept (fun b => b = w2.heap.size) W' (W'.putObj w2.heap.size (.deferred none)) := kept_put _ rfl
      have hb' := (kq.heap _ (in_heap hb) hne).trans hb
      refine ⟨by simp, .inl ⟨_, _, rfl, run_takeDeferred hD', ?_⟩⟩
      refine ⟨_, ?_, rfl, (kW.trans kp fun b h => .inr (Nat.le_of_eq h.symm)).trans kq fun b h => .inr (by omega)⟩
      rw [results_cell_tmp rfl, ht]
      simp only [asAddr, Sem.run_pure, Result.andThen_ok]
      rw [run_loadVar_row (P := Tryz.prog) _ w.heap.size 35 35 _ (0, 0) d hb' hu (by cases d <;> first | rfl | cases hdd) (by kernel_rfl)]
      rfl
    clear hu hdd hne
    cases ho : spreadI qs with
    | none =>
      rw [ho] at c0 c1 i2 hx1 hx2 hc
      simp only [loT, hiT] at c0 c1 i2 hx1 hx2
      have hc : c = 18 := hc
      clear ho
      subst hx1 hx2 hc
      gi_wp2
      exact fin _ _ _ _ rfl rfl
    | some lh =>
      obtain ⟨lo, hi⟩ := lh
      rw [ho] at c0 c1 i2 hx1 hx2 hc
      simp only [loT, hiT] at c0 c1 i2 hx1 hx2
      have hc : c = 0 := hc
      have nl := not_empty (decQ_ne lo)
      clear ho
      rw [← hx1] at c0 i2 nl
      rw [← hx2] at c1 i2
      clear hx1 hx2
      subst hc
      gi_wp2
      exact fin _ _ _ _ rfl rfl
end Go.Proofs
namespace Gev
open Go Gb Go.Proofs
variable {E : Env}
theorem two_rep' {Γ : Ctx} (x y : ByteArray) : RepA DD Γ (.agg #[.string x, .string y]) (.agg [.str x, .str y]) := by
  refine .agg #[_, _] _ rfl fun j u d h1 h2 => ?_
  match j, h1, h2 with
  | 0, h1, h2 => cases h1; cases h2; exact .str _
  | 1, h1, h2 => cases h1; cases h2; exact .str _
theorem incline_Spread_err {a0 : List (List DV)} {v1 : Int} (h1 : Fn E F_incline_start [.c (.list a0)] (.c (.i64 v1))) (h2 : ¬ v1 = 0) : Fn E F_incline_Spread [.c (.list a0)] (.tup [.agg [.str ⟨#[]⟩, .str ⟨#[]⟩], .c (.i64 v1)]) :=
  fnMk [.v (.c (.i64 v1)), .t true] (by kernel_rfl) (by kernel_rfl) (aC h1 (aO (bnT h2))) (by kernel_rfl)
theorem inc_Spread (hlib : Lib E) {l : List (List UInt8 × List UInt8)} (hf : Few l) : Fn E F_incline_Spread [.c (.list (R2 l))] (sprI l) := by
  have hst := inc_start hlib hf
  unfold sprI
  by_cases h0 : startI l = 0
  · rw [if_pos h0]
    rw [h0] at hst
    obtain ⟨qs, rfl, h2, hn⟩ := start_zero h0
    have hq := Tx_in hf
    rw [Tx_R2] at hst ⊢
    rw [nums_Tx]
    have hdat : (ivI (spreadI qs)).Data := by
      cases spreadI qs with
      | none => exact AV.isData_ok rfl
      | some p => exact AV.isData_ok rfl
    refine ⟨enters_known (by kernel_rfl), hdat, fun w ext cargs hg hB hx hcl ha => ?_⟩
    obtain ⟨v, rfl⟩ : ∃ v, cargs = #[v] := by
      match cargs, hcl with
      | ⟨[v]⟩, _ => exact ⟨v, rfl⟩
    have hc0 := ha 0 v _ rfl rfl
    have hc1 := hc0
    cases hc0 with
    | c hr =>
      generalize hxs : Q2 qs = xs at hr
      cases hr with
      | list A c xs sz u hc hA hx' hu hd =>
        subst hxs
        rw [Q2_len] at hc hc1 ⊢
        obtain ⟨a, rfl, hab, _⟩ := hA (by intro e; have h9 := congrArg List.length e; rw [Q2_len, List.length_nil] at h9; omega)
        have hsz : sz = 2 := by
          obtain ⟨q, hq0⟩ := get_ex' (l := qs) (i := 0) (by omega)
          rw [← hx' _ (List.mem_of_getElem? (Q2_get hq0))]; rfl
        subst hsz
        have hrow : RowQ a qs w := fun j q hj => by
          have g := Q2_get hj
          have e0 := hu a j _ 0 _ rfl g rfl
          have e1 := hu a j _ 1 _ rfl g rfl
          have d0 := hd j _ 0 _ g rfl
          have d1 := hd j _ 1 _ g rfl
          rw [Nat.add_zero] at e0
          rw [add_add, e0, e1]
          generalize u j 0 = p0 at d0
          generalize u j 1 = p1 at d1
          cases d0; cases d1; exact ⟨rfl, rfl⟩
        refine Calls.mono (spread_raw hlib hq (by omega) a c hc w hg hB hab hrow (loT (spreadI qs)) (hiT (spreadI qs)) _ rfl rfl rfl ?_) ?_
        · intro w' hk
          have hg' : E.Gd w' := E.hs w _ (fun b hb => hk.heap b (by omega) id) hk.size hg
          refine Calls.mono (hst.calls w' (fun _ => False) #[_] hg' (Nat.le_trans hB hk.size) (fun _ h => h.elim) rfl fun i v x h1 h2 => ?_) ?_
          · match i, h1, h2 with
            | 0, h1, h2 =>
              cases h1; cases h2
              cases hc1 with | c hr => exact .c (hr.mono (hk.mono fun _ h => False.elim h) fun b _ h => False.elim (h.elim id no_mine))
          · rintro e w2 ⟨v, rfl, _, k2, k3⟩
            cases k3 with | c k3 => cases k3; exact ⟨rfl, k2⟩
        · rintro e w' ⟨rfl, hk⟩
          refine ⟨_, rfl, E.hs w _ (fun b hb => hk.heap b (by omega) id) hk.size hg, hk, ?_⟩
          cases spreadI qs with
          | none =>
            refine .tup [_, _] _ rfl fun i v a h1 h2 => ?_
            match i, h1, h2 with
            | 0, h1, h2 => cases h1; cases h2; exact two_rep' _ _
            | 1, h1, h2 => cases h1; cases h2; exact .c (.int _ _)
          | some p =>
            refine .tup [_, _] _ rfl fun i v a h1 h2 => ?_
            match i, h1, h2 with
            | 0, h1, h2 => cases h1; cases h2; exact two_rep' _ _
            | 1, h1, h2 => cases h1; cases h2; exact .c (.int _ _)
  · rw [if_neg h0]; exact incline_Spread_err hst h0
theorem sp_ok (hlib : Lib E) : Sp E where
  same l hf := by
    have k1 := inc_Spread hlib hf
    have k2 := r54_Spread (E := E) hf
    unfold sprI at k1 k2
    by_cases h0 : startI l = 0
    · rw [if_pos h0] at k1 k2
      cases h : spreadI (nums l) with
      | none => rw [h] at k1 k2; exact ⟨[], [], 18, k1, k2⟩
      | some p => rw [h] at k1 k2; exact ⟨decQ p.1, decQ p.2, 0, k1, k2⟩
    · rw [if_neg h0] at k1 k2; exact ⟨[], [], startI l, k1, k2⟩
end Gev
namespace Gev
open Go Gb Go.Proofs
variable {E : Env}
def vals : List (List UInt8 × List UInt8) → List Value
  | [] => []
  | p :: l => .string (B p.1) :: .string (B p.2) :: vals l
theorem vals_len : ∀ l, (vals l).length = l.length * 2
  | [] => rfl
  | p :: l => by show (vals l).length + 1 + 1 = (l.length + 1) * 2; rw [vals_len l]; omega
theorem vals_get : ∀ {l : List (List UInt8 × List UInt8)} {j : Nat} {u : Value}, (vals l)[j]? = some u → ∃ i p, l[i]? = some p ∧ ((j = i * 2 + 0 ∧ u = .string (B p.1)) ∨ (j = i * 2 + 1 ∧ u = .string (B p.2)))
  | [], j, u, h => by cases h
  | p :: l, 0, u, h => by cases h; exact ⟨0, p, rfl, .inl ⟨rfl, rfl⟩⟩
  | p :: l, 1, u, h => by cases h; exact ⟨0, p, rfl, .inr ⟨rfl, rfl⟩⟩
  | p :: l, j + 2, u, h => by
    obtain ⟨i, q, h1, h2⟩ := vals_get (l := l) (j := j) h
    exact ⟨i + 1, q, h1, h2.imp (fun h => ⟨by omega, h.2⟩) fun h => ⟨by omega, h.2⟩⟩
theorem vals_at : ∀ {l : List (List UInt8 × List UInt8)} {i : Nat} {p}, l[i]? = some p → (vals l)[i * 2 + 0]? = some (.string (B p.1)) ∧ (vals l)[i * 2 + 1]? = some (.string (B p.2))
  | q :: l, 0, p, h => by cases h; exact ⟨rfl, rfl⟩
  | q :: l, i + 1, p, h => by
    have := vals_at (l := l) (i := i) (p := p) h
    rw [show (i + 1) * 2 + 0 = i * 2 + 0 + 2 by omega, show (i + 1) * 2 + 1 = i * 2 + 1 + 2 by omega]
    exact this
theorem own_row {P : Program} {Γ : Ctx} {B0 : Nat} {Gd : World → Prop} (hs : Stable B0 Gd) (ho : Γ.objs = []) (hG : Good DD B0 Gd Γ) {w' : World} (hk : Kept (fun _ => False) Γ.w w') {T : Nat} {ti : TI} (ht : DD.ty T = some ti) (h2 : ti.size = 2) {l : List (List UInt8 × List UInt8)} {v : Value}
    (hr : w'.ownsRow Γ.w.heap.size T 2 v l.length (vals l)) : ∃ Γ' : Ctx, Γ'.objs = [some (.vec T (R2 l))] ∧ Γ'.w = w' ∧ Good DD B0 Gd Γ' ∧ Tr DD Γ Γ' ∧ RepA DD Γ' v (.vec 0 l.length) := by
  have hnone : ∀ k, lk Γ.objs k = none := fun k => by rw [ho]; rfl
  have hmine : ∀ b, ¬ Γ.mine b := fun b ⟨k, o, h, _⟩ => by rw [hnone] at h; cases h
  have hgd : Gd w' := hs _ _ (fun b hb => hk.heap b (Nat.lt_of_lt_of_le hb hG.size) id) hk.size hG.gd
  have hlen : ∀ x ∈ R2 l, x.length = ti.size := fun x hx => by
    unfold R2 at hx
    obtain ⟨p, _, rfl⟩ := List.mem_map.1 hx
    rw [h2]; rfl
  have mk : ∀ (ob : Option Nat), (∀ b, ob = some b → Γ.w.heap.size ≤ b) → ∀ Γ' : Ctx, Γ' = ⟨⟨fun k => if k = 0 then ob else none, Γ.S.ext⟩, [some (.vec T (R2 l))], w'⟩ → ObRep DD Γ' 0 (.vec T (R2 l)) → Good DD B0 Gd Γ' ∧ Tr DD Γ Γ' := by
    intro ob hob Γ' e hob2
    have hm : ∀ b, Γ'.mine b → Γ.w.heap.size ≤ b := fun b ⟨k, o, h, _, hS⟩ => by
      subst e
      have hS : (if k = 0 then ob else none) = some b := hS
      split at hS
      · exact hob b hS
      · cases hS
    have hl : ∀ k o, lk Γ'.objs k = some o → k = 0 ∧ o = .vec T (R2 l) := fun k o h => by
      subst e
      match k, h with
      | 0, h => cases h; exact ⟨rfl, rfl⟩
    have hw : Γ'.w = w' := by subst e; rfl
    have hex : Γ'.S.ext = Γ.S.ext := by subst e; rfl
    refine ⟨⟨fun k o h => ?_, fun k k' o o' b h h' _ _ _ _ => ?_, fun b hb => ?_, fun b hb => ⟨?_, fun h => ?_⟩, ?_, ?_⟩, ⟨by rw [hw]; exact hk.mono fun _ h => h.elim, hex, fun b hb => .inr (hm b hb), fun k cs h => ?_, fun v k len h => ?_, fun v k i off h => ?_⟩⟩
    · obtain ⟨rfl, rfl⟩ := hl k o h; exact hob2
    · rw [(hl k o h).1, (hl k' o' h').1]
    · rcases hb with hb | hb
      · exact hG.own b (.inl (hex ▸ hb))
      · exact Nat.le_trans hG.size (hm b hb)
    · rw [hw]; exact Nat.lt_of_lt_of_le (hG.ext b (hex ▸ hb)).1 hk.size
    · have := hm b h; have := (hG.ext b (hex ▸ hb)).1; omega
    · rw [hw]; exact Nat.le_trans hG.size hk.size
    · rw [hw]; exact hgd
    · rw [hnone] at h; cases h
    · cases h with
      | vnil _ _ h1 => rw [hnone] at h1; cases h1
      | vec _ _ _ _ _ _ _ _ h1 => rw [hnone] at h1; cases h1
      | fvec _ _ _ h1 => rw [hnone] at h1; cases h1
      | gone _ _ h1 => rw [hnone] at h1; cases h1
    · cases h with
      | vptr _ _ _ _ _ _ _ h1 => rw [hnone] at h1; cases h1
      | fptr _ _ _ _ _ _ h1 => rw [hnone] at h1; cases h1
      | pgone _ _ _ h1 => rw [hnone] at h1; cases h1
  obtain ⟨_, hr⟩ := hr
  rcases hr with ⟨rfl, h0⟩ | ⟨g, cap, cur, rfl, hb, hg, hnc, _, hsz, hcur⟩
  · have hl0 : l = [] := List.eq_nil_of_length_eq_zero h0
    subst hl0
    obtain ⟨a1, a2⟩ := mk none (fun _ h => by cases h) _ rfl ⟨ti, ht, hlen, .inl ⟨rfl, rfl⟩⟩
    exact ⟨_, rfl, rfl, a1, a2, .vnil 0 T rfl rfl⟩
  · obtain ⟨a1, a2⟩ := mk (some g) (fun b h => by cases h; exact hb) _ rfl ⟨ti, ht, hlen, .inr ⟨g, cur, cap, rfl, hg, by rw [h2]; exact hsz, by rw [R2_len]; exact hnc, fun i x j d u h1 h3 h4 => by
      rw [h2] at h4
      unfold R2 at h1
      rw [List.getElem?_map] at h1
      cases hp : l[i]? with
      | none => rw [hp] at h1; cases h1
      | some p =>
        rw [hp] at h1; cases h1
        have hi := (List.getElem?_eq_some_iff.1 hp).1
        have hv := vals_at hp
        have hcg : ∀ j, j < l.length * 2 → cur[j]? = (vals l)[j]? := fun j hj => by rw [← hcur, List.getElem?_take, if_pos hj, Array.getElem?_toList]
        match j, h3, h4 with
        | 0, h3, h4 => cases h3; rw [hcg _ (by omega), hv.1] at h4; cases h4; exact .str _
        | 1, h3, h4 => cases h3; rw [hcg _ (by omega), hv.2] at h4; cases h4; exact .str _⟩⟩
    exact ⟨_, rfl, rfl, a1, a2, .vec 0 l.length cap g T ti (R2 l) cur rfl ht rfl (by rw [R2_len]; exact Nat.le_refl _) hg (by rw [h2]; exact hsz) (by rw [R2_len]; exact hnc)⟩
end Gev
namespace Go.Proofs
open Go.RowKit Go.Shelf Go.Sort Go.Lib Gev
set_option maxHeartbeats 2000000 in
set_option maxRecDepth 100000 in
theorem clone_shift (a : Addr) (n c : Nat) (news : List Value) (w : World) (hl : news.length = n * 2) (hn : n ≤ 100000) (hc : ∀ j u, news[j]? = some u → w.cell? (a.add j) = some u) (h1 : ∀ u ∈ news, u.oneCell' = true) :
    Calls Tryz.prog 13 #[.slice (some a) n c] w fun e w' => ∃ v', e = .returned v' ∧ w'.ownsRow w.heap.size 33 2 v' n news ∧ Below w.heap.size w w' := by
  have t22 : Tryz.prog.underlying 22 = some (.slice 33) := by kernel_rfl
  have q22 : ∀ (w : World) (a : Option Addr) (n c n' c' : Nat), (binOp .eql 22 (.slice a n c) (.slice none n' c')).run Tryz.prog w = .ok (.bool a.isNone) w := fun w a n c n' c' => Lib.run_eql_slice_nil w _ _ a n c n' c' t22
  obtain ⟨i0, hi, hz0, hz1, hz2⟩ := info_parts (by kernel_rfl : (Tryz.prog.info? 33).map (fun i => (i.zero, i.size, i.bytes)) = some (some (.agg #[.string ⟨#[]⟩, .string ⟨#[]⟩]), 2, 32))
  have A : Aside (∀ j u, news[j]? = some u → w.cell? (a.add j) = some u) := hc
  clear hc
  go_enter Tryz.func13, Tryz.ntmps13
  go_wp2_with (at_builtin; refine wpList_append_own _ rfl _ _ 22 rfl w.heap.size 33 i0 (.agg #[.string ⟨#[]⟩, .string ⟨#[]⟩]) 2 32 t22 hi hz0 hz1 hz2 rfl (by decide) _ _ _ rfl (World.ownsRow_made w #[] 0 (Nat.le_refl _) (Nat.zero_le _) (by simp)) a n c news rfl ?qc1 ?qc2 ?qc3 ?qc4 ?qc5 ?qc6 ?_)
  case qc1 => exact hl
  case qc2 => exact fun j u hj => Lib.cell?_alloc_some _ (A.out j u hj)
  case qc3 => exact h1
  case qc4 => rw [Nat.zero_add]; unfold maxLen; omega
  case qc5 => rw [Nat.zero_add]; omega
  case qc6 => simp
  intro v' w1 hown hgrow hnil
  go_wp2
  go_ret
  refine ⟨v', rfl, by simpa using hown, ?_⟩
  exact ((Below.refl _ w).alloc (Nat.le_refl _) _).grown hgrow (by simp) (by intro k hk; simp [Value.ownBlock] at hk; omega)
set_option maxRecDepth 100000 in
theorem clone_shift_nil (n c : Nat) (w : World) : Calls Tryz.prog 13 #[.slice none n c] w fun e w' => e = .returned (.slice none 0 0) ∧ w' = w := by
  have t22 : Tryz.prog.underlying 22 = some (.slice 33) := by kernel_rfl
  have q22 : ∀ (w : World) (a : Option Addr) (n c n' c' : Nat), (binOp .eql 22 (.slice a n c) (.slice none n' c')).run Tryz.prog w = .ok (.bool a.isNone) w := fun w a n c n' c' => Lib.run_eql_slice_nil w _ _ a n c n' c' t22
  go_enter Tryz.func13, Tryz.ntmps13
  go_wp2
  go_ret
  exact ⟨rfl, rfl⟩
set_option maxHeartbeats 2000000 in
set_option maxRecDepth 100000 in
theorem clone_lump (a : Addr) (n c : Nat) (news : List Value) (w : World) (hl : news.length = n * 2) (hn : n ≤ 100000) (hc : ∀ j u, news[j]? = some u → w.cell? (a.add j) = some u) (h1 : ∀ u ∈ news, u.oneCell' = true) :
    Calls Tryz.prog 27 #[.slice (some a) n c] w fun e w' => ∃ v', e = .returned v' ∧ w'.ownsRow w.heap.size 49 2 v' n news ∧ Below w.heap.size w w' := by
  have t22 : Tryz.prog.underlying 47 = some (.slice 49) := by kernel_rfl
  have q22 : ∀ (w : World) (a : Option Addr) (n c n' c' : Nat), (binOp .eql 47 (.slice a n c) (.slice none n' c')).run Tryz.prog w = .ok (.bool a.isNone) w := fun w a n c n' c' => Lib.run_eql_slice_nil w _ _ a n c n' c' t22
  obtain ⟨i0, hi, hz0, hz1, hz2⟩ := info_parts (by kernel_rfl : (Tryz.prog.info? 49).map (fun i => (i.zero, i.size, i.bytes)) = some (some (.agg #[.string ⟨#[]⟩, .string ⟨#[]⟩]), 2, 32))
  have A : Aside (∀ j u, news[j]? = some u → w.cell? (a.add j) = some u) := hc
  clear hc
  go_enter Tryz.func27, Tryz.ntmps27
  go_wp2_with (at_builtin; refine wpList_append_own _ rfl _ _ 47 rfl w.heap.size 49 i0 (.agg #[.string ⟨#[]⟩, .string ⟨#[]⟩]) 2 32 t22 hi hz0 hz1 hz2 rfl (by decide) _ _ _ rfl (World.ownsRow_made w #[] 0 (Nat.le_refl _) (Nat.zero_le _) (by simp)) a n c news rfl ?qc1 ?qc2 ?qc3 ?qc4 ?qc5 ?qc6 ?_)
  case qc1 => exact hl
  case qc2 => exact fun j u hj => Lib.cell?_alloc_some _ (A.out j u hj)
  case qc3 => exact h1
  case qc4 => rw [Nat.zero_add]; unfold maxLen; omega
  case qc5 => rw [Nat.zero_add]; omega
  case qc6 => simp
  intro v' w1 hown hgrow hnil
  go_wp2
  go_ret
  refine ⟨v', rfl, by simpa using hown, ?_⟩
  exact ((Below.refl _ w).alloc (Nat.le_refl _) _).grown hgrow (by simp) (by intro k hk; simp [Value.ownBlock] at hk; omega)
set_option maxRecDepth 100000 in
theorem clone_lump_nil (n c : Nat) (w : World) : Calls Tryz.prog 27 #[.slice none n c] w fun e w' => e = .returned (.slice none 0 0) ∧ w' = w := by
  have t22 : Tryz.prog.underlying 47 = some (.slice 49) := by kernel_rfl
  have q22 : ∀ (w : World) (a : Option Addr) (n c n' c' : Nat), (binOp .eql 47 (.slice a n c) (.slice none n' c')).run Tryz.prog w = .ok (.bool a.isNone) w := fun w a n c n' c' => Lib.run_eql_slice_nil w _ _ a n c n' c' t22
  go_enter Tryz.func27, Tryz.ntmps27
  go_wp2
  go_ret
  exact ⟨rfl, rfl⟩
end Go.Proofs
namespace Gev
open Go Gb Go.Proofs
variable {E : Env}
theorem rn_clone_shift (l : List (List UInt8 × List UInt8)) (hl : l.length < 1000) : Rn E F_slices_Clone_Shift [.c (.list (R2 l))] [] (.vec 0 l.length) [some (.vec T_api_Shift (R2 l))] := by
  have hti : ∃ ti, DD.ty T_api_Shift = some ti ∧ ti.size = 2 := by
    have h : (DD.ty T_api_Shift).map (·.size) = some 2 := by kernel_rfl
    cases ht : DD.ty T_api_Shift with
    | none => rw [ht] at h; cases h
    | some ti => rw [ht] at h; exact ⟨ti, rfl, Option.some.inj h⟩
  obtain ⟨ti, ht, h2⟩ := hti
  refine ⟨enters_known (by kernel_rfl), fun Γ cargs ho hG hcl ha => ?_⟩
  obtain ⟨v, rfl⟩ : ∃ v, cargs = #[v] := by
    match cargs, hcl with
    | ⟨[v]⟩, _ => exact ⟨v, rfl⟩
  have hc0 := ha 0 v _ rfl rfl
  cases hc0 with
  | c hr =>
    generalize hxs : R2 l = xs at hr
    cases hr with
    | list A c xs sz u hc hA hx' hu hd =>
      subst hxs
      rw [R2_len] at hc ⊢
      cases A with
      | none =>
        have hl0 : l = [] := by
          cases l with
          | nil => rfl
          | cons p l => obtain ⟨a, h, _⟩ := hA (by intro e; cases e); cases h
        subst hl0
        refine Calls.mono (clone_shift_nil _ c Γ.w) ?_
        rintro e w' ⟨rfl, rfl⟩
        obtain ⟨Γ', a1, a2, a3, a4, a5⟩ := own_row (P := PP) E.hs ho hG (Kept.refl _ _) ht h2 (l := []) (v := .slice none 0 0) ⟨rfl, .inl ⟨rfl, rfl⟩⟩
        exact ⟨_, Γ', rfl, a1, a2, a3, a4, a5⟩
      | some a =>
        refine Calls.mono (clone_shift a l.length c (vals l) Γ.w (vals_len l) (by omega) (fun j u hj => ?_) (fun u hu => ?_)) ?_
        · obtain ⟨i, p, h3, h4⟩ := vals_get hj
          have g := R2_get h3
          have hsz : sz = 2 := by rw [← hx' _ (List.mem_of_getElem? g)]; rfl
          subst hsz
          rcases h4 with ⟨rfl, rfl⟩ | ⟨rfl, rfl⟩
          · have d0 := hd i _ 0 _ g rfl
            rw [hu a i _ 0 _ rfl g rfl]
            generalize u i 0 = q at d0
            cases d0; rfl
          · have d0 := hd i _ 1 _ g rfl
            rw [hu a i _ 1 _ rfl g rfl]
            generalize u i 1 = q at d0
            cases d0; rfl
        · obtain ⟨j, hj⟩ := List.getElem?_of_mem hu
          obtain ⟨i, p, _, h4⟩ := vals_get hj
          rcases h4 with ⟨_, rfl⟩ | ⟨_, rfl⟩ <;> rfl
        · rintro e w' ⟨v', rfl, hown, hb⟩
          obtain ⟨Γ', a1, a2, a3, a4, a5⟩ := own_row (P := PP) E.hs ho hG (Kept.of_below hb) ht h2 hown
          exact ⟨_, Γ', rfl, a1, a2, a3, a4, a5⟩
theorem rn_clone_lump (l : List (List UInt8 × List UInt8)) (hl : l.length < 1000) : Rn E F_slices_Clone_Lump [.c (.list (R2 l))] [] (.vec 0 l.length) [some (.vec T_api_Lump (R2 l))] := by
  have hti : ∃ ti, DD.ty T_api_Lump = some ti ∧ ti.size = 2 := by
    have h : (DD.ty T_api_Lump).map (·.size) = some 2 := by kernel_rfl
    cases ht : DD.ty T_api_Lump with
    | none => rw [ht] at h; cases h
    | some ti => rw [ht] at h; exact ⟨ti, rfl, Option.some.inj h⟩
  obtain ⟨ti, ht, h2⟩ := hti
  refine ⟨enters_known (by kernel_rfl), fun Γ cargs ho hG hcl ha => ?_⟩
  obtain ⟨v, rfl⟩ : ∃ v, cargs = #[v] := by
    match cargs, hcl with
    | ⟨[v]⟩, _ => exact ⟨v, rfl⟩
  have hc0 := ha 0 v _ rfl rfl
  cases hc0 with
  | c hr =>
    generalize hxs : R2 l = xs at hr
    cases hr with
    | list A c xs sz u hc hA hx' hu hd =>
      subst hxs
      rw [R2_len] at hc ⊢
      cases A with
      | none =>
        have hl0 : l = [] := by
          cases l with
          | nil => rfl
          | cons p l => obtain ⟨a, h, _⟩ := hA (by intro e; cases e); cases h
        subst hl0
        refine Calls.mono (clone_lump_nil _ c Γ.w) ?_
        rintro e w' ⟨rfl, rfl⟩
        obtain ⟨Γ', a1, a2, a3, a4, a5⟩ := own_row (P := PP) E.hs ho hG (Kept.refl _ _) ht h2 (l := []) (v := .slice none 0 0) ⟨rfl, .inl ⟨rfl, rfl⟩⟩
        exact ⟨_, Γ', rfl, a1, a2, a3, a4, a5⟩
      | some a =>
        refine Calls.mono (clone_lump a l.length c (vals l) Γ.w (vals_len l) (by omega) (fun j u hj => ?_) (fun u hu => ?_)) ?_
        · obtain ⟨i, p, h3, h4⟩ := vals_get hj
          have g := R2_get h3
          have hsz : sz = 2 := by rw [← hx' _ (List.mem_of_getElem? g)]; rfl
          subst hsz
          rcases h4 with ⟨rfl, rfl⟩ | ⟨rfl, rfl⟩
          · have d0 := hd i _ 0 _ g rfl
            rw [hu a i _ 0 _ rfl g rfl]
            generalize u i 0 = q at d0
            cases d0; rfl
          · have d0 := hd i _ 1 _ g rfl
            rw [hu a i _ 1 _ rfl g rfl]
            generalize u i 1 = q at d0
            cases d0; rfl
        · obtain ⟨j, hj⟩ := List.getElem?_of_mem hu
          obtain ⟨i, p, _, h4⟩ := vals_get hj
          rcases h4 with ⟨_, rfl⟩ | ⟨_, rfl⟩ <;> rfl
        · rintro e w' ⟨v', rfl, hown, hb⟩
          obtain ⟨Γ', a1, a2, a3, a4, a5⟩ := own_row (P := PP) E.hs ho hG (Kept.of_below hb) ht h2 hown
          exact ⟨_, Γ', rfl, a1, a2, a3, a4, a5⟩
theorem cl_ok : Cl E := ⟨rn_clone_shift, rn_clone_lump⟩
end Gev
namespace Gev
open Go
inductive TyD (P : Program) : TypeId → List DV → Prop
  | int {t : TypeId} {k : IntKind} (n : Int) (h : P.underlying t = some (.int k)) (hw : (Lit.int k n).wf = true) : TyD P t [.int k n]
  | bool {t : TypeId} (b : Bool) (h : P.underlying t = some .bool) : TyD P t [.bool b]
  | str {t : TypeId} (s : ByteArray) (h : P.underlying t = some .string) : TyD P t [.str s]
  | slice {t e : TypeId} (xs : List (List DV)) (h : P.underlying t = some (.slice e)) (hx : ∀ x ∈ xs, TyD P e x) (hl : xs.length ≤ maxLen) : TyD P t [.list xs]
  | struct {t : TypeId} {fs : Array Field} (ds : List DV) (h : P.underlying t = some (.struct fs)) (hl : ds.length = P.cellsOf t) (hp : ∀ f ∈ fs.toList, TyD P f.type ((ds.drop f.offset).take (P.cellsOf f.type))) : TyD P t ds
def contig (P : Program) : Nat → List Field → Option Nat
  | o, [] => some o
  | o, f :: fs => if f.offset = o then contig P (o + P.cellsOf f.type) fs else none
def plainT (P : Program) : Nat → TypeId → Bool
  | 0, _ => false
  | k + 1, t => match P.underlying t with
    | some .bool => true
    | some (.int _) => true
    | some .string => true
    | some (.slice e) => decide (0 < P.cellsOf e) && plainT P k e
    | some (.struct fs) => decide (contig P 0 fs.toList = some (P.cellsOf t)) && fs.toList.all fun f => plainT P k f.type
    | _ => false
theorem tmapM_get {α β : Type} {f : α → Option β} : ∀ {l : List α} {r : List β}, l.mapM f = some r → r.length = l.length ∧ ∀ (i : Nat) x, l[i]? = some x → ∃ y, r[i]? = some y ∧ f x = some y
  | [], r, h => by simp at h; subst h; exact ⟨rfl, fun i x h => by simp at h⟩
  | a :: l, r, h => by
    simp only [List.mapM_cons, Option.bind_eq_bind, Option.bind_eq_some_iff, Option.pure_def, Option.some.injEq] at h
    obtain ⟨b, hb, bs, hbs, rfl⟩ := h
    obtain ⟨h1, h2⟩ := tmapM_get hbs
    refine ⟨by simp [h1], fun i x hx => ?_⟩
    cases i with
    | zero => simp at hx; subst hx; exact ⟨b, rfl, hb⟩
    | succ i => exact h2 i x (by simpa using hx)
theorem tchoose_list {α : Type} {p : Nat → α → Prop} : ∀ n, (∀ i, i < n → ∃ x, p i x) → ∃ xs : List α, xs.length = n ∧ ∀ (i : Nat) x, xs[i]? = some x → p i x
  | 0, _ => ⟨[], rfl, fun i x h => by simp at h⟩
  | n + 1, h => by
    obtain ⟨xs, h1, h2⟩ := tchoose_list n fun i hi => h i (by omega)
    obtain ⟨x, hx⟩ := h n (by omega)
    refine ⟨xs ++ [x], by simp [h1], fun i y hy => ?_⟩
    by_cases hi : i < n
    · exact h2 i y (by rwa [List.getElem?_append_left (by omega)] at hy)
    · have hlt := (List.getElem?_eq_some_iff.1 hy).1
      simp [h1] at hlt
      have e : i = n := by omega
      subst e
      rw [List.getElem?_append_right (by omega), h1, Nat.sub_self] at hy
      cases hy; exact hx
theorem tcells_get {w : World} {base : Nat} {a : Addr} {n : Nat} {cs : List Value} (h : w.cells? base a n = some cs) : cs.length = n ∧ ∀ (j : Nat) v, cs[j]? = some v → w.cell? (a.add j) = some v := by
  unfold World.cells? at h
  split at h
  · obtain ⟨h1, h2⟩ := tmapM_get h
    rw [List.length_range] at h1
    refine ⟨h1, fun j v hj => ?_⟩
    have hlt := (List.getElem?_eq_some_iff.1 hj).1
    obtain ⟨y, hy, e⟩ := h2 j j (by rw [List.getElem?_range (by omega)])
    rw [hj] at hy; cases hy; exact e
  · cases h
section
variable {P : Program} {w : World} {own : Nat → Prop}
def TReps (w : World) (own : Nat → Prop) (cs : List Value) (ds : List DV) : Prop := ds.length = cs.length ∧ ∀ (j : Nat) v e, cs[j]? = some v → ds[j]? = some e → RepD w own v e
theorem treps_one {v : Value} {d : DV} (h : RepD w own v d) : TReps w own [v] [d] := ⟨rfl, fun j v e h1 h2 => by
  cases j with
  | zero => cases h1; cases h2; exact h
  | succ j => simp at h1⟩
theorem treps_append {cs cs' : List Value} {ds ds' : List DV} (h : TReps w own cs ds) (k : TReps w own cs' ds') : TReps w own (cs ++ cs') (ds ++ ds') := by
  refine ⟨by simp [h.1, k.1], fun j v e h1 h2 => ?_⟩
  by_cases hj : j < cs.length
  · rw [List.getElem?_append_left hj] at h1
    rw [List.getElem?_append_left (by rw [h.1]; exact hj)] at h2
    exact h.2 j v e h1 h2
  · rw [List.getElem?_append_right (by omega)] at h1
    rw [List.getElem?_append_right (by rw [h.1]; omega), h.1] at h2
    exact k.2 _ v e h1 h2
theorem tfields_rep {cs : List Value} : ∀ (fs : List Field) (o n : Nat), contig P o fs = some n → n = cs.length →
    (∀ f ∈ fs, ∃ ds, TyD P f.type ds ∧ TReps w own ((cs.drop f.offset).take (P.cellsOf f.type)) ds) →
    ∃ ds, TReps w own (cs.drop o) ds ∧ o ≤ n ∧ ∀ f ∈ fs, o ≤ f.offset ∧ TyD P f.type ((ds.drop (f.offset - o)).take (P.cellsOf f.type))
  | [], o, n, h, hn, _ => by
    cases h
    subst hn
    exact ⟨[], by rw [List.drop_length]; exact ⟨rfl, fun j v e h _ => by simp at h⟩, Nat.le_refl _, fun f h => by cases h⟩
  | f :: fs, o, n, h, hn, hf => by
    unfold contig at h
    split at h
    · rename_i ho
      obtain ⟨ds, h1, hle, h2⟩ := tfields_rep fs _ n h hn fun g hg => hf g (by simp [hg])
      obtain ⟨d0, t0, r0⟩ := hf f (by simp)
      have hl0 : d0.length = P.cellsOf f.type := by rw [r0.1, List.length_take, List.length_drop]; omega
      refine ⟨d0 ++ ds, ?_, by omega, fun g hg => ?_⟩
      · have e : cs.drop o = (cs.drop o).take (P.cellsOf f.type) ++ cs.drop (o + P.cellsOf f.type) := by
          rw [← List.drop_drop, List.take_append_drop]
        rw [e]
        exact treps_append (ho ▸ r0) h1
      · rcases List.mem_cons.1 hg with rfl | hg
        · refine ⟨by omega, ?_⟩
          rw [ho, Nat.sub_self, List.drop_zero, List.take_left' hl0]; exact t0
        · obtain ⟨hle2, ht⟩ := h2 g hg
          refine ⟨by omega, ?_⟩
          have e : g.offset - o = d0.length + (g.offset - (o + P.cellsOf f.type)) := by omega
          rw [e, List.drop_append]
          rwa [List.drop_eq_nil_of_le (by omega), List.nil_append, Nat.add_sub_cancel_left]
    · cases h
theorem trod_rep {H : Type} {enc : TypeId × Value → H} {base : Nat} {sp : Nat → Bool} {held : Bool} (hown : ∀ b, b < w.heap.size → ¬ own b) : ∀ (k fuel : Nat) (t : TypeId) (cs : List Value) (x : DataW H × List MemPlace), plainT P k t = true → DataW.trod enc P w base sp held fuel t cs = some x → ∃ ds, TyD P t ds ∧ TReps w own cs ds
  | 0, fuel, t, cs, x, hp, _ => by simp [plainT] at hp
  | k + 1, fuel, t, cs, x, hp, h => by
    unfold plainT at hp
    cases hu : P.underlying t with
    | none => rw [hu] at hp; cases hp
    | some u =>
      rw [hu] at hp
      cases u with
      | bool =>
        obtain ⟨b, rfl, _⟩ := DataW.trod_bool hu h
        exact ⟨_, .bool b hu, treps_one (.bool b)⟩
      | int q =>
        obtain ⟨n, rfl, _, hw⟩ := DataW.trod_int hu h
        exact ⟨_, .int n hu hw, treps_one (.int q n)⟩
      | string =>
        obtain ⟨s, rfl, _, _⟩ := DataW.trod_string hu h
        exact ⟨_, .str s hu, treps_one (.str s)⟩
      | slice e =>
        simp only [Bool.and_eq_true, decide_eq_true_eq] at hp
        rcases DataW.trod_slice hu h with ⟨rfl, _⟩ | ⟨a, len, cap, elems, rest, n, _, rfl, _, _, hlc, hcm, hel, hall, _⟩
        · exact ⟨_, .slice [] hu (fun _ h => by cases h) (Nat.zero_le _), treps_one (.list none 0 [] 0 (fun _ _ => .nilIface) (Nat.le_refl _) (fun h => absurd rfl h) (fun _ h => by cases h) (fun _ _ _ _ _ h => by cases h) (fun _ _ _ _ h => by simp at h))⟩
        · have hch : ∀ i, i < len → ∃ ds, TyD P e ds ∧ ds.length = P.cellsOf e ∧ ∀ (j : Nat) d, ds[j]? = some d → ∃ v, w.cell? (a.add (i * P.cellsOf e + j)) = some v ∧ RepD w own v d := by
            intro i hi
            have h1 := hall i hi
            rw [List.getElem?_eq_getElem (by omega)] at h1
            obtain ⟨cs', hcs, ht⟩ := Option.bind_eq_some_iff.1 h1
            obtain ⟨hcl, hcg⟩ := tcells_get hcs
            obtain ⟨ds, h2, h3⟩ := trod_rep hown k n e cs' _ hp.2 ht
            refine ⟨ds, h2, h3.1.trans hcl, fun j d hj => ?_⟩
            have hjl := (List.getElem?_eq_some_iff.1 hj).1
            rw [h3.1] at hjl
            have e1 := List.getElem?_eq_getElem hjl
            refine ⟨cs'[j], ?_, h3.2 j _ d e1 hj⟩
            rw [← add_add]; exact hcg j _ e1
          obtain ⟨xs, hxl, hxs⟩ := tchoose_list len hch
          have hblk : xs ≠ [] → a.block < w.heap.size := fun hne => by
            have hpos : 0 < xs.length := List.length_pos_iff.2 hne
            have hx0 := hxs 0 xs[0] (List.getElem?_eq_getElem hpos)
            obtain ⟨_, hl0, hc0⟩ := hx0
            obtain ⟨v, hv, _⟩ := hc0 0 _ (List.getElem?_eq_getElem (by omega))
            have := cell_lt hv
            rwa [add_block] at this
          refine ⟨_, .slice xs hu (fun x hx => ?_) (by rw [hxl]; omega), treps_one ?_⟩
          · obtain ⟨i, hi⟩ := List.getElem?_of_mem hx
            exact (hxs i x hi).1
          · rw [← hxl]
            refine .list (some a) cap xs (P.cellsOf e) (fun i j => (w.cell? (a.add (i * P.cellsOf e + j))).getD .nilIface) (by omega) (fun hne => ⟨a, rfl, hblk hne, hown _ (hblk hne)⟩) (fun x hx => ?_) (fun a' i x j d ha' hi hj => ?_) (fun i x j d hi hj => ?_)
            · obtain ⟨i, hi⟩ := List.getElem?_of_mem hx
              exact (hxs i x hi).2.1
            · cases ha'
              obtain ⟨v, hv, _⟩ := (hxs i x hi).2.2 j d hj
              rw [hv]; rfl
            · obtain ⟨v, hv, hr⟩ := (hxs i x hi).2.2 j d hj
              rw [hv]; exact hr
      | struct fs =>
        simp only [Bool.and_eq_true, decide_eq_true_eq, List.all_eq_true] at hp
        obtain ⟨xs, n, _, _, hcl, hxl, hall⟩ := DataW.trod_struct hu h
        obtain ⟨ds, h1, _, h2⟩ := tfields_rep (P := P) (w := w) (own := own) (cs := cs) fs.toList 0 (P.cellsOf t) hp.1 hcl.symm (fun f hf => by
          obtain ⟨i, hi⟩ := List.getElem?_of_mem hf
          rw [Array.getElem?_toList] at hi
          have h3 := hall i f hi
          have hil := (Array.getElem?_eq_some_iff.1 hi).1
          rw [List.getElem?_eq_getElem (by omega)] at h3
          exact trod_rep hown k n f.type _ _ (hp.2 f hf) h3)
        rw [List.drop_zero] at h1
        exact ⟨ds, .struct ds hu (h1.1.trans hcl) (fun f hf => by have := (h2 f hf).2; rwa [Nat.sub_zero] at this), h1⟩
      | _ => cases hp
end
end Gev
namespace Gev
open Go Go.Proofs
def Told (w : World) : Prop := Go.Lib.TabIs Tryz.prog w "internal/strconv.uint64pow10" .u64 Go.Lib.pow10Tab ∧ ∃ m, w.cell? ⟨1, 0, none⟩ = some (.int .i64 m)
theorem gTab : Tryz.prog.globalNamed "internal/strconv.uint64pow10" = some 0 := by kernel_rfl
theorem told_stable : Stable 2 Told := by
  rintro w w' hb _ ⟨h1, m, h2⟩
  refine ⟨?_, m, ?_⟩
  · unfold Go.Lib.TabIs World.var? at h1 ⊢
    rw [gTab] at h1 ⊢
    simp only [Option.bind_some] at h1 ⊢
    rw [hb 0 (by omega)]; exact h1
  · unfold World.cell? at h2 ⊢
    rw [hb 1 (by omega)]; exact h2
noncomputable def E0 : Env := ⟨2, Told, told_stable⟩
theorem laid0 : Laid E0 := ⟨fun _ h => h.1, fun _ h => h.2⟩
theorem lib0 : Lib E0 := lib_all laid0
theorem told_size {w : World} (h : Told w) : 2 ≤ w.heap.size := by
  obtain ⟨_, m, h2⟩ := h
  have := cell_lt h2
  exact this
inductive AvOf (P : Program) : TypeId → AV → Prop
  | agg {t : TypeId} {fs : Array Field} {ds : List DV} (h : P.underlying t = some (.struct fs)) (hd : TyD P t ds) : AvOf P t (.agg ds)
  | one {t : TypeId} {d : DV} (hd : TyD P t [d]) : AvOf P t (.c d)
def AvsOf (P : Program) : List TypeId → List AV → Prop
  | [], [] => True
  | t :: ts, a :: us => AvOf P t a ∧ AvsOf P ts us
  | _, _ => False
theorem targ_rep {P : Program} {w : World} {own : Nat → Prop} {H : Type} {enc : TypeId × Value → H} {base b0 : Nat} {sp : Nat → Bool} {held : Bool} (hown : ∀ b, b < w.heap.size → ¬ own b) {k : Nat} {t : TypeId} {v : Value} {d : DataW H} {ps : List MemPlace} (hp : plainT P k t = true) (hv : Value.okWide P w .any b0 t v)
    (h : DataW.Trod enc P w base sp held t v d ps) : ∃ a, AvOf P t a ∧ RepA DD ⟨⟨fun _ => none, own⟩, [], w⟩ v a := by
  obtain ⟨fuel, h⟩ := h
  obtain ⟨ds, h1, h2⟩ := trod_rep hown k fuel t _ _ hp h
  have hmine : ∀ {b}, (Ctx.mk ⟨fun _ => none, own⟩ [] w).own b → own b := fun h => h.elim id fun h => (no_mine h).elim
  have one : ∀ e, ds = [e] → v.cells.toList = [v] → ∃ a, AvOf P t a ∧ RepA DD ⟨⟨fun _ => none, own⟩, [], w⟩ v a := fun e he hc => by
    subst he
    rw [hc] at h2
    exact ⟨.c e, .one h1, .c ((h2.2 0 v e rfl rfl).mono (Kept.refl _ _) fun b _ hb => hmine hb)⟩
  cases h1 with
  | int n hu hw =>
    obtain ⟨n, hc, _⟩ := DataW.trod_int hu h
    refine one _ rfl ?_
    cases v <;> simp_all [Value.cells, Value.okWide, Cell.okWide, Cell.ok]
  | bool b hu =>
    obtain ⟨n, hc, _⟩ := DataW.trod_bool hu h
    refine one _ rfl ?_
    cases v <;> simp_all [Value.cells, Value.okWide, Cell.okWide, Cell.ok]
  | str s hu =>
    obtain ⟨s, rfl⟩ := Go.WideShapes.okWide_string hu hv
    exact one _ rfl rfl
  | slice xs hu hx hl =>
    obtain ⟨a, l, c, rfl⟩ := Go.WideShapes.okWide_slice hu hv
    exact one _ rfl rfl
  | struct ds hu hl hp' =>
    obtain ⟨cs, rfl, hsz⟩ := Go.WideShapes.okWide_struct hu hv
    refine ⟨.agg ds, .agg hu (.struct ds hu hl hp'), .agg cs ds ?_ fun j u d hj hd => ?_⟩
    · have := h2.1; simpa [Value.cells] using this.symm
    · exact (h2.2 j u d (by simpa [Value.cells] using hj) hd).mono (Kept.refl _ _) fun b _ hb => hmine hb
theorem targs_rep {P : Program} {w : World} {own : Nat → Prop} {H : Type} {enc : TypeId × Value → H} {base b0 : Nat} {sp : Nat → Bool} {held : Bool} (hown : ∀ b, b < w.heap.size → ¬ own b) {k : Nat} : ∀ {ts : List TypeId} {vs : List Value} {ds : List (DataW H)} {ps : List MemPlace}, ts.all (plainT P k) = true → (∀ (j : Nat) t v, ts[j]? = some t → vs[j]? = some v → Value.okWide P w .any b0 t v) →
    DataW.TrodAll enc P w base sp held ts vs ds ps → ∃ us, AvsOf P ts us ∧ vs.length = us.length ∧ ∀ (i : Nat) v a, vs[i]? = some v → us[i]? = some a → RepA DD ⟨⟨fun _ => none, own⟩, [], w⟩ v a
  | [], [], [], ps, _, _, _ => ⟨[], trivial, rfl, fun i v a h => by simp at h⟩
  | t :: ts, v :: vs, d :: ds, ps, hp, hv, h => by
    rw [List.all_cons, Bool.and_eq_true] at hp
    obtain ⟨p, q, h1, h2, _⟩ := h
    obtain ⟨a, a1, a2⟩ := targ_rep hown hp.1 (hv 0 t v rfl rfl) h1
    obtain ⟨us, b1, b2, b3⟩ := targs_rep hown hp.2 (fun j t v h1 h2 => hv (j + 1) t v h1 h2) h2
    refine ⟨a :: us, ⟨a1, b1⟩, by simp [b2], fun i v a h1 h2 => ?_⟩
    cases i with
    | zero => cases h1; cases h2; exact a2
    | succ i => exact b3 i v a h1 h2
  | [], _ :: _, _, _, _, _, h => by simp [DataW.TrodAll] at h
  | [], [], _ :: _, _, _, _, h => by simp [DataW.TrodAll] at h
  | _ :: _, [], _, _, _, _, h => by simp [DataW.TrodAll] at h
  | _ :: _, _ :: _, [], _, _, _, h => by simp [DataW.TrodAll] at h
theorem trodAll_below {H : Type} {enc : TypeId × Value → H} {P : Program} (hl : laidOutB P = true) {W W' : World} (hb : Go.RowKit.Below W.heap.size W W') : ∀ {ts : List TypeId} {vs : List Value} {ds : List (DataW H)} {ps : List MemPlace}, (ts.all fun t => P.readableRec t && decide (t < P.types.size)) = true → (∀ x ∈ ps, x.block < W.heap.size) →
    DataW.TrodAll enc P W 0 (fun _ => true) true ts vs ds ps → DataW.TrodAll enc P W' 0 (fun b => decide (b < W.heap.size)) true ts vs ds ps
  | [], [], [], ps, _, _, h => h
  | t :: ts, v :: vs, d :: ds, ps, hp, hlt, h => by
    rw [List.all_cons, Bool.and_eq_true, Bool.and_eq_true, decide_eq_true_eq] at hp
    obtain ⟨p, q, h1, h2, rfl⟩ := h
    exact ⟨p, q, Go.RowKit.Below.trod hl hp.1.1 hp.1.2 h1 hb (fun x hx => hlt x (by simp [hx])), trodAll_below hl hb hp.2 (fun x hx => hlt x (by simp [hx])) h2, rfl⟩
  | [], _ :: _, _, _, _, _, h => by simp [DataW.TrodAll] at h
  | [], [], _ :: _, _, _, _, h => by simp [DataW.TrodAll] at h
  | _ :: _, [], _, _, _, _, h => by simp [DataW.TrodAll] at h
  | _ :: _, _ :: _, [], _, _, _, h => by simp [DataW.TrodAll] at h
end Gev
namespace Gev
open Go Go.Proofs Go.ChangeShapes Go.WideShapes Go.ChangeAt Go.RowKit
variable {H : Type} {enc : TypeId × Value → H}
theorem returns_told {C : Checked} {os : Os} {f : FuncId} {fn : Func} {s : ChangeSpec} {conds : List PathCond} {apart fresh handsOn again : Bool} {X : World → Prop} (hX : ∀ (w w' : World), w.heap = w'.heap → X w → X w')
    (own : ownKnob C.prog.godebug = none) (started : os.Started) (noInit : C.prog.inits.idxOf? f = none) (hfn : C.prog.funcs[f]? = some fn)
    (witness : ∃ (w : World) (tape : Tape) (i : Input), w.os = os ∧ (w.forCall tape i).Shaped C.prog ∧ i.vars = [] ∧ Input.okWide C.prog (w.forCall tape i) .any w.heap.size f i ∧
      ((s.pre enc C.prog fn conds apart (w.forCall tape i).memory i.args ∧ X (w.forCall tape i).memory) ∧ sizedMet enc C.prog fn (OpenSpec.ofChange s) apart (w.forCall tape i).memory i.args) ∧ Assume.holds {} C.prog (lone (Frame.enter C.prog f i.args .normal) [] (w.forCall tape i)))
    (contract : ∀ (W : World) (base : Nat) (args : Array Value) (ds gs : List (DataW H)) (before : List MemPlace),
      (∀ (j : Nat) t v, fn.params[j]? = some t → args[j]? = some v → Value.okWide C.prog W .any base t v) →
      DataW.Whole enc C.prog fn.params.toList s.vars apart W args.toList ds gs before → X W → W.ShapedOpen C.prog →
      Calls C.prog f args W fun e W' => ∃ v, e = .returned v ∧ s.post enc C.prog fn apart fresh handsOn again W args v W') :
    ReturnsInHanded {} C os f .any (fun w args => (s.pre enc C.prog fn conds apart w args ∧ X w) ∧ sizedMet enc C.prog fn (OpenSpec.ofChange s) apart w args) (s.post enc C.prog fn apart fresh handsOn again) := by
  refine returnsInHanded_of_calls own started noInit witness ?_
  intro w tape i _ hsh _ hok hpre _
  obtain ⟨_, _, _, fn', hfn', _, _, _, _, hval⟩ := hok
  obtain rfl : fn' = fn := Option.some.inj (hfn'.symm.trans hfn)
  obtain ⟨⟨⟨ds, gs, before, hw, _⟩, hx⟩, _⟩ := hpre
  have hw' := DataW.Whole.of_heap (w' := w.forCall tape i) (by rfl) hw
  refine (contract (w.forCall tape i) w.heap.size i.args ds gs before hval hw' (hX _ _ (by rfl) hx) hsh).mono fun e W' ⟨v, he, hp⟩ => ?_
  subst he
  exact ChangeSpec.post_blind hp
abbrev laidL : List (String × DataW Unit) := [("math/bits.deBruijn32tab", YtpjpnmjbaedkmaaGreatDoor.Rows.laid_math_bits_deBruijn32tab), ("math/bits.deBruijn64tab", YtpjpnmjbaedkmaaGreatDoor.Rows.laid_math_bits_deBruijn64tab), ("internal/strconv.uint64pow10", YtpjpnmjbaedkmaaGreatDoor.Rows.laid_internal_strconv_uint64pow10), ("strconv.ErrRange", YtpjpnmjbaedkmaaGreatDoor.Rows.laid_strconv_ErrRange), ("strconv.ErrSyntax", YtpjpnmjbaedkmaaGreatDoor.Rows.laid_strconv_ErrSyntax)]
theorem own0 : ownKnob Tryz.prog.godebug = none := by kernel_rfl
theorem laidOut0 : laidOutB Tryz.prog = true := by kernel_rfl
theorem door_met (os : Os) (args : Array Value) : laidMetH Tryz.prog laidL ((World.doorLaid Tryz.prog 400 os).forCall (fun _ _ => 0) ⟨#[], args, []⟩).memory :=
  laidMetH_of_parts3 (fuel := 8) (laidMet_of_run' 8 (by kernel_rfl) (by kernel_rfl)) (by kernel_rfl) (by kernel_rfl)
theorem laid_tail {P : Program} {x : String × DataW Unit} {r : List (String × DataW Unit)} {w : World} (h : laidMet P (x :: r) w) : laidMet P r w := by
  obtain ⟨ps, hv, hnd, hrows⟩ := h
  obtain ⟨n, d⟩ := x
  obtain ⟨g, t, cs, fuel, p, q, _, _, _, _, hq, rfl⟩ := hv
  exact ⟨q, hq, List.Nodup.sublist (List.sublist_append_right _ _) hnd, fun b off hm => hrows b off (List.mem_append_right _ hm)⟩
theorem told_of {W : World} (h : laidMetH Tryz.prog laidL W) (hs : W.ShapedOpen Tryz.prog) : Told W := by
  refine ⟨?_, Tryz.laysM145.s1_3 W hs⟩
  rw [MakeChecks.laidMetH_plain _ _ _ (by kernel_rfl)] at h
  exact Go.Lib.tabIs_of_head (g := 0) gTab (t := 174) (e := 121) (n := 20) (by kernel_rfl) (by kernel_rfl) (by kernel_rfl) (by kernel_rfl) (by kernel_rfl) (laid_tail (laid_tail h) : laidMet Tryz.prog (("internal/strconv.uint64pow10", Go.Lib.tabData .u64 Go.Lib.pow10Tab) :: _) W)
theorem none_own {W : World} : ∀ b, b < W.heap.size → ¬ (fun _ : Nat => False) b := fun _ _ h => h
set_option maxRecDepth 100000 in
theorem law_lifted (f : FuncId) (fn : Func) (s : ChangeSpec) (os : Os) (started : os.Started) (hfn : Tryz.checked.prog.funcs[f]? = some fn) (noInit : Tryz.checked.prog.inits.idxOf? f = none) (hres : fn.resultTypes = #[4]) (hv : s.vars = [])
    (hs : ∀ ds : List (DataW H), ds.length = fn.params.size → s.fn H ds = { results := [.lit (.bool true)], args := ds }) (hp : fn.params.toList.all (plainT Tryz.prog 10) = true) (hr : (fn.params.toList.all fun t => Tryz.prog.readableRec t && decide (t < Tryz.prog.types.size)) = true)
    (witness : ∃ (w : World) (tape : Tape) (i : Input), w.os = os ∧ (w.forCall tape i).Shaped Tryz.checked.prog ∧ i.vars = [] ∧ Input.okWide Tryz.checked.prog (w.forCall tape i) .any w.heap.size f i ∧
      ((s.pre enc Tryz.checked.prog fn [] false (w.forCall tape i).memory i.args ∧ laidMetH Tryz.prog laidL (w.forCall tape i).memory) ∧ sizedMet enc Tryz.checked.prog fn (OpenSpec.ofChange s) false (w.forCall tape i).memory i.args) ∧ Assume.holds {} Tryz.checked.prog (lone (Frame.enter Tryz.checked.prog f i.args .normal) [] (w.forCall tape i)))
    (law : ∀ us, AvsOf Tryz.prog fn.params.toList us → Fn E0 f us (.c (.bool true))) :
    ReturnsInHanded {} Tryz.checked os f .any (fun w args => (s.pre enc Tryz.checked.prog fn [] false w args ∧ laidMetH Tryz.prog laidL w) ∧ sizedMet enc Tryz.checked.prog fn (OpenSpec.ofChange s) false w args) (s.post enc Tryz.checked.prog fn false true false false) := by
  refine returns_told (fun _ _ hh h => h.of_heap hh) own0 started noInit hfn witness fun W base args ds gs before hval hW hL hsh => ?_
  have hW' := hW
  obtain ⟨p, q, hA, hV, rfl, _, _⟩ := hW
  rw [hv] at hV
  obtain ⟨rfl, rfl⟩ := trodVars_none hV
  have hT := told_of hL hsh
  have hlt : ∀ y ∈ p, y.block < W.heap.size := fun y hy => hW'.lt y (List.mem_append_left _ hy)
  obtain ⟨us, u1, u2, u3⟩ := targs_rep none_own hp (fun j t v h1 h2 => hval j t v (by rw [← Array.getElem?_toList]; exact h1) (by rw [← Array.getElem?_toList]; exact h2)) hA
  have hdl : ds.length = fn.params.size := by
    have : ∀ {ts : List TypeId} {vs : List Value} {ds : List (DataW H)} {ps : List MemPlace}, DataW.TrodAll enc Tryz.checked.prog W 0 (fun _ => true) true ts vs ds ps → ds.length = ts.length := by
      intro ts
      induction ts with
      | nil => intro vs ds ps h; cases vs <;> cases ds <;> simp_all [DataW.TrodAll]
      | cons t ts ih =>
        intro vs ds ps h
        cases vs with
        | nil => cases ds <;> simp [DataW.TrodAll] at h
        | cons v vs => cases ds with
          | nil => simp [DataW.TrodAll] at h
          | cons d ds => obtain ⟨_, _, _, h2, _⟩ := h; simp [ih h2]
    rw [this hA]; simp
  refine Calls.mono ((law us u1).calls W (fun _ => False) args hT (told_size hT) (fun _ h => h.elim) (by rw [← u2]; simp) fun i v a h1 h2 => u3 i v a (by rw [Array.getElem?_toList]; exact h1) h2) ?_
  rintro e W' ⟨v, rfl, _, k1, k2⟩
  have hb : Below W.heap.size W W' := ⟨k1.os, k1.tape, k1.output, k1.size, fun b hb => k1.heap b hb id⟩
  have hvv : v = .bool true := by cases k2 with | c k2 => cases k2; rfl
  subst hvv
  refine ⟨_, rfl, ds, [], p ++ [], [], p, [], hW', ?_, ?_, ?_, hb.frame _, fun h => by cases h⟩
  · rw [List.append_nil, hs ds hdl, hres]; exact trodAll_mk1 (shut_bool (by kernel_rfl) true)
  · rw [List.append_nil, hs ds hdl]; exact trodAll_below laidOut0 hb hr hlt hA
  · rw [List.append_nil, hs ds hdl, hv]; rfl
end Gev
namespace Gev
open Go Gb Go.Proofs
variable {P : Program}
theorem uStr {t : TypeId} (h : P.underlying t = some .string) {ds : List DV} (hd : TyD P t ds) : ∃ l, ds = [.str (B l)] := by
  cases hd with
  | str s hu => exact ⟨s.data.toList, by rw [B_of]⟩
  | int n hu hw => rw [h] at hu; cases hu
  | bool b hu => rw [h] at hu; cases hu
  | slice xs hu hx hl => rw [h] at hu; cases hu
  | struct ds hu hl hp => rw [h] at hu; cases hu
def fieldsOf (P : Program) (e : TypeId) : Option (List (Nat × TypeId)) := match P.underlying e with | some (.struct fs) => some (fs.toList.map fun f => (f.offset, f.type)) | _ => none
theorem fields_get {e : TypeId} {l : List (Nat × TypeId)} (h : fieldsOf P e = some l) : ∃ fs, P.underlying e = some (.struct fs) ∧ fs.toList.map (fun f => (f.offset, f.type)) = l := by
  unfold fieldsOf at h
  split at h
  · rename_i fs hu; exact ⟨fs, hu, Option.some.inj h⟩
  · cases h
theorem uStruct {e : TypeId} {l : List (Nat × TypeId)} (h : fieldsOf P e = some l) {ds : List DV} (hd : TyD P e ds) : ds.length = P.cellsOf e ∧ ∀ x ∈ l, TyD P x.2 ((ds.drop x.1).take (P.cellsOf x.2)) := by
  obtain ⟨fs, hu0, rfl⟩ := fields_get h
  cases hd with
  | struct _ hu hl hp =>
    rw [hu0] at hu; cases hu
    refine ⟨hl, fun x hx => ?_⟩
    obtain ⟨f, hf, rfl⟩ := List.mem_map.1 hx
    exact hp f hf
  | int n hu hw => rw [hu0] at hu; cases hu
  | bool b hu => rw [hu0] at hu; cases hu
  | str s hu => rw [hu0] at hu; cases hu
  | slice xs hu hx hl => rw [hu0] at hu; cases hu
theorem uSlice {t e : TypeId} (ht : P.underlying t = some (.slice e)) {d : DV} (hd : TyD P t [d]) : ∃ xs, d = .list xs ∧ (∀ x ∈ xs, TyD P e x) ∧ xs.length ≤ 9223372036854775807 := by
  generalize hds : [d] = ds at hd
  cases hd with
  | slice xs hu hx hl => rw [ht] at hu; cases hu; cases hds; exact ⟨xs, rfl, hx, hl⟩
  | int n hu hw => rw [ht] at hu; cases hu
  | bool b hu => rw [ht] at hu; cases hu
  | str s hu => rw [ht] at hu; cases hu
  | struct ds hu hl hp => rw [ht] at hu; cases hu
theorem two_cells {x : List DV} (h : x.length = 2) : ∃ a b, x = [a, b] := by
  match x, h with
  | [a, b], _ => exact ⟨a, b, rfl⟩
theorem uPair {e s : TypeId} (he : fieldsOf P e = some [(0, s), (1, s)]) (c2 : P.cellsOf e = 2) (cs : P.cellsOf s = 1) (hs : P.underlying s = some .string) {x : List DV} (hd : TyD P e x) : ∃ p q, x = [.str (B p), .str (B q)] := by
  obtain ⟨hl, hp⟩ := uStruct he hd
  rw [c2] at hl
  obtain ⟨a, b, rfl⟩ := two_cells hl
  have ha := hp (0, s) (by simp)
  have hb := hp (1, s) (by simp)
  simp only [cs, List.drop_zero, List.drop_succ_cons, List.take_succ_cons, List.take_zero] at ha hb
  obtain ⟨p, e1⟩ := uStr hs ha
  obtain ⟨q, e2⟩ := uStr hs hb
  cases e1; cases e2; exact ⟨p, q, rfl⟩
theorem uPairs {t e s : TypeId} (ht : P.underlying t = some (.slice e)) (he : fieldsOf P e = some [(0, s), (1, s)]) (c2 : P.cellsOf e = 2) (cs : P.cellsOf s = 1) (hs : P.underlying s = some .string) {d : DV} (hd : TyD P t [d]) : ∃ l, d = .list (R2 l) ∧ l.length ≤ 9223372036854775807 := by
  obtain ⟨xs, rfl, hx, hl⟩ := uSlice ht hd
  have hex : ∀ xs : List (List DV), (∀ x ∈ xs, TyD P e x) → ∃ l, xs = R2 l := by
    intro xs
    induction xs with
    | nil => exact fun _ => ⟨[], rfl⟩
    | cons x xs ih =>
      intro hx
      obtain ⟨l, rfl⟩ := ih fun y hy => hx y (by simp [hy])
      obtain ⟨p, q, rfl⟩ := uPair he c2 cs hs (hx x (by simp))
      exact ⟨(p, q) :: l, rfl⟩
  obtain ⟨l, rfl⟩ := hex xs hx
  exact ⟨l, rfl, by rw [R2_len] at hl; exact hl⟩
theorem spread3 (hlib : Lib E0) : Fn E0 F_incline_Spread [.c (.list (R2 (Tx three)))] (.tup [.agg [.str (B [49, 47, 53, 48, 48, 48]), .str (B [49, 47, 53, 48, 48, 48])], .c (.i64 0)]) := by
  have h := inc_Spread hlib few_three
  unfold sprI at h
  rw [if_pos start_three, nums_Tx, show spreadI three = some (mkRat 1 5000, mkRat 1 5000) by kernel_rfl] at h
  simp only [ivI] at h
  rw [d1_5000] at h
  exact h
theorem awake0 : Fn E0 F_law54_awake [] (.c (.bool true)) := awake_ok lib0 (spread3 lib0)
end Gev
