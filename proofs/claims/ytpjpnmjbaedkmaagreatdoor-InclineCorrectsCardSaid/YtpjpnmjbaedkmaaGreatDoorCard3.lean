/- InclineCorrects: the row and the card. -/
import Derived.Test.YtpjpnmjbaedkmaaGreatDoorCard3Law
set_option linter.unusedSectionVars false
set_option linter.unusedVariables false
set_option linter.unusedSimpArgs false
namespace Go.Proofs.YtpjpnmjbaedkmaaGreatDoor
open Go Go.Proofs Go.ChangeShapes Go.WideShapes Go.ChangeAt Go.RowKit Gev Gb
set_option maxRecDepth 100000
theorem inclineCorrects_law : ∀ us, AvsOf Tryz.prog Tryz.f5.params.toList us → Gev.Fn E0 5 us (.c (.bool true)) := by
 intro us hu
 rw [Tryz.params5] at hu
 match us, hu with
 | [a0, a1, a2], ⟨h0, h1, h2, _⟩ =>
  have q0 : ∃ p, a0 = .c (.str (B p)) := by
   cases h0 with
   | agg h _ => rw [show Tryz.prog.underlying 25 = some .string by kernel_rfl] at h; cases h
   | one hd => obtain ⟨p, rfl⟩ := uText (by kernel_rfl) hd; exact ⟨p, rfl⟩
  obtain ⟨p0, rfl⟩ := q0
  have q1 : ∃ p, a1 = .c (.str (B p)) := by
   cases h1 with
   | agg h _ => rw [show Tryz.prog.underlying 25 = some .string by kernel_rfl] at h; cases h
   | one hd => obtain ⟨p, rfl⟩ := uText (by kernel_rfl) hd; exact ⟨p, rfl⟩
  obtain ⟨p1, rfl⟩ := q1
  have q2 : ∃ l, a2 = .c (.list (R2 l)) ∧ l.length ≤ 9223372036854775807 := by
   cases h2 with
   | agg h _ => rw [show Tryz.prog.underlying 47 = some (.slice 49) by kernel_rfl] at h; cases h
   | one hd =>
    obtain ⟨l, rfl, hl⟩ := uPairs (e := 49) (s := 25) (by kernel_rfl) (by kernel_rfl) (by kernel_rfl) (by kernel_rfl) (by kernel_rfl) hd
    exact ⟨l, rfl, hl⟩
  obtain ⟨l2, rfl, hl2⟩ := q2
  exact law_Corrects lib0 cl_ok awake0 p0 p1 l2 hl2
theorem inclineCorrects_holds : Rows.InclineCorrectsSaid :=
 OpenClaim.holds_of_wide 5 Tryz.f5 rfl rfl rfl rfl rfl rfl rfl ⟨rfl, rfl, rfl, rfl, rfl⟩ rfl rfl rfl rfl rfl (by kernel_rfl) Tryz.func5 (by kernel_rfl)
  (of_decide_eq_true (by kernel_rfl)) (by unfold Func.isWrapper; first | (rw [if_pos (by decide +kernel)]; kernel_rfl) | (rw [if_neg (by decide +kernel)]; exact ⟨rfl, rfl⟩))
  (fun os started H enc _ => law_lifted 5 Tryz.f5 Rows.inclineCorrectsSpec os started Tryz.func5 (by kernel_rfl) (by kernel_rfl) rfl
   (fun ds h => by
    match ds, h with
    | [d0, d1, d2], _ => rfl)
   (by kernel_rfl) (by kernel_rfl)
   (ChangeSpec.witness_shaped (enc := enc) (C := Tryz.checked) (os := os) (X := fun w _ => laidMetH Tryz.prog laidL w) false (World.doorLaid Tryz.prog 400 os) #[.string ⟨#[]⟩, .string ⟨#[]⟩, .slice none 0 0] 8 rfl (World.shaped_of_RefB (by kernel_rfl) (by kernel_rfl)) (by kernel_rfl) (by kernel_rfl) (by kernel_rfl) (door_met os _))
   inclineCorrects_law)
theorem inclineCorrects_card : Rows.InclineCorrectsCardSaid :=
 Claim7.holds_tied_plain_at .later [] laidK true (true, "dc8d4d2a778e14d49a2501b19aec9f0b2b7008a02c5e93ac0042e73cb857aa1f") true
  inclineCorrects_holds (fun _ h => by cases h) (by kernel_rfl) (fun _ h => by cases h) inclineCorrects_row_tie rfl ⟨rfl, rfl⟩ (by kernel_rfl) rfl
  (fun f fn hf hfn => by
   obtain rfl : f = 5 := Option.some.inj ((show Tryz.prog.funcNamed "garboard/garboardlaw54.InclineCorrects" = some 5 by kernel_rfl).symm.trans hf) |>.symm
   obtain rfl : fn = Tryz.f5 := (Option.some.inj (Tryz.func5.symm.trans hfn)).symm
   exact ⟨by kernel_rfl, fun j t ht => by
    rw [Tryz.params5] at ht
    have hm := Array.mem_of_getElem? ht
    have hn : t ∈ [25, 47] := by simp at hm ⊢; omega
    clear hm ht
    simp only [List.mem_cons, List.not_mem_nil, or_false] at hn
    rcases hn with rfl | rfl
    · exact (show Tryz.prog.wantsStandIn 25 = false by kernel_rfl)
    · exact (show Tryz.prog.wantsStandIn 47 = false by kernel_rfl)
   ⟩)
  (by kernel_rfl)
end Go.Proofs.YtpjpnmjbaedkmaaGreatDoor
