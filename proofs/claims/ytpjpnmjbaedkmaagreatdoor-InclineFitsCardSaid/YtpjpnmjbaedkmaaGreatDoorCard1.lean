/- InclineFits: the row and the card. -/
import Derived.Test.YtpjpnmjbaedkmaaGreatDoorF
set_option linter.unusedSectionVars false
set_option linter.unusedVariables false
set_option linter.unusedSimpArgs false
namespace Go.Proofs.YtpjpnmjbaedkmaaGreatDoor
open Go Go.Proofs Go.ChangeShapes Go.WideShapes Go.ChangeAt Go.RowKit Gev Gb
set_option maxRecDepth 100000
theorem fits_law : ∀ us, AvsOf Tryz.prog Tryz.f3.params.toList us → Gev.Fn E0 3 us (.c (.bool true)) := by
  intro us hu
  rw [Tryz.params3] at hu
  match us, hu with
  | [a], ⟨h1, _⟩ =>
    cases h1 with
    | agg h _ => rw [show Tryz.prog.underlying 22 = some (.slice 33) by kernel_rfl] at h; cases h
    | one hd =>
      obtain ⟨l, rfl, hl⟩ := uPairs (e := 33) (s := 25) (by kernel_rfl) (by kernel_rfl) (by kernel_rfl) (by kernel_rfl) (by kernel_rfl) hd
      exact law_Fits lib0 cl_ok (sp_ok lib0) awake0 l hl
theorem inclineFits_holds : Rows.InclineFitsSaid :=
  OpenClaim.holds_of_wide 3 Tryz.f3 rfl rfl rfl rfl rfl rfl rfl ⟨rfl, rfl, rfl, rfl, rfl⟩ rfl rfl rfl rfl rfl (by kernel_rfl) Tryz.func3 (by kernel_rfl)
    (of_decide_eq_true (by kernel_rfl)) (by unfold Func.isWrapper; first | (rw [if_pos (by decide +kernel)]; kernel_rfl) | (rw [if_neg (by decide +kernel)]; exact ⟨rfl, rfl⟩))
    (fun os started H enc _ => law_lifted 3 Tryz.f3 Rows.inclineFitsSpec os started Tryz.func3 (by kernel_rfl) (by kernel_rfl) rfl
      (fun ds h => by
        match ds, h with
        | [d], _ => rfl)
      (by kernel_rfl) (by kernel_rfl)
      (ChangeSpec.witness_shaped (enc := enc) (C := Tryz.checked) (os := os) (X := fun w _ => laidMetH Tryz.prog laidL w) false (World.doorLaid Tryz.prog 400 os) #[.slice none 0 0] 8 rfl (World.shaped_of_RefB (by kernel_rfl) (by kernel_rfl)) (by kernel_rfl) (by kernel_rfl) (by kernel_rfl) (door_met os _))
      fits_law)
theorem inclineFits_card : Rows.InclineFitsCardSaid :=
  Claim7.holds_tied_plain_at .later [] [.data, .data, .data, .sentinel, .sentinel] true (true, "dc8d4d2a778e14d49a2501b19aec9f0b2b7008a02c5e93ac0042e73cb857aa1f") true
    inclineFits_holds (fun _ h => by cases h) (by kernel_rfl) (fun _ h => by cases h) inclineFits_row_tie rfl ⟨rfl, rfl⟩ (by kernel_rfl) rfl
    (fun f fn hf hfn => by
      obtain rfl : f = 3 := Option.some.inj ((show Tryz.prog.funcNamed "garboard/garboardlaw54.InclineFits" = some 3 by kernel_rfl).symm.trans hf) |>.symm
      obtain rfl : fn = Tryz.f3 := (Option.some.inj (Tryz.func3.symm.trans hfn)).symm
      exact ⟨by kernel_rfl, fun j t ht => by
        rw [Tryz.params3] at ht
        have h3 : t = 22 := by
          rcases j with _ | j
          · simpa using ht.symm
          · simp at ht
        subst h3
        exact (show Tryz.prog.wantsStandIn 22 = false by kernel_rfl)⟩)
    (by kernel_rfl)
end Go.Proofs.YtpjpnmjbaedkmaaGreatDoor
