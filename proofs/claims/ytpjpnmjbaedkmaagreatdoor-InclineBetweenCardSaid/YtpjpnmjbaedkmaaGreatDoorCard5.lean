/- InclineBetween: the row and the card. -/
import Derived.Test.YtpjpnmjbaedkmaaGreatDoorCard5Law
set_option linter.unusedSectionVars false
set_option linter.unusedVariables false
set_option linter.unusedSimpArgs false
namespace Go.Proofs.YtpjpnmjbaedkmaaGreatDoor
open Go Go.Proofs Go.ChangeShapes Go.WideShapes Go.ChangeAt Go.RowKit Gev Gb
set_option maxRecDepth 100000
theorem inclineBetween_law : ∀ us, AvsOf Tryz.prog Tryz.f7.params.toList us → Gev.Fn E0 7 us (.c (.bool true)) := by
 intro us hu
 rw [Tryz.params7] at hu
 match us, hu with
 | [a0], ⟨h0, _⟩ =>
  have q0 : ∃ l, a0 = .c (.list (R2 l)) ∧ l.length ≤ 9223372036854775807 := by
   cases h0 with
   | agg h _ => rw [show Tryz.prog.underlying 22 = some (.slice 33) by kernel_rfl] at h; cases h
   | one hd =>
    obtain ⟨l, rfl, hl⟩ := uPairs (e := 33) (s := 25) (by kernel_rfl) (by kernel_rfl) (by kernel_rfl) (by kernel_rfl) (by kernel_rfl) hd
    exact ⟨l, rfl, hl⟩
  obtain ⟨l0, rfl, hl0⟩ := q0
  exact law_Between lib0 cl_ok awake0 l0 hl0
theorem inclineBetween_closed : joinedFacts Tryz.pinned.checked.prog 7 Tryz.f7 Rows.inclineBetweenSpec Rows.inclineBetweenRow = true := by kernel_rfl
theorem inclineBetween_wrap : Tryz.f7.isWrapper Tryz.pinned.checked.prog Rows.inclineBetweenRow.wrapper Rows.inclineBetweenRow.mainSum := by unfold Func.isWrapper; first | (rw [if_pos (by decide +kernel)]; kernel_rfl) | (rw [if_neg (by decide +kernel)]; exact ⟨rfl, rfl⟩)
theorem inclineBetween_named : Tryz.pinned.checked.prog.funcNamed Rows.inclineBetweenRow.func = some 7 := by kernel_rfl
theorem inclineBetween_inst : Tryz.f7.isInstance Tryz.pinned.checked.prog Rows.inclineBetweenRow.origin Rows.inclineBetweenRow.targs := of_decide_eq_true (by kernel_rfl)
theorem inclineBetween_shaped (os : Os) : ((World.doorLaid Tryz.prog 400 os).forCall (fun _ _ => 0) ⟨#[], #[.slice none 0 0], []⟩).Shaped Tryz.checked.prog := World.shaped_of_RefB (by kernel_rfl) (by kernel_rfl)
theorem inclineBetween_ok (os : Os) : Input.okWideB Tryz.checked.prog ((World.doorLaid Tryz.prog 400 os).forCall (fun _ _ => 0) ⟨#[], #[.slice none 0 0], []⟩) 7 ⟨#[], #[.slice none 0 0], []⟩ = true := by kernel_rfl
theorem inclineBetween_pre (os : Os) {H : Type} (enc : TypeId × Value → H) : Rows.inclineBetweenSpec.preB enc Tryz.checked.prog Tryz.f7 [] false ((World.doorLaid Tryz.prog 400 os).forCall (fun _ _ => 0) ⟨#[], #[.slice none 0 0], []⟩).memory #[.slice none 0 0] 8 = true := by kernel_rfl
theorem inclineBetween_siz (os : Os) {H : Type} (enc : TypeId × Value → H) : Rows.inclineBetweenSpec.sizedB enc Tryz.checked.prog Tryz.f7 false ((World.doorLaid Tryz.prog 400 os).forCall (fun _ _ => 0) ⟨#[], #[.slice none 0 0], []⟩).memory #[.slice none 0 0] 8 = true := by kernel_rfl
theorem inclineBetween_plainT : Tryz.f7.params.toList.all (plainT Tryz.prog 10) = true := by kernel_rfl
theorem inclineBetween_recT : (Tryz.f7.params.toList.all fun t => Tryz.prog.readableRec t && decide (t < Tryz.prog.types.size)) = true := by kernel_rfl
theorem inclineBetween_noInit : Tryz.checked.prog.inits.idxOf? 7 = none := by kernel_rfl
theorem inclineBetween_holds : Rows.InclineBetweenSaid :=
 OpenClaim.holds_of_wide 7 Tryz.f7 rfl rfl rfl rfl rfl rfl rfl ⟨rfl, rfl, rfl, rfl, rfl⟩ rfl rfl rfl rfl rfl inclineBetween_named Tryz.func7 inclineBetween_closed inclineBetween_inst inclineBetween_wrap
  (fun os started H enc _ => law_lifted 7 Tryz.f7 Rows.inclineBetweenSpec os started Tryz.func7 inclineBetween_noInit (by kernel_rfl) rfl
   (fun ds h => by
    match ds, h with
    | [d0], _ => rfl)
   inclineBetween_plainT inclineBetween_recT
   (ChangeSpec.witness_shaped (enc := enc) (C := Tryz.checked) (os := os) (X := fun w _ => laidMetH Tryz.prog laidL w) false (World.doorLaid Tryz.prog 400 os) #[.slice none 0 0] 8 rfl (inclineBetween_shaped os) (inclineBetween_ok os) (inclineBetween_pre os enc) (inclineBetween_siz os enc) (door_met os _))
   inclineBetween_law)
theorem inclineBetween_wf : Rows.inclineBetweenRow.wfByText (OpenSpec.ofChange Rows.inclineBetweenSpec) = true := by kernel_rfl
theorem inclineBetween_main : Tryz.pinned.checked.prog.mainIs = some (true, "dc8d4d2a778e14d49a2501b19aec9f0b2b7008a02c5e93ac0042e73cb857aa1f".toList) := by kernel_rfl
theorem inclineBetween_goes : false = Rows.inclineBetweenRow.goesBy Tryz.pinned.checked.prog := by kernel_rfl
theorem inclineBetween_looks : true = Tryz.pinned.checked.prog.looks [] := by kernel_rfl
theorem inclineBetween_card : Rows.InclineBetweenCardSaid :=
 Claim7.holds_tied_plain_at .later [] laidK true (true, "dc8d4d2a778e14d49a2501b19aec9f0b2b7008a02c5e93ac0042e73cb857aa1f") true
  inclineBetween_holds (fun _ h => by cases h) inclineBetween_wf (fun _ h => by cases h) inclineBetween_row_tie rfl ⟨rfl, rfl⟩ inclineBetween_main rfl
  (fun f fn hf hfn => by
   obtain rfl : f = 7 := (Option.some.inj (inclineBetween_named.symm.trans hf)).symm
   obtain rfl : fn = Tryz.f7 := (Option.some.inj (Tryz.func7.symm.trans hfn)).symm
   exact ⟨inclineBetween_looks, fun j t ht => by
    rw [Tryz.params7] at ht
    rcases j with _ | j
    · obtain rfl : 22 = t := by simpa using ht
      exact (show Tryz.prog.wantsStandIn 22 = false by kernel_rfl)
    · simp at ht
   ⟩)
  inclineBetween_goes
end Go.Proofs.YtpjpnmjbaedkmaaGreatDoor
