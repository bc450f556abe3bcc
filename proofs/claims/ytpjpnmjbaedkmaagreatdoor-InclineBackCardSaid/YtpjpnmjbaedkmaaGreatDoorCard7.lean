/- InclineBack: the row and the card. -/
import Derived.Test.YtpjpnmjbaedkmaaGreatDoorCard7Law
set_option linter.unusedSectionVars false
set_option linter.unusedVariables false
set_option linter.unusedSimpArgs false
namespace Go.Proofs.YtpjpnmjbaedkmaaGreatDoor
open Go Go.Proofs Go.ChangeShapes Go.WideShapes Go.ChangeAt Go.RowKit Gev Gb
set_option maxRecDepth 100000
theorem inclineBack_law : ∀ us, AvsOf Tryz.prog Tryz.f9.params.toList us → Gev.Fn E0 9 us (.c (.bool true)) := by
 intro us hu
 rw [Tryz.params9] at hu
 match us, hu with
 | [a0, a1, a2], ⟨h0, h1, h2, _⟩ =>
  have q0 : ∃ p, a0 = .c (.str (B p)) := by
   cases h0 with
   | agg h _ => rw [show Tryz.prog.underlying 25 = some .string by kernel_rfl] at h; cases h
   | one hd => obtain ⟨p, rfl⟩ := uText (by kernel_rfl) hd; exact ⟨p, rfl⟩
  obtain ⟨p0, rfl⟩ := q0
  have q1 : ∃ p, a1 = .c (.str (B p)) := by
   cases h1 with
   | agg h _ => rw [show Tryz.prog.underlying 25 = some .string by kernel_rfl] at h; cases h
   | one hd => obtain ⟨p, rfl⟩ := uText (by kernel_rfl) hd; exact ⟨p, rfl⟩
  obtain ⟨p1, rfl⟩ := q1
  have q2 : ∃ l, a2 = .c (.list (R2 l)) ∧ l.length ≤ 9223372036854775807 := by
   cases h2 with
   | agg h _ => rw [show Tryz.prog.underlying 47 = some (.slice 49) by kernel_rfl] at h; cases h
   | one hd =>
    obtain ⟨l, rfl, hl⟩ := uPairs (e := 49) (s := 25) (by kernel_rfl) (by kernel_rfl) (by kernel_rfl) (by kernel_rfl) (by kernel_rfl) hd
    exact ⟨l, rfl, hl⟩
  obtain ⟨l2, rfl, hl2⟩ := q2
  exact law_Back lib0 cl_ok awake0 p0 p1 l2 hl2
theorem inclineBack_closed : joinedFacts Tryz.pinned.checked.prog 9 Tryz.f9 Rows.inclineBackSpec Rows.inclineBackRow = true := by kernel_rfl
theorem inclineBack_wrap : Tryz.f9.isWrapper Tryz.pinned.checked.prog Rows.inclineBackRow.wrapper Rows.inclineBackRow.mainSum := by unfold Func.isWrapper; first | (rw [if_pos (by decide +kernel)]; kernel_rfl) | (rw [if_neg (by decide +kernel)]; exact ⟨rfl, rfl⟩)
theorem inclineBack_named : Tryz.pinned.checked.prog.funcNamed Rows.inclineBackRow.func = some 9 := by kernel_rfl
theorem inclineBack_inst : Tryz.f9.isInstance Tryz.pinned.checked.prog Rows.inclineBackRow.origin Rows.inclineBackRow.targs := of_decide_eq_true (by kernel_rfl)
theorem inclineBack_shaped (os : Os) : ((World.doorLaid Tryz.prog 400 os).forCall (fun _ _ => 0) ⟨#[], #[.string ⟨#[]⟩, .string ⟨#[]⟩, .slice none 0 0], []⟩).Shaped Tryz.checked.prog := World.shaped_of_RefB (by kernel_rfl) (by kernel_rfl)
theorem inclineBack_ok (os : Os) : Input.okWideB Tryz.checked.prog ((World.doorLaid Tryz.prog 400 os).forCall (fun _ _ => 0) ⟨#[], #[.string ⟨#[]⟩, .string ⟨#[]⟩, .slice none 0 0], []⟩) 9 ⟨#[], #[.string ⟨#[]⟩, .string ⟨#[]⟩, .slice none 0 0], []⟩ = true := by kernel_rfl
theorem inclineBack_pre (os : Os) {H : Type} (enc : TypeId × Value → H) : Rows.inclineBackSpec.preB enc Tryz.checked.prog Tryz.f9 [] false ((World.doorLaid Tryz.prog 400 os).forCall (fun _ _ => 0) ⟨#[], #[.string ⟨#[]⟩, .string ⟨#[]⟩, .slice none 0 0], []⟩).memory #[.string ⟨#[]⟩, .string ⟨#[]⟩, .slice none 0 0] 8 = true := by kernel_rfl
theorem inclineBack_siz (os : Os) {H : Type} (enc : TypeId × Value → H) : Rows.inclineBackSpec.sizedB enc Tryz.checked.prog Tryz.f9 false ((World.doorLaid Tryz.prog 400 os).forCall (fun _ _ => 0) ⟨#[], #[.string ⟨#[]⟩, .string ⟨#[]⟩, .slice none 0 0], []⟩).memory #[.string ⟨#[]⟩, .string ⟨#[]⟩, .slice none 0 0] 8 = true := by kernel_rfl
theorem inclineBack_plainT : Tryz.f9.params.toList.all (plainT Tryz.prog 10) = true := by kernel_rfl
theorem inclineBack_recT : (Tryz.f9.params.toList.all fun t => Tryz.prog.readableRec t && decide (t < Tryz.prog.types.size)) = true := by kernel_rfl
theorem inclineBack_noInit : Tryz.checked.prog.inits.idxOf? 9 = none := by kernel_rfl
theorem inclineBack_holds : Rows.InclineBackSaid :=
 OpenClaim.holds_of_wide 9 Tryz.f9 rfl rfl rfl rfl rfl rfl rfl ⟨rfl, rfl, rfl, rfl, rfl⟩ rfl rfl rfl rfl rfl inclineBack_named Tryz.func9 inclineBack_closed inclineBack_inst inclineBack_wrap
  (fun os started H enc _ => law_lifted 9 Tryz.f9 Rows.inclineBackSpec os started Tryz.func9 inclineBack_noInit (by kernel_rfl) rfl
   (fun ds h => by
    match ds, h with
    | [d0, d1, d2], _ => rfl)
   inclineBack_plainT inclineBack_recT
   (ChangeSpec.witness_shaped (enc := enc) (C := Tryz.checked) (os := os) (X := fun w _ => laidMetH Tryz.prog laidL w) false (World.doorLaid Tryz.prog 400 os) #[.string ⟨#[]⟩, .string ⟨#[]⟩, .slice none 0 0] 8 rfl (inclineBack_shaped os) (inclineBack_ok os) (inclineBack_pre os enc) (inclineBack_siz os enc) (door_met os _))
   inclineBack_law)
theorem inclineBack_wf : Rows.inclineBackRow.wfByText (OpenSpec.ofChange Rows.inclineBackSpec) = true := by kernel_rfl
theorem inclineBack_main : Tryz.pinned.checked.prog.mainIs = some (true, "dc8d4d2a778e14d49a2501b19aec9f0b2b7008a02c5e93ac0042e73cb857aa1f".toList) := by kernel_rfl
theorem inclineBack_goes : false = Rows.inclineBackRow.goesBy Tryz.pinned.checked.prog := by kernel_rfl
theorem inclineBack_looks : true = Tryz.pinned.checked.prog.looks [] := by kernel_rfl
theorem inclineBack_card : Rows.InclineBackCardSaid :=
 Claim7.holds_tied_plain_at .later [] laidK true (true, "dc8d4d2a778e14d49a2501b19aec9f0b2b7008a02c5e93ac0042e73cb857aa1f") true
  inclineBack_holds (fun _ h => by cases h) inclineBack_wf (fun _ h => by cases h) inclineBack_row_tie rfl ⟨rfl, rfl⟩ inclineBack_main rfl
  (fun f fn hf hfn => by
   obtain rfl : f = 9 := (Option.some.inj (inclineBack_named.symm.trans hf)).symm
   obtain rfl : fn = Tryz.f9 := (Option.some.inj (Tryz.func9.symm.trans hfn)).symm
   exact ⟨inclineBack_looks, fun j t ht => by
    rw [Tryz.params9] at ht
    rcases j with _ | _ | _ | j
    · obtain rfl : 25 = t := by simpa using ht
      exact (show Tryz.prog.wantsStandIn 25 = false by kernel_rfl)
    · obtain rfl : 25 = t := by simpa using ht
      exact (show Tryz.prog.wantsStandIn 25 = false by kernel_rfl)
    · obtain rfl : 47 = t := by simpa using ht
      exact (show Tryz.prog.wantsStandIn 47 = false by kernel_rfl)
    · simp at ht
   ⟩)
  inclineBack_goes
end Go.Proofs.YtpjpnmjbaedkmaaGreatDoor
