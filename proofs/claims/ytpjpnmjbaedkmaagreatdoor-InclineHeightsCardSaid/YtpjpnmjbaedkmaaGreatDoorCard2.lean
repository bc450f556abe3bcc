/- InclineHeights: the row and the card. -/
import Derived.Test.YtpjpnmjbaedkmaaGreatDoorCard2Law
set_option linter.unusedSectionVars false
set_option linter.unusedVariables false
set_option linter.unusedSimpArgs false
namespace Go.Proofs.YtpjpnmjbaedkmaaGreatDoor
open Go Go.Proofs Go.ChangeShapes Go.WideShapes Go.ChangeAt Go.RowKit Gev Gb
set_option maxRecDepth 100000
theorem inclineHeights_law : ∀ us, AvsOf Tryz.prog Tryz.f4.params.toList us → Gev.Fn E0 4 us (.c (.bool true)) := by
 intro us hu
 rw [Tryz.params4] at hu
 match us, hu with
 | [a0, a1, a2, a3], ⟨h0, h1, h2, h3, _⟩ =>
  have q0 : ∃ l, a0 = .c (.list (R2 l)) ∧ l.length ≤ 9223372036854775807 := by
   cases h0 with
   | agg h _ => rw [show Tryz.prog.underlying 22 = some (.slice 33) by kernel_rfl] at h; cases h
   | one hd =>
    obtain ⟨l, rfl, hl⟩ := uPairs (e := 33) (s := 25) (by kernel_rfl) (by kernel_rfl) (by kernel_rfl) (by kernel_rfl) (by kernel_rfl) hd
    exact ⟨l, rfl, hl⟩
  obtain ⟨l0, rfl, hl0⟩ := q0
  have q1 : ∃ p e s, a1 = .agg [.str (B p), .str (B e), .str (B s)] := by
   cases h1 with
   | agg _ hd => obtain ⟨p, e, s, rfl⟩ := uTriple (s := 25) (by kernel_rfl) (by kernel_rfl) (by kernel_rfl) (by kernel_rfl) hd; exact ⟨p, e, s, rfl⟩
   | one hd => have := (uStruct (l := [(0, 25), (1, 25), (2, 25)]) (by kernel_rfl) hd).1; rw [show Tryz.prog.cellsOf 27 = 3 by kernel_rfl] at this; cases this
  obtain ⟨p1, e1, s1, rfl⟩ := q1
  have q2 : ∃ p, a2 = .c (.str (B p)) := by
   cases h2 with
   | agg h _ => rw [show Tryz.prog.underlying 25 = some .string by kernel_rfl] at h; cases h
   | one hd => obtain ⟨p, rfl⟩ := uText (by kernel_rfl) hd; exact ⟨p, rfl⟩
  obtain ⟨p2, rfl⟩ := q2
  have q3 : ∃ p, a3 = .c (.str (B p)) := by
   cases h3 with
   | agg h _ => rw [show Tryz.prog.underlying 25 = some .string by kernel_rfl] at h; cases h
   | one hd => obtain ⟨p, rfl⟩ := uText (by kernel_rfl) hd; exact ⟨p, rfl⟩
  obtain ⟨p3, rfl⟩ := q3
  exact law_Heights lib0 cl_ok awake0 l0 p1 e1 s1 p2 p3 hl0
theorem inclineHeights_closed : joinedFacts Tryz.pinned.checked.prog 4 Tryz.f4 Rows.inclineHeightsSpec Rows.inclineHeightsRow = true := by kernel_rfl
theorem inclineHeights_wrap : Tryz.f4.isWrapper Tryz.pinned.checked.prog Rows.inclineHeightsRow.wrapper Rows.inclineHeightsRow.mainSum := by unfold Func.isWrapper; first | (rw [if_pos (by decide +kernel)]; kernel_rfl) | (rw [if_neg (by decide +kernel)]; exact ⟨rfl, rfl⟩)
theorem inclineHeights_named : Tryz.pinned.checked.prog.funcNamed Rows.inclineHeightsRow.func = some 4 := by kernel_rfl
theorem inclineHeights_inst : Tryz.f4.isInstance Tryz.pinned.checked.prog Rows.inclineHeightsRow.origin Rows.inclineHeightsRow.targs := of_decide_eq_true (by kernel_rfl)
theorem inclineHeights_shaped (os : Os) : ((World.doorLaid Tryz.prog 400 os).forCall (fun _ _ => 0) ⟨#[], #[.slice none 0 0, .agg #[.string ⟨#[]⟩, .string ⟨#[]⟩, .string ⟨#[]⟩], .string ⟨#[]⟩, .string ⟨#[]⟩], []⟩).Shaped Tryz.checked.prog := World.shaped_of_RefB (by kernel_rfl) (by kernel_rfl)
theorem inclineHeights_ok (os : Os) : Input.okWideB Tryz.checked.prog ((World.doorLaid Tryz.prog 400 os).forCall (fun _ _ => 0) ⟨#[], #[.slice none 0 0, .agg #[.string ⟨#[]⟩, .string ⟨#[]⟩, .string ⟨#[]⟩], .string ⟨#[]⟩, .string ⟨#[]⟩], []⟩) 4 ⟨#[], #[.slice none 0 0, .agg #[.string ⟨#[]⟩, .string ⟨#[]⟩, .string ⟨#[]⟩], .string ⟨#[]⟩, .string ⟨#[]⟩], []⟩ = true := by kernel_rfl
theorem inclineHeights_pre (os : Os) {H : Type} (enc : TypeId × Value → H) : Rows.inclineHeightsSpec.preB enc Tryz.checked.prog Tryz.f4 [] false ((World.doorLaid Tryz.prog 400 os).forCall (fun _ _ => 0) ⟨#[], #[.slice none 0 0, .agg #[.string ⟨#[]⟩, .string ⟨#[]⟩, .string ⟨#[]⟩], .string ⟨#[]⟩, .string ⟨#[]⟩], []⟩).memory #[.slice none 0 0, .agg #[.string ⟨#[]⟩, .string ⟨#[]⟩, .string ⟨#[]⟩], .string ⟨#[]⟩, .string ⟨#[]⟩] 8 = true := by kernel_rfl
theorem inclineHeights_siz (os : Os) {H : Type} (enc : TypeId × Value → H) : Rows.inclineHeightsSpec.sizedB enc Tryz.checked.prog Tryz.f4 false ((World.doorLaid Tryz.prog 400 os).forCall (fun _ _ => 0) ⟨#[], #[.slice none 0 0, .agg #[.string ⟨#[]⟩, .string ⟨#[]⟩, .string ⟨#[]⟩], .string ⟨#[]⟩, .string ⟨#[]⟩], []⟩).memory #[.slice none 0 0, .agg #[.string ⟨#[]⟩, .string ⟨#[]⟩, .string ⟨#[]⟩], .string ⟨#[]⟩, .string ⟨#[]⟩] 8 = true := by kernel_rfl
theorem inclineHeights_plainT : Tryz.f4.params.toList.all (plainT Tryz.prog 10) = true := by kernel_rfl
theorem inclineHeights_recT : (Tryz.f4.params.toList.all fun t => Tryz.prog.readableRec t && decide (t < Tryz.prog.types.size)) = true := by kernel_rfl
theorem inclineHeights_noInit : Tryz.checked.prog.inits.idxOf? 4 = none := by kernel_rfl
theorem inclineHeights_holds : Rows.InclineHeightsSaid :=
 OpenClaim.holds_of_wide 4 Tryz.f4 rfl rfl rfl rfl rfl rfl rfl ⟨rfl, rfl, rfl, rfl, rfl⟩ rfl rfl rfl rfl rfl inclineHeights_named Tryz.func4 inclineHeights_closed inclineHeights_inst inclineHeights_wrap
  (fun os started H enc _ => law_lifted 4 Tryz.f4 Rows.inclineHeightsSpec os started Tryz.func4 inclineHeights_noInit (by kernel_rfl) rfl
   (fun ds h => by
    match ds, h with
    | [d0, d1, d2, d3], _ => rfl)
   inclineHeights_plainT inclineHeights_recT
   (ChangeSpec.witness_shaped (enc := enc) (C := Tryz.checked) (os := os) (X := fun w _ => laidMetH Tryz.prog laidL w) false (World.doorLaid Tryz.prog 400 os) #[.slice none 0 0, .agg #[.string ⟨#[]⟩, .string ⟨#[]⟩, .string ⟨#[]⟩], .string ⟨#[]⟩, .string ⟨#[]⟩] 8 rfl (inclineHeights_shaped os) (inclineHeights_ok os) (inclineHeights_pre os enc) (inclineHeights_siz os enc) (door_met os _))
   inclineHeights_law)
theorem inclineHeights_wf : Rows.inclineHeightsRow.wfByText (OpenSpec.ofChange Rows.inclineHeightsSpec) = true := by kernel_rfl
theorem inclineHeights_main : Tryz.pinned.checked.prog.mainIs = some (true, "dc8d4d2a778e14d49a2501b19aec9f0b2b7008a02c5e93ac0042e73cb857aa1f".toList) := by kernel_rfl
theorem inclineHeights_goes : false = Rows.inclineHeightsRow.goesBy Tryz.pinned.checked.prog := by kernel_rfl
theorem inclineHeights_looks : true = Tryz.pinned.checked.prog.looks [] := by kernel_rfl
theorem inclineHeights_card : Rows.InclineHeightsCardSaid :=
 Claim7.holds_tied_plain_at .later [] laidK true (true, "dc8d4d2a778e14d49a2501b19aec9f0b2b7008a02c5e93ac0042e73cb857aa1f") true
  inclineHeights_holds (fun _ h => by cases h) inclineHeights_wf (fun _ h => by cases h) inclineHeights_row_tie rfl ⟨rfl, rfl⟩ inclineHeights_main rfl
  (fun f fn hf hfn => by
   obtain rfl : f = 4 := (Option.some.inj (inclineHeights_named.symm.trans hf)).symm
   obtain rfl : fn = Tryz.f4 := (Option.some.inj (Tryz.func4.symm.trans hfn)).symm
   exact ⟨inclineHeights_looks, fun j t ht => by
    rw [Tryz.params4] at ht
    rcases j with _ | _ | _ | _ | j
    · obtain rfl : 22 = t := by simpa using ht
      exact (show Tryz.prog.wantsStandIn 22 = false by kernel_rfl)
    · obtain rfl : 27 = t := by simpa using ht
      exact (show Tryz.prog.wantsStandIn 27 = false by kernel_rfl)
    · obtain rfl : 25 = t := by simpa using ht
      exact (show Tryz.prog.wantsStandIn 25 = false by kernel_rfl)
    · obtain rfl : 25 = t := by simpa using ht
      exact (show Tryz.prog.wantsStandIn 25 = false by kernel_rfl)
    · simp at ht
   ⟩)
  inclineHeights_goes
end Go.Proofs.YtpjpnmjbaedkmaaGreatDoor
