/- InclineLeast: the row and the card. -/
import Derived.Test.YtpjpnmjbaedkmaaGreatDoorCard4Law
set_option linter.unusedSectionVars false
set_option linter.unusedVariables false
set_option linter.unusedSimpArgs false
namespace Go.Proofs.YtpjpnmjbaedkmaaGreatDoor
open Go Go.Proofs Go.ChangeShapes Go.WideShapes Go.ChangeAt Go.RowKit Gev Gb
set_option maxRecDepth 100000
theorem inclineLeast_law : ∀ us, AvsOf Tryz.prog Tryz.f6.params.toList us → Gev.Fn E0 6 us (.c (.bool true)) := by
 intro us hu
 rw [Tryz.params6] at hu
 match us, hu with
 | [a0, a1], ⟨h0, h1, _⟩ =>
  have q0 : ∃ l, a0 = .c (.list (R2 l)) ∧ l.length ≤ 9223372036854775807 := by
   cases h0 with
   | agg h _ => rw [show Tryz.prog.underlying 22 = some (.slice 33) by kernel_rfl] at h; cases h
   | one hd =>
    obtain ⟨l, rfl, hl⟩ := uPairs (e := 33) (s := 25) (by kernel_rfl) (by kernel_rfl) (by kernel_rfl) (by kernel_rfl) (by kernel_rfl) hd
    exact ⟨l, rfl, hl⟩
  obtain ⟨l0, rfl, hl0⟩ := q0
  have q1 : ∃ p e s, a1 = .agg [.str (B p), .str (B e), .str (B s)] := by
   cases h1 with
   | agg _ hd => obtain ⟨p, e, s, rfl⟩ := uTriple (s := 25) (by kernel_rfl) (by kernel_rfl) (by kernel_rfl) (by kernel_rfl) hd; exact ⟨p, e, s, rfl⟩
   | one hd => have := (uStruct (l := [(0, 25), (1, 25), (2, 25)]) (by kernel_rfl) hd).1; rw [show Tryz.prog.cellsOf 27 = 3 by kernel_rfl] at this; cases this
  obtain ⟨p1, e1, s1, rfl⟩ := q1
  exact law_Least lib0 cl_ok awake0 l0 p1 e1 s1 hl0
theorem inclineLeast_closed : joinedFacts Tryz.pinned.checked.prog 6 Tryz.f6 Rows.inclineLeastSpec Rows.inclineLeastRow = true := by kernel_rfl
theorem inclineLeast_wrap : Tryz.f6.isWrapper Tryz.pinned.checked.prog Rows.inclineLeastRow.wrapper Rows.inclineLeastRow.mainSum := by unfold Func.isWrapper; first | (rw [if_pos (by decide +kernel)]; kernel_rfl) | (rw [if_neg (by decide +kernel)]; exact ⟨rfl, rfl⟩)
theorem inclineLeast_named : Tryz.pinned.checked.prog.funcNamed Rows.inclineLeastRow.func = some 6 := by kernel_rfl
theorem inclineLeast_inst : Tryz.f6.isInstance Tryz.pinned.checked.prog Rows.inclineLeastRow.origin Rows.inclineLeastRow.targs := of_decide_eq_true (by kernel_rfl)
theorem inclineLeast_shaped (os : Os) : ((World.doorLaid Tryz.prog 400 os).forCall (fun _ _ => 0) ⟨#[], #[.slice none 0 0, .agg #[.string ⟨#[]⟩, .string ⟨#[]⟩, .string ⟨#[]⟩]], []⟩).Shaped Tryz.checked.prog := World.shaped_of_RefB (by kernel_rfl) (by kernel_rfl)
theorem inclineLeast_ok (os : Os) : Input.okWideB Tryz.checked.prog ((World.doorLaid Tryz.prog 400 os).forCall (fun _ _ => 0) ⟨#[], #[.slice none 0 0, .agg #[.string ⟨#[]⟩, .string ⟨#[]⟩, .string ⟨#[]⟩]], []⟩) 6 ⟨#[], #[.slice none 0 0, .agg #[.string ⟨#[]⟩, .string ⟨#[]⟩, .string ⟨#[]⟩]], []⟩ = true := by kernel_rfl
theorem inclineLeast_pre (os : Os) {H : Type} (enc : TypeId × Value → H) : Rows.inclineLeastSpec.preB enc Tryz.checked.prog Tryz.f6 [] false ((World.doorLaid Tryz.prog 400 os).forCall (fun _ _ => 0) ⟨#[], #[.slice none 0 0, .agg #[.string ⟨#[]⟩, .string ⟨#[]⟩, .string ⟨#[]⟩]], []⟩).memory #[.slice none 0 0, .agg #[.string ⟨#[]⟩, .string ⟨#[]⟩, .string ⟨#[]⟩]] 8 = true := by kernel_rfl
theorem inclineLeast_siz (os : Os) {H : Type} (enc : TypeId × Value → H) : Rows.inclineLeastSpec.sizedB enc Tryz.checked.prog Tryz.f6 false ((World.doorLaid Tryz.prog 400 os).forCall (fun _ _ => 0) ⟨#[], #[.slice none 0 0, .agg #[.string ⟨#[]⟩, .string ⟨#[]⟩, .string ⟨#[]⟩]], []⟩).memory #[.slice none 0 0, .agg #[.string ⟨#[]⟩, .string ⟨#[]⟩, .string ⟨#[]⟩]] 8 = true := by kernel_rfl
theorem inclineLeast_plainT : Tryz.f6.params.toList.all (plainT Tryz.prog 10) = true := by kernel_rfl
theorem inclineLeast_recT : (Tryz.f6.params.toList.all fun t => Tryz.prog.readableRec t && decide (t < Tryz.prog.types.size)) = true := by kernel_rfl
theorem inclineLeast_noInit : Tryz.checked.prog.inits.idxOf? 6 = none := by kernel_rfl
theorem inclineLeast_holds : Rows.InclineLeastSaid :=
 OpenClaim.holds_of_wide 6 Tryz.f6 rfl rfl rfl rfl rfl rfl rfl ⟨rfl, rfl, rfl, rfl, rfl⟩ rfl rfl rfl rfl rfl inclineLeast_named Tryz.func6 inclineLeast_closed inclineLeast_inst inclineLeast_wrap
  (fun os started H enc _ => law_lifted 6 Tryz.f6 Rows.inclineLeastSpec os started Tryz.func6 inclineLeast_noInit (by kernel_rfl) rfl
   (fun ds h => by
    match ds, h with
    | [d0, d1], _ => rfl)
   inclineLeast_plainT inclineLeast_recT
   (ChangeSpec.witness_shaped (enc := enc) (C := Tryz.checked) (os := os) (X := fun w _ => laidMetH Tryz.prog laidL w) false (World.doorLaid Tryz.prog 400 os) #[.slice none 0 0, .agg #[.string ⟨#[]⟩, .string ⟨#[]⟩, .string ⟨#[]⟩]] 8 rfl (inclineLeast_shaped os) (inclineLeast_ok os) (inclineLeast_pre os enc) (inclineLeast_siz os enc) (door_met os _))
   inclineLeast_law)
theorem inclineLeast_wf : Rows.inclineLeastRow.wfByText (OpenSpec.ofChange Rows.inclineLeastSpec) = true := by kernel_rfl
theorem inclineLeast_main : Tryz.pinned.checked.prog.mainIs = some (true, "dc8d4d2a778e14d49a2501b19aec9f0b2b7008a02c5e93ac0042e73cb857aa1f".toList) := by kernel_rfl
theorem inclineLeast_goes : false = Rows.inclineLeastRow.goesBy Tryz.pinned.checked.prog := by kernel_rfl
theorem inclineLeast_looks : true = Tryz.pinned.checked.prog.looks [] := by kernel_rfl
theorem inclineLeast_card : Rows.InclineLeastCardSaid :=
 Claim7.holds_tied_plain_at .later [] laidK true (true, "dc8d4d2a778e14d49a2501b19aec9f0b2b7008a02c5e93ac0042e73cb857aa1f") true
  inclineLeast_holds (fun _ h => by cases h) inclineLeast_wf (fun _ h => by cases h) inclineLeast_row_tie rfl ⟨rfl, rfl⟩ inclineLeast_main rfl
  (fun f fn hf hfn => by
   obtain rfl : f = 6 := (Option.some.inj (inclineLeast_named.symm.trans hf)).symm
   obtain rfl : fn = Tryz.f6 := (Option.some.inj (Tryz.func6.symm.trans hfn)).symm
   exact ⟨inclineLeast_looks, fun j t ht => by
    rw [Tryz.params6] at ht
    rcases j with _ | _ | j
    · obtain rfl : 22 = t := by simpa using ht
      exact (show Tryz.prog.wantsStandIn 22 = false by kernel_rfl)
    · obtain rfl : 27 = t := by simpa using ht
      exact (show Tryz.prog.wantsStandIn 27 = false by kernel_rfl)
    · simp at ht
   ⟩)
  inclineLeast_goes
end Go.Proofs.YtpjpnmjbaedkmaaGreatDoor
