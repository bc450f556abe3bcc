/- SurveyFits: Fit and Worst return what the definitions specify for any marks; the row and the card. -/
import Derived.Test.YtgkchlchkdecfaaGreatDoorCardALaw
set_option linter.unusedSectionVars false
set_option linter.unusedVariables false
set_option linter.unusedSimpArgs false
namespace Go.Proofs.YtgkchlchkdecfaaGreatDoor
open Go Go.Proofs Go.ChangeShapes Go.WideShapes Go.ChangeAt Go.RowKit Gev Gb
set_option maxRecDepth 100000
theorem surveyFits_law:∀ us,AvsOf Tryz.prog Tryz.f3.params.toList us→Gev.Fn E0 3 us (.c (.bool true)):=by
 intro us hu
 rw [Tryz.params3] at hu
 match us,hu with
 | [a0],⟨h0,_⟩ =>
  have q0:∃ l,a0=.c (.list (R4 l))∧l.length≤9223372036854775807:=by
   cases h0 with
   | agg h _=>rw [show Tryz.prog.underlying 22=some (.slice 33) by kernel_rfl] at h; cases h
   | one hd =>
    obtain ⟨l,rfl,hl⟩:=uQuads (e:=33) (s0:=9) (s:=25) (by kernel_rfl) (by kernel_rfl) (by kernel_rfl) (by kernel_rfl) (by kernel_rfl) (by kernel_rfl) (by kernel_rfl) hd
    exact ⟨l,rfl,hl⟩
  obtain ⟨l0,rfl,hl0⟩:=q0
  exact law_SurveyFits lib0 cs0 awake0 l0 hl0
theorem surveyFits_closed:joinedFacts Tryz.pinned.checked.prog 3 Tryz.f3 Rows.surveyFitsSpec Rows.surveyFitsRow=true:=by kernel_rfl
theorem surveyFits_wrap:Tryz.f3.isWrapper Tryz.pinned.checked.prog Rows.surveyFitsRow.wrapper Rows.surveyFitsRow.mainSum:=by unfold Func.isWrapper; first | (rw [if_pos (by decide +kernel)]; kernel_rfl) | (rw [if_neg (by decide +kernel)]; exact ⟨rfl,rfl⟩)
theorem surveyFits_named:Tryz.pinned.checked.prog.funcNamed Rows.surveyFitsRow.func=some 3:=by kernel_rfl
theorem surveyFits_inst:Tryz.f3.isInstance Tryz.pinned.checked.prog Rows.surveyFitsRow.origin Rows.surveyFitsRow.targs:=of_decide_eq_true (by kernel_rfl)
theorem surveyFits_shaped (os:Os):((World.doorLaid Tryz.prog 400 os).forCall (fun _ _=>0) ⟨#[],#[.slice none 0 0],[]⟩).Shaped Tryz.checked.prog:=World.shaped_of_RefB (by kernel_rfl) (by kernel_rfl)
theorem surveyFits_ok (os:Os):Input.okWideB Tryz.checked.prog ((World.doorLaid Tryz.prog 400 os).forCall (fun _ _=>0) ⟨#[],#[.slice none 0 0],[]⟩) 3 ⟨#[],#[.slice none 0 0],[]⟩=true:=by kernel_rfl
theorem surveyFits_pre (os:Os) {H:Type} (enc:TypeId × Value→H):Rows.surveyFitsSpec.preB enc Tryz.checked.prog Tryz.f3 [] false ((World.doorLaid Tryz.prog 400 os).forCall (fun _ _=>0) ⟨#[],#[.slice none 0 0],[]⟩).memory #[.slice none 0 0] 8=true:=by kernel_rfl
theorem surveyFits_siz (os:Os) {H:Type} (enc:TypeId × Value→H):Rows.surveyFitsSpec.sizedB enc Tryz.checked.prog Tryz.f3 false ((World.doorLaid Tryz.prog 400 os).forCall (fun _ _=>0) ⟨#[],#[.slice none 0 0],[]⟩).memory #[.slice none 0 0] 8=true:=by kernel_rfl
theorem surveyFits_plainT:Tryz.f3.params.toList.all (plainT Tryz.prog 10)=true:=by kernel_rfl
theorem surveyFits_recT:(Tryz.f3.params.toList.all fun t=>Tryz.prog.readableRec t && decide (t < Tryz.prog.types.size))=true:=by kernel_rfl
theorem surveyFits_noInit:Tryz.checked.prog.inits.idxOf? 3=none:=by kernel_rfl
theorem surveyFits_holds:Rows.SurveyFitsSaid :=
 OpenClaim.holds_of_wide 3 Tryz.f3 rfl rfl rfl rfl rfl rfl rfl ⟨rfl,rfl,rfl,rfl,rfl⟩ rfl rfl rfl rfl rfl surveyFits_named Tryz.func3 surveyFits_closed surveyFits_inst surveyFits_wrap
  (fun os started H enc _=>law_lifted 3 Tryz.f3 Rows.surveyFitsSpec os started Tryz.func3 surveyFits_noInit (by kernel_rfl) rfl
   (fun ds h=>by
    match ds,h with
    | [d0],_=>rfl)
   surveyFits_plainT surveyFits_recT
   (ChangeSpec.witness_shaped (enc:=enc) (C:=Tryz.checked) (os:=os) (X:=fun w _=>laidMetH Tryz.prog laidL w) false (World.doorLaid Tryz.prog 400 os) #[.slice none 0 0] 8 rfl (surveyFits_shaped os) (surveyFits_ok os) (surveyFits_pre os enc) (surveyFits_siz os enc) (door_met os _))
   surveyFits_law)
theorem surveyFits_wf:Rows.surveyFitsRow.wfByText (OpenSpec.ofChange Rows.surveyFitsSpec)=true:=by kernel_rfl
theorem surveyFits_main:Tryz.pinned.checked.prog.mainIs=some (true, "34a0481afcf75797110d58762a04f3f299690938753691ef14695558ba56f4b3".toList):=by kernel_rfl
theorem surveyFits_goes:false=Rows.surveyFitsRow.goesBy Tryz.pinned.checked.prog:=by kernel_rfl
theorem surveyFits_looks:true=Tryz.pinned.checked.prog.looks []:=by kernel_rfl
theorem surveyFits_card:Rows.SurveyFitsCardSaid :=
 Claim7.holds_tied_plain_at .later [] laidK true (true, "34a0481afcf75797110d58762a04f3f299690938753691ef14695558ba56f4b3") true
  surveyFits_holds (fun _ h=>by cases h) surveyFits_wf (fun _ h=>by cases h) surveyFits_row_tie rfl ⟨rfl,rfl⟩ surveyFits_main rfl
  (fun f fn hf hfn=>by
   obtain rfl:f=3:=(Option.some.inj (surveyFits_named.symm.trans hf)).symm
   obtain rfl:fn=Tryz.f3:=(Option.some.inj (Tryz.func3.symm.trans hfn)).symm
   exact ⟨surveyFits_looks,fun j t ht=>by
    rw [Tryz.params3] at ht
    rcases j with _ | j
    · obtain rfl:22=t:=by simpa using ht
      exact (show Tryz.prog.wantsStandIn 22=false by kernel_rfl)
    · simp at ht
   ⟩)
  surveyFits_goes
end Go.Proofs.YtgkchlchkdecfaaGreatDoor
