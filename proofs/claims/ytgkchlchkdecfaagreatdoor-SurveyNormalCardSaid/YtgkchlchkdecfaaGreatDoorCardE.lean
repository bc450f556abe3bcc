/- SurveyNormal: the differences of the fit have the sum 0, also by X, by Y; the row and the card. -/
import Derived.Test.YtgkchlchkdecfaaGreatDoorCardELaw
set_option linter.unusedSectionVars false
set_option linter.unusedVariables false
set_option linter.unusedSimpArgs false
namespace Go.Proofs.YtgkchlchkdecfaaGreatDoor
open Go Go.Proofs Go.ChangeShapes Go.WideShapes Go.ChangeAt Go.RowKit Gev Gb
set_option maxRecDepth 100000
theorem surveyNormal_law:∀ us,AvsOf Tryz.prog Tryz.f7.params.toList us→Gev.Fn E0 7 us (.c (.bool true)):=by
 intro us hu
 rw [Tryz.params7] at hu
 match us,hu with
 | [a0],⟨h0,_⟩ =>
  have q0:∃ l,a0=.c (.list (R4 l))∧l.length≤9223372036854775807:=by
   cases h0 with
   | agg h _=>rw [show Tryz.prog.underlying 22=some (.slice 33) by kernel_rfl] at h; cases h
   | one hd =>
    obtain ⟨l,rfl,hl⟩:=uQuads (e:=33) (s0:=9) (s:=25) (by kernel_rfl) (by kernel_rfl) (by kernel_rfl) (by kernel_rfl) (by kernel_rfl) (by kernel_rfl) (by kernel_rfl) hd
    exact ⟨l,rfl,hl⟩
  obtain ⟨l0,rfl,hl0⟩:=q0
  exact law_SurveyNormal lib0 cs0 awake0 B_one l0 hl0
theorem surveyNormal_closed:joinedFacts Tryz.pinned.checked.prog 7 Tryz.f7 Rows.surveyNormalSpec Rows.surveyNormalRow=true:=by kernel_rfl
theorem surveyNormal_wrap:Tryz.f7.isWrapper Tryz.pinned.checked.prog Rows.surveyNormalRow.wrapper Rows.surveyNormalRow.mainSum:=by unfold Func.isWrapper; first | (rw [if_pos (by decide +kernel)]; kernel_rfl) | (rw [if_neg (by decide +kernel)]; exact ⟨rfl,rfl⟩)
theorem surveyNormal_named:Tryz.pinned.checked.prog.funcNamed Rows.surveyNormalRow.func=some 7:=by kernel_rfl
theorem surveyNormal_inst:Tryz.f7.isInstance Tryz.pinned.checked.prog Rows.surveyNormalRow.origin Rows.surveyNormalRow.targs:=of_decide_eq_true (by kernel_rfl)
theorem surveyNormal_shaped (os:Os):((World.doorLaid Tryz.prog 400 os).forCall (fun _ _=>0) ⟨#[],#[.slice none 0 0],[]⟩).Shaped Tryz.checked.prog:=World.shaped_of_RefB (by kernel_rfl) (by kernel_rfl)
theorem surveyNormal_ok (os:Os):Input.okWideB Tryz.checked.prog ((World.doorLaid Tryz.prog 400 os).forCall (fun _ _=>0) ⟨#[],#[.slice none 0 0],[]⟩) 7 ⟨#[],#[.slice none 0 0],[]⟩=true:=by kernel_rfl
theorem surveyNormal_pre (os:Os) {H:Type} (enc:TypeId × Value→H):Rows.surveyNormalSpec.preB enc Tryz.checked.prog Tryz.f7 [] false ((World.doorLaid Tryz.prog 400 os).forCall (fun _ _=>0) ⟨#[],#[.slice none 0 0],[]⟩).memory #[.slice none 0 0] 8=true:=by kernel_rfl
theorem surveyNormal_siz (os:Os) {H:Type} (enc:TypeId × Value→H):Rows.surveyNormalSpec.sizedB enc Tryz.checked.prog Tryz.f7 false ((World.doorLaid Tryz.prog 400 os).forCall (fun _ _=>0) ⟨#[],#[.slice none 0 0],[]⟩).memory #[.slice none 0 0] 8=true:=by kernel_rfl
theorem surveyNormal_plainT:Tryz.f7.params.toList.all (plainT Tryz.prog 10)=true:=by kernel_rfl
theorem surveyNormal_recT:(Tryz.f7.params.toList.all fun t=>Tryz.prog.readableRec t && decide (t < Tryz.prog.types.size))=true:=by kernel_rfl
theorem surveyNormal_noInit:Tryz.checked.prog.inits.idxOf? 7=none:=by kernel_rfl
theorem surveyNormal_holds:Rows.SurveyNormalSaid :=
 OpenClaim.holds_of_wide 7 Tryz.f7 rfl rfl rfl rfl rfl rfl rfl ⟨rfl,rfl,rfl,rfl,rfl⟩ rfl rfl rfl rfl rfl surveyNormal_named Tryz.func7 surveyNormal_closed surveyNormal_inst surveyNormal_wrap
  (fun os started H enc _=>law_lifted 7 Tryz.f7 Rows.surveyNormalSpec os started Tryz.func7 surveyNormal_noInit (by kernel_rfl) rfl
   (fun ds h=>by
    match ds,h with
    | [d0],_=>rfl)
   surveyNormal_plainT surveyNormal_recT
   (ChangeSpec.witness_shaped (enc:=enc) (C:=Tryz.checked) (os:=os) (X:=fun w _=>laidMetH Tryz.prog laidL w) false (World.doorLaid Tryz.prog 400 os) #[.slice none 0 0] 8 rfl (surveyNormal_shaped os) (surveyNormal_ok os) (surveyNormal_pre os enc) (surveyNormal_siz os enc) (door_met os _))
   surveyNormal_law)
theorem surveyNormal_wf:Rows.surveyNormalRow.wfByText (OpenSpec.ofChange Rows.surveyNormalSpec)=true:=by kernel_rfl
theorem surveyNormal_main:Tryz.pinned.checked.prog.mainIs=some (true, "34a0481afcf75797110d58762a04f3f299690938753691ef14695558ba56f4b3".toList):=by kernel_rfl
theorem surveyNormal_goes:false=Rows.surveyNormalRow.goesBy Tryz.pinned.checked.prog:=by kernel_rfl
theorem surveyNormal_looks:true=Tryz.pinned.checked.prog.looks []:=by kernel_rfl
theorem surveyNormal_card:Rows.SurveyNormalCardSaid :=
 Claim7.holds_tied_plain_at .later [] laidK true (true, "34a0481afcf75797110d58762a04f3f299690938753691ef14695558ba56f4b3") true
  surveyNormal_holds (fun _ h=>by cases h) surveyNormal_wf (fun _ h=>by cases h) surveyNormal_row_tie rfl ⟨rfl,rfl⟩ surveyNormal_main rfl
  (fun f fn hf hfn=>by
   obtain rfl:f=7:=(Option.some.inj (surveyNormal_named.symm.trans hf)).symm
   obtain rfl:fn=Tryz.f7:=(Option.some.inj (Tryz.func7.symm.trans hfn)).symm
   exact ⟨surveyNormal_looks,fun j t ht=>by
    rw [Tryz.params7] at ht
    rcases j with _ | j
    · obtain rfl:22=t:=by simpa using ht
      exact (show Tryz.prog.wantsStandIn 22=false by kernel_rfl)
    · simp at ht
   ⟩)
  surveyNormal_goes
end Go.Proofs.YtgkchlchkdecfaaGreatDoor
