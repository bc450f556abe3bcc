/- SurveyDeeper: a greater draft never gives a lesser displacement, and a row of the table gives itself; the row and the card. -/
import Derived.Test.YtgkchlchkdecfaaGreatDoorCardHLaw
set_option linter.unusedSectionVars false
set_option linter.unusedVariables false
set_option linter.unusedSimpArgs false
namespace Go.Proofs.YtgkchlchkdecfaaGreatDoor
open Go Go.Proofs Go.ChangeShapes Go.WideShapes Go.ChangeAt Go.RowKit Gev Gb
set_option maxRecDepth 100000
theorem surveyDeeper_law:∀ us,AvsOf Tryz.prog Tryz.f10.params.toList us→Gev.Fn E0 10 us (.c (.bool true)):=by
 intro us hu
 rw [Tryz.params10] at hu
 match us,hu with
 | [a0,a1,a2],⟨h0,h1,h2,_⟩ =>
  have q0:∃ l,a0=.c (.list (R3 l))∧l.length≤9223372036854775807:=by
   cases h0 with
   | agg h _=>rw [show Tryz.prog.underlying 44=some (.slice 46) by kernel_rfl] at h; cases h
   | one hd =>
    obtain ⟨l,rfl,hl⟩:=uTriples (e:=46) (s:=25) (by kernel_rfl) (by kernel_rfl) (by kernel_rfl) (by kernel_rfl) (by kernel_rfl) hd
    exact ⟨l,rfl,hl⟩
  obtain ⟨l0,rfl,hl0⟩:=q0
  have q1:∃ p,a1=.c (.str (B p)):=by
   cases h1 with
   | agg h _=>rw [show Tryz.prog.underlying 25=some .string by kernel_rfl] at h; cases h
   | one hd=>obtain ⟨p,rfl⟩:=uText (by kernel_rfl) hd; exact ⟨p,rfl⟩
  obtain ⟨p1,rfl⟩:=q1
  have q2:∃ p,a2=.c (.str (B p)):=by
   cases h2 with
   | agg h _=>rw [show Tryz.prog.underlying 25=some .string by kernel_rfl] at h; cases h
   | one hd=>obtain ⟨p,rfl⟩:=uText (by kernel_rfl) hd; exact ⟨p,rfl⟩
  obtain ⟨p2,rfl⟩:=q2
  exact law_SurveyDeeper lib0 cs0 awake0 l0 p1 p2 hl0
theorem surveyDeeper_closed:joinedFacts Tryz.pinned.checked.prog 10 Tryz.f10 Rows.surveyDeeperSpec Rows.surveyDeeperRow=true:=by kernel_rfl
theorem surveyDeeper_wrap:Tryz.f10.isWrapper Tryz.pinned.checked.prog Rows.surveyDeeperRow.wrapper Rows.surveyDeeperRow.mainSum:=by unfold Func.isWrapper; first | (rw [if_pos (by decide +kernel)]; kernel_rfl) | (rw [if_neg (by decide +kernel)]; exact ⟨rfl,rfl⟩)
theorem surveyDeeper_named:Tryz.pinned.checked.prog.funcNamed Rows.surveyDeeperRow.func=some 10:=by kernel_rfl
theorem surveyDeeper_inst:Tryz.f10.isInstance Tryz.pinned.checked.prog Rows.surveyDeeperRow.origin Rows.surveyDeeperRow.targs:=of_decide_eq_true (by kernel_rfl)
theorem surveyDeeper_shaped (os:Os):((World.doorLaid Tryz.prog 400 os).forCall (fun _ _=>0) ⟨#[],#[.slice none 0 0,.string ⟨#[]⟩,.string ⟨#[]⟩],[]⟩).Shaped Tryz.checked.prog:=World.shaped_of_RefB (by kernel_rfl) (by kernel_rfl)
theorem surveyDeeper_ok (os:Os):Input.okWideB Tryz.checked.prog ((World.doorLaid Tryz.prog 400 os).forCall (fun _ _=>0) ⟨#[],#[.slice none 0 0,.string ⟨#[]⟩,.string ⟨#[]⟩],[]⟩) 10 ⟨#[],#[.slice none 0 0,.string ⟨#[]⟩,.string ⟨#[]⟩],[]⟩=true:=by kernel_rfl
theorem surveyDeeper_pre (os:Os) {H:Type} (enc:TypeId × Value→H):Rows.surveyDeeperSpec.preB enc Tryz.checked.prog Tryz.f10 [] false ((World.doorLaid Tryz.prog 400 os).forCall (fun _ _=>0) ⟨#[],#[.slice none 0 0,.string ⟨#[]⟩,.string ⟨#[]⟩],[]⟩).memory #[.slice none 0 0,.string ⟨#[]⟩,.string ⟨#[]⟩] 8=true:=by kernel_rfl
theorem surveyDeeper_siz (os:Os) {H:Type} (enc:TypeId × Value→H):Rows.surveyDeeperSpec.sizedB enc Tryz.checked.prog Tryz.f10 false ((World.doorLaid Tryz.prog 400 os).forCall (fun _ _=>0) ⟨#[],#[.slice none 0 0,.string ⟨#[]⟩,.string ⟨#[]⟩],[]⟩).memory #[.slice none 0 0,.string ⟨#[]⟩,.string ⟨#[]⟩] 8=true:=by kernel_rfl
theorem surveyDeeper_plainT:Tryz.f10.params.toList.all (plainT Tryz.prog 10)=true:=by kernel_rfl
theorem surveyDeeper_recT:(Tryz.f10.params.toList.all fun t=>Tryz.prog.readableRec t && decide (t < Tryz.prog.types.size))=true:=by kernel_rfl
theorem surveyDeeper_noInit:Tryz.checked.prog.inits.idxOf? 10=none:=by kernel_rfl
theorem surveyDeeper_holds:Rows.SurveyDeeperSaid :=
 OpenClaim.holds_of_wide 10 Tryz.f10 rfl rfl rfl rfl rfl rfl rfl ⟨rfl,rfl,rfl,rfl,rfl⟩ rfl rfl rfl rfl rfl surveyDeeper_named Tryz.func10 surveyDeeper_closed surveyDeeper_inst surveyDeeper_wrap
  (fun os started H enc _=>law_lifted 10 Tryz.f10 Rows.surveyDeeperSpec os started Tryz.func10 surveyDeeper_noInit (by kernel_rfl) rfl
   (fun ds h=>by
    match ds,h with
    | [d0,d1,d2],_=>rfl)
   surveyDeeper_plainT surveyDeeper_recT
   (ChangeSpec.witness_shaped (enc:=enc) (C:=Tryz.checked) (os:=os) (X:=fun w _=>laidMetH Tryz.prog laidL w) false (World.doorLaid Tryz.prog 400 os) #[.slice none 0 0,.string ⟨#[]⟩,.string ⟨#[]⟩] 8 rfl (surveyDeeper_shaped os) (surveyDeeper_ok os) (surveyDeeper_pre os enc) (surveyDeeper_siz os enc) (door_met os _))
   surveyDeeper_law)
theorem surveyDeeper_wf:Rows.surveyDeeperRow.wfByText (OpenSpec.ofChange Rows.surveyDeeperSpec)=true:=by kernel_rfl
theorem surveyDeeper_main:Tryz.pinned.checked.prog.mainIs=some (true, "34a0481afcf75797110d58762a04f3f299690938753691ef14695558ba56f4b3".toList):=by kernel_rfl
theorem surveyDeeper_goes:false=Rows.surveyDeeperRow.goesBy Tryz.pinned.checked.prog:=by kernel_rfl
theorem surveyDeeper_looks:true=Tryz.pinned.checked.prog.looks []:=by kernel_rfl
theorem surveyDeeper_card:Rows.SurveyDeeperCardSaid :=
 Claim7.holds_tied_plain_at .later [] laidK true (true, "34a0481afcf75797110d58762a04f3f299690938753691ef14695558ba56f4b3") true
  surveyDeeper_holds (fun _ h=>by cases h) surveyDeeper_wf (fun _ h=>by cases h) surveyDeeper_row_tie rfl ⟨rfl,rfl⟩ surveyDeeper_main rfl
  (fun f fn hf hfn=>by
   obtain rfl:f=10:=(Option.some.inj (surveyDeeper_named.symm.trans hf)).symm
   obtain rfl:fn=Tryz.f10:=(Option.some.inj (Tryz.func10.symm.trans hfn)).symm
   exact ⟨surveyDeeper_looks,fun j t ht=>by
    rw [Tryz.params10] at ht
    rcases j with _ | _ | _ | j
    · obtain rfl:44=t:=by simpa using ht
      exact (show Tryz.prog.wantsStandIn 44=false by kernel_rfl)
    · obtain rfl:25=t:=by simpa using ht
      exact (show Tryz.prog.wantsStandIn 25=false by kernel_rfl)
    · obtain rfl:25=t:=by simpa using ht
      exact (show Tryz.prog.wantsStandIn 25=false by kernel_rfl)
    · simp at ht
   ⟩)
  surveyDeeper_goes
end Go.Proofs.YtgkchlchkdecfaaGreatDoor
