/- SurveyWhole: Lookup and Survey return what the definitions specify; the row and the card. -/
import Derived.Test.YtgkchlchkdecfaaGreatDoorCardCLaw
set_option linter.unusedSectionVars false
set_option linter.unusedVariables false
set_option linter.unusedSimpArgs false
namespace Go.Proofs.YtgkchlchkdecfaaGreatDoor
open Go Go.Proofs Go.ChangeShapes Go.WideShapes Go.ChangeAt Go.RowKit Gev Gb
set_option maxRecDepth 100000
theorem surveyWhole_law:∀ us,AvsOf Tryz.prog Tryz.f5.params.toList us→Gev.Fn E0 5 us (.c (.bool true)):=by
 intro us hu
 rw [Tryz.params5] at hu
 match us,hu with
 | [a0,a1,a2,a3,a4,a5],⟨h0,h1,h2,h3,h4,h5,_⟩ =>
  have q0:∃ l,a0=.c (.list (R4 l))∧l.length≤9223372036854775807:=by
   cases h0 with
   | agg h _=>rw [show Tryz.prog.underlying 22=some (.slice 33) by kernel_rfl] at h; cases h
   | one hd =>
    obtain ⟨l,rfl,hl⟩:=uQuads (e:=33) (s0:=9) (s:=25) (by kernel_rfl) (by kernel_rfl) (by kernel_rfl) (by kernel_rfl) (by kernel_rfl) (by kernel_rfl) (by kernel_rfl) hd
    exact ⟨l,rfl,hl⟩
  obtain ⟨l0,rfl,hl0⟩:=q0
  have q1:∃ l,a1=.c (.list (R3 l))∧l.length≤9223372036854775807:=by
   cases h1 with
   | agg h _=>rw [show Tryz.prog.underlying 44=some (.slice 46) by kernel_rfl] at h; cases h
   | one hd =>
    obtain ⟨l,rfl,hl⟩:=uTriples (e:=46) (s:=25) (by kernel_rfl) (by kernel_rfl) (by kernel_rfl) (by kernel_rfl) (by kernel_rfl) hd
    exact ⟨l,rfl,hl⟩
  obtain ⟨l1,rfl,hl1⟩:=q1
  have q2:∃ p,a2=.c (.str (B p)):=by
   cases h2 with
   | agg h _=>rw [show Tryz.prog.underlying 25=some .string by kernel_rfl] at h; cases h
   | one hd=>obtain ⟨p,rfl⟩:=uText (by kernel_rfl) hd; exact ⟨p,rfl⟩
  obtain ⟨p2,rfl⟩:=q2
  have q3:∃ p,a3=.c (.str (B p)):=by
   cases h3 with
   | agg h _=>rw [show Tryz.prog.underlying 25=some .string by kernel_rfl] at h; cases h
   | one hd=>obtain ⟨p,rfl⟩:=uText (by kernel_rfl) hd; exact ⟨p,rfl⟩
  obtain ⟨p3,rfl⟩:=q3
  have q4:∃ p,a4=.c (.str (B p)):=by
   cases h4 with
   | agg h _=>rw [show Tryz.prog.underlying 25=some .string by kernel_rfl] at h; cases h
   | one hd=>obtain ⟨p,rfl⟩:=uText (by kernel_rfl) hd; exact ⟨p,rfl⟩
  obtain ⟨p4,rfl⟩:=q4
  have q5:∃ p,a5=.c (.str (B p)):=by
   cases h5 with
   | agg h _=>rw [show Tryz.prog.underlying 25=some .string by kernel_rfl] at h; cases h
   | one hd=>obtain ⟨p,rfl⟩:=uText (by kernel_rfl) hd; exact ⟨p,rfl⟩
  obtain ⟨p5,rfl⟩:=q5
  exact law_SurveyWhole lib0 cs0 awake0 l0 l1 p2 p3 p4 p5 hl0 hl1
theorem surveyWhole_closed:joinedFacts Tryz.pinned.checked.prog 5 Tryz.f5 Rows.surveyWholeSpec Rows.surveyWholeRow=true:=by kernel_rfl
theorem surveyWhole_wrap:Tryz.f5.isWrapper Tryz.pinned.checked.prog Rows.surveyWholeRow.wrapper Rows.surveyWholeRow.mainSum:=by unfold Func.isWrapper; first | (rw [if_pos (by decide +kernel)]; kernel_rfl) | (rw [if_neg (by decide +kernel)]; exact ⟨rfl,rfl⟩)
theorem surveyWhole_named:Tryz.pinned.checked.prog.funcNamed Rows.surveyWholeRow.func=some 5:=by kernel_rfl
theorem surveyWhole_inst:Tryz.f5.isInstance Tryz.pinned.checked.prog Rows.surveyWholeRow.origin Rows.surveyWholeRow.targs:=of_decide_eq_true (by kernel_rfl)
theorem surveyWhole_shaped (os:Os):((World.doorLaid Tryz.prog 400 os).forCall (fun _ _=>0) ⟨#[],#[.slice none 0 0,.slice none 0 0,.string ⟨#[]⟩,.string ⟨#[]⟩,.string ⟨#[]⟩,.string ⟨#[]⟩],[]⟩).Shaped Tryz.checked.prog:=World.shaped_of_RefB (by kernel_rfl) (by kernel_rfl)
theorem surveyWhole_ok (os:Os):Input.okWideB Tryz.checked.prog ((World.doorLaid Tryz.prog 400 os).forCall (fun _ _=>0) ⟨#[],#[.slice none 0 0,.slice none 0 0,.string ⟨#[]⟩,.string ⟨#[]⟩,.string ⟨#[]⟩,.string ⟨#[]⟩],[]⟩) 5 ⟨#[],#[.slice none 0 0,.slice none 0 0,.string ⟨#[]⟩,.string ⟨#[]⟩,.string ⟨#[]⟩,.string ⟨#[]⟩],[]⟩=true:=by kernel_rfl
theorem surveyWhole_pre (os:Os) {H:Type} (enc:TypeId × Value→H):Rows.surveyWholeSpec.preB enc Tryz.checked.prog Tryz.f5 [] false ((World.doorLaid Tryz.prog 400 os).forCall (fun _ _=>0) ⟨#[],#[.slice none 0 0,.slice none 0 0,.string ⟨#[]⟩,.string ⟨#[]⟩,.string ⟨#[]⟩,.string ⟨#[]⟩],[]⟩).memory #[.slice none 0 0,.slice none 0 0,.string ⟨#[]⟩,.string ⟨#[]⟩,.string ⟨#[]⟩,.string ⟨#[]⟩] 8=true:=by kernel_rfl
theorem surveyWhole_siz (os:Os) {H:Type} (enc:TypeId × Value→H):Rows.surveyWholeSpec.sizedB enc Tryz.checked.prog Tryz.f5 false ((World.doorLaid Tryz.prog 400 os).forCall (fun _ _=>0) ⟨#[],#[.slice none 0 0,.slice none 0 0,.string ⟨#[]⟩,.string ⟨#[]⟩,.string ⟨#[]⟩,.string ⟨#[]⟩],[]⟩).memory #[.slice none 0 0,.slice none 0 0,.string ⟨#[]⟩,.string ⟨#[]⟩,.string ⟨#[]⟩,.string ⟨#[]⟩] 8=true:=by kernel_rfl
theorem surveyWhole_plainT:Tryz.f5.params.toList.all (plainT Tryz.prog 10)=true:=by kernel_rfl
theorem surveyWhole_recT:(Tryz.f5.params.toList.all fun t=>Tryz.prog.readableRec t && decide (t < Tryz.prog.types.size))=true:=by kernel_rfl
theorem surveyWhole_noInit:Tryz.checked.prog.inits.idxOf? 5=none:=by kernel_rfl
theorem surveyWhole_holds:Rows.SurveyWholeSaid :=
 OpenClaim.holds_of_wide 5 Tryz.f5 rfl rfl rfl rfl rfl rfl rfl ⟨rfl,rfl,rfl,rfl,rfl⟩ rfl rfl rfl rfl rfl surveyWhole_named Tryz.func5 surveyWhole_closed surveyWhole_inst surveyWhole_wrap
  (fun os started H enc _=>law_lifted 5 Tryz.f5 Rows.surveyWholeSpec os started Tryz.func5 surveyWhole_noInit (by kernel_rfl) rfl
   (fun ds h=>by
    match ds,h with
    | [d0,d1,d2,d3,d4,d5],_=>rfl)
   surveyWhole_plainT surveyWhole_recT
   (ChangeSpec.witness_shaped (enc:=enc) (C:=Tryz.checked) (os:=os) (X:=fun w _=>laidMetH Tryz.prog laidL w) false (World.doorLaid Tryz.prog 400 os) #[.slice none 0 0,.slice none 0 0,.string ⟨#[]⟩,.string ⟨#[]⟩,.string ⟨#[]⟩,.string ⟨#[]⟩] 8 rfl (surveyWhole_shaped os) (surveyWhole_ok os) (surveyWhole_pre os enc) (surveyWhole_siz os enc) (door_met os _))
   surveyWhole_law)
theorem surveyWhole_wf:Rows.surveyWholeRow.wfByText (OpenSpec.ofChange Rows.surveyWholeSpec)=true:=by kernel_rfl
theorem surveyWhole_main:Tryz.pinned.checked.prog.mainIs=some (true, "34a0481afcf75797110d58762a04f3f299690938753691ef14695558ba56f4b3".toList):=by kernel_rfl
theorem surveyWhole_goes:false=Rows.surveyWholeRow.goesBy Tryz.pinned.checked.prog:=by kernel_rfl
theorem surveyWhole_looks:true=Tryz.pinned.checked.prog.looks []:=by kernel_rfl
theorem surveyWhole_card:Rows.SurveyWholeCardSaid :=
 Claim7.holds_tied_plain_at .later [] laidK true (true, "34a0481afcf75797110d58762a04f3f299690938753691ef14695558ba56f4b3") true
  surveyWhole_holds (fun _ h=>by cases h) surveyWhole_wf (fun _ h=>by cases h) surveyWhole_row_tie rfl ⟨rfl,rfl⟩ surveyWhole_main rfl
  (fun f fn hf hfn=>by
   obtain rfl:f=5:=(Option.some.inj (surveyWhole_named.symm.trans hf)).symm
   obtain rfl:fn=Tryz.f5:=(Option.some.inj (Tryz.func5.symm.trans hfn)).symm
   exact ⟨surveyWhole_looks,fun j t ht=>by
    rw [Tryz.params5] at ht
    rcases j with _ | _ | _ | _ | _ | _ | j
    · obtain rfl:22=t:=by simpa using ht
      exact (show Tryz.prog.wantsStandIn 22=false by kernel_rfl)
    · obtain rfl:44=t:=by simpa using ht
      exact (show Tryz.prog.wantsStandIn 44=false by kernel_rfl)
    · obtain rfl:25=t:=by simpa using ht
      exact (show Tryz.prog.wantsStandIn 25=false by kernel_rfl)
    · obtain rfl:25=t:=by simpa using ht
      exact (show Tryz.prog.wantsStandIn 25=false by kernel_rfl)
    · obtain rfl:25=t:=by simpa using ht
      exact (show Tryz.prog.wantsStandIn 25=false by kernel_rfl)
    · obtain rfl:25=t:=by simpa using ht
      exact (show Tryz.prog.wantsStandIn 25=false by kernel_rfl)
    · simp at ht
   ⟩)
  surveyWhole_goes
end Go.Proofs.YtgkchlchkdecfaaGreatDoor
