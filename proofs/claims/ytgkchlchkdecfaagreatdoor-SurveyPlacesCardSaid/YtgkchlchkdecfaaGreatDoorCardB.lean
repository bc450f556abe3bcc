/- SurveyPlaces: Differences and At return what the definitions specify for any plane; the row and the card. -/
import Derived.Test.YtgkchlchkdecfaaGreatDoorCardBLaw
set_option linter.unusedSectionVars false
set_option linter.unusedVariables false
set_option linter.unusedSimpArgs false
namespace Go.Proofs.YtgkchlchkdecfaaGreatDoor
open Go Go.Proofs Go.ChangeShapes Go.WideShapes Go.ChangeAt Go.RowKit Gev Gb
set_option maxRecDepth 100000
theorem surveyPlaces_law:∀ us,AvsOf Tryz.prog Tryz.f4.params.toList us→Gev.Fn E0 4 us (.c (.bool true)):=by
 intro us hu
 rw [Tryz.params4] at hu
 match us,hu with
 | [a0,a1,a2,a3],⟨h0,h1,h2,h3,_⟩ =>
  have q0:∃ l,a0=.c (.list (R4 l))∧l.length≤9223372036854775807:=by
   cases h0 with
   | agg h _=>rw [show Tryz.prog.underlying 22=some (.slice 33) by kernel_rfl] at h; cases h
   | one hd =>
    obtain ⟨l,rfl,hl⟩:=uQuads (e:=33) (s0:=9) (s:=25) (by kernel_rfl) (by kernel_rfl) (by kernel_rfl) (by kernel_rfl) (by kernel_rfl) (by kernel_rfl) (by kernel_rfl) hd
    exact ⟨l,rfl,hl⟩
  obtain ⟨l0,rfl,hl0⟩:=q0
  have q1:∃ p e s t,a1=.agg [.str (B p),.str (B e),.str (B s),.str (B t)]:=by
   cases h1 with
   | agg _ hd=>obtain ⟨p,e,s,t,rfl⟩:=uQuad (s0:=25) (s:=25) (by kernel_rfl) (by kernel_rfl) (by kernel_rfl) (by kernel_rfl) (by kernel_rfl) (by kernel_rfl) hd; exact ⟨p,e,s,t,rfl⟩
   | one hd=>have:=(uStruct (l:=[(0,25),(1,25),(2,25),(3,25)]) (by kernel_rfl) hd).1; rw [show Tryz.prog.cellsOf 27=4 by kernel_rfl] at this; cases this
  obtain ⟨p1,e1,s1,t1,rfl⟩:=q1
  have q2:∃ p,a2=.c (.str (B p)):=by
   cases h2 with
   | agg h _=>rw [show Tryz.prog.underlying 25=some .string by kernel_rfl] at h; cases h
   | one hd=>obtain ⟨p,rfl⟩:=uText (by kernel_rfl) hd; exact ⟨p,rfl⟩
  obtain ⟨p2,rfl⟩:=q2
  have q3:∃ p,a3=.c (.str (B p)):=by
   cases h3 with
   | agg h _=>rw [show Tryz.prog.underlying 25=some .string by kernel_rfl] at h; cases h
   | one hd=>obtain ⟨p,rfl⟩:=uText (by kernel_rfl) hd; exact ⟨p,rfl⟩
  obtain ⟨p3,rfl⟩:=q3
  exact law_SurveyPlaces lib0 cs0 awake0 l0 p1 e1 s1 t1 p2 p3 hl0
theorem surveyPlaces_closed:joinedFacts Tryz.pinned.checked.prog 4 Tryz.f4 Rows.surveyPlacesSpec Rows.surveyPlacesRow=true:=by kernel_rfl
theorem surveyPlaces_wrap:Tryz.f4.isWrapper Tryz.pinned.checked.prog Rows.surveyPlacesRow.wrapper Rows.surveyPlacesRow.mainSum:=by unfold Func.isWrapper; first | (rw [if_pos (by decide +kernel)]; kernel_rfl) | (rw [if_neg (by decide +kernel)]; exact ⟨rfl,rfl⟩)
theorem surveyPlaces_named:Tryz.pinned.checked.prog.funcNamed Rows.surveyPlacesRow.func=some 4:=by kernel_rfl
theorem surveyPlaces_inst:Tryz.f4.isInstance Tryz.pinned.checked.prog Rows.surveyPlacesRow.origin Rows.surveyPlacesRow.targs:=of_decide_eq_true (by kernel_rfl)
theorem surveyPlaces_shaped (os:Os):((World.doorLaid Tryz.prog 400 os).forCall (fun _ _=>0) ⟨#[],#[.slice none 0 0,.agg #[.string ⟨#[]⟩,.string ⟨#[]⟩,.string ⟨#[]⟩,.string ⟨#[]⟩],.string ⟨#[]⟩,.string ⟨#[]⟩],[]⟩).Shaped Tryz.checked.prog:=World.shaped_of_RefB (by kernel_rfl) (by kernel_rfl)
theorem surveyPlaces_ok (os:Os):Input.okWideB Tryz.checked.prog ((World.doorLaid Tryz.prog 400 os).forCall (fun _ _=>0) ⟨#[],#[.slice none 0 0,.agg #[.string ⟨#[]⟩,.string ⟨#[]⟩,.string ⟨#[]⟩,.string ⟨#[]⟩],.string ⟨#[]⟩,.string ⟨#[]⟩],[]⟩) 4 ⟨#[],#[.slice none 0 0,.agg #[.string ⟨#[]⟩,.string ⟨#[]⟩,.string ⟨#[]⟩,.string ⟨#[]⟩],.string ⟨#[]⟩,.string ⟨#[]⟩],[]⟩=true:=by kernel_rfl
theorem surveyPlaces_pre (os:Os) {H:Type} (enc:TypeId × Value→H):Rows.surveyPlacesSpec.preB enc Tryz.checked.prog Tryz.f4 [] false ((World.doorLaid Tryz.prog 400 os).forCall (fun _ _=>0) ⟨#[],#[.slice none 0 0,.agg #[.string ⟨#[]⟩,.string ⟨#[]⟩,.string ⟨#[]⟩,.string ⟨#[]⟩],.string ⟨#[]⟩,.string ⟨#[]⟩],[]⟩).memory #[.slice none 0 0,.agg #[.string ⟨#[]⟩,.string ⟨#[]⟩,.string ⟨#[]⟩,.string ⟨#[]⟩],.string ⟨#[]⟩,.string ⟨#[]⟩] 8=true:=by kernel_rfl
theorem surveyPlaces_siz (os:Os) {H:Type} (enc:TypeId × Value→H):Rows.surveyPlacesSpec.sizedB enc Tryz.checked.prog Tryz.f4 false ((World.doorLaid Tryz.prog 400 os).forCall (fun _ _=>0) ⟨#[],#[.slice none 0 0,.agg #[.string ⟨#[]⟩,.string ⟨#[]⟩,.string ⟨#[]⟩,.string ⟨#[]⟩],.string ⟨#[]⟩,.string ⟨#[]⟩],[]⟩).memory #[.slice none 0 0,.agg #[.string ⟨#[]⟩,.string ⟨#[]⟩,.string ⟨#[]⟩,.string ⟨#[]⟩],.string ⟨#[]⟩,.string ⟨#[]⟩] 8=true:=by kernel_rfl
theorem surveyPlaces_plainT:Tryz.f4.params.toList.all (plainT Tryz.prog 10)=true:=by kernel_rfl
theorem surveyPlaces_recT:(Tryz.f4.params.toList.all fun t=>Tryz.prog.readableRec t && decide (t < Tryz.prog.types.size))=true:=by kernel_rfl
theorem surveyPlaces_noInit:Tryz.checked.prog.inits.idxOf? 4=none:=by kernel_rfl
theorem surveyPlaces_holds:Rows.SurveyPlacesSaid :=
 OpenClaim.holds_of_wide 4 Tryz.f4 rfl rfl rfl rfl rfl rfl rfl ⟨rfl,rfl,rfl,rfl,rfl⟩ rfl rfl rfl rfl rfl surveyPlaces_named Tryz.func4 surveyPlaces_closed surveyPlaces_inst surveyPlaces_wrap
  (fun os started H enc _=>law_lifted 4 Tryz.f4 Rows.surveyPlacesSpec os started Tryz.func4 surveyPlaces_noInit (by kernel_rfl) rfl
   (fun ds h=>by
    match ds,h with
    | [d0,d1,d2,d3],_=>rfl)
   surveyPlaces_plainT surveyPlaces_recT
   (ChangeSpec.witness_shaped (enc:=enc) (C:=Tryz.checked) (os:=os) (X:=fun w _=>laidMetH Tryz.prog laidL w) false (World.doorLaid Tryz.prog 400 os) #[.slice none 0 0,.agg #[.string ⟨#[]⟩,.string ⟨#[]⟩,.string ⟨#[]⟩,.string ⟨#[]⟩],.string ⟨#[]⟩,.string ⟨#[]⟩] 8 rfl (surveyPlaces_shaped os) (surveyPlaces_ok os) (surveyPlaces_pre os enc) (surveyPlaces_siz os enc) (door_met os _))
   surveyPlaces_law)
theorem surveyPlaces_wf:Rows.surveyPlacesRow.wfByText (OpenSpec.ofChange Rows.surveyPlacesSpec)=true:=by kernel_rfl
theorem surveyPlaces_main:Tryz.pinned.checked.prog.mainIs=some (true, "34a0481afcf75797110d58762a04f3f299690938753691ef14695558ba56f4b3".toList):=by kernel_rfl
theorem surveyPlaces_goes:false=Rows.surveyPlacesRow.goesBy Tryz.pinned.checked.prog:=by kernel_rfl
theorem surveyPlaces_looks:true=Tryz.pinned.checked.prog.looks []:=by kernel_rfl
theorem surveyPlaces_card:Rows.SurveyPlacesCardSaid :=
 Claim7.holds_tied_plain_at .later [] laidK true (true, "34a0481afcf75797110d58762a04f3f299690938753691ef14695558ba56f4b3") true
  surveyPlaces_holds (fun _ h=>by cases h) surveyPlaces_wf (fun _ h=>by cases h) surveyPlaces_row_tie rfl ⟨rfl,rfl⟩ surveyPlaces_main rfl
  (fun f fn hf hfn=>by
   obtain rfl:f=4:=(Option.some.inj (surveyPlaces_named.symm.trans hf)).symm
   obtain rfl:fn=Tryz.f4:=(Option.some.inj (Tryz.func4.symm.trans hfn)).symm
   exact ⟨surveyPlaces_looks,fun j t ht=>by
    rw [Tryz.params4] at ht
    rcases j with _ | _ | _ | _ | j
    · obtain rfl:22=t:=by simpa using ht
      exact (show Tryz.prog.wantsStandIn 22=false by kernel_rfl)
    · obtain rfl:27=t:=by simpa using ht
      exact (show Tryz.prog.wantsStandIn 27=false by kernel_rfl)
    · obtain rfl:25=t:=by simpa using ht
      exact (show Tryz.prog.wantsStandIn 25=false by kernel_rfl)
    · obtain rfl:25=t:=by simpa using ht
      exact (show Tryz.prog.wantsStandIn 25=false by kernel_rfl)
    · simp at ht
   ⟩)
  surveyPlaces_goes
end Go.Proofs.YtgkchlchkdecfaaGreatDoor
