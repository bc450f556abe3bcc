/- SurveyFlat: marks in a plane are fitted by it; the row and the card. -/
import Derived.Test.YtgkchlchkdecfaaGreatDoorCardFLaw
set_option linter.unusedSectionVars false
set_option linter.unusedVariables false
set_option linter.unusedSimpArgs false
namespace Go.Proofs.YtgkchlchkdecfaaGreatDoor
open Go Go.Proofs Go.ChangeShapes Go.WideShapes Go.ChangeAt Go.RowKit Gev Gb
set_option maxRecDepth 100000
theorem surveyFlat_law:∀ us,AvsOf Tryz.prog Tryz.f8.params.toList us→Gev.Fn E0 8 us (.c (.bool true)):=by
 intro us hu
 rw [Tryz.params8] at hu
 match us,hu with
 | [a0,a1],⟨h0,h1,_⟩ =>
  have q0:∃ l,a0=.c (.list (R4 l))∧l.length≤9223372036854775807:=by
   cases h0 with
   | agg h _=>rw [show Tryz.prog.underlying 22=some (.slice 33) by kernel_rfl] at h; cases h
   | one hd =>
    obtain ⟨l,rfl,hl⟩:=uQuads (e:=33) (s0:=9) (s:=25) (by kernel_rfl) (by kernel_rfl) (by kernel_rfl) (by kernel_rfl) (by kernel_rfl) (by kernel_rfl) (by kernel_rfl) hd
    exact ⟨l,rfl,hl⟩
  obtain ⟨l0,rfl,hl0⟩:=q0
  have q1:∃ p e s t,a1=.agg [.str (B p),.str (B e),.str (B s),.str (B t)]:=by
   cases h1 with
   | agg _ hd=>obtain ⟨p,e,s,t,rfl⟩:=uQuad (s0:=25) (s:=25) (by kernel_rfl) (by kernel_rfl) (by kernel_rfl) (by kernel_rfl) (by kernel_rfl) (by kernel_rfl) hd; exact ⟨p,e,s,t,rfl⟩
   | one hd=>have:=(uStruct (l:=[(0,25),(1,25),(2,25),(3,25)]) (by kernel_rfl) hd).1; rw [show Tryz.prog.cellsOf 27=4 by kernel_rfl] at this; cases this
  obtain ⟨p1,e1,s1,t1,rfl⟩:=q1
  exact law_SurveyFlat lib0 cs0 awake0 l0 p1 e1 s1 t1 hl0
theorem surveyFlat_closed:joinedFacts Tryz.pinned.checked.prog 8 Tryz.f8 Rows.surveyFlatSpec Rows.surveyFlatRow=true:=by kernel_rfl
theorem surveyFlat_wrap:Tryz.f8.isWrapper Tryz.pinned.checked.prog Rows.surveyFlatRow.wrapper Rows.surveyFlatRow.mainSum:=by unfold Func.isWrapper; first | (rw [if_pos (by decide +kernel)]; kernel_rfl) | (rw [if_neg (by decide +kernel)]; exact ⟨rfl,rfl⟩)
theorem surveyFlat_named:Tryz.pinned.checked.prog.funcNamed Rows.surveyFlatRow.func=some 8:=by kernel_rfl
theorem surveyFlat_inst:Tryz.f8.isInstance Tryz.pinned.checked.prog Rows.surveyFlatRow.origin Rows.surveyFlatRow.targs:=of_decide_eq_true (by kernel_rfl)
theorem surveyFlat_shaped (os:Os):((World.doorLaid Tryz.prog 400 os).forCall (fun _ _=>0) ⟨#[],#[.slice none 0 0,.agg #[.string ⟨#[]⟩,.string ⟨#[]⟩,.string ⟨#[]⟩,.string ⟨#[]⟩]],[]⟩).Shaped Tryz.checked.prog:=World.shaped_of_RefB (by kernel_rfl) (by kernel_rfl)
theorem surveyFlat_ok (os:Os):Input.okWideB Tryz.checked.prog ((World.doorLaid Tryz.prog 400 os).forCall (fun _ _=>0) ⟨#[],#[.slice none 0 0,.agg #[.string ⟨#[]⟩,.string ⟨#[]⟩,.string ⟨#[]⟩,.string ⟨#[]⟩]],[]⟩) 8 ⟨#[],#[.slice none 0 0,.agg #[.string ⟨#[]⟩,.string ⟨#[]⟩,.string ⟨#[]⟩,.string ⟨#[]⟩]],[]⟩=true:=by kernel_rfl
theorem surveyFlat_pre (os:Os) {H:Type} (enc:TypeId × Value→H):Rows.surveyFlatSpec.preB enc Tryz.checked.prog Tryz.f8 [] false ((World.doorLaid Tryz.prog 400 os).forCall (fun _ _=>0) ⟨#[],#[.slice none 0 0,.agg #[.string ⟨#[]⟩,.string ⟨#[]⟩,.string ⟨#[]⟩,.string ⟨#[]⟩]],[]⟩).memory #[.slice none 0 0,.agg #[.string ⟨#[]⟩,.string ⟨#[]⟩,.string ⟨#[]⟩,.string ⟨#[]⟩]] 8=true:=by kernel_rfl
theorem surveyFlat_siz (os:Os) {H:Type} (enc:TypeId × Value→H):Rows.surveyFlatSpec.sizedB enc Tryz.checked.prog Tryz.f8 false ((World.doorLaid Tryz.prog 400 os).forCall (fun _ _=>0) ⟨#[],#[.slice none 0 0,.agg #[.string ⟨#[]⟩,.string ⟨#[]⟩,.string ⟨#[]⟩,.string ⟨#[]⟩]],[]⟩).memory #[.slice none 0 0,.agg #[.string ⟨#[]⟩,.string ⟨#[]⟩,.string ⟨#[]⟩,.string ⟨#[]⟩]] 8=true:=by kernel_rfl
theorem surveyFlat_plainT:Tryz.f8.params.toList.all (plainT Tryz.prog 10)=true:=by kernel_rfl
theorem surveyFlat_recT:(Tryz.f8.params.toList.all fun t=>Tryz.prog.readableRec t && decide (t < Tryz.prog.types.size))=true:=by kernel_rfl
theorem surveyFlat_noInit:Tryz.checked.prog.inits.idxOf? 8=none:=by kernel_rfl
theorem surveyFlat_holds:Rows.SurveyFlatSaid :=
 OpenClaim.holds_of_wide 8 Tryz.f8 rfl rfl rfl rfl rfl rfl rfl ⟨rfl,rfl,rfl,rfl,rfl⟩ rfl rfl rfl rfl rfl surveyFlat_named Tryz.func8 surveyFlat_closed surveyFlat_inst surveyFlat_wrap
  (fun os started H enc _=>law_lifted 8 Tryz.f8 Rows.surveyFlatSpec os started Tryz.func8 surveyFlat_noInit (by kernel_rfl) rfl
   (fun ds h=>by
    match ds,h with
    | [d0,d1],_=>rfl)
   surveyFlat_plainT surveyFlat_recT
   (ChangeSpec.witness_shaped (enc:=enc) (C:=Tryz.checked) (os:=os) (X:=fun w _=>laidMetH Tryz.prog laidL w) false (World.doorLaid Tryz.prog 400 os) #[.slice none 0 0,.agg #[.string ⟨#[]⟩,.string ⟨#[]⟩,.string ⟨#[]⟩,.string ⟨#[]⟩]] 8 rfl (surveyFlat_shaped os) (surveyFlat_ok os) (surveyFlat_pre os enc) (surveyFlat_siz os enc) (door_met os _))
   surveyFlat_law)
theorem surveyFlat_wf:Rows.surveyFlatRow.wfByText (OpenSpec.ofChange Rows.surveyFlatSpec)=true:=by kernel_rfl
theorem surveyFlat_main:Tryz.pinned.checked.prog.mainIs=some (true, "34a0481afcf75797110d58762a04f3f299690938753691ef14695558ba56f4b3".toList):=by kernel_rfl
theorem surveyFlat_goes:false=Rows.surveyFlatRow.goesBy Tryz.pinned.checked.prog:=by kernel_rfl
theorem surveyFlat_looks:true=Tryz.pinned.checked.prog.looks []:=by kernel_rfl
theorem surveyFlat_card:Rows.SurveyFlatCardSaid :=
 Claim7.holds_tied_plain_at .later [] laidK true (true, "34a0481afcf75797110d58762a04f3f299690938753691ef14695558ba56f4b3") true
  surveyFlat_holds (fun _ h=>by cases h) surveyFlat_wf (fun _ h=>by cases h) surveyFlat_row_tie rfl ⟨rfl,rfl⟩ surveyFlat_main rfl
  (fun f fn hf hfn=>by
   obtain rfl:f=8:=(Option.some.inj (surveyFlat_named.symm.trans hf)).symm
   obtain rfl:fn=Tryz.f8:=(Option.some.inj (Tryz.func8.symm.trans hfn)).symm
   exact ⟨surveyFlat_looks,fun j t ht=>by
    rw [Tryz.params8] at ht
    rcases j with _ | _ | j
    · obtain rfl:22=t:=by simpa using ht
      exact (show Tryz.prog.wantsStandIn 22=false by kernel_rfl)
    · obtain rfl:27=t:=by simpa using ht
      exact (show Tryz.prog.wantsStandIn 27=false by kernel_rfl)
    · simp at ht
   ⟩)
  surveyFlat_goes
end Go.Proofs.YtgkchlchkdecfaaGreatDoor
