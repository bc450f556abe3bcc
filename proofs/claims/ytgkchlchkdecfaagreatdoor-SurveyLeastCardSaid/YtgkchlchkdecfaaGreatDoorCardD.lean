/- SurveyLeast: no plane has a lesser sum of squares than the fit; the row and the card. -/
import Derived.Test.YtgkchlchkdecfaaGreatDoorCardDLaw
set_option linter.unusedSectionVars false
set_option linter.unusedVariables false
set_option linter.unusedSimpArgs false
namespace Go.Proofs.YtgkchlchkdecfaaGreatDoor
open Go Go.Proofs Go.ChangeShapes Go.WideShapes Go.ChangeAt Go.RowKit Gev Gb
set_option maxRecDepth 100000
theorem surveyLeast_law:∀ us,AvsOf Tryz.prog Tryz.f6.params.toList us→Gev.Fn E0 6 us (.c (.bool true)):=by
 intro us hu
 rw [Tryz.params6] at hu
 match us,hu with
 | [a0,a1],⟨h0,h1,_⟩ =>
  have q0:∃ l,a0=.c (.list (R4 l))∧l.length≤9223372036854775807:=by
   cases h0 with
   | agg h _=>rw [show Tryz.prog.underlying 22=some (.slice 33) by kernel_rfl] at h; cases h
   | one hd =>
    obtain ⟨l,rfl,hl⟩:=uQuads (e:=33) (s0:=9) (s:=25) (by kernel_rfl) (by kernel_rfl) (by kernel_rfl) (by kernel_rfl) (by kernel_rfl) (by kernel_rfl) (by kernel_rfl) hd
    exact ⟨l,rfl,hl⟩
  obtain ⟨l0,rfl,hl0⟩:=q0
  have q1:∃ p e s t,a1=.agg [.str (B p),.str (B e),.str (B s),.str (B t)]:=by
   cases h1 with
   | agg _ hd=>obtain ⟨p,e,s,t,rfl⟩:=uQuad (s0:=25) (s:=25) (by kernel_rfl) (by kernel_rfl) (by kernel_rfl) (by kernel_rfl) (by kernel_rfl) (by kernel_rfl) hd; exact ⟨p,e,s,t,rfl⟩
   | one hd=>have:=(uStruct (l:=[(0,25),(1,25),(2,25),(3,25)]) (by kernel_rfl) hd).1; rw [show Tryz.prog.cellsOf 27=4 by kernel_rfl] at this; cases this
  obtain ⟨p1,e1,s1,t1,rfl⟩:=q1
  exact law_SurveyLeast lib0 cs0 awake0 l0 p1 e1 s1 t1 hl0
theorem surveyLeast_closed:joinedFacts Tryz.pinned.checked.prog 6 Tryz.f6 Rows.surveyLeastSpec Rows.surveyLeastRow=true:=by kernel_rfl
theorem surveyLeast_wrap:Tryz.f6.isWrapper Tryz.pinned.checked.prog Rows.surveyLeastRow.wrapper Rows.surveyLeastRow.mainSum:=by unfold Func.isWrapper; first | (rw [if_pos (by decide +kernel)]; kernel_rfl) | (rw [if_neg (by decide +kernel)]; exact ⟨rfl,rfl⟩)
theorem surveyLeast_named:Tryz.pinned.checked.prog.funcNamed Rows.surveyLeastRow.func=some 6:=by kernel_rfl
theorem surveyLeast_inst:Tryz.f6.isInstance Tryz.pinned.checked.prog Rows.surveyLeastRow.origin Rows.surveyLeastRow.targs:=of_decide_eq_true (by kernel_rfl)
theorem surveyLeast_shaped (os:Os):((World.doorLaid Tryz.prog 400 os).forCall (fun _ _=>0) ⟨#[],#[.slice none 0 0,.agg #[.string ⟨#[]⟩,.string ⟨#[]⟩,.string ⟨#[]⟩,.string ⟨#[]⟩]],[]⟩).Shaped Tryz.checked.prog:=World.shaped_of_RefB (by kernel_rfl) (by kernel_rfl)
theorem surveyLeast_ok (os:Os):Input.okWideB Tryz.checked.prog ((World.doorLaid Tryz.prog 400 os).forCall (fun _ _=>0) ⟨#[],#[.slice none 0 0,.agg #[.string ⟨#[]⟩,.string ⟨#[]⟩,.string ⟨#[]⟩,.string ⟨#[]⟩]],[]⟩) 6 ⟨#[],#[.slice none 0 0,.agg #[.string ⟨#[]⟩,.string ⟨#[]⟩,.string ⟨#[]⟩,.string ⟨#[]⟩]],[]⟩=true:=by kernel_rfl
theorem surveyLeast_pre (os:Os) {H:Type} (enc:TypeId × Value→H):Rows.surveyLeastSpec.preB enc Tryz.checked.prog Tryz.f6 [] false ((World.doorLaid Tryz.prog 400 os).forCall (fun _ _=>0) ⟨#[],#[.slice none 0 0,.agg #[.string ⟨#[]⟩,.string ⟨#[]⟩,.string ⟨#[]⟩,.string ⟨#[]⟩]],[]⟩).memory #[.slice none 0 0,.agg #[.string ⟨#[]⟩,.string ⟨#[]⟩,.string ⟨#[]⟩,.string ⟨#[]⟩]] 8=true:=by kernel_rfl
theorem surveyLeast_siz (os:Os) {H:Type} (enc:TypeId × Value→H):Rows.surveyLeastSpec.sizedB enc Tryz.checked.prog Tryz.f6 false ((World.doorLaid Tryz.prog 400 os).forCall (fun _ _=>0) ⟨#[],#[.slice none 0 0,.agg #[.string ⟨#[]⟩,.string ⟨#[]⟩,.string ⟨#[]⟩,.string ⟨#[]⟩]],[]⟩).memory #[.slice none 0 0,.agg #[.string ⟨#[]⟩,.string ⟨#[]⟩,.string ⟨#[]⟩,.string ⟨#[]⟩]] 8=true:=by kernel_rfl
theorem surveyLeast_plainT:Tryz.f6.params.toList.all (plainT Tryz.prog 10)=true:=by kernel_rfl
theorem surveyLeast_recT:(Tryz.f6.params.toList.all fun t=>Tryz.prog.readableRec t && decide (t < Tryz.prog.types.size))=true:=by kernel_rfl
theorem surveyLeast_noInit:Tryz.checked.prog.inits.idxOf? 6=none:=by kernel_rfl
theorem surveyLeast_holds:Rows.SurveyLeastSaid :=
 OpenClaim.holds_of_wide 6 Tryz.f6 rfl rfl rfl rfl rfl rfl rfl ⟨rfl,rfl,rfl,rfl,rfl⟩ rfl rfl rfl rfl rfl surveyLeast_named Tryz.func6 surveyLeast_closed surveyLeast_inst surveyLeast_wrap
  (fun os started H enc _=>law_lifted 6 Tryz.f6 Rows.surveyLeastSpec os started Tryz.func6 surveyLeast_noInit (by kernel_rfl) rfl
   (fun ds h=>by
    match ds,h with
    | [d0,d1],_=>rfl)
   surveyLeast_plainT surveyLeast_recT
   (ChangeSpec.witness_shaped (enc:=enc) (C:=Tryz.checked) (os:=os) (X:=fun w _=>laidMetH Tryz.prog laidL w) false (World.doorLaid Tryz.prog 400 os) #[.slice none 0 0,.agg #[.string ⟨#[]⟩,.string ⟨#[]⟩,.string ⟨#[]⟩,.string ⟨#[]⟩]] 8 rfl (surveyLeast_shaped os) (surveyLeast_ok os) (surveyLeast_pre os enc) (surveyLeast_siz os enc) (door_met os _))
   surveyLeast_law)
theorem surveyLeast_wf:Rows.surveyLeastRow.wfByText (OpenSpec.ofChange Rows.surveyLeastSpec)=true:=by kernel_rfl
theorem surveyLeast_main:Tryz.pinned.checked.prog.mainIs=some (true, "34a0481afcf75797110d58762a04f3f299690938753691ef14695558ba56f4b3".toList):=by kernel_rfl
theorem surveyLeast_goes:false=Rows.surveyLeastRow.goesBy Tryz.pinned.checked.prog:=by kernel_rfl
theorem surveyLeast_looks:true=Tryz.pinned.checked.prog.looks []:=by kernel_rfl
theorem surveyLeast_card:Rows.SurveyLeastCardSaid :=
 Claim7.holds_tied_plain_at .later [] laidK true (true, "34a0481afcf75797110d58762a04f3f299690938753691ef14695558ba56f4b3") true
  surveyLeast_holds (fun _ h=>by cases h) surveyLeast_wf (fun _ h=>by cases h) surveyLeast_row_tie rfl ⟨rfl,rfl⟩ surveyLeast_main rfl
  (fun f fn hf hfn=>by
   obtain rfl:f=6:=(Option.some.inj (surveyLeast_named.symm.trans hf)).symm
   obtain rfl:fn=Tryz.f6:=(Option.some.inj (Tryz.func6.symm.trans hfn)).symm
   exact ⟨surveyLeast_looks,fun j t ht=>by
    rw [Tryz.params6] at ht
    rcases j with _ | _ | j
    · obtain rfl:22=t:=by simpa using ht
      exact (show Tryz.prog.wantsStandIn 22=false by kernel_rfl)
    · obtain rfl:27=t:=by simpa using ht
      exact (show Tryz.prog.wantsStandIn 27=false by kernel_rfl)
    · simp at ht
   ⟩)
  surveyLeast_goes
end Go.Proofs.YtgkchlchkdecfaaGreatDoor
