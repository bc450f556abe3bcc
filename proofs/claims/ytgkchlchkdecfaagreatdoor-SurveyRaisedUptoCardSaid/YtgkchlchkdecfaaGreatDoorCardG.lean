/- SurveyRaised, where what it reads is of a bounded bulk: the row and the card. -/
import Derived.Test.YtgkchlchkdecfaaGreatDoorCardGLaw
set_option linter.unusedSectionVars false
set_option linter.unusedVariables false
set_option linter.unusedSimpArgs false
namespace Go.Proofs.YtgkchlchkdecfaaGreatDoor
open Go Go.Proofs Go.ChangeShapes Go.WideShapes Go.ChangeAt Go.RowKit Gev Gb
set_option maxRecDepth 100000
theorem iS_law {H:Type} {enc:TypeId × Value→H}:∀ W args ds us,ArgsAt enc Tryz.f9 W args ds us→AvsOf Tryz.prog Tryz.f9.params.toList us→Rows.uptoBulkAll ds≤1048576→Gev.Fn E0 9 us (.c (.bool true)):=by
 intro W args ds us ha hu hsm
 obtain ⟨⟨p,hA⟩,h2,h3⟩:=ha
 rw [Tryz.params9] at hu hA
 match us,hu with
 | [a0,a1],⟨h0,h1,_⟩ =>
  have q0:∃ l,a0=.c (.list (R4 l))∧l.length≤9223372036854775807:=by
   cases h0 with
   | agg h _=>rw [show Tryz.prog.underlying 22=some (.slice 33) by kernel_rfl] at h; cases h
   | one hd =>
    obtain ⟨l,rfl,hl⟩:=uQuads (e:=33) (s0:=9) (s:=25) (by kernel_rfl) (by kernel_rfl) (by kernel_rfl) (by kernel_rfl) (by kernel_rfl) (by kernel_rfl) (by kernel_rfl) hd
    exact ⟨l,rfl,hl⟩
  obtain ⟨l0,rfl,hl0⟩:=q0
  have q1:∃ p,a1=.c (.str (B p)):=by
   cases h1 with
   | agg h _=>rw [show Tryz.prog.underlying 25=some .string by kernel_rfl] at h; cases h
   | one hd=>obtain ⟨p,rfl⟩:=uText (by kernel_rfl) hd; exact ⟨p,rfl⟩
  obtain ⟨p1,rfl⟩:=q1
  obtain ⟨v0,vs0,d0,ds0,p0,q0,hargs,rfl,rfl,t0,r0⟩:=trodAll_cons hA
  obtain ⟨v1,vs1,d1,ds1,p2,q2,hargs1,rfl,rfl,t1,r1⟩:=trodAll_cons r0
  obtain ⟨_,rfl,rfl⟩:=trodAll_nil r1
  rw [hargs,hargs1] at h3
  have hr:=h3 1 v1 _ rfl rfl
  have hb:=text_bulk (by kernel_rfl) t1 hr
  have hL:=Lim_val
  have hs2:Rows.uptoBulk d0+(Rows.uptoBulk d1+0)≤1048576:=hsm
  exact law_SurveyRaised lib0 cs0 awake0 l0 p1 hl0 (by omega)
abbrev aS:Array Value:=#[.slice none 0 0,.string ⟨#[]⟩]
noncomputable abbrev wS (os:Os):World:=(World.doorLaid Tryz.prog 400 os).forCall (fun _ _=>0) ⟨#[],aS,[]⟩
theorem iS_reads (os:Os) {H:Type} (enc:TypeId × Value→H):∃ places,DataW.whole enc Tryz.prog (wS os).memory Tryz.f9.params.toList Rows.surveyRaisedSpec.vars false aS.toList 8=some ([.nil,.lit (.string [])],[],places) :=
 ⟨[],by kernel_rfl⟩
theorem iS_closed:joinedFacts Tryz.pinned.checked.prog 9 Tryz.f9 (Rows.OpenSpec.upto Rows.surveyRaisedSpec).bare Rows.surveyRaisedUptoRow=true:=by kernel_rfl
theorem iS_wrap:Tryz.f9.isWrapper Tryz.pinned.checked.prog Rows.surveyRaisedUptoRow.wrapper Rows.surveyRaisedUptoRow.mainSum:=by unfold Func.isWrapper; first | (rw [if_pos (by decide +kernel)]; kernel_rfl) | (rw [if_neg (by decide +kernel)]; exact ⟨rfl,rfl⟩)
theorem iS_named:Tryz.pinned.checked.prog.funcNamed Rows.surveyRaisedUptoRow.func=some 9:=by kernel_rfl
theorem iS_inst:Tryz.f9.isInstance Tryz.pinned.checked.prog Rows.surveyRaisedUptoRow.origin Rows.surveyRaisedUptoRow.targs:=of_decide_eq_true (by kernel_rfl)
theorem iS_shaped (os:Os):(wS os).Shaped Tryz.checked.prog:=World.shaped_of_RefB (by kernel_rfl) (by kernel_rfl)
theorem iS_ok (os:Os):Input.okWideB Tryz.checked.prog (wS os) 9 ⟨#[],aS,[]⟩=true:=by kernel_rfl
theorem iS_siz (os:Os) {H:Type} (enc:TypeId × Value→H):(Rows.OpenSpec.upto Rows.surveyRaisedSpec).bare.sizedB enc Tryz.checked.prog Tryz.f9 false (wS os).memory aS 8=true:=by kernel_rfl
theorem iS_plainT:Tryz.f9.params.toList.all (plainT Tryz.prog 10)=true:=by kernel_rfl
theorem iS_recT:(Tryz.f9.params.toList.all fun t=>Tryz.prog.readableRec t && decide (t < Tryz.prog.types.size))=true:=by kernel_rfl
theorem iS_noInit:Tryz.checked.prog.inits.idxOf? 9=none:=by kernel_rfl
theorem surveyRaisedUpto_holds:Rows.SurveyRaisedUptoSaid :=
 OpenClaim.holds_of_cond 9 Tryz.f9 rfl rfl rfl rfl rfl rfl rfl ⟨rfl,rfl,rfl,rfl,rfl⟩ rfl rfl rfl rfl rfl iS_named Tryz.func9 iS_closed iS_inst iS_wrap
  (fun os started H enc _ F=>by
   rw [OpenClaim.pre_eq_preRow]
   obtain ⟨places,hx⟩:=iS_reads os enc
   exact law_upto 9 Tryz.f9 Rows.surveyRaisedSpec os started F Tryz.func9 iS_noInit (by kernel_rfl) rfl
    (fun ds h=>by
     match ds,h with
     | [d0,d1],_=>rfl)
    iS_plainT iS_recT
    (upto_witness os aS (iS_shaped os) (iS_ok os)
     (OpenSpec.preRow_of_cond 8 hx (by kernel_rfl) (fun k hk=>by cases hk; kernel_rfl) (iS_siz os enc) (door_met os _)))
    iS_law)
theorem iS_wf:Rows.surveyRaisedUptoRow.wfByText (Rows.OpenSpec.upto Rows.surveyRaisedSpec)=true:=by kernel_rfl
theorem iS_main:Tryz.pinned.checked.prog.mainIs=some (true, "34a0481afcf75797110d58762a04f3f299690938753691ef14695558ba56f4b3".toList):=by kernel_rfl
theorem iS_goes:false=Rows.surveyRaisedUptoRow.goesBy Tryz.pinned.checked.prog:=by kernel_rfl
theorem iS_looks:true=Tryz.pinned.checked.prog.looks []:=by kernel_rfl
theorem surveyRaisedUpto_card:Rows.SurveyRaisedUptoCardSaid :=
 Claim7.holds_tied_plain_at .later [] laidK true (true, "34a0481afcf75797110d58762a04f3f299690938753691ef14695558ba56f4b3") true
  surveyRaisedUpto_holds (fun _ h=>by cases h) iS_wf (fun _ h=>by cases h) surveyRaisedUpto_row_tie rfl ⟨rfl,rfl⟩ iS_main rfl
  (fun f fn hf hfn=>by
   obtain rfl:f=9:=(Option.some.inj (iS_named.symm.trans hf)).symm
   obtain rfl:fn=Tryz.f9:=(Option.some.inj (Tryz.func9.symm.trans hfn)).symm
   exact ⟨iS_looks,fun j t ht=>by
    rw [Tryz.params9] at ht
    rcases j with _ | _ | j
    · obtain rfl:22=t:=by simpa using ht
      exact (show Tryz.prog.wantsStandIn 22=false by kernel_rfl)
    · obtain rfl:25=t:=by simpa using ht
      exact (show Tryz.prog.wantsStandIn 25=false by kernel_rfl)
    · simp at ht
   ⟩)
  iS_goes
end Go.Proofs.YtgkchlchkdecfaaGreatDoor
