/- StowageChecks: Check returns the index and the error of the first fault of any problem; the row and the card. -/
import Derived.Test.YtpjlnfpbkhcobaaGreatDoorCardALaw
set_option linter.unusedSectionVars false
set_option linter.unusedVariables false
set_option linter.unusedSimpArgs false
namespace Go.Proofs.YtpjlnfpbkhcobaaGreatDoor
open Go Go.Proofs Go.ChangeShapes Go.WideShapes Go.ChangeAt Go.RowKit Gev Gb
set_option maxRecDepth 100000
theorem stowageChecks_law:∀ us,AvsOf Tryz.prog Tryz.f3.params.toList us→Gev.Fn E0 3 us (.c (.bool true)):=by
 intro us hu
 rw [Tryz.params3] at hu
 match us,hu with
 | [a0],⟨h0,_⟩ =>
  obtain ⟨ps0,hs0,rs0,rfl,n0⟩:=u_Pb (n:=6) (p:=68) (h:=74) (r:=77) (q:=36) (by kernel_rfl) (by kernel_rfl) (by kernel_rfl) (by kernel_rfl) (by kernel_rfl) h0
  exact law_Checks lib0 awake0 n0
theorem stowageChecks_closed:joinedFacts Tryz.pinned.checked.prog 3 Tryz.f3 Rows.stowageChecksSpec Rows.stowageChecksRow=true:=by kernel_rfl
theorem stowageChecks_wrap:Tryz.f3.isWrapper Tryz.pinned.checked.prog Rows.stowageChecksRow.wrapper Rows.stowageChecksRow.mainSum:=by unfold Func.isWrapper; first | (rw [if_pos (by decide +kernel)]; kernel_rfl) | (rw [if_neg (by decide +kernel)]; exact ⟨rfl,rfl⟩)
theorem stowageChecks_named:Tryz.pinned.checked.prog.funcNamed Rows.stowageChecksRow.func=some 3:=by kernel_rfl
theorem stowageChecks_inst:Tryz.f3.isInstance Tryz.pinned.checked.prog Rows.stowageChecksRow.origin Rows.stowageChecksRow.targs:=of_decide_eq_true (by kernel_rfl)
theorem stowageChecks_shaped (os:Os):((World.doorLaid Tryz.prog 400 os).forCall (fun _ _=>0) ⟨#[],#[.agg #[.slice none 0 0,.slice none 0 0,.slice none 0 0]],[]⟩).Shaped Tryz.checked.prog:=World.shaped_of_RefB (by kernel_rfl) (by kernel_rfl)
theorem stowageChecks_ok (os:Os):Input.okWideB Tryz.checked.prog ((World.doorLaid Tryz.prog 400 os).forCall (fun _ _=>0) ⟨#[],#[.agg #[.slice none 0 0,.slice none 0 0,.slice none 0 0]],[]⟩) 3 ⟨#[],#[.agg #[.slice none 0 0,.slice none 0 0,.slice none 0 0]],[]⟩=true:=by kernel_rfl
theorem stowageChecks_pre (os:Os) {H:Type} (enc:TypeId × Value→H):Rows.stowageChecksSpec.preB enc Tryz.checked.prog Tryz.f3 [] false ((World.doorLaid Tryz.prog 400 os).forCall (fun _ _=>0) ⟨#[],#[.agg #[.slice none 0 0,.slice none 0 0,.slice none 0 0]],[]⟩).memory #[.agg #[.slice none 0 0,.slice none 0 0,.slice none 0 0]] 8=true:=by kernel_rfl
theorem stowageChecks_siz (os:Os) {H:Type} (enc:TypeId × Value→H):Rows.stowageChecksSpec.sizedB enc Tryz.checked.prog Tryz.f3 false ((World.doorLaid Tryz.prog 400 os).forCall (fun _ _=>0) ⟨#[],#[.agg #[.slice none 0 0,.slice none 0 0,.slice none 0 0]],[]⟩).memory #[.agg #[.slice none 0 0,.slice none 0 0,.slice none 0 0]] 8=true:=by kernel_rfl
theorem stowageChecks_plainT:Tryz.f3.params.toList.all (plainT Tryz.prog 10)=true:=by kernel_rfl
theorem stowageChecks_recT:(Tryz.f3.params.toList.all fun t=>Tryz.prog.readableRec t && decide (t < Tryz.prog.types.size))=true:=by kernel_rfl
theorem stowageChecks_noInit:Tryz.checked.prog.inits.idxOf? 3=none:=by kernel_rfl
theorem stowageChecks_holds:Rows.StowageChecksSaid :=
 OpenClaim.holds_of_wide 3 Tryz.f3 rfl rfl rfl rfl rfl rfl rfl ⟨rfl,rfl,rfl,rfl,rfl⟩ rfl rfl rfl rfl rfl stowageChecks_named Tryz.func3 stowageChecks_closed stowageChecks_inst stowageChecks_wrap
  (fun os started H enc _=>law_lifted 3 Tryz.f3 Rows.stowageChecksSpec os started Tryz.func3 stowageChecks_noInit (by kernel_rfl) rfl
   (fun ds h=>by
    match ds,h with
    | [d0],_=>rfl)
   stowageChecks_plainT stowageChecks_recT
   (ChangeSpec.witness_shaped (enc:=enc) (C:=Tryz.checked) (os:=os) (X:=fun w _=>laidMetH Tryz.prog laidL w) false (World.doorLaid Tryz.prog 400 os) #[.agg #[.slice none 0 0,.slice none 0 0,.slice none 0 0]] 8 rfl (stowageChecks_shaped os) (stowageChecks_ok os) (stowageChecks_pre os enc) (stowageChecks_siz os enc) (door_met os _))
   stowageChecks_law)
theorem stowageChecks_wf:Rows.stowageChecksRow.wfByText (OpenSpec.ofChange Rows.stowageChecksSpec)=true:=by kernel_rfl
theorem stowageChecks_main:Tryz.pinned.checked.prog.mainIs=some (true, "e25b04b6d8faed09545a5263a2ff7bacd796f210eed2b446e190ec99eb4fb82f".toList):=by kernel_rfl
theorem stowageChecks_goes:false=Rows.stowageChecksRow.goesBy Tryz.pinned.checked.prog:=by kernel_rfl
theorem stowageChecks_looks:true=Tryz.pinned.checked.prog.looks []:=by kernel_rfl
theorem stowageChecks_card:Rows.StowageChecksCardSaid :=
 Claim7.holds_tied_plain_at .later [] laidK true (true, "e25b04b6d8faed09545a5263a2ff7bacd796f210eed2b446e190ec99eb4fb82f") true
  stowageChecks_holds (fun _ h=>by cases h) stowageChecks_wf (fun _ h=>by cases h) stowageChecks_row_tie rfl ⟨rfl,rfl⟩ stowageChecks_main rfl
  (fun f fn hf hfn=>by
   obtain rfl:f=3:=(Option.some.inj (stowageChecks_named.symm.trans hf)).symm
   obtain rfl:fn=Tryz.f3:=(Option.some.inj (Tryz.func3.symm.trans hfn)).symm
   exact ⟨stowageChecks_looks,fun j t ht=>by
    rw [Tryz.params3] at ht
    rcases j with _ | j
    · obtain rfl:28=t:=by simpa using ht
      exact (show Tryz.prog.wantsStandIn 28=false by kernel_rfl)
    · simp at ht
   ⟩)
  stowageChecks_goes
end Go.Proofs.YtpjlnfpbkhcobaaGreatDoor
