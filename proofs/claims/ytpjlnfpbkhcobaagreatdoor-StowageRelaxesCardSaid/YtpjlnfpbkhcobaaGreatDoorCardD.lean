/- StowageRelaxes: Relax returns the relaxation, Drop the problem without a rule, or the specified errors; the row and the card. -/
import Derived.Test.YtpjlnfpbkhcobaaGreatDoorCardDLaw
set_option linter.unusedSectionVars false
set_option linter.unusedVariables false
set_option linter.unusedSimpArgs false
namespace Go.Proofs.YtpjlnfpbkhcobaaGreatDoor
open Go Go.Proofs Go.ChangeShapes Go.WideShapes Go.ChangeAt Go.RowKit Gev Gb
set_option maxRecDepth 100000
theorem stowageRelaxes_law:∀ us,AvsOf Tryz.prog Tryz.f6.params.toList us→Gev.Fn E0 6 us (.c (.bool true)):=by
 intro us hu
 rw [Tryz.params6] at hu
 match us,hu with
 | [a0,a1],⟨h0,h1,_⟩ =>
  obtain ⟨ps0,hs0,rs0,rfl,n0⟩:=u_Pb (n:=6) (p:=68) (h:=74) (r:=77) (q:=36) (by kernel_rfl) (by kernel_rfl) (by kernel_rfl) (by kernel_rfl) (by kernel_rfl) h0
  obtain ⟨z1,rfl,u1⟩:=u_Int (n:=6) (by kernel_rfl) h1 (by kernel_rfl)
  exact law_Relaxes lib0 cs0 awake0 n0
theorem stowageRelaxes_closed:joinedFacts Tryz.pinned.checked.prog 6 Tryz.f6 Rows.stowageRelaxesSpec Rows.stowageRelaxesRow=true:=by kernel_rfl
theorem stowageRelaxes_wrap:Tryz.f6.isWrapper Tryz.pinned.checked.prog Rows.stowageRelaxesRow.wrapper Rows.stowageRelaxesRow.mainSum:=by unfold Func.isWrapper;first | (rw [if_pos (by decide +kernel)];kernel_rfl) | (rw [if_neg (by decide +kernel)];exact ⟨rfl,rfl⟩)
theorem stowageRelaxes_named:Tryz.pinned.checked.prog.funcNamed Rows.stowageRelaxesRow.func=some 6:=by kernel_rfl
theorem stowageRelaxes_inst:Tryz.f6.isInstance Tryz.pinned.checked.prog Rows.stowageRelaxesRow.origin Rows.stowageRelaxesRow.targs:=of_decide_eq_true (by kernel_rfl)
theorem stowageRelaxes_shaped (os:Os):((World.doorLaid Tryz.prog 400 os).forCall (fun _ _=>0) ⟨#[],#[.agg #[.slice none 0 0,.slice none 0 0,.slice none 0 0],.int .i64 0],[]⟩).Shaped Tryz.checked.prog:=World.shaped_of_RefB (by kernel_rfl) (by kernel_rfl)
theorem stowageRelaxes_ok (os:Os):Input.okWideB Tryz.checked.prog ((World.doorLaid Tryz.prog 400 os).forCall (fun _ _=>0) ⟨#[],#[.agg #[.slice none 0 0,.slice none 0 0,.slice none 0 0],.int .i64 0],[]⟩) 6 ⟨#[],#[.agg #[.slice none 0 0,.slice none 0 0,.slice none 0 0],.int .i64 0],[]⟩=true:=by kernel_rfl
theorem stowageRelaxes_pre (os:Os) {H:Type} (enc:TypeId × Value→H):Rows.stowageRelaxesSpec.preB enc Tryz.checked.prog Tryz.f6 [] false ((World.doorLaid Tryz.prog 400 os).forCall (fun _ _=>0) ⟨#[],#[.agg #[.slice none 0 0,.slice none 0 0,.slice none 0 0],.int .i64 0],[]⟩).memory #[.agg #[.slice none 0 0,.slice none 0 0,.slice none 0 0],.int .i64 0] 8=true:=by kernel_rfl
theorem stowageRelaxes_siz (os:Os) {H:Type} (enc:TypeId × Value→H):Rows.stowageRelaxesSpec.sizedB enc Tryz.checked.prog Tryz.f6 false ((World.doorLaid Tryz.prog 400 os).forCall (fun _ _=>0) ⟨#[],#[.agg #[.slice none 0 0,.slice none 0 0,.slice none 0 0],.int .i64 0],[]⟩).memory #[.agg #[.slice none 0 0,.slice none 0 0,.slice none 0 0],.int .i64 0] 8=true:=by kernel_rfl
theorem stowageRelaxes_plainT:Tryz.f6.params.toList.all (plainT Tryz.prog 10)=true:=by kernel_rfl
theorem stowageRelaxes_recT:(Tryz.f6.params.toList.all fun t=>Tryz.prog.readableRec t && decide (t<Tryz.prog.types.size))=true:=by kernel_rfl
theorem stowageRelaxes_noInit:Tryz.checked.prog.inits.idxOf? 6=none:=by kernel_rfl
theorem stowageRelaxes_holds:Rows.StowageRelaxesSaid :=
 OpenClaim.holds_of_wide 6 Tryz.f6 rfl rfl rfl rfl rfl rfl rfl ⟨rfl,rfl,rfl,rfl,rfl⟩ rfl rfl rfl rfl rfl stowageRelaxes_named Tryz.func6 stowageRelaxes_closed stowageRelaxes_inst stowageRelaxes_wrap
  (fun os started H enc _=>law_lifted 6 Tryz.f6 Rows.stowageRelaxesSpec os started Tryz.func6 stowageRelaxes_noInit (by kernel_rfl) rfl
   (fun ds h=>by
    match ds,h with
    | [d0,d1],_=>rfl)
   stowageRelaxes_plainT stowageRelaxes_recT
   (ChangeSpec.witness_shaped (enc:=enc) (C:=Tryz.checked) (os:=os) (X:=fun w _=>laidMetH Tryz.prog laidL w) false (World.doorLaid Tryz.prog 400 os) #[.agg #[.slice none 0 0,.slice none 0 0,.slice none 0 0],.int .i64 0] 8 rfl (stowageRelaxes_shaped os) (stowageRelaxes_ok os) (stowageRelaxes_pre os enc) (stowageRelaxes_siz os enc) (door_met os _))
   stowageRelaxes_law)
theorem stowageRelaxes_wf:Rows.stowageRelaxesRow.wfByText (OpenSpec.ofChange Rows.stowageRelaxesSpec)=true:=by kernel_rfl
theorem stowageRelaxes_main:Tryz.pinned.checked.prog.mainIs=some (true, "e25b04b6d8faed09545a5263a2ff7bacd796f210eed2b446e190ec99eb4fb82f".toList):=by kernel_rfl
theorem stowageRelaxes_goes:false=Rows.stowageRelaxesRow.goesBy Tryz.pinned.checked.prog:=by kernel_rfl
theorem stowageRelaxes_looks:true=Tryz.pinned.checked.prog.looks []:=by kernel_rfl
theorem stowageRelaxes_card:Rows.StowageRelaxesCardSaid :=
 Claim7.holds_tied_plain_at .later [] laidK true (true, "e25b04b6d8faed09545a5263a2ff7bacd796f210eed2b446e190ec99eb4fb82f") true
  stowageRelaxes_holds (fun _ h=>by cases h) stowageRelaxes_wf (fun _ h=>by cases h) stowageRelaxes_row_tie rfl ⟨rfl,rfl⟩ stowageRelaxes_main rfl
  (fun f fn hf hfn=>by
   obtain rfl:f=6:=(Option.some.inj (stowageRelaxes_named.symm.trans hf)).symm
   obtain rfl:fn=Tryz.f6:=(Option.some.inj (Tryz.func6.symm.trans hfn)).symm
   exact ⟨stowageRelaxes_looks,fun j t ht=>by
    rw [Tryz.params6] at ht
    rcases j with _ | _ | j
    · obtain rfl:28=t:=by simpa using ht
      exact (show Tryz.prog.wantsStandIn 28=false by kernel_rfl)
    · obtain rfl:3=t:=by simpa using ht
      exact (show Tryz.prog.wantsStandIn 3=false by kernel_rfl)
    · simp at ht
   ⟩)
  stowageRelaxes_goes
end Go.Proofs.YtpjlnfpbkhcobaaGreatDoor
