/- StowageBroken: Broken returns the rules that are broken, Keeps reports whether a problem is kept; the row and the card. -/
import Derived.Test.YtpjlnfpbkhcobaaGreatDoorCardCLaw
set_option linter.unusedSectionVars false
set_option linter.unusedVariables false
set_option linter.unusedSimpArgs false
namespace Go.Proofs.YtpjlnfpbkhcobaaGreatDoor
open Go Go.Proofs Go.ChangeShapes Go.WideShapes Go.ChangeAt Go.RowKit Gev Gb
set_option maxRecDepth 100000
theorem stowageBroken_law:∀ us,AvsOf Tryz.prog Tryz.f5.params.toList us→Gev.Fn E0 5 us (.c (.bool true)):=by
 intro us hu
 rw [Tryz.params5] at hu
 match us,hu with
 | [a0,a1],⟨h0,h1,_⟩ =>
  obtain ⟨ps0,hs0,rs0,rfl,n0⟩:=u_Pb (n:=6) (p:=68) (h:=74) (r:=77) (q:=36) (by kernel_rfl) (by kernel_rfl) (by kernel_rfl) (by kernel_rfl) (by kernel_rfl) h0
  obtain ⟨l1,rfl,u1⟩:=u_Sw (n:=6) (e:=41) (by kernel_rfl) (by kernel_rfl) h1 (by kernel_rfl)
  exact law_Broken lib0 cs0 awake0 n0 u1
theorem stowageBroken_closed:joinedFacts Tryz.pinned.checked.prog 5 Tryz.f5 Rows.stowageBrokenSpec Rows.stowageBrokenRow=true:=by kernel_rfl
theorem stowageBroken_wrap:Tryz.f5.isWrapper Tryz.pinned.checked.prog Rows.stowageBrokenRow.wrapper Rows.stowageBrokenRow.mainSum:=by unfold Func.isWrapper; first | (rw [if_pos (by decide +kernel)]; kernel_rfl) | (rw [if_neg (by decide +kernel)]; exact ⟨rfl,rfl⟩)
theorem stowageBroken_named:Tryz.pinned.checked.prog.funcNamed Rows.stowageBrokenRow.func=some 5:=by kernel_rfl
theorem stowageBroken_inst:Tryz.f5.isInstance Tryz.pinned.checked.prog Rows.stowageBrokenRow.origin Rows.stowageBrokenRow.targs:=of_decide_eq_true (by kernel_rfl)
theorem stowageBroken_shaped (os:Os):((World.doorLaid Tryz.prog 400 os).forCall (fun _ _=>0) ⟨#[],#[.agg #[.slice none 0 0,.slice none 0 0,.slice none 0 0],.slice none 0 0],[]⟩).Shaped Tryz.checked.prog:=World.shaped_of_RefB (by kernel_rfl) (by kernel_rfl)
theorem stowageBroken_ok (os:Os):Input.okWideB Tryz.checked.prog ((World.doorLaid Tryz.prog 400 os).forCall (fun _ _=>0) ⟨#[],#[.agg #[.slice none 0 0,.slice none 0 0,.slice none 0 0],.slice none 0 0],[]⟩) 5 ⟨#[],#[.agg #[.slice none 0 0,.slice none 0 0,.slice none 0 0],.slice none 0 0],[]⟩=true:=by kernel_rfl
theorem stowageBroken_pre (os:Os) {H:Type} (enc:TypeId × Value→H):Rows.stowageBrokenSpec.preB enc Tryz.checked.prog Tryz.f5 [] false ((World.doorLaid Tryz.prog 400 os).forCall (fun _ _=>0) ⟨#[],#[.agg #[.slice none 0 0,.slice none 0 0,.slice none 0 0],.slice none 0 0],[]⟩).memory #[.agg #[.slice none 0 0,.slice none 0 0,.slice none 0 0],.slice none 0 0] 8=true:=by kernel_rfl
theorem stowageBroken_siz (os:Os) {H:Type} (enc:TypeId × Value→H):Rows.stowageBrokenSpec.sizedB enc Tryz.checked.prog Tryz.f5 false ((World.doorLaid Tryz.prog 400 os).forCall (fun _ _=>0) ⟨#[],#[.agg #[.slice none 0 0,.slice none 0 0,.slice none 0 0],.slice none 0 0],[]⟩).memory #[.agg #[.slice none 0 0,.slice none 0 0,.slice none 0 0],.slice none 0 0] 8=true:=by kernel_rfl
theorem stowageBroken_plainT:Tryz.f5.params.toList.all (plainT Tryz.prog 10)=true:=by kernel_rfl
theorem stowageBroken_recT:(Tryz.f5.params.toList.all fun t=>Tryz.prog.readableRec t && decide (t < Tryz.prog.types.size))=true:=by kernel_rfl
theorem stowageBroken_noInit:Tryz.checked.prog.inits.idxOf? 5=none:=by kernel_rfl
theorem stowageBroken_holds:Rows.StowageBrokenSaid :=
 OpenClaim.holds_of_wide 5 Tryz.f5 rfl rfl rfl rfl rfl rfl rfl ⟨rfl,rfl,rfl,rfl,rfl⟩ rfl rfl rfl rfl rfl stowageBroken_named Tryz.func5 stowageBroken_closed stowageBroken_inst stowageBroken_wrap
  (fun os started H enc _=>law_lifted 5 Tryz.f5 Rows.stowageBrokenSpec os started Tryz.func5 stowageBroken_noInit (by kernel_rfl) rfl
   (fun ds h=>by
    match ds,h with
    | [d0,d1],_=>rfl)
   stowageBroken_plainT stowageBroken_recT
   (ChangeSpec.witness_shaped (enc:=enc) (C:=Tryz.checked) (os:=os) (X:=fun w _=>laidMetH Tryz.prog laidL w) false (World.doorLaid Tryz.prog 400 os) #[.agg #[.slice none 0 0,.slice none 0 0,.slice none 0 0],.slice none 0 0] 8 rfl (stowageBroken_shaped os) (stowageBroken_ok os) (stowageBroken_pre os enc) (stowageBroken_siz os enc) (door_met os _))
   stowageBroken_law)
theorem stowageBroken_wf:Rows.stowageBrokenRow.wfByText (OpenSpec.ofChange Rows.stowageBrokenSpec)=true:=by kernel_rfl
theorem stowageBroken_main:Tryz.pinned.checked.prog.mainIs=some (true, "e25b04b6d8faed09545a5263a2ff7bacd796f210eed2b446e190ec99eb4fb82f".toList):=by kernel_rfl
theorem stowageBroken_goes:false=Rows.stowageBrokenRow.goesBy Tryz.pinned.checked.prog:=by kernel_rfl
theorem stowageBroken_looks:true=Tryz.pinned.checked.prog.looks []:=by kernel_rfl
theorem stowageBroken_card:Rows.StowageBrokenCardSaid :=
 Claim7.holds_tied_plain_at .later [] laidK true (true, "e25b04b6d8faed09545a5263a2ff7bacd796f210eed2b446e190ec99eb4fb82f") true
  stowageBroken_holds (fun _ h=>by cases h) stowageBroken_wf (fun _ h=>by cases h) stowageBroken_row_tie rfl ⟨rfl,rfl⟩ stowageBroken_main rfl
  (fun f fn hf hfn=>by
   obtain rfl:f=5:=(Option.some.inj (stowageBroken_named.symm.trans hf)).symm
   obtain rfl:fn=Tryz.f5:=(Option.some.inj (Tryz.func5.symm.trans hfn)).symm
   exact ⟨stowageBroken_looks,fun j t ht=>by
    rw [Tryz.params5] at ht
    rcases j with _ | _ | j
    · obtain rfl:28=t:=by simpa using ht
      exact (show Tryz.prog.wantsStandIn 28=false by kernel_rfl)
    · obtain rfl:35=t:=by simpa using ht
      exact (show Tryz.prog.wantsStandIn 35=false by kernel_rfl)
    · simp at ht
   ⟩)
  stowageBroken_goes
end Go.Proofs.YtpjlnfpbkhcobaaGreatDoor
