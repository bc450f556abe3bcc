/- StowageSums: Sum and Excess return what the definitions specify; the row and the card. -/
import Derived.Test.YtpjlnfpbkhcobaaGreatDoorCardBLaw
set_option linter.unusedSectionVars false
set_option linter.unusedVariables false
set_option linter.unusedSimpArgs false
namespace Go.Proofs.YtpjlnfpbkhcobaaGreatDoor
open Go Go.Proofs Go.ChangeShapes Go.WideShapes Go.ChangeAt Go.RowKit Gev Gb
set_option maxRecDepth 100000
theorem stowageSums_law:∀ us,AvsOf Tryz.prog Tryz.f4.params.toList us→Gev.Fn E0 4 us (.c (.bool true)):=by
 intro us hu
 rw [Tryz.params4] at hu
 match us,hu with
 | [a0,a1,a2],⟨h0,h1,h2,_⟩ =>
  obtain ⟨ps0,hs0,rs0,rfl,n0⟩:=u_Pb (n:=6) (p:=68) (h:=74) (r:=77) (q:=36) (by kernel_rfl) (by kernel_rfl) (by kernel_rfl) (by kernel_rfl) (by kernel_rfl) h0
  obtain ⟨z1,rfl,u1⟩:=u_Int (n:=6) (by kernel_rfl) h1 (by kernel_rfl)
  obtain ⟨l2,rfl,u2⟩:=u_Sw (n:=6) (e:=41) (by kernel_rfl) (by kernel_rfl) h2 (by kernel_rfl)
  exact law_Sums lib0 cs0 awake0 n0 u2
theorem stowageSums_closed:joinedFacts Tryz.pinned.checked.prog 4 Tryz.f4 Rows.stowageSumsSpec Rows.stowageSumsRow=true:=by kernel_rfl
theorem stowageSums_wrap:Tryz.f4.isWrapper Tryz.pinned.checked.prog Rows.stowageSumsRow.wrapper Rows.stowageSumsRow.mainSum:=by unfold Func.isWrapper; first | (rw [if_pos (by decide +kernel)]; kernel_rfl) | (rw [if_neg (by decide +kernel)]; exact ⟨rfl,rfl⟩)
theorem stowageSums_named:Tryz.pinned.checked.prog.funcNamed Rows.stowageSumsRow.func=some 4:=by kernel_rfl
theorem stowageSums_inst:Tryz.f4.isInstance Tryz.pinned.checked.prog Rows.stowageSumsRow.origin Rows.stowageSumsRow.targs:=of_decide_eq_true (by kernel_rfl)
theorem stowageSums_shaped (os:Os):((World.doorLaid Tryz.prog 400 os).forCall (fun _ _=>0) ⟨#[],#[.agg #[.slice none 0 0,.slice none 0 0,.slice none 0 0],.int .i64 0,.slice none 0 0],[]⟩).Shaped Tryz.checked.prog:=World.shaped_of_RefB (by kernel_rfl) (by kernel_rfl)
theorem stowageSums_ok (os:Os):Input.okWideB Tryz.checked.prog ((World.doorLaid Tryz.prog 400 os).forCall (fun _ _=>0) ⟨#[],#[.agg #[.slice none 0 0,.slice none 0 0,.slice none 0 0],.int .i64 0,.slice none 0 0],[]⟩) 4 ⟨#[],#[.agg #[.slice none 0 0,.slice none 0 0,.slice none 0 0],.int .i64 0,.slice none 0 0],[]⟩=true:=by kernel_rfl
theorem stowageSums_pre (os:Os) {H:Type} (enc:TypeId × Value→H):Rows.stowageSumsSpec.preB enc Tryz.checked.prog Tryz.f4 [] false ((World.doorLaid Tryz.prog 400 os).forCall (fun _ _=>0) ⟨#[],#[.agg #[.slice none 0 0,.slice none 0 0,.slice none 0 0],.int .i64 0,.slice none 0 0],[]⟩).memory #[.agg #[.slice none 0 0,.slice none 0 0,.slice none 0 0],.int .i64 0,.slice none 0 0] 8=true:=by kernel_rfl
theorem stowageSums_siz (os:Os) {H:Type} (enc:TypeId × Value→H):Rows.stowageSumsSpec.sizedB enc Tryz.checked.prog Tryz.f4 false ((World.doorLaid Tryz.prog 400 os).forCall (fun _ _=>0) ⟨#[],#[.agg #[.slice none 0 0,.slice none 0 0,.slice none 0 0],.int .i64 0,.slice none 0 0],[]⟩).memory #[.agg #[.slice none 0 0,.slice none 0 0,.slice none 0 0],.int .i64 0,.slice none 0 0] 8=true:=by kernel_rfl
theorem stowageSums_plainT:Tryz.f4.params.toList.all (plainT Tryz.prog 10)=true:=by kernel_rfl
theorem stowageSums_recT:(Tryz.f4.params.toList.all fun t=>Tryz.prog.readableRec t && decide (t < Tryz.prog.types.size))=true:=by kernel_rfl
theorem stowageSums_noInit:Tryz.checked.prog.inits.idxOf? 4=none:=by kernel_rfl
theorem stowageSums_holds:Rows.StowageSumsSaid :=
 OpenClaim.holds_of_wide 4 Tryz.f4 rfl rfl rfl rfl rfl rfl rfl ⟨rfl,rfl,rfl,rfl,rfl⟩ rfl rfl rfl rfl rfl stowageSums_named Tryz.func4 stowageSums_closed stowageSums_inst stowageSums_wrap
  (fun os started H enc _=>law_lifted 4 Tryz.f4 Rows.stowageSumsSpec os started Tryz.func4 stowageSums_noInit (by kernel_rfl) rfl
   (fun ds h=>by
    match ds,h with
    | [d0,d1,d2],_=>rfl)
   stowageSums_plainT stowageSums_recT
   (ChangeSpec.witness_shaped (enc:=enc) (C:=Tryz.checked) (os:=os) (X:=fun w _=>laidMetH Tryz.prog laidL w) false (World.doorLaid Tryz.prog 400 os) #[.agg #[.slice none 0 0,.slice none 0 0,.slice none 0 0],.int .i64 0,.slice none 0 0] 8 rfl (stowageSums_shaped os) (stowageSums_ok os) (stowageSums_pre os enc) (stowageSums_siz os enc) (door_met os _))
   stowageSums_law)
theorem stowageSums_wf:Rows.stowageSumsRow.wfByText (OpenSpec.ofChange Rows.stowageSumsSpec)=true:=by kernel_rfl
theorem stowageSums_main:Tryz.pinned.checked.prog.mainIs=some (true, "e25b04b6d8faed09545a5263a2ff7bacd796f210eed2b446e190ec99eb4fb82f".toList):=by kernel_rfl
theorem stowageSums_goes:false=Rows.stowageSumsRow.goesBy Tryz.pinned.checked.prog:=by kernel_rfl
theorem stowageSums_looks:true=Tryz.pinned.checked.prog.looks []:=by kernel_rfl
theorem stowageSums_card:Rows.StowageSumsCardSaid :=
 Claim7.holds_tied_plain_at .later [] laidK true (true, "e25b04b6d8faed09545a5263a2ff7bacd796f210eed2b446e190ec99eb4fb82f") true
  stowageSums_holds (fun _ h=>by cases h) stowageSums_wf (fun _ h=>by cases h) stowageSums_row_tie rfl ⟨rfl,rfl⟩ stowageSums_main rfl
  (fun f fn hf hfn=>by
   obtain rfl:f=4:=(Option.some.inj (stowageSums_named.symm.trans hf)).symm
   obtain rfl:fn=Tryz.f4:=(Option.some.inj (Tryz.func4.symm.trans hfn)).symm
   exact ⟨stowageSums_looks,fun j t ht=>by
    rw [Tryz.params4] at ht
    rcases j with _ | _ | _ | j
    · obtain rfl:28=t:=by simpa using ht
      exact (show Tryz.prog.wantsStandIn 28=false by kernel_rfl)
    · obtain rfl:3=t:=by simpa using ht
      exact (show Tryz.prog.wantsStandIn 3=false by kernel_rfl)
    · obtain rfl:35=t:=by simpa using ht
      exact (show Tryz.prog.wantsStandIn 35=false by kernel_rfl)
    · simp at ht
   ⟩)
  stowageSums_goes
end Go.Proofs.YtpjlnfpbkhcobaaGreatDoor
