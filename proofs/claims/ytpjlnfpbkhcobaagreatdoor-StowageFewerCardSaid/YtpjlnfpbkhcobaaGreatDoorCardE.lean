/- StowageFewer: what keeps a problem keeps it without any of its rules, and a rule is broken or not whatever other rules there are; the row and the card. -/
import Derived.Test.YtpjlnfpbkhcobaaGreatDoorCardELaw
set_option linter.unusedSectionVars false
set_option linter.unusedVariables false
set_option linter.unusedSimpArgs false
namespace Go.Proofs.YtpjlnfpbkhcobaaGreatDoor
open Go Go.Proofs Go.ChangeShapes Go.WideShapes Go.ChangeAt Go.RowKit Gev Gb
set_option maxRecDepth 100000
theorem stowageFewer_law:∀ us,AvsOf Tryz.prog Tryz.f7.params.toList us→Gev.Fn E0 7 us (.c (.bool true)):=by
 intro us hu
 rw [Tryz.params7] at hu
 match us,hu with
 | [a0,a1],⟨h0,h1,_⟩ =>
  obtain ⟨ps0,hs0,rs0,rfl,n0⟩:=u_Pb (n:=6) (p:=68) (h:=74) (r:=77) (q:=36) (by kernel_rfl) (by kernel_rfl) (by kernel_rfl) (by kernel_rfl) (by kernel_rfl) h0
  obtain ⟨l1,rfl,u1⟩:=u_Sw (n:=6) (e:=41) (by kernel_rfl) (by kernel_rfl) h1 (by kernel_rfl)
  exact law_Fewer lib0 cs0 ci_ok awake0 n0 u1
theorem stowageFewer_closed:joinedFacts Tryz.pinned.checked.prog 7 Tryz.f7 Rows.stowageFewerSpec Rows.stowageFewerRow=true:=by kernel_rfl
theorem stowageFewer_wrap:Tryz.f7.isWrapper Tryz.pinned.checked.prog Rows.stowageFewerRow.wrapper Rows.stowageFewerRow.mainSum:=by unfold Func.isWrapper;first | (rw [if_pos (by decide +kernel)];kernel_rfl) | (rw [if_neg (by decide +kernel)];exact ⟨rfl,rfl⟩)
theorem stowageFewer_named:Tryz.pinned.checked.prog.funcNamed Rows.stowageFewerRow.func=some 7:=by kernel_rfl
theorem stowageFewer_inst:Tryz.f7.isInstance Tryz.pinned.checked.prog Rows.stowageFewerRow.origin Rows.stowageFewerRow.targs:=of_decide_eq_true (by kernel_rfl)
theorem stowageFewer_shaped (os:Os):((World.doorLaid Tryz.prog 400 os).forCall (fun _ _=>0) ⟨#[],#[.agg #[.slice none 0 0,.slice none 0 0,.slice none 0 0],.slice none 0 0],[]⟩).Shaped Tryz.checked.prog:=World.shaped_of_RefB (by kernel_rfl) (by kernel_rfl)
theorem stowageFewer_ok (os:Os):Input.okWideB Tryz.checked.prog ((World.doorLaid Tryz.prog 400 os).forCall (fun _ _=>0) ⟨#[],#[.agg #[.slice none 0 0,.slice none 0 0,.slice none 0 0],.slice none 0 0],[]⟩) 7 ⟨#[],#[.agg #[.slice none 0 0,.slice none 0 0,.slice none 0 0],.slice none 0 0],[]⟩=true:=by kernel_rfl
theorem stowageFewer_pre (os:Os) {H:Type} (enc:TypeId × Value→H):Rows.stowageFewerSpec.preB enc Tryz.checked.prog Tryz.f7 [] false ((World.doorLaid Tryz.prog 400 os).forCall (fun _ _=>0) ⟨#[],#[.agg #[.slice none 0 0,.slice none 0 0,.slice none 0 0],.slice none 0 0],[]⟩).memory #[.agg #[.slice none 0 0,.slice none 0 0,.slice none 0 0],.slice none 0 0] 8=true:=by kernel_rfl
theorem stowageFewer_siz (os:Os) {H:Type} (enc:TypeId × Value→H):Rows.stowageFewerSpec.sizedB enc Tryz.checked.prog Tryz.f7 false ((World.doorLaid Tryz.prog 400 os).forCall (fun _ _=>0) ⟨#[],#[.agg #[.slice none 0 0,.slice none 0 0,.slice none 0 0],.slice none 0 0],[]⟩).memory #[.agg #[.slice none 0 0,.slice none 0 0,.slice none 0 0],.slice none 0 0] 8=true:=by kernel_rfl
theorem stowageFewer_plainT:Tryz.f7.params.toList.all (plainT Tryz.prog 10)=true:=by kernel_rfl
theorem stowageFewer_recT:(Tryz.f7.params.toList.all fun t=>Tryz.prog.readableRec t && decide (t<Tryz.prog.types.size))=true:=by kernel_rfl
theorem stowageFewer_noInit:Tryz.checked.prog.inits.idxOf? 7=none:=by kernel_rfl
theorem stowageFewer_holds:Rows.StowageFewerSaid :=
 OpenClaim.holds_of_wide 7 Tryz.f7 rfl rfl rfl rfl rfl rfl rfl ⟨rfl,rfl,rfl,rfl,rfl⟩ rfl rfl rfl rfl rfl stowageFewer_named Tryz.func7 stowageFewer_closed stowageFewer_inst stowageFewer_wrap
  (fun os started H enc _=>law_lifted 7 Tryz.f7 Rows.stowageFewerSpec os started Tryz.func7 stowageFewer_noInit (by kernel_rfl) rfl
   (fun ds h=>by
    match ds,h with
    | [d0,d1],_=>rfl)
   stowageFewer_plainT stowageFewer_recT
   (ChangeSpec.witness_shaped (enc:=enc) (C:=Tryz.checked) (os:=os) (X:=fun w _=>laidMetH Tryz.prog laidL w) false (World.doorLaid Tryz.prog 400 os) #[.agg #[.slice none 0 0,.slice none 0 0,.slice none 0 0],.slice none 0 0] 8 rfl (stowageFewer_shaped os) (stowageFewer_ok os) (stowageFewer_pre os enc) (stowageFewer_siz os enc) (door_met os _))
   stowageFewer_law)
theorem stowageFewer_wf:Rows.stowageFewerRow.wfByText (OpenSpec.ofChange Rows.stowageFewerSpec)=true:=by kernel_rfl
theorem stowageFewer_main:Tryz.pinned.checked.prog.mainIs=some (true, "e25b04b6d8faed09545a5263a2ff7bacd796f210eed2b446e190ec99eb4fb82f".toList):=by kernel_rfl
theorem stowageFewer_goes:false=Rows.stowageFewerRow.goesBy Tryz.pinned.checked.prog:=by kernel_rfl
theorem stowageFewer_looks:true=Tryz.pinned.checked.prog.looks []:=by kernel_rfl
theorem stowageFewer_card:Rows.StowageFewerCardSaid :=
 Claim7.holds_tied_plain_at .later [] laidK true (true, "e25b04b6d8faed09545a5263a2ff7bacd796f210eed2b446e190ec99eb4fb82f") true
  stowageFewer_holds (fun _ h=>by cases h) stowageFewer_wf (fun _ h=>by cases h) stowageFewer_row_tie rfl ⟨rfl,rfl⟩ stowageFewer_main rfl
  (fun f fn hf hfn=>by
   obtain rfl:f=7:=(Option.some.inj (stowageFewer_named.symm.trans hf)).symm
   obtain rfl:fn=Tryz.f7:=(Option.some.inj (Tryz.func7.symm.trans hfn)).symm
   exact ⟨stowageFewer_looks,fun j t ht=>by
    rw [Tryz.params7] at ht
    rcases j with _ | _ | j
    · obtain rfl:28=t:=by simpa using ht
      exact (show Tryz.prog.wantsStandIn 28=false by kernel_rfl)
    · obtain rfl:35=t:=by simpa using ht
      exact (show Tryz.prog.wantsStandIn 35=false by kernel_rfl)
    · simp at ht
   ⟩)
  stowageFewer_goes
end Go.Proofs.YtpjlnfpbkhcobaaGreatDoor
