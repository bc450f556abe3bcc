/- MatrixComputes: Check, Mul and Transpose return what is specified for any matrices; the row and the card. -/
import Derived.Test.YtfjcadbekkfddaaGreatDoorCardALaw
set_option linter.unusedSectionVars false
set_option linter.unusedVariables false
set_option linter.unusedSimpArgs false
namespace Go.Proofs.YtfjcadbekkfddaaGreatDoor
open Go Go.Proofs Go.ChangeShapes Go.WideShapes Go.ChangeAt Go.RowKit Gev Gb
set_option maxRecDepth 100000
theorem matrixComputes_law:∀ us,AvsOf Tryz.prog Tryz.f3.params.toList us→Gev.Fn E0 3 us (.c (.bool true)):=by
 intro us hu
 rw [Tryz.params3] at hu
 match us,hu with
 | [a0,a1],⟨h0,h1,_⟩ =>
  obtain ⟨m0,rfl,n0⟩:=u_Mx (n:=6) (e:=37) (q:=32) (by kernel_rfl) (by kernel_rfl) (by kernel_rfl) h0 (by kernel_rfl)
  obtain ⟨m1,rfl,n1⟩:=u_Mx (n:=6) (e:=37) (q:=32) (by kernel_rfl) (by kernel_rfl) (by kernel_rfl) h1 (by kernel_rfl)
  exact law_Computes lib0 cl0 awake0 n0 n1
theorem matrixComputes_closed:joinedFacts Tryz.pinned.checked.prog 3 Tryz.f3 Rows.matrixComputesSpec Rows.matrixComputesRow=true:=by kernel_rfl
theorem matrixComputes_wrap:Tryz.f3.isWrapper Tryz.pinned.checked.prog Rows.matrixComputesRow.wrapper Rows.matrixComputesRow.mainSum:=by unfold Func.isWrapper;first | (rw [if_pos (by decide +kernel)];kernel_rfl) | (rw [if_neg (by decide +kernel)];exact ⟨rfl,rfl⟩)
theorem matrixComputes_named:Tryz.pinned.checked.prog.funcNamed Rows.matrixComputesRow.func=some 3:=by kernel_rfl
theorem matrixComputes_inst:Tryz.f3.isInstance Tryz.pinned.checked.prog Rows.matrixComputesRow.origin Rows.matrixComputesRow.targs:=of_decide_eq_true (by kernel_rfl)
theorem matrixComputes_shaped (os:Os):((World.doorLaid Tryz.prog 400 os).forCall (fun _ _=>0) ⟨#[],#[.slice none 0 0,.slice none 0 0],[]⟩).Shaped Tryz.checked.prog:=World.shaped_of_RefB (by kernel_rfl) (by kernel_rfl)
theorem matrixComputes_ok (os:Os):Input.okWideB Tryz.checked.prog ((World.doorLaid Tryz.prog 400 os).forCall (fun _ _=>0) ⟨#[],#[.slice none 0 0,.slice none 0 0],[]⟩) 3 ⟨#[],#[.slice none 0 0,.slice none 0 0],[]⟩=true:=by kernel_rfl
theorem matrixComputes_pre (os:Os) {H:Type} (enc:TypeId × Value→H):Rows.matrixComputesSpec.preB enc Tryz.checked.prog Tryz.f3 [] false ((World.doorLaid Tryz.prog 400 os).forCall (fun _ _=>0) ⟨#[],#[.slice none 0 0,.slice none 0 0],[]⟩).memory #[.slice none 0 0,.slice none 0 0] 8=true:=by kernel_rfl
theorem matrixComputes_siz (os:Os) {H:Type} (enc:TypeId × Value→H):Rows.matrixComputesSpec.sizedB enc Tryz.checked.prog Tryz.f3 false ((World.doorLaid Tryz.prog 400 os).forCall (fun _ _=>0) ⟨#[],#[.slice none 0 0,.slice none 0 0],[]⟩).memory #[.slice none 0 0,.slice none 0 0] 8=true:=by kernel_rfl
theorem matrixComputes_plainT:Tryz.f3.params.toList.all (plainT Tryz.prog 10)=true:=by kernel_rfl
theorem matrixComputes_recT:(Tryz.f3.params.toList.all fun t=>Tryz.prog.readableRec t && decide (t<Tryz.prog.types.size))=true:=by kernel_rfl
theorem matrixComputes_noInit:Tryz.checked.prog.inits.idxOf? 3=none:=by kernel_rfl
theorem matrixComputes_holds:Rows.MatrixComputesSaid :=
 OpenClaim.holds_of_wide 3 Tryz.f3 rfl rfl rfl rfl rfl rfl rfl ⟨rfl,rfl,rfl,rfl,rfl⟩ rfl rfl rfl rfl rfl matrixComputes_named Tryz.func3 matrixComputes_closed matrixComputes_inst matrixComputes_wrap
  (fun os started H enc _=>law_lifted 3 Tryz.f3 Rows.matrixComputesSpec os started Tryz.func3 matrixComputes_noInit (by kernel_rfl) rfl
   (fun ds h=>by
    match ds,h with
    | [d0,d1],_=>rfl)
   matrixComputes_plainT matrixComputes_recT
   (ChangeSpec.witness_shaped (enc:=enc) (C:=Tryz.checked) (os:=os) (X:=fun w _=>laidMetH Tryz.prog laidL w) false (World.doorLaid Tryz.prog 400 os) #[.slice none 0 0,.slice none 0 0] 8 rfl (matrixComputes_shaped os) (matrixComputes_ok os) (matrixComputes_pre os enc) (matrixComputes_siz os enc) (door_met os _))
   matrixComputes_law)
theorem matrixComputes_wf:Rows.matrixComputesRow.wfByText (OpenSpec.ofChange Rows.matrixComputesSpec)=true:=by kernel_rfl
theorem matrixComputes_main:Tryz.pinned.checked.prog.mainIs=some (true, "9ca9f2721a0a045715b584f28ca9a2f1f31f572279ec0041ecbb7389768777ac".toList):=by kernel_rfl
theorem matrixComputes_goes:false=Rows.matrixComputesRow.goesBy Tryz.pinned.checked.prog:=by kernel_rfl
theorem matrixComputes_looks:true=Tryz.pinned.checked.prog.looks []:=by kernel_rfl
theorem matrixComputes_card:Rows.MatrixComputesCardSaid :=
 Claim7.holds_tied_plain_at .later [] laidK true (true, "9ca9f2721a0a045715b584f28ca9a2f1f31f572279ec0041ecbb7389768777ac") true
  matrixComputes_holds (fun _ h=>by cases h) matrixComputes_wf (fun _ h=>by cases h) matrixComputes_row_tie rfl ⟨rfl,rfl⟩ matrixComputes_main rfl
  (fun f fn hf hfn=>by
   obtain rfl:f=3:=(Option.some.inj (matrixComputes_named.symm.trans hf)).symm
   obtain rfl:fn=Tryz.f3:=(Option.some.inj (Tryz.func3.symm.trans hfn)).symm
   exact ⟨matrixComputes_looks,fun j t ht=>by
    rw [Tryz.params3] at ht
    rcases j with _ | _ | j
    · obtain rfl:22=t:=by simpa using ht
      exact (show Tryz.prog.wantsStandIn 22=false by kernel_rfl)
    · obtain rfl:22=t:=by simpa using ht
      exact (show Tryz.prog.wantsStandIn 22=false by kernel_rfl)
    · simp at ht
   ⟩)
  matrixComputes_goes
end Go.Proofs.YtfjcadbekkfddaaGreatDoor
