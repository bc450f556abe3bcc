/- MatrixSolves: Solve, Inverse and Fit return what is specified for any matrix and values; the row and the card. -/
import Derived.Test.YtfjcadbekkfddaaGreatDoorCardBLaw
set_option linter.unusedSectionVars false
set_option linter.unusedVariables false
set_option linter.unusedSimpArgs false
namespace Go.Proofs.YtfjcadbekkfddaaGreatDoor
open Go Go.Proofs Go.ChangeShapes Go.WideShapes Go.ChangeAt Go.RowKit Gev Gb
set_option maxRecDepth 100000
theorem matrixSolves_law:∀ us,AvsOf Tryz.prog Tryz.f5.params.toList us→Gev.Fn E0 5 us (.c (.bool true)):=by
 intro us hu
 rw [Tryz.params5] at hu
 match us,hu with
 | [a0,a1],⟨h0,h1,_⟩ =>
  obtain ⟨m0,rfl,n0⟩:=u_Mx (n:=6) (e:=37) (q:=32) (by kernel_rfl) (by kernel_rfl) (by kernel_rfl) h0 (by kernel_rfl)
  obtain ⟨l1,rfl,n1⟩:=u_Ls (n:=6) (q:=32) (by kernel_rfl) (by kernel_rfl) h1 (by kernel_rfl)
  exact law_Solves lib0 cl0 awake0 n0 n1
theorem matrixSolves_closed:joinedFacts Tryz.pinned.checked.prog 5 Tryz.f5 Rows.matrixSolvesSpec Rows.matrixSolvesRow=true:=by kernel_rfl
theorem matrixSolves_wrap:Tryz.f5.isWrapper Tryz.pinned.checked.prog Rows.matrixSolvesRow.wrapper Rows.matrixSolvesRow.mainSum:=by unfold Func.isWrapper;first | (rw [if_pos (by decide +kernel)];kernel_rfl) | (rw [if_neg (by decide +kernel)];exact ⟨rfl,rfl⟩)
theorem matrixSolves_named:Tryz.pinned.checked.prog.funcNamed Rows.matrixSolvesRow.func=some 5:=by kernel_rfl
theorem matrixSolves_inst:Tryz.f5.isInstance Tryz.pinned.checked.prog Rows.matrixSolvesRow.origin Rows.matrixSolvesRow.targs:=of_decide_eq_true (by kernel_rfl)
theorem matrixSolves_shaped (os:Os):((World.doorLaid Tryz.prog 400 os).forCall (fun _ _=>0) ⟨#[],#[.slice none 0 0,.slice none 0 0],[]⟩).Shaped Tryz.checked.prog:=World.shaped_of_RefB (by kernel_rfl) (by kernel_rfl)
theorem matrixSolves_ok (os:Os):Input.okWideB Tryz.checked.prog ((World.doorLaid Tryz.prog 400 os).forCall (fun _ _=>0) ⟨#[],#[.slice none 0 0,.slice none 0 0],[]⟩) 5 ⟨#[],#[.slice none 0 0,.slice none 0 0],[]⟩=true:=by kernel_rfl
theorem matrixSolves_pre (os:Os) {H:Type} (enc:TypeId × Value→H):Rows.matrixSolvesSpec.preB enc Tryz.checked.prog Tryz.f5 [] false ((World.doorLaid Tryz.prog 400 os).forCall (fun _ _=>0) ⟨#[],#[.slice none 0 0,.slice none 0 0],[]⟩).memory #[.slice none 0 0,.slice none 0 0] 8=true:=by kernel_rfl
theorem matrixSolves_siz (os:Os) {H:Type} (enc:TypeId × Value→H):Rows.matrixSolvesSpec.sizedB enc Tryz.checked.prog Tryz.f5 false ((World.doorLaid Tryz.prog 400 os).forCall (fun _ _=>0) ⟨#[],#[.slice none 0 0,.slice none 0 0],[]⟩).memory #[.slice none 0 0,.slice none 0 0] 8=true:=by kernel_rfl
theorem matrixSolves_plainT:Tryz.f5.params.toList.all (plainT Tryz.prog 10)=true:=by kernel_rfl
theorem matrixSolves_recT:(Tryz.f5.params.toList.all fun t=>Tryz.prog.readableRec t && decide (t<Tryz.prog.types.size))=true:=by kernel_rfl
theorem matrixSolves_noInit:Tryz.checked.prog.inits.idxOf? 5=none:=by kernel_rfl
theorem matrixSolves_holds:Rows.MatrixSolvesSaid :=
 OpenClaim.holds_of_wide 5 Tryz.f5 rfl rfl rfl rfl rfl rfl rfl ⟨rfl,rfl,rfl,rfl,rfl⟩ rfl rfl rfl rfl rfl matrixSolves_named Tryz.func5 matrixSolves_closed matrixSolves_inst matrixSolves_wrap
  (fun os started H enc _=>law_lifted 5 Tryz.f5 Rows.matrixSolvesSpec os started Tryz.func5 matrixSolves_noInit (by kernel_rfl) rfl
   (fun ds h=>by
    match ds,h with
    | [d0,d1],_=>rfl)
   matrixSolves_plainT matrixSolves_recT
   (ChangeSpec.witness_shaped (enc:=enc) (C:=Tryz.checked) (os:=os) (X:=fun w _=>laidMetH Tryz.prog laidL w) false (World.doorLaid Tryz.prog 400 os) #[.slice none 0 0,.slice none 0 0] 8 rfl (matrixSolves_shaped os) (matrixSolves_ok os) (matrixSolves_pre os enc) (matrixSolves_siz os enc) (door_met os _))
   matrixSolves_law)
theorem matrixSolves_wf:Rows.matrixSolvesRow.wfByText (OpenSpec.ofChange Rows.matrixSolvesSpec)=true:=by kernel_rfl
theorem matrixSolves_main:Tryz.pinned.checked.prog.mainIs=some (true, "9ca9f2721a0a045715b584f28ca9a2f1f31f572279ec0041ecbb7389768777ac".toList):=by kernel_rfl
theorem matrixSolves_goes:false=Rows.matrixSolvesRow.goesBy Tryz.pinned.checked.prog:=by kernel_rfl
theorem matrixSolves_looks:true=Tryz.pinned.checked.prog.looks []:=by kernel_rfl
theorem matrixSolves_card:Rows.MatrixSolvesCardSaid :=
 Claim7.holds_tied_plain_at .later [] laidK true (true, "9ca9f2721a0a045715b584f28ca9a2f1f31f572279ec0041ecbb7389768777ac") true
  matrixSolves_holds (fun _ h=>by cases h) matrixSolves_wf (fun _ h=>by cases h) matrixSolves_row_tie rfl ⟨rfl,rfl⟩ matrixSolves_main rfl
  (fun f fn hf hfn=>by
   obtain rfl:f=5:=(Option.some.inj (matrixSolves_named.symm.trans hf)).symm
   obtain rfl:fn=Tryz.f5:=(Option.some.inj (Tryz.func5.symm.trans hfn)).symm
   exact ⟨matrixSolves_looks,fun j t ht=>by
    rw [Tryz.params5] at ht
    rcases j with _ | _ | j
    · obtain rfl:22=t:=by simpa using ht
      exact (show Tryz.prog.wantsStandIn 22=false by kernel_rfl)
    · obtain rfl:37=t:=by simpa using ht
      exact (show Tryz.prog.wantsStandIn 37=false by kernel_rfl)
    · simp at ht
   ⟩)
  matrixSolves_goes
end Go.Proofs.YtfjcadbekkfddaaGreatDoor
