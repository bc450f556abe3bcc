/- MatrixRight: a solution satisfies all equations; the residuals of a least squares solution are at right angles to the columns; the row and the card. -/
import Derived.Test.YtfjcadbekkfddaaGreatDoorCardELaw
set_option linter.unusedSectionVars false
set_option linter.unusedVariables false
set_option linter.unusedSimpArgs false
namespace Go.Proofs.YtfjcadbekkfddaaGreatDoor
open Go Go.Proofs Go.ChangeShapes Go.WideShapes Go.ChangeAt Go.RowKit Gev Gb
set_option maxRecDepth 100000
theorem matrixRight_law:∀ us,AvsOf Tryz.prog Tryz.f8.params.toList us→Gev.Fn E0 8 us (.c (.bool true)):=by
 intro us hu
 rw [Tryz.params8] at hu
 match us,hu with
 | [a0,a1],⟨h0,h1,_⟩ =>
  obtain ⟨m0,rfl,n0⟩:=u_Mx (n:=6) (e:=37) (q:=32) (by kernel_rfl) (by kernel_rfl) (by kernel_rfl) h0 (by kernel_rfl)
  obtain ⟨l1,rfl,n1⟩:=u_Ls (n:=6) (q:=32) (by kernel_rfl) (by kernel_rfl) h1 (by kernel_rfl)
  exact law_Right lib0 cl0 awake0 n0 n1
theorem matrixRight_closed:joinedFacts Tryz.pinned.checked.prog 8 Tryz.f8 Rows.matrixRightSpec Rows.matrixRightRow=true:=by kernel_rfl
theorem matrixRight_wrap:Tryz.f8.isWrapper Tryz.pinned.checked.prog Rows.matrixRightRow.wrapper Rows.matrixRightRow.mainSum:=by unfold Func.isWrapper;first | (rw [if_pos (by decide +kernel)];kernel_rfl) | (rw [if_neg (by decide +kernel)];exact ⟨rfl,rfl⟩)
theorem matrixRight_named:Tryz.pinned.checked.prog.funcNamed Rows.matrixRightRow.func=some 8:=by kernel_rfl
theorem matrixRight_inst:Tryz.f8.isInstance Tryz.pinned.checked.prog Rows.matrixRightRow.origin Rows.matrixRightRow.targs:=of_decide_eq_true (by kernel_rfl)
theorem matrixRight_shaped (os:Os):((World.doorLaid Tryz.prog 400 os).forCall (fun _ _=>0) ⟨#[],#[.slice none 0 0,.slice none 0 0],[]⟩).Shaped Tryz.checked.prog:=World.shaped_of_RefB (by kernel_rfl) (by kernel_rfl)
theorem matrixRight_ok (os:Os):Input.okWideB Tryz.checked.prog ((World.doorLaid Tryz.prog 400 os).forCall (fun _ _=>0) ⟨#[],#[.slice none 0 0,.slice none 0 0],[]⟩) 8 ⟨#[],#[.slice none 0 0,.slice none 0 0],[]⟩=true:=by kernel_rfl
theorem matrixRight_pre (os:Os) {H:Type} (enc:TypeId × Value→H):Rows.matrixRightSpec.preB enc Tryz.checked.prog Tryz.f8 [] false ((World.doorLaid Tryz.prog 400 os).forCall (fun _ _=>0) ⟨#[],#[.slice none 0 0,.slice none 0 0],[]⟩).memory #[.slice none 0 0,.slice none 0 0] 8=true:=by kernel_rfl
theorem matrixRight_siz (os:Os) {H:Type} (enc:TypeId × Value→H):Rows.matrixRightSpec.sizedB enc Tryz.checked.prog Tryz.f8 false ((World.doorLaid Tryz.prog 400 os).forCall (fun _ _=>0) ⟨#[],#[.slice none 0 0,.slice none 0 0],[]⟩).memory #[.slice none 0 0,.slice none 0 0] 8=true:=by kernel_rfl
theorem matrixRight_plainT:Tryz.f8.params.toList.all (plainT Tryz.prog 10)=true:=by kernel_rfl
theorem matrixRight_recT:(Tryz.f8.params.toList.all fun t=>Tryz.prog.readableRec t && decide (t<Tryz.prog.types.size))=true:=by kernel_rfl
theorem matrixRight_noInit:Tryz.checked.prog.inits.idxOf? 8=none:=by kernel_rfl
theorem matrixRight_holds:Rows.MatrixRightSaid :=
 OpenClaim.holds_of_wide 8 Tryz.f8 rfl rfl rfl rfl rfl rfl rfl ⟨rfl,rfl,rfl,rfl,rfl⟩ rfl rfl rfl rfl rfl matrixRight_named Tryz.func8 matrixRight_closed matrixRight_inst matrixRight_wrap
  (fun os started H enc _=>law_lifted 8 Tryz.f8 Rows.matrixRightSpec os started Tryz.func8 matrixRight_noInit (by kernel_rfl) rfl
   (fun ds h=>by
    match ds,h with
    | [d0,d1],_=>rfl)
   matrixRight_plainT matrixRight_recT
   (ChangeSpec.witness_shaped (enc:=enc) (C:=Tryz.checked) (os:=os) (X:=fun w _=>laidMetH Tryz.prog laidL w) false (World.doorLaid Tryz.prog 400 os) #[.slice none 0 0,.slice none 0 0] 8 rfl (matrixRight_shaped os) (matrixRight_ok os) (matrixRight_pre os enc) (matrixRight_siz os enc) (door_met os _))
   matrixRight_law)
theorem matrixRight_wf:Rows.matrixRightRow.wfByText (OpenSpec.ofChange Rows.matrixRightSpec)=true:=by kernel_rfl
theorem matrixRight_main:Tryz.pinned.checked.prog.mainIs=some (true, "9ca9f2721a0a045715b584f28ca9a2f1f31f572279ec0041ecbb7389768777ac".toList):=by kernel_rfl
theorem matrixRight_goes:false=Rows.matrixRightRow.goesBy Tryz.pinned.checked.prog:=by kernel_rfl
theorem matrixRight_looks:true=Tryz.pinned.checked.prog.looks []:=by kernel_rfl
theorem matrixRight_card:Rows.MatrixRightCardSaid :=
 Claim7.holds_tied_plain_at .later [] laidK true (true, "9ca9f2721a0a045715b584f28ca9a2f1f31f572279ec0041ecbb7389768777ac") true
  matrixRight_holds (fun _ h=>by cases h) matrixRight_wf (fun _ h=>by cases h) matrixRight_row_tie rfl ⟨rfl,rfl⟩ matrixRight_main rfl
  (fun f fn hf hfn=>by
   obtain rfl:f=8:=(Option.some.inj (matrixRight_named.symm.trans hf)).symm
   obtain rfl:fn=Tryz.f8:=(Option.some.inj (Tryz.func8.symm.trans hfn)).symm
   exact ⟨matrixRight_looks,fun j t ht=>by
    rw [Tryz.params8] at ht
    rcases j with _ | _ | j
    · obtain rfl:22=t:=by simpa using ht
      exact (show Tryz.prog.wantsStandIn 22=false by kernel_rfl)
    · obtain rfl:37=t:=by simpa using ht
      exact (show Tryz.prog.wantsStandIn 37=false by kernel_rfl)
    · simp at ht
   ⟩)
  matrixRight_goes
end Go.Proofs.YtfjcadbekkfddaaGreatDoor
