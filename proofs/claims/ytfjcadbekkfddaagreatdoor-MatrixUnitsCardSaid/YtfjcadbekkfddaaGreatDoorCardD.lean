/- MatrixUnits: a matrix times its inverse is the unit matrix, and there is none exactly if the determinant is 0; the row and the card. -/
import Derived.Test.YtfjcadbekkfddaaGreatDoorCardDLaw
set_option linter.unusedSectionVars false
set_option linter.unusedVariables false
set_option linter.unusedSimpArgs false
namespace Go.Proofs.YtfjcadbekkfddaaGreatDoor
open Go Go.Proofs Go.ChangeShapes Go.WideShapes Go.ChangeAt Go.RowKit Gev Gb
set_option maxRecDepth 100000
theorem matrixUnits_law:∀ us,AvsOf Tryz.prog Tryz.f7.params.toList us→Gev.Fn E0 7 us (.c (.bool true)):=by
 intro us hu
 rw [Tryz.params7] at hu
 match us,hu with
 | [a0],⟨h0,_⟩ =>
  obtain ⟨m0,rfl,n0⟩:=u_Mx (n:=6) (e:=37) (q:=32) (by kernel_rfl) (by kernel_rfl) (by kernel_rfl) h0 (by kernel_rfl)
  exact law_Units lib0 cl0 awake0 n0
theorem matrixUnits_closed:joinedFacts Tryz.pinned.checked.prog 7 Tryz.f7 Rows.matrixUnitsSpec Rows.matrixUnitsRow=true:=by kernel_rfl
theorem matrixUnits_wrap:Tryz.f7.isWrapper Tryz.pinned.checked.prog Rows.matrixUnitsRow.wrapper Rows.matrixUnitsRow.mainSum:=by unfold Func.isWrapper;first | (rw [if_pos (by decide +kernel)];kernel_rfl) | (rw [if_neg (by decide +kernel)];exact ⟨rfl,rfl⟩)
theorem matrixUnits_named:Tryz.pinned.checked.prog.funcNamed Rows.matrixUnitsRow.func=some 7:=by kernel_rfl
theorem matrixUnits_inst:Tryz.f7.isInstance Tryz.pinned.checked.prog Rows.matrixUnitsRow.origin Rows.matrixUnitsRow.targs:=of_decide_eq_true (by kernel_rfl)
theorem matrixUnits_shaped (os:Os):((World.doorLaid Tryz.prog 400 os).forCall (fun _ _=>0) ⟨#[],#[.slice none 0 0],[]⟩).Shaped Tryz.checked.prog:=World.shaped_of_RefB (by kernel_rfl) (by kernel_rfl)
theorem matrixUnits_ok (os:Os):Input.okWideB Tryz.checked.prog ((World.doorLaid Tryz.prog 400 os).forCall (fun _ _=>0) ⟨#[],#[.slice none 0 0],[]⟩) 7 ⟨#[],#[.slice none 0 0],[]⟩=true:=by kernel_rfl
theorem matrixUnits_pre (os:Os) {H:Type} (enc:TypeId × Value→H):Rows.matrixUnitsSpec.preB enc Tryz.checked.prog Tryz.f7 [] false ((World.doorLaid Tryz.prog 400 os).forCall (fun _ _=>0) ⟨#[],#[.slice none 0 0],[]⟩).memory #[.slice none 0 0] 8=true:=by kernel_rfl
theorem matrixUnits_siz (os:Os) {H:Type} (enc:TypeId × Value→H):Rows.matrixUnitsSpec.sizedB enc Tryz.checked.prog Tryz.f7 false ((World.doorLaid Tryz.prog 400 os).forCall (fun _ _=>0) ⟨#[],#[.slice none 0 0],[]⟩).memory #[.slice none 0 0] 8=true:=by kernel_rfl
theorem matrixUnits_plainT:Tryz.f7.params.toList.all (plainT Tryz.prog 10)=true:=by kernel_rfl
theorem matrixUnits_recT:(Tryz.f7.params.toList.all fun t=>Tryz.prog.readableRec t && decide (t<Tryz.prog.types.size))=true:=by kernel_rfl
theorem matrixUnits_noInit:Tryz.checked.prog.inits.idxOf? 7=none:=by kernel_rfl
theorem matrixUnits_holds:Rows.MatrixUnitsSaid :=
 OpenClaim.holds_of_wide 7 Tryz.f7 rfl rfl rfl rfl rfl rfl rfl ⟨rfl,rfl,rfl,rfl,rfl⟩ rfl rfl rfl rfl rfl matrixUnits_named Tryz.func7 matrixUnits_closed matrixUnits_inst matrixUnits_wrap
  (fun os started H enc _=>law_lifted 7 Tryz.f7 Rows.matrixUnitsSpec os started Tryz.func7 matrixUnits_noInit (by kernel_rfl) rfl
   (fun ds h=>by
    match ds,h with
    | [d0],_=>rfl)
   matrixUnits_plainT matrixUnits_recT
   (ChangeSpec.witness_shaped (enc:=enc) (C:=Tryz.checked) (os:=os) (X:=fun w _=>laidMetH Tryz.prog laidL w) false (World.doorLaid Tryz.prog 400 os) #[.slice none 0 0] 8 rfl (matrixUnits_shaped os) (matrixUnits_ok os) (matrixUnits_pre os enc) (matrixUnits_siz os enc) (door_met os _))
   matrixUnits_law)
theorem matrixUnits_wf:Rows.matrixUnitsRow.wfByText (OpenSpec.ofChange Rows.matrixUnitsSpec)=true:=by kernel_rfl
theorem matrixUnits_main:Tryz.pinned.checked.prog.mainIs=some (true, "9ca9f2721a0a045715b584f28ca9a2f1f31f572279ec0041ecbb7389768777ac".toList):=by kernel_rfl
theorem matrixUnits_goes:false=Rows.matrixUnitsRow.goesBy Tryz.pinned.checked.prog:=by kernel_rfl
theorem matrixUnits_looks:true=Tryz.pinned.checked.prog.looks []:=by kernel_rfl
theorem matrixUnits_card:Rows.MatrixUnitsCardSaid :=
 Claim7.holds_tied_plain_at .later [] laidK true (true, "9ca9f2721a0a045715b584f28ca9a2f1f31f572279ec0041ecbb7389768777ac") true
  matrixUnits_holds (fun _ h=>by cases h) matrixUnits_wf (fun _ h=>by cases h) matrixUnits_row_tie rfl ⟨rfl,rfl⟩ matrixUnits_main rfl
  (fun f fn hf hfn=>by
   obtain rfl:f=7:=(Option.some.inj (matrixUnits_named.symm.trans hf)).symm
   obtain rfl:fn=Tryz.f7:=(Option.some.inj (Tryz.func7.symm.trans hfn)).symm
   exact ⟨matrixUnits_looks,fun j t ht=>by
    rw [Tryz.params7] at ht
    rcases j with _ | j
    · obtain rfl:22=t:=by simpa using ht
      exact (show Tryz.prog.wantsStandIn 22=false by kernel_rfl)
    · simp at ht
   ⟩)
  matrixUnits_goes
end Go.Proofs.YtfjcadbekkfddaaGreatDoor
