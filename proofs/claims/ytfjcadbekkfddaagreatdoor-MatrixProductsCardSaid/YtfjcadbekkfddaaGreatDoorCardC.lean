/- MatrixProducts: the determinant of a product, transposed products, ranks; the row and the card. -/
import Derived.Test.YtfjcadbekkfddaaGreatDoorCardCLaw
set_option linter.unusedSectionVars false
set_option linter.unusedVariables false
set_option linter.unusedSimpArgs false
namespace Go.Proofs.YtfjcadbekkfddaaGreatDoor
open Go Go.Proofs Go.ChangeShapes Go.WideShapes Go.ChangeAt Go.RowKit Gev Gb
set_option maxRecDepth 100000
theorem matrixProducts_law:∀ us,AvsOf Tryz.prog Tryz.f6.params.toList us→Gev.Fn E0 6 us (.c (.bool true)):=by
 intro us hu
 rw [Tryz.params6] at hu
 match us,hu with
 | [a0,a1],⟨h0,h1,_⟩ =>
  obtain ⟨m0,rfl,n0⟩:=u_Mx (n:=6) (e:=37) (q:=32) (by kernel_rfl) (by kernel_rfl) (by kernel_rfl) h0 (by kernel_rfl)
  obtain ⟨m1,rfl,n1⟩:=u_Mx (n:=6) (e:=37) (q:=32) (by kernel_rfl) (by kernel_rfl) (by kernel_rfl) h1 (by kernel_rfl)
  exact law_Products lib0 cl0 awake0 n0 n1
theorem matrixProducts_closed:joinedFacts Tryz.pinned.checked.prog 6 Tryz.f6 Rows.matrixProductsSpec Rows.matrixProductsRow=true:=by kernel_rfl
theorem matrixProducts_wrap:Tryz.f6.isWrapper Tryz.pinned.checked.prog Rows.matrixProductsRow.wrapper Rows.matrixProductsRow.mainSum:=by unfold Func.isWrapper;first | (rw [if_pos (by decide +kernel)];kernel_rfl) | (rw [if_neg (by decide +kernel)];exact ⟨rfl,rfl⟩)
theorem matrixProducts_named:Tryz.pinned.checked.prog.funcNamed Rows.matrixProductsRow.func=some 6:=by kernel_rfl
theorem matrixProducts_inst:Tryz.f6.isInstance Tryz.pinned.checked.prog Rows.matrixProductsRow.origin Rows.matrixProductsRow.targs:=of_decide_eq_true (by kernel_rfl)
theorem matrixProducts_shaped (os:Os):((World.doorLaid Tryz.prog 400 os).forCall (fun _ _=>0) ⟨#[],#[.slice none 0 0,.slice none 0 0],[]⟩).Shaped Tryz.checked.prog:=World.shaped_of_RefB (by kernel_rfl) (by kernel_rfl)
theorem matrixProducts_ok (os:Os):Input.okWideB Tryz.checked.prog ((World.doorLaid Tryz.prog 400 os).forCall (fun _ _=>0) ⟨#[],#[.slice none 0 0,.slice none 0 0],[]⟩) 6 ⟨#[],#[.slice none 0 0,.slice none 0 0],[]⟩=true:=by kernel_rfl
theorem matrixProducts_pre (os:Os) {H:Type} (enc:TypeId × Value→H):Rows.matrixProductsSpec.preB enc Tryz.checked.prog Tryz.f6 [] false ((World.doorLaid Tryz.prog 400 os).forCall (fun _ _=>0) ⟨#[],#[.slice none 0 0,.slice none 0 0],[]⟩).memory #[.slice none 0 0,.slice none 0 0] 8=true:=by kernel_rfl
theorem matrixProducts_siz (os:Os) {H:Type} (enc:TypeId × Value→H):Rows.matrixProductsSpec.sizedB enc Tryz.checked.prog Tryz.f6 false ((World.doorLaid Tryz.prog 400 os).forCall (fun _ _=>0) ⟨#[],#[.slice none 0 0,.slice none 0 0],[]⟩).memory #[.slice none 0 0,.slice none 0 0] 8=true:=by kernel_rfl
theorem matrixProducts_plainT:Tryz.f6.params.toList.all (plainT Tryz.prog 10)=true:=by kernel_rfl
theorem matrixProducts_recT:(Tryz.f6.params.toList.all fun t=>Tryz.prog.readableRec t && decide (t<Tryz.prog.types.size))=true:=by kernel_rfl
theorem matrixProducts_noInit:Tryz.checked.prog.inits.idxOf? 6=none:=by kernel_rfl
theorem matrixProducts_holds:Rows.MatrixProductsSaid :=
 OpenClaim.holds_of_wide 6 Tryz.f6 rfl rfl rfl rfl rfl rfl rfl ⟨rfl,rfl,rfl,rfl,rfl⟩ rfl rfl rfl rfl rfl matrixProducts_named Tryz.func6 matrixProducts_closed matrixProducts_inst matrixProducts_wrap
  (fun os started H enc _=>law_lifted 6 Tryz.f6 Rows.matrixProductsSpec os started Tryz.func6 matrixProducts_noInit (by kernel_rfl) rfl
   (fun ds h=>by
    match ds,h with
    | [d0,d1],_=>rfl)
   matrixProducts_plainT matrixProducts_recT
   (ChangeSpec.witness_shaped (enc:=enc) (C:=Tryz.checked) (os:=os) (X:=fun w _=>laidMetH Tryz.prog laidL w) false (World.doorLaid Tryz.prog 400 os) #[.slice none 0 0,.slice none 0 0] 8 rfl (matrixProducts_shaped os) (matrixProducts_ok os) (matrixProducts_pre os enc) (matrixProducts_siz os enc) (door_met os _))
   matrixProducts_law)
theorem matrixProducts_wf:Rows.matrixProductsRow.wfByText (OpenSpec.ofChange Rows.matrixProductsSpec)=true:=by kernel_rfl
theorem matrixProducts_main:Tryz.pinned.checked.prog.mainIs=some (true, "9ca9f2721a0a045715b584f28ca9a2f1f31f572279ec0041ecbb7389768777ac".toList):=by kernel_rfl
theorem matrixProducts_goes:false=Rows.matrixProductsRow.goesBy Tryz.pinned.checked.prog:=by kernel_rfl
theorem matrixProducts_looks:true=Tryz.pinned.checked.prog.looks []:=by kernel_rfl
theorem matrixProducts_card:Rows.MatrixProductsCardSaid :=
 Claim7.holds_tied_plain_at .later [] laidK true (true, "9ca9f2721a0a045715b584f28ca9a2f1f31f572279ec0041ecbb7389768777ac") true
  matrixProducts_holds (fun _ h=>by cases h) matrixProducts_wf (fun _ h=>by cases h) matrixProducts_row_tie rfl ⟨rfl,rfl⟩ matrixProducts_main rfl
  (fun f fn hf hfn=>by
   obtain rfl:f=6:=(Option.some.inj (matrixProducts_named.symm.trans hf)).symm
   obtain rfl:fn=Tryz.f6:=(Option.some.inj (Tryz.func6.symm.trans hfn)).symm
   exact ⟨matrixProducts_looks,fun j t ht=>by
    rw [Tryz.params6] at ht
    rcases j with _ | _ | j
    · obtain rfl:22=t:=by simpa using ht
      exact (show Tryz.prog.wantsStandIn 22=false by kernel_rfl)
    · obtain rfl:22=t:=by simpa using ht
      exact (show Tryz.prog.wantsStandIn 22=false by kernel_rfl)
    · simp at ht
   ⟩)
  matrixProducts_goes
end Go.Proofs.YtfjcadbekkfddaaGreatDoor
