/- MatrixLeast: no other numbers have a lesser sum of squares than the least squares solution; the row and the card. -/
import Derived.Test.YtfjcadbekkfddaaGreatDoorCardFLaw
set_option linter.unusedSectionVars false
set_option linter.unusedVariables false
set_option linter.unusedSimpArgs false
namespace Go.Proofs.YtfjcadbekkfddaaGreatDoor
open Go Go.Proofs Go.ChangeShapes Go.WideShapes Go.ChangeAt Go.RowKit Gev Gb
set_option maxRecDepth 100000
theorem matrixLeast_law:∀ us,AvsOf Tryz.prog Tryz.f9.params.toList us→Gev.Fn E0 9 us (.c (.bool true)):=by
 intro us hu
 rw [Tryz.params9] at hu
 match us,hu with
 | [a0,a1,a2],⟨h0,h1,h2,_⟩ =>
  obtain ⟨m0,rfl,n0⟩:=u_Mx (n:=6) (e:=37) (q:=32) (by kernel_rfl) (by kernel_rfl) (by kernel_rfl) h0 (by kernel_rfl)
  obtain ⟨l1,rfl,n1⟩:=u_Ls (n:=6) (q:=32) (by kernel_rfl) (by kernel_rfl) h1 (by kernel_rfl)
  obtain ⟨l2,rfl,n2⟩:=u_Ls (n:=6) (q:=32) (by kernel_rfl) (by kernel_rfl) h2 (by kernel_rfl)
  exact law_Least lib0 cl0 awake0 n0 n1 n2
theorem matrixLeast_closed:joinedFacts Tryz.pinned.checked.prog 9 Tryz.f9 Rows.matrixLeastSpec Rows.matrixLeastRow=true:=by kernel_rfl
theorem matrixLeast_wrap:Tryz.f9.isWrapper Tryz.pinned.checked.prog Rows.matrixLeastRow.wrapper Rows.matrixLeastRow.mainSum:=by unfold Func.isWrapper;first | (rw [if_pos (by decide +kernel)];kernel_rfl) | (rw [if_neg (by decide +kernel)];exact ⟨rfl,rfl⟩)
theorem matrixLeast_named:Tryz.pinned.checked.prog.funcNamed Rows.matrixLeastRow.func=some 9:=by kernel_rfl
theorem matrixLeast_inst:Tryz.f9.isInstance Tryz.pinned.checked.prog Rows.matrixLeastRow.origin Rows.matrixLeastRow.targs:=of_decide_eq_true (by kernel_rfl)
theorem matrixLeast_shaped (os:Os):((World.doorLaid Tryz.prog 400 os).forCall (fun _ _=>0) ⟨#[],#[.slice none 0 0,.slice none 0 0,.slice none 0 0],[]⟩).Shaped Tryz.checked.prog:=World.shaped_of_RefB (by kernel_rfl) (by kernel_rfl)
theorem matrixLeast_ok (os:Os):Input.okWideB Tryz.checked.prog ((World.doorLaid Tryz.prog 400 os).forCall (fun _ _=>0) ⟨#[],#[.slice none 0 0,.slice none 0 0,.slice none 0 0],[]⟩) 9 ⟨#[],#[.slice none 0 0,.slice none 0 0,.slice none 0 0],[]⟩=true:=by kernel_rfl
theorem matrixLeast_pre (os:Os) {H:Type} (enc:TypeId × Value→H):Rows.matrixLeastSpec.preB enc Tryz.checked.prog Tryz.f9 [] false ((World.doorLaid Tryz.prog 400 os).forCall (fun _ _=>0) ⟨#[],#[.slice none 0 0,.slice none 0 0,.slice none 0 0],[]⟩).memory #[.slice none 0 0,.slice none 0 0,.slice none 0 0] 8=true:=by kernel_rfl
theorem matrixLeast_siz (os:Os) {H:Type} (enc:TypeId × Value→H):Rows.matrixLeastSpec.sizedB enc Tryz.checked.prog Tryz.f9 false ((World.doorLaid Tryz.prog 400 os).forCall (fun _ _=>0) ⟨#[],#[.slice none 0 0,.slice none 0 0,.slice none 0 0],[]⟩).memory #[.slice none 0 0,.slice none 0 0,.slice none 0 0] 8=true:=by kernel_rfl
theorem matrixLeast_plainT:Tryz.f9.params.toList.all (plainT Tryz.prog 10)=true:=by kernel_rfl
theorem matrixLeast_recT:(Tryz.f9.params.toList.all fun t=>Tryz.prog.readableRec t && decide (t<Tryz.prog.types.size))=true:=by kernel_rfl
theorem matrixLeast_noInit:Tryz.checked.prog.inits.idxOf? 9=none:=by kernel_rfl
theorem matrixLeast_holds:Rows.MatrixLeastSaid :=
 OpenClaim.holds_of_wide 9 Tryz.f9 rfl rfl rfl rfl rfl rfl rfl ⟨rfl,rfl,rfl,rfl,rfl⟩ rfl rfl rfl rfl rfl matrixLeast_named Tryz.func9 matrixLeast_closed matrixLeast_inst matrixLeast_wrap
  (fun os started H enc _=>law_lifted 9 Tryz.f9 Rows.matrixLeastSpec os started Tryz.func9 matrixLeast_noInit (by kernel_rfl) rfl
   (fun ds h=>by
    match ds,h with
    | [d0,d1,d2],_=>rfl)
   matrixLeast_plainT matrixLeast_recT
   (ChangeSpec.witness_shaped (enc:=enc) (C:=Tryz.checked) (os:=os) (X:=fun w _=>laidMetH Tryz.prog laidL w) false (World.doorLaid Tryz.prog 400 os) #[.slice none 0 0,.slice none 0 0,.slice none 0 0] 8 rfl (matrixLeast_shaped os) (matrixLeast_ok os) (matrixLeast_pre os enc) (matrixLeast_siz os enc) (door_met os _))
   matrixLeast_law)
theorem matrixLeast_wf:Rows.matrixLeastRow.wfByText (OpenSpec.ofChange Rows.matrixLeastSpec)=true:=by kernel_rfl
theorem matrixLeast_main:Tryz.pinned.checked.prog.mainIs=some (true, "9ca9f2721a0a045715b584f28ca9a2f1f31f572279ec0041ecbb7389768777ac".toList):=by kernel_rfl
theorem matrixLeast_goes:false=Rows.matrixLeastRow.goesBy Tryz.pinned.checked.prog:=by kernel_rfl
theorem matrixLeast_looks:true=Tryz.pinned.checked.prog.looks []:=by kernel_rfl
theorem matrixLeast_card:Rows.MatrixLeastCardSaid :=
 Claim7.holds_tied_plain_at .later [] laidK true (true, "9ca9f2721a0a045715b584f28ca9a2f1f31f572279ec0041ecbb7389768777ac") true
  matrixLeast_holds (fun _ h=>by cases h) matrixLeast_wf (fun _ h=>by cases h) matrixLeast_row_tie rfl ⟨rfl,rfl⟩ matrixLeast_main rfl
  (fun f fn hf hfn=>by
   obtain rfl:f=9:=(Option.some.inj (matrixLeast_named.symm.trans hf)).symm
   obtain rfl:fn=Tryz.f9:=(Option.some.inj (Tryz.func9.symm.trans hfn)).symm
   exact ⟨matrixLeast_looks,fun j t ht=>by
    rw [Tryz.params9] at ht
    rcases j with _ | _ | _ | j
    · obtain rfl:22=t:=by simpa using ht
      exact (show Tryz.prog.wantsStandIn 22=false by kernel_rfl)
    · obtain rfl:37=t:=by simpa using ht
      exact (show Tryz.prog.wantsStandIn 37=false by kernel_rfl)
    · obtain rfl:37=t:=by simpa using ht
      exact (show Tryz.prog.wantsStandIn 37=false by kernel_rfl)
    · simp at ht
   ⟩)
  matrixLeast_goes
end Go.Proofs.YtfjcadbekkfddaaGreatDoor
