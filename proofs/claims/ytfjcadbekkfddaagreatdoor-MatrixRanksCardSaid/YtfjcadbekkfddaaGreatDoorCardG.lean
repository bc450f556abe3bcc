/- MatrixRanks: Det and Rank return what is specified for any matrix; the row and the card. -/
import Derived.Test.YtfjcadbekkfddaaGreatDoorCardGLaw
set_option linter.unusedSectionVars false
set_option linter.unusedVariables false
set_option linter.unusedSimpArgs false
namespace Go.Proofs.YtfjcadbekkfddaaGreatDoor
open Go Go.Proofs Go.ChangeShapes Go.WideShapes Go.ChangeAt Go.RowKit Gev Gb
set_option maxRecDepth 100000
theorem matrixRanks_law:∀ us,AvsOf Tryz.prog Tryz.f4.params.toList us→Gev.Fn E0 4 us (.c (.bool true)):=by
 intro us hu
 rw [Tryz.params4] at hu
 match us,hu with
 | [a0],⟨h0,_⟩ =>
  obtain ⟨m0,rfl,n0⟩:=u_Mx (n:=6) (e:=37) (q:=32) (by kernel_rfl) (by kernel_rfl) (by kernel_rfl) h0 (by kernel_rfl)
  exact law_Ranks lib0 cl0 awake0 n0
theorem matrixRanks_closed:joinedFacts Tryz.pinned.checked.prog 4 Tryz.f4 Rows.matrixRanksSpec Rows.matrixRanksRow=true:=by kernel_rfl
theorem matrixRanks_wrap:Tryz.f4.isWrapper Tryz.pinned.checked.prog Rows.matrixRanksRow.wrapper Rows.matrixRanksRow.mainSum:=by unfold Func.isWrapper;first | (rw [if_pos (by decide +kernel)];kernel_rfl) | (rw [if_neg (by decide +kernel)];exact ⟨rfl,rfl⟩)
theorem matrixRanks_named:Tryz.pinned.checked.prog.funcNamed Rows.matrixRanksRow.func=some 4:=by kernel_rfl
theorem matrixRanks_inst:Tryz.f4.isInstance Tryz.pinned.checked.prog Rows.matrixRanksRow.origin Rows.matrixRanksRow.targs:=of_decide_eq_true (by kernel_rfl)
theorem matrixRanks_shaped (os:Os):((World.doorLaid Tryz.prog 400 os).forCall (fun _ _=>0) ⟨#[],#[.slice none 0 0],[]⟩).Shaped Tryz.checked.prog:=World.shaped_of_RefB (by kernel_rfl) (by kernel_rfl)
theorem matrixRanks_ok (os:Os):Input.okWideB Tryz.checked.prog ((World.doorLaid Tryz.prog 400 os).forCall (fun _ _=>0) ⟨#[],#[.slice none 0 0],[]⟩) 4 ⟨#[],#[.slice none 0 0],[]⟩=true:=by kernel_rfl
theorem matrixRanks_pre (os:Os) {H:Type} (enc:TypeId × Value→H):Rows.matrixRanksSpec.preB enc Tryz.checked.prog Tryz.f4 [] false ((World.doorLaid Tryz.prog 400 os).forCall (fun _ _=>0) ⟨#[],#[.slice none 0 0],[]⟩).memory #[.slice none 0 0] 8=true:=by kernel_rfl
theorem matrixRanks_siz (os:Os) {H:Type} (enc:TypeId × Value→H):Rows.matrixRanksSpec.sizedB enc Tryz.checked.prog Tryz.f4 false ((World.doorLaid Tryz.prog 400 os).forCall (fun _ _=>0) ⟨#[],#[.slice none 0 0],[]⟩).memory #[.slice none 0 0] 8=true:=by kernel_rfl
theorem matrixRanks_plainT:Tryz.f4.params.toList.all (plainT Tryz.prog 10)=true:=by kernel_rfl
theorem matrixRanks_recT:(Tryz.f4.params.toList.all fun t=>Tryz.prog.readableRec t && decide (t<Tryz.prog.types.size))=true:=by kernel_rfl
theorem matrixRanks_noInit:Tryz.checked.prog.inits.idxOf? 4=none:=by kernel_rfl
theorem matrixRanks_holds:Rows.MatrixRanksSaid :=
 OpenClaim.holds_of_wide 4 Tryz.f4 rfl rfl rfl rfl rfl rfl rfl ⟨rfl,rfl,rfl,rfl,rfl⟩ rfl rfl rfl rfl rfl matrixRanks_named Tryz.func4 matrixRanks_closed matrixRanks_inst matrixRanks_wrap
  (fun os started H enc _=>law_lifted 4 Tryz.f4 Rows.matrixRanksSpec os started Tryz.func4 matrixRanks_noInit (by kernel_rfl) rfl
   (fun ds h=>by
    match ds,h with
    | [d0],_=>rfl)
   matrixRanks_plainT matrixRanks_recT
   (ChangeSpec.witness_shaped (enc:=enc) (C:=Tryz.checked) (os:=os) (X:=fun w _=>laidMetH Tryz.prog laidL w) false (World.doorLaid Tryz.prog 400 os) #[.slice none 0 0] 8 rfl (matrixRanks_shaped os) (matrixRanks_ok os) (matrixRanks_pre os enc) (matrixRanks_siz os enc) (door_met os _))
   matrixRanks_law)
theorem matrixRanks_wf:Rows.matrixRanksRow.wfByText (OpenSpec.ofChange Rows.matrixRanksSpec)=true:=by kernel_rfl
theorem matrixRanks_main:Tryz.pinned.checked.prog.mainIs=some (true, "9ca9f2721a0a045715b584f28ca9a2f1f31f572279ec0041ecbb7389768777ac".toList):=by kernel_rfl
theorem matrixRanks_goes:false=Rows.matrixRanksRow.goesBy Tryz.pinned.checked.prog:=by kernel_rfl
theorem matrixRanks_looks:true=Tryz.pinned.checked.prog.looks []:=by kernel_rfl
theorem matrixRanks_card:Rows.MatrixRanksCardSaid :=
 Claim7.holds_tied_plain_at .later [] laidK true (true, "9ca9f2721a0a045715b584f28ca9a2f1f31f572279ec0041ecbb7389768777ac") true
  matrixRanks_holds (fun _ h=>by cases h) matrixRanks_wf (fun _ h=>by cases h) matrixRanks_row_tie rfl ⟨rfl,rfl⟩ matrixRanks_main rfl
  (fun f fn hf hfn=>by
   obtain rfl:f=4:=(Option.some.inj (matrixRanks_named.symm.trans hf)).symm
   obtain rfl:fn=Tryz.f4:=(Option.some.inj (Tryz.func4.symm.trans hfn)).symm
   exact ⟨matrixRanks_looks,fun j t ht=>by
    rw [Tryz.params4] at ht
    rcases j with _ | j
    · obtain rfl:22=t:=by simpa using ht
      exact (show Tryz.prog.wantsStandIn 22=false by kernel_rfl)
    · simp at ht
   ⟩)
  matrixRanks_goes
end Go.Proofs.YtfjcadbekkfddaaGreatDoor
