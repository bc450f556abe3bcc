/- A part of the proof: see the last text of this claim. -/
import Derived.Test.YtpjlnfpbkhcobaaGreatDoorE
import Derived.OpenShut
import Derived.HandedShaped
set_option linter.unusedSectionVars false
set_option linter.unusedVariables false
set_option linter.unusedSimpArgs false
namespace Gev
open Go Go.Proofs Go.ChangeShapes Go.WideShapes Go.ChangeAt Go.RowKit
variable {H:Type} {enc:TypeId × Value→H}
theorem w1i {C:Checked} {os:Os} {f:FuncId} {fn:Func} {s:ChangeSpec} {conds:List PathCond} {apart fresh handsOn again:Bool} {X:World→Prop} (hX:∀ (w w':World),w.heap=w'.heap→X w→X w')
    (own:ownKnob C.prog.godebug=none) (started:os.Started) (noInit:C.prog.inits.idxOf? f=none) (hfn:C.prog.funcs[f]?=some fn)
    (witness:∃ (w:World) (tape:Tape) (i:Input),w.os=os∧(w.forCall tape i).Shaped C.prog∧i.vars=[]∧Input.okWide C.prog (w.forCall tape i) .any w.heap.size f i ∧
     ((s.pre enc C.prog fn conds apart (w.forCall tape i).memory i.args∧X (w.forCall tape i).memory)∧sizedMet enc C.prog fn (OpenSpec.ofChange s) apart (w.forCall tape i).memory i.args)∧Assume.holds {} C.prog (lone (Frame.enter C.prog f i.args .normal) [] (w.forCall tape i)))
    (contract:∀ (W:World) (base:Nat) (args:Array Value) (ds gs:List (DataW H)) (before:List MemPlace),
     (∀ (j:Nat) t v,fn.params[j]?=some t→args[j]?=some v→Value.okWide C.prog W .any base t v) →
     DataW.Whole enc C.prog fn.params.toList s.vars apart W args.toList ds gs before→X W→W.ShapedOpen C.prog →
     Calls C.prog f args W fun e W'=>∃ v,e=.returned v∧s.post enc C.prog fn apart fresh handsOn again W args v W') :
    ReturnsInHanded {} C os f .any (fun w args=>(s.pre enc C.prog fn conds apart w args∧X w)∧sizedMet enc C.prog fn (OpenSpec.ofChange s) apart w args) (s.post enc C.prog fn apart fresh handsOn again):=by
 refine returnsInHanded_of_calls own started noInit witness ?_
 intro w tape i _ hsh _ hok hpre _
 obtain ⟨_,_,_,fn',hfn',_,_,_,_,hval⟩:=hok
 obtain rfl:fn'=fn:=Option.some.inj (hfn'.symm.trans hfn)
 obtain ⟨⟨⟨ds,gs,before,hw,_⟩,hx⟩,_⟩:=hpre
 have hw':=DataW.Whole.of_heap (w':=w.forCall tape i) (by rfl) hw
 refine (contract (w.forCall tape i) w.heap.size i.args ds gs before hval hw' (hX _ _ (by rfl) hx) hsh).mono fun e W' ⟨v,he,hp⟩=>?_
 subst he
 exact ChangeSpec.post_blind hp
abbrev laidL:List (String × DataW Unit):=[("math/bits.deBruijn32tab",YtpjlnfpbkhcobaaGreatDoor.Rows.laid_math_bits_deBruijn32tab),("math/bits.deBruijn64tab",YtpjlnfpbkhcobaaGreatDoor.Rows.laid_math_bits_deBruijn64tab),("internal/strconv.uint64pow10",YtpjlnfpbkhcobaaGreatDoor.Rows.laid_internal_strconv_uint64pow10),("strconv.ErrRange",YtpjlnfpbkhcobaaGreatDoor.Rows.laid_strconv_ErrRange),("strconv.ErrSyntax",YtpjlnfpbkhcobaaGreatDoor.Rows.laid_strconv_ErrSyntax)]
abbrev laidK:List LaidKind:=[.data,.data,.data,.sentinel,.sentinel]
theorem own0:ownKnob Tryz.prog.godebug=none:=by kernel_rfl
theorem u1h:laidOutB Tryz.prog=true:=by kernel_rfl
theorem door_met (os:Os) (args:Array Value):laidMetH Tryz.prog laidL ((World.doorLaid Tryz.prog 400 os).forCall (fun _ _=>0) ⟨#[],args,[]⟩).memory :=
 laidMetH_of_parts3 (fuel:=8) (laidMet_of_run' 8 (by kernel_rfl) (by kernel_rfl)) (by kernel_rfl) (by kernel_rfl)
theorem v7b {P:Program} {x:String × DataW Unit} {r:List (String × DataW Unit)} {w:World} (h:laidMet P (x::r) w):laidMet P r w:=by
 obtain ⟨ps,hv,hnd,hrows⟩:=h
 obtain ⟨n,d⟩:=x
 obtain ⟨g,t,cs,fuel,p,q,_,_,_,_,hq,rfl⟩:=hv
 exact ⟨q,hq,List.Nodup.sublist (List.sublist_append_right _ _) hnd,fun b off hm=>hrows b off (List.mem_append_right _ hm)⟩
theorem u5n {W:World} (h:laidMetH Tryz.prog laidL W) (hs:W.ShapedOpen Tryz.prog):Told W:=by
 refine ⟨?_,Tryz.laysM145.s1_3 W hs⟩
 rw [MakeChecks.laidMetH_plain _ _ _ (by kernel_rfl)] at h
 exact Go.Lib.tabIs_of_head (g:=0) gTab (t:=247) (e:=176) (n:=20) (by kernel_rfl) (by kernel_rfl) (by kernel_rfl) (by kernel_rfl) (by kernel_rfl) (v7b (v7b h):laidMet Tryz.prog (("internal/strconv.uint64pow10",Go.Lib.tabData .u64 Go.Lib.pow10Tab)::_) W)
theorem u1t {W:World}:∀ b,b < W.heap.size→¬ (fun _:Nat=>False) b:=fun _ _ h=>h
set_option maxRecDepth 100000 in
theorem law_lifted (f:FuncId) (fn:Func) (s:ChangeSpec) (os:Os) (started:os.Started) (hfn:Tryz.checked.prog.funcs[f]?=some fn) (noInit:Tryz.checked.prog.inits.idxOf? f=none) (hres:fn.resultTypes=#[4]) (hv:s.vars=[])
    (hs:∀ ds:List (DataW H),ds.length=fn.params.size→s.fn H ds={ results:=[.lit (.bool true)],args:=ds }) (hp:fn.params.toList.all (plainT Tryz.prog 10)=true) (hr:(fn.params.toList.all fun t=>Tryz.prog.readableRec t && decide (t < Tryz.prog.types.size))=true)
    (witness:∃ (w:World) (tape:Tape) (i:Input),w.os=os∧(w.forCall tape i).Shaped Tryz.checked.prog∧i.vars=[]∧Input.okWide Tryz.checked.prog (w.forCall tape i) .any w.heap.size f i ∧
     ((s.pre enc Tryz.checked.prog fn [] false (w.forCall tape i).memory i.args∧laidMetH Tryz.prog laidL (w.forCall tape i).memory)∧sizedMet enc Tryz.checked.prog fn (OpenSpec.ofChange s) false (w.forCall tape i).memory i.args)∧Assume.holds {} Tryz.checked.prog (lone (Frame.enter Tryz.checked.prog f i.args .normal) [] (w.forCall tape i)))
    (law:∀ us,AvsOf Tryz.prog fn.params.toList us→Fn E0 f us (.c (.bool true))) :
    ReturnsInHanded {} Tryz.checked os f .any (fun w args=>(s.pre enc Tryz.checked.prog fn [] false w args∧laidMetH Tryz.prog laidL w)∧sizedMet enc Tryz.checked.prog fn (OpenSpec.ofChange s) false w args) (s.post enc Tryz.checked.prog fn false true false false):=by
 refine w1i (fun _ _ hh h=>h.of_heap hh) own0 started noInit hfn witness fun W base args ds gs before hval hW hL hsh=>?_
 have hW':=hW
 obtain ⟨p,q,hA,hV,rfl,_,_⟩:=hW
 rw [hv] at hV
 obtain ⟨rfl,rfl⟩:=trodVars_none hV
 have hT:=u5n hL hsh
 have hlt:∀ y∈p,y.block < W.heap.size:=fun y hy=>hW'.lt y (List.mem_append_left _ hy)
 obtain ⟨us,u1,u2,u3⟩:=v7w u1t hp (fun j t v h1 h2=>hval j t v (by rw [← Array.getElem?_toList]; exact h1) (by rw [← Array.getElem?_toList]; exact h2)) hA
 have hdl:ds.length=fn.params.size:=by
  have:∀ {ts:List TypeId} {vs:List Value} {ds:List (DataW H)} {ps:List MemPlace},DataW.TrodAll enc Tryz.checked.prog W 0 (fun _=>true) true ts vs ds ps→ds.length=ts.length:=by
   intro ts
   induction ts with
   | nil=>intro vs ds ps h; cases vs <;> cases ds <;> simp_all [DataW.TrodAll]
   | cons t ts ih =>
    intro vs ds ps h
    cases vs with
    | nil=>cases ds <;> simp [DataW.TrodAll] at h
    | cons v vs=>cases ds with
     | nil=>simp [DataW.TrodAll] at h
     | cons d ds=>obtain ⟨_,_,_,h2,_⟩:=h; simp [ih h2]
  rw [this hA]; simp
 refine Calls.mono ((law us u1).calls W (fun _=>False) args hT (u0a hT) (fun _ h=>h.elim) (by rw [← u2]; simp) fun i v a h1 h2=>u3 i v a (by rw [Array.getElem?_toList]; exact h1) h2) ?_
 rintro e W' ⟨v,rfl,_,k1,k2⟩
 have hb:Below W.heap.size W W':=⟨k1.os,k1.tape,k1.output,k1.size,fun b hb=>k1.heap b hb id⟩
 have hvv:v=.bool true:=by cases k2 with | c k2=>cases k2; rfl
 subst hvv
 refine ⟨_,rfl,ds,[],p++[],[],p,[],hW',?_,?_,?_,hb.frame _,fun h=>by cases h⟩
 · rw [List.append_nil,hs ds hdl,hres]; exact trodAll_mk1 (shut_bool (by kernel_rfl) true)
 · rw [List.append_nil,hs ds hdl]; exact k9y u1h hb hr hlt hA
 · rw [List.append_nil,hs ds hdl,hv]; rfl
end Gev
