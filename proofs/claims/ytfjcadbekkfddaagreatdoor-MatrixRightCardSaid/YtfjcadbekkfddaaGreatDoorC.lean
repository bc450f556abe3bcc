/- A part of the proof: see the last text of this claim. -/
import Derived.Test.YtfjcadbekkfddaaGreatDoorB
import Derived.Laws.StructEq
import Derived.Deep.Draws
import Derived.Below
import Derived.Test.YtfjcadbekkfddaaGreatDoorProg
import Derived.KernelRfl
set_option linter.unusedSectionVars false
set_option linter.unusedVariables false
set_option linter.unusedSimpArgs false
namespace Gev
open Go
variable {P:Program} {D:Tab} {B0:Nat} {Gd:World→Prop}
def k9y (tmps:Array Value):ResultVar→Sem Value
 | .tmp t=>pure (tmps.getD t undef)
 | .cell x t=>do loadVar t (← asAddr (tmps.getD x undef))
theorem q6i (hT:TabOk P D) {Γ:Ctx} (hG:Good D B0 Gd Γ) {st:St} (hΓ:Γ.objs=st.objs) {a:Act} (hS:Slots D Γ st.slots a) {r:ResultVar} {v:AV} (h:k7p D st r=some v) :
    ∃ vc,(k9y a.tmps r).run P Γ.w=.ok vc Γ.w∧RepA D Γ vc v:=by
 cases r with
 | tmp t =>
  cases h
  exact ⟨_,rfl,hS.rho (.tmp t)⟩
 | cell x t =>
  simp only [k7p] at h
  have hx:=hS.rho (.tmp x)
  simp only [rho] at hx
  generalize st.slots.getD x .undef=xv at h hx
  cases xv with
  | ptr l off =>
   simp only at h
   cases hl:lk st.objs l with
   | none=>rw [hl] at h;cases h
   | some ob =>
    rw [hl] at h
    cases ob with
    | cells cs =>
     simp only at h
     generalize he:a.eval (.tmp x)=vx at hx
     cases hx with
     | ptr _ _ b cs' g1 g2 =>
      rw [hΓ,hl] at g1;cases g1
      obtain ⟨b',arr,ty,k1,k2,k3,k4⟩:=hG.ob l _ (by rw [hΓ];exact hl)
      rw [g2] at k1;cases k1
      have he':a.tmps.getD x undef=.pointer (some ⟨b,off,none⟩):=he
      have fin:(∃ vc,(loadVar t ⟨b,off,none⟩).run P Γ.w=.ok vc Γ.w∧RepA D Γ vc v)→∃ vc,(k9y a.tmps (.cell x t)).run P Γ.w=.ok vc Γ.w∧RepA D Γ vc v:=fun ⟨vc,e1,e2⟩=>by
       refine ⟨vc,?_,e2⟩
       simp only [k9y,he',asAddr]
       rw [Sem.run_bind,Sem.run_pure]
       exact e1
      refine fin ?_
      cases hp:k1y D t cs off with
      | some w=>rw [hp] at h;cases h;exact k8m hT hp k2 k3 k4
      | none =>
       rw [hp] at h
       simp only at h
       cases hn:D.size t with
       | none=>rw [hn] at h;cases h
       | some n =>
        rw [hn] at h
        simp only at h
        split at h
        · rename_i hc
          cases h
          simp only [List.all_eq_true,Bool.and_eq_true] at hc
          exact q1n hT hn hc.1 hc.2.1 (by rw [hΓ];exact hc.2.2) k2 k3 k4
        · cases h
    | _=>cases h
  | _=>cases h
theorem j0r (hT:TabOk P D) {Γ:Ctx} (hG:Good D B0 Gd Γ) {st:St} (hΓ:Γ.objs=st.objs) {a:Act} (hS:Slots D Γ st.slots a):∀ {rs:List ResultVar} {vs:List AV},y0r D st rs=some vs →
    ∃ vcs:List Value,(rs.mapM (k9y a.tmps)).run P Γ.w=.ok vcs Γ.w∧vcs.length=vs.length∧∀ (i:Nat) u v,vcs[i]?=some u→vs[i]?=some v→RepA D Γ u v
 | [],vs,h=>by cases h;exact ⟨[],rfl,rfl,fun i u v h=>by simp at h⟩
 | r::rs,vs,h=>by
  simp only [y0r] at h
  cases h1:k7p D st r with
  | none=>rw [h1] at h;cases h
  | some v =>
   cases h2:y0r D st rs with
   | none=>rw [h1,h2] at h;cases h
   | some vs' =>
    rw [h1,h2] at h
    cases h
    obtain ⟨vc,e1,e2⟩:=q6i hT hG hΓ hS h1
    obtain ⟨vcs,e3,e4,e5⟩:=j0r hT hG hΓ hS h2
    refine ⟨vc::vcs,?_,by simp [e4],fun i u v' hu hv=>?_⟩
    · rw [List.mapM_cons,Sem.run_bind,e1]
      simp only [Result.andThen_ok]
      rw [Sem.run_bind,e3]
      rfl
    · cases i with
      | zero=>simp at hu hv;subst hu;subst hv;exact e2
      | succ i=>exact e5 i u v' (by simpa using hu) (by simpa using hv)
def oneC:List Value→Value
 | [v]=>v
 | vs=>.tuple vs.toArray
theorem q9t {fn:Func} {tmps:Array Value} {w:World} {vcs:List Value} (h:(fn.results.toList.mapM (k9y tmps)).run P w=.ok vcs w) :
    (results fn tmps).run P w=.ok (oneC vcs) w:=by
 have e:results fn tmps=(do let vs ← fn.results.mapM (k9y tmps);pure (if h:vs.size=1 then vs[0] else .tuple vs)):=by
  unfold results
  congr 1
 rw [e,Array.mapM_eq_mapM_toList,Sem.run_bind,Sem.run_map,h]
 simp only [Result.andThen_ok]
 cases vcs with
 | nil=>rfl
 | cons v vs =>
  cases vs with
  | nil=>rfl
  | cons u us =>
   simp [oneC]
theorem q8d {Γ:Ctx} {vcs:List Value} {vs:List AV} (hl:vcs.length=vs.length) (h:∀ (i:Nat) u v,vcs[i]?=some u→vs[i]?=some v→RepA D Γ u v):RepA D Γ (oneC vcs) (one vs):=by
 cases vcs with
 | nil =>
  cases vs with
  | nil=>exact .tup [] [] rfl fun i v a h=>by simp at h
  | cons _ _=>simp at hl
 | cons u us =>
  cases vs with
  | nil=>simp at hl
  | cons v vs =>
   cases us with
   | nil =>
    cases vs with
    | nil=>exact h 0 u v rfl rfl
    | cons _ _=>simp at hl
   | cons u2 us =>
    cases vs with
    | nil=>simp at hl
    | cons v2 vs=>exact .tup _ _ hl h
theorem v4w {Γ:Ctx} {args:List AV} {cargs:Array Value} {n:Nat} (hl:cargs.size=args.length) (h:∀ (i:Nat) v a,cargs[i]?=some v→args[i]?=some a→RepA D Γ v a) :
    Slots D Γ (args++List.replicate (n-args.length) .undef) { tmps:=cargs++Array.replicate (n-cargs.size) undef,defers:=[] }:=by
 refine ⟨by simp [hl],fun i v u hv hu=>?_⟩
 rw [List.getElem?_append] at hv
 simp only at hu
 rw [Array.getElem?_append,hl] at hu
 by_cases c:i<args.length
 · rw [if_pos c] at hv hu
   exact h i u v hu hv
 · rw [if_neg c] at hv
   rw [List.getElem?_replicate] at hv
   split at hv
   · cases hv;exact .undef u
   · cases hv
theorem v1s {nw:Bool} {C:Sem3} {f:Nat} {args:List AV} {objs:Objs} {os os':List Orc} {ps:List Prop} {r:AV × Objs} (h:k6a D C P nw f args objs os=some (r,os',ps)) :
    ∃ fn body o st vs,P.funcs[f]?=some fn∧fn.body=some body∧path D C body ⟨args++List.replicate (fn.ntmps-args.length) .undef,objs⟩ os=some ((o,st),os',ps)∧(o=.norm∨o=.ret)∧y0r D st fn.results.toList=some vs∧q3l nw objs.length st vs=some r:=by
 unfold k6a at h
 cases hf:P.funcs[f]? with
 | none=>rw [hf] at h;cases h
 | some fn =>
  rw [hf] at h
  simp only at h
  cases hb:fn.body with
  | none=>rw [hb] at h;cases h
  | some body =>
   rw [hb] at h
   obtain ⟨x,os1,p1,b1,os2,q1,h1,h2,e⟩:=bind_some h
   cases e
   obtain ⟨o,st⟩:=x
   cases o with
   | exit id=>cases h2
   | norm =>
    simp only at h2
    cases hr:y0r D st fn.results.toList with
    | none=>rw [hr] at h2;cases h2
    | some vs =>
     rw [hr] at h2
     obtain ⟨_,h3,e⟩:=I1 h2
     cases e
     rw [List.append_nil]
     exact ⟨fn,body,_,st,vs,rfl,hb,h1,.inl rfl,hr,h3⟩
   | ret =>
    simp only at h2
    cases hr:y0r D st fn.results.toList with
    | none=>rw [hr] at h2;cases h2
    | some vs =>
     rw [hr] at h2
     obtain ⟨_,h3,e⟩:=I1 h2
     cases e
     rw [List.append_nil]
     exact ⟨fn,body,_,st,vs,rfl,hb,h1,.inr rfl,hr,h3⟩
theorem j0k:∀ (u:Ups) (objs:Objs),(∀ p∈u,∃ xs,p.2=.fro xs)→k1x objs=true→k1x (B8 objs u)=true
 | [],_,_,h=>h
 | (l,o)::u,objs,hu,h=>by
  obtain ⟨xs,e⟩:=hu (l,o) (by simp)
  simp only at e
  subst e
  refine j0k u _ (fun p hp=>hu p (by simp [hp])) ?_
  unfold k1x at h ⊢
  rw [List.all_eq_true] at h ⊢
  intro x hx
  rcases List.mem_or_eq_of_mem_set hx with hx | rfl
  · exact h x hx
  · rfl
theorem q1c {n0:Nat} {st:St} {Γ:Ctx} {vs:List AV} {thr:Bool} {r:AV} {objs':Objs} (h:q3l thr n0 st vs=some (r,objs')) (hn:n0≤st.objs.length) (hΓ:Γ.objs=st.objs) (hG:Good D B0 Gd Γ)
    {vcs:List Value} (hl:vcs.length=vs.length) (hr:∀ (i:Nat) u v,vcs[i]?=some u→vs[i]?=some v→RepA D Γ u v) :
    ∃ Γ',Γ'.objs=objs'∧Γ'.w=Γ.w∧Good D B0 Gd Γ'∧RepA D Γ' (oneC vcs) r∧TrB D n0 Γ Γ'∧Γ'.S.ext=Γ.S.ext:=by
 unfold q3l at h
 cases hhm:k1x st.objs with
 | false=>rw [hhm] at h;cases h
 | true =>
 rw [hhm] at h
 simp only [Bool.not_true,cond_false] at h
 have data:(match X8 (lk st.objs) vs with
     | some (ds,u,_)=>match P0 n0 (z4c n0 [] (cellsOf ((B8 st.objs u).take n0))) ((B8 st.objs u).take n0) with
      | some objs=>some (one ds,objs++(z4c n0 [] (cellsOf ((B8 st.objs u).take n0))).map (z0l (B8 st.objs u)))
      | none=>none
     | none=>none)=some (r,objs')→∃ Γ',Γ'.objs=objs'∧Γ'.w=Γ.w∧Good D B0 Gd Γ'∧RepA D Γ' (oneC vcs) r∧TrB D n0 Γ Γ'∧Γ'.S.ext=Γ.S.ext:=by
  intro h
  cases hd:X8 (lk st.objs) vs with
  | none=>rw [hd] at h;cases h
  | some x =>
   obtain ⟨ds,u,rr⟩:=x
   rw [hd] at h
   simp only at h
   obtain ⟨lv1,lv2⟩:=k5t n0 (cellsOf ((B8 st.objs u).take n0)) [] List.nodup_nil (fun _ h=>by cases h)
   generalize z4c n0 [] (cellsOf ((B8 st.objs u).take n0))=live at h lv1 lv2
   cases hk:P0 n0 live ((B8 st.objs u).take n0) with
   | none=>rw [hk] at h;cases h
   | some objs =>
    rw [hk] at h
    cases h
    obtain ⟨k1,k2,k3⟩:=y2j hd
    obtain ⟨m1,m2⟩:=z8c u hG (hΓ ▸ k1)
    obtain ⟨Γ0,g1,g2,g3,g4,g5,g6,g7⟩:=k8k (n0:=n0) (st:=⟨st.slots,B8 st.objs u⟩) (Γ:=⟨Γ.S,B8 Γ.objs u,Γ.w⟩) (live:=live) (j0k u _ (fun p hp=>(k1 p hp).imp fun _ h=>h.1) hhm) lv1 lv2 hk (by simp only;rw [j7k];exact hn) (by simp only [hΓ]) m1
    refine ⟨Γ0,g1,g2,g3,q8d (by rw [hl,k2]) fun i cv v hu hv=>?_,(m2.toB n0).trans g5 (Nat.le_refl _),g7⟩
    have hi:i<vs.length:=by rw [← k2];exact (List.getElem?_eq_some_iff.1 hv).1
    obtain ⟨u',r',e1,e2⟩:=k3 i _ v (List.getElem?_eq_getElem hi) hv
    have hd1:=x3z (Γ:=Γ) (Γ':=⟨Γ.S,B8 Γ.objs u,Γ.w⟩) m2 (hΓ ▸ e1) (fun p hp=>k2n (hΓ ▸ k1) (e2 p hp)) (hr i cv _ hu (List.getElem?_eq_getElem hi))
    refine y3z (Γ:=⟨Γ.S,B8 Γ.objs u,Γ.w⟩) (Γ':=Γ0) g2 (fun b hb=>?_) (j1a (fun f es e=>by have:=hr i cv _ hu (List.getElem?_eq_getElem hi);rw [e] at this;rw [e];exact this.mv_data) e1) hd1
    rcases hb with hb | hb
    · exact .inl (g7 ▸ hb)
    · rcases g5.mine b hb with h4 | h4
      · exact .inr h4
      · -- nothing has been made
        obtain ⟨l,o,b1,b2,b3⟩:=hb
        have:=z5k g3 b (.inr ⟨l,o,b1,b2,b3⟩)
        rw [g2] at this
        simp only at this h4
        omega
 cases hc:thr && (x4c vs).any isVec with
 | false=>rw [hc] at h;exact data h
 | true =>
  rw [hc] at h
  simp only [cond_true] at h
  obtain ⟨lv1,lv2⟩:=k5t n0 (x4c vs) [] List.nodup_nil (fun _ h=>by cases h)
  generalize z4c n0 [] (x4c vs)=live at h lv1 lv2
  cases h1:z3r n0 live vs with
  | none=>rw [h1] at h;cases h
  | some vs' =>
   cases h2:P0 n0 live (st.objs.take n0) with
   | none=>rw [h1,h2] at h;cases h
   | some objs =>
    rw [h1,h2] at h
    cases h
    obtain ⟨Γ0,g1,g2,g3,g4,g5,g6,g7⟩:=k8k (n0:=n0) (st:=st) (Γ:=Γ) (live:=live) hhm lv1 lv2 h2 hn hΓ hG
    obtain ⟨k1,k2⟩:=y4e h1
    refine ⟨Γ0,g1,g2,g3,q8d (by rw [hl,k1]) fun i cv v hu hv=>?_,g5,g7⟩
    obtain ⟨v0,e1,e2⟩:=k2 i v hv
    exact g4 cv v0 v (hr i cv v0 hu e1) e2
theorem TrB.full {n:Nat} {Γ Γ':Ctx} (h:TrB D n Γ Γ') (hn:Γ.objs.length≤n):Tr D Γ Γ':=by
 have hlt:∀ l o,lk Γ.objs l=some o→l<n:=fun l o ho=>Nat.lt_of_lt_of_le (X9 ho) hn
 refine ⟨h.kept,h.ext,h.mine,fun l cs hl=>h.ptr l cs (hlt l _ hl) hl,fun v l len hv=>h.vec v l len ?_ hv,fun v l i off hv=>h.vptr v l i off ?_ hv⟩
 · obtain ⟨o,h1,_⟩:=x8u hv
   exact hlt _ _ h1
 · obtain ⟨o,h1,_⟩:=y8y hv
   exact hlt _ _ h1
section
variable (hT:TabOk P D) (hs:Stable B0 Gd) (hm:P.follows .mixedOrders=true)
include hT hs hm
theorem q2e {nw:Bool} {f:Nat} {args:List AV} {objs objs':Objs} {os os':List Orc} {ps:List Prop} {r:AV} (h:k6a D (sem P D B0 Gd) P nw f args objs os=some ((r,objs'),os',ps)) (hp:All ps)
    {Γ:Ctx} {cargs:Array Value} (hΓ:Γ.objs=objs) (hG:Good D B0 Gd Γ) (hl:cargs.size=args.length) (ha:∀ (i:Nat) v a,cargs[i]?=some v→args[i]?=some a→RepA D Γ v a) :
    Calls P f cargs Γ.w fun e w'=>∃ v Γ',e=.returned v∧Γ'.objs=objs'∧Γ'.w=w'∧Good D B0 Gd Γ'∧Tr D Γ Γ'∧RepA D Γ' v r:=by
 obtain ⟨fn,body,o,st,vs,h1,h2,h3,h4,h5,h6⟩:=v1s h
 refine calls_of_wp h1 h2 (wpIn_wide (n:=0).1 ?_)
 obtain ⟨hn,hwp⟩:=y1q hT hs hm body _ os o st os' ps Γ _ objs.length none 0 h3 hp (by simp only;exact hΓ) hG (v4w (n:=fn.ntmps) hl ha) (by simp)
 refine wpIn_mono hwp fun e a' w' hb=>?_
 obtain ⟨hf,Γ1,k1,rfl,k2,k3,k4,k5⟩:=hb
 obtain ⟨vcs,e1,e2,e3⟩:=j0r hT k2 k1 k3 h5
 obtain ⟨Γ',g1,g2,g3,g4,g5,g6⟩:=q1c h6 hn k1 k2 e2 e3
 have hR:a'.defers=[]∧∃ v,(results fn a'.tmps).run P Γ1.w=.ok v Γ1.w∧∃ v' Γ'',Ending.returned v=.returned v'∧Γ''.objs=objs'∧Γ''.w=Γ1.w∧Good D B0 Gd Γ''∧Tr D Γ Γ''∧RepA D Γ'' v' r :=
  ⟨k5,_,q9t e1,_,Γ',rfl,g1,g2,g3,(k4.trans g5 (Nat.le_refl _)).full (by rw [hΓ];exact Nat.le_refl _),g4⟩
 rcases h4 with rfl | rfl
 · have he:e=.normal:=hf
   subst he
   exact hR
 · have he:e=.ret:=hf
   subst he
   exact hR
theorem run_mk {nw:Bool} {f:Nat} {args:List AV} {objs objs':Objs} {r:AV} (os:List Orc) {ps:List Prop} (he:∀ cargs w,(callFunc f cargs).run P w=.ok (.enter f cargs) w) (hp:All ps) (h:k6a D (sem P D B0 Gd) P nw f args objs os=some ((r,objs'),[],ps)):RunOk P D B0 Gd f args objs r objs' :=
 ⟨he,fun _ _ hΓ hG hl ha=>q2e hT hs hm h hp hΓ hG hl ha⟩
theorem fn_mk {nw:Bool} {f:Nat} {args:List AV} {objs':Objs} {r:AV} (os:List Orc) {ps:List Prop} (he:∀ cargs w,(callFunc f cargs).run P w=.ok (.enter f cargs) w) (hr:r.Data) (hp:All ps) (h:k6a D (sem P D B0 Gd) P nw f args [] os=some ((r,objs'),[],ps)):FnOk P D B0 Gd f args r:=by
 refine ⟨he,hr,fun w ext cargs hgd hB hx hl ha=>?_⟩
 have hG:Good D B0 Gd ⟨⟨fun _=>none,fun _ _=>none,ext⟩,[],w⟩ :=
  ⟨fun l o h=>by simp [lk] at h,fun l l' o o' b h=>by simp [lk] at h,fun b hb=>(hx b (x7q.1 hb)).1,fun b hb=>⟨(hx b hb).2,x9l⟩,hB,hgd⟩
 refine Calls.mono (q2e hT hs hm h hp (Γ:=⟨⟨fun _=>none,fun _ _=>none,ext⟩,[],w⟩) rfl hG hl ha) ?_
 rintro e w' ⟨v,Γ',rfl,k1,rfl,k2,k3,k4⟩
 refine ⟨v,rfl,k2.gd,k3.kept.mono fun b hb=>x9l hb,y3z (Γ:=Γ') (Γ':=⟨⟨fun _=>none,fun _ _=>none,ext⟩,[],Γ'.w⟩) rfl (fun b hb=>?_) hr k4⟩
 have hb':=x7q.1 hb
 exact .inl (by rw [k3.ext];exact hb')
theorem RunOk.toFn {f:Nat} {args:List AV} {n t:Nat} {xs:List (List DV)} (h:RunOk P D B0 Gd f args [] (.vec 0 n) [some (.vec t xs)]):FnOk P D B0 Gd f args (.c (.list (xs.take n))):=by
 have:=hT
 have:=hs
 have:=hm
 refine ⟨h.enters,.c _,fun w ext cargs hgd hB hx hl ha=>?_⟩
 have hG:Good D B0 Gd ⟨⟨fun _=>none,fun _ _=>none,ext⟩,[],w⟩ :=
  ⟨fun l o h=>by simp [lk] at h,fun l l' o o' b h=>by simp [lk] at h,fun b hb=>(hx b (x7q.1 hb)).1,fun b hb=>⟨(hx b hb).2,x9l⟩,hB,hgd⟩
 refine Calls.mono (h.calls ⟨⟨fun _=>none,fun _ _=>none,ext⟩,[],w⟩ cargs rfl hG hl ha) ?_
 rintro e w' ⟨v,Γ',rfl,k1,rfl,k2,k3,k4⟩
 obtain ⟨Γ2,g1,g2,g3,g4,g5,g6⟩:=q1c (thr:=false) (n0:=0) (st:=⟨[],[some (.vec t xs)]⟩) (vs:=[.vec 0 n]) (r:=.c (.list (xs.take n))) (objs':=[]) rfl (Nat.zero_le _) k1 k2 (vcs:=[v]) rfl (fun i u x hu hx=>by
  cases i with
  | zero=>simp at hu hx;subst hu;subst hx;exact k4
  | succ i=>simp at hu)
 refine ⟨v,rfl,k2.gd,k3.kept.mono fun b hb=>x9l hb,y3z (Γ:=Γ2) (Γ':=⟨⟨fun _=>none,fun _ _=>none,ext⟩,[],Γ'.w⟩) g2.symm (fun b hb=>?_) (.c _) g4⟩
 have hb':=x7q.1 hb
 exact .inl (by rw [g6,k3.ext];exact hb')
theorem v5n {n:Nat} {b:Code} {st st1 st2 st':St} {o:Out} (os:List Orc) (keep:List Nat) {ps:List Prop} (hp:All ps) (h:path D (sem P D B0 Gd) b st os=some ((.norm,st1),[],ps)) (hno:norm keep n st1=some st2) (hr:y9d P D B0 Gd n b st2 o st'):y9d P D B0 Gd n b st o st':=by
 obtain ⟨k,hk⟩:=hr
 refine ⟨k+1,fun ro m Γ a hn hΓ hG hS=>?_⟩
 obtain ⟨hn1,hwp⟩:=y1q hT hs hm b st os .norm st1 [] ps Γ a n ro m h hp hΓ hG hS hn
 refine wpIn_mono hwp fun e a' w' hb=>?_
 obtain ⟨hf,Γ1,k1,rfl,k2,k3,k4,k5⟩:=hb
 obtain ⟨Γ0,g1,g2,g3,g4,g5,g6⟩:=q4t hno hn1 k1 k2 k3
 exact .inl ⟨hf,st2,Γ0,g6,g1,g2,g3,g4,k4.trans g5 (Nat.le_refl _),k5,hk⟩
theorem v5m {n:Nat} {b:Code} {st st1 st':St} {o:Out} (os:List Orc) (keep:List Nat) {ps:List Prop} (hp:All ps) (h:path D (sem P D B0 Gd) b st os=some ((o,st1),[],ps)) (ho:o≠.norm) (hno:norm keep n st1=some st'):y9d P D B0 Gd n b st o st':=by
 refine ⟨1,fun ro m Γ a hn hΓ hG hS=>?_⟩
 obtain ⟨hn1,hwp⟩:=y1q hT hs hm b st os o st1 [] ps Γ a n ro m h hp hΓ hG hS hn
 refine wpIn_mono hwp fun e a' w' hb=>?_
 obtain ⟨hf,Γ1,k1,rfl,k2,k3,k4,k5⟩:=hb
 obtain ⟨Γ0,g1,g2,g3,g4,g5,g6⟩:=q4t hno hn1 k1 k2 k3
 refine .inr ⟨?_,hf,Γ0,g1,g2,g3,g4,k4.trans g5 (Nat.le_refl _),k5⟩
 cases o with
 | norm=>exact absurd rfl ho
 | exit id=>have:e=.exit id:=hf;rw [this];simp
 | ret=>have:e=.ret:=hf;rw [this];simp
theorem j7e {C:Sem3} {b:Code} {n:Nat} {keep:List Nat} {st st2:St} {o:Out} {os:List Orc} {ps:List Prop} (h:round D C b n keep st os=some (o,st2,ps)):∃ st1,path D C b st os=some ((o,st1),[],ps)∧norm keep n st1=some st2:=by
 unfold round at h
 split at h
 · rename_i o1 st1 ps1 e
   cases hn:norm keep n st1 with
   | none=>rw [hn] at h;cases h
   | some st3=>rw [hn] at h;cases h;exact ⟨st1,e,hn⟩
 · cases h
theorem w2m {n:Nat} {b:Code} {st st':St} {o:Out} (st2:St) (keep:List Nat) (os:List Orc) (ps:List Prop) (h:round D (sem P D B0 Gd) b n keep st os=some (.norm,st2,ps)) (hp:All ps) (hr:y9d P D B0 Gd n b st2 o st'):y9d P D B0 Gd n b st o st':=by
 obtain ⟨st1,h1,h2⟩:=j7e hT hs hm h
 exact v5n hT hs hm os keep hp h1 h2 hr
theorem v7y {n:Nat} {b:Code} {st st':St} {o:Out} (keep:List Nat) (os:List Orc) (ps:List Prop) (h:round D (sem P D B0 Gd) b n keep st os=some (o,st',ps)) (ho:o≠.norm) (hp:All ps):y9d P D B0 Gd n b st o st':=by
 obtain ⟨st1,h1,h2⟩:=j7e hT hs hm h
 exact v5m hT hs hm os keep hp h1 ho h2
end
end Gev
namespace Gev
open Go
def szOf (P:Program) (t:Nat):Nat:=match P.info? t with | some i=>i.size | none=>0
def j4e (P:Program) (rec:Nat→List Field→Option (List U)):Nat→List Field→Option (List U)
 | _,[]=>some []
 | k,f::fs=>if f.offset == k && f.name != "_" then match P.underlying f.type with
  | some (.struct gs)=>match rec f.type gs.toList,j4e P rec (k+szOf P f.type) fs with
   | some us,some vs=>if us.length == szOf P f.type && (P.info? f.type).isSome then some (us++vs) else none
   | _,_=>none
  | some d=>match j4e P rec (k+1) fs with
   | some us=>some (uOf d::us)
   | none=>none
  | none=>none
  else none
def v3j (P:Program):Nat→Nat→List Field→Option (List U)
 | 0,_,_=>none
 | n+1,t,fs=>if !P.stoodInHeld t then j4e P (v3j P n) 0 fs else none
def v1c (P:Program) (t:Nat):Option (List U):=match P.underlying t with
 | some (.struct fs)=>if !P.eqGuardType P.depth t then v3j P 4 t fs.toList else none
 | _=>none
theorem x6h:∀ {us vs:List U} {ds:List DV},fitB (us++vs) ds=true→fitB us (ds.take us.length)=true∧fitB vs (ds.drop us.length)=true∧us.length≤ds.length
 | [],_,ds,h=>⟨by simp [fitB],h,Nat.zero_le _⟩
 | u::us,vs,[],h=>by cases u <;> simp [fitB] at h
 | u::us,vs,d::ds,h=>by
  have key:fitB (us++vs) ds=true→fitB us (ds.take us.length)=true∧fitB vs (ds.drop us.length)=true∧us.length≤ds.length:=x6h
  rw [List.cons_append] at h
  rw [List.length_cons,List.take_succ_cons,List.drop_succ_cons,List.length_cons]
  cases u with
  | int k =>
   cases d with
   | int k' a =>
    simp only [fitB,Bool.and_eq_true] at h ⊢
    obtain ⟨a1,a2,a3⟩:=key h.2
    exact ⟨⟨h.1,a1⟩,a2,by omega⟩
   | _=>cases h
  | bool =>
   cases d with
   | bool a =>
    obtain ⟨a1,a2,a3⟩:=key h
    exact ⟨a1,a2,by omega⟩
   | _=>cases h
  | str =>
   cases d with
   | str a =>
    obtain ⟨a1,a2,a3⟩:=key h
    exact ⟨a1,a2,by omega⟩
   | _=>cases h
  | _=>cases h
theorem x6f:∀ {m:Nat} {az bs:List DV} {b:Bool},z6y az bs=some b→m≤az.length→m≤bs.length→∃ c1 c2,z6y (az.take m) (bs.take m)=some c1∧z6y (az.drop m) (bs.drop m)=some c2∧b=(c1 && c2)
 | 0,az,bs,b,h,_,_=>⟨true,b,rfl,h,rfl⟩
 | m+1,[],bs,b,h,h1,_=>by simp at h1
 | m+1,_::_,[],b,h,_,h2=>by simp at h2
 | m+1,x::az,y::bs,b,h,h1,h2=>by
  simp only [z6y] at h
  cases e1:eqD x y with
  | none=>rw [e1] at h;cases h
  | some c =>
   cases e2:z6y az bs with
   | none=>rw [e1,e2] at h;cases h
   | some c2 =>
    rw [e1,e2] at h
    cases h
    obtain ⟨a1,a2,k1,k2,rfl⟩:=x6f (m:=m) e2 (by simpa using h1) (by simpa using h2)
    exact ⟨c && a1,a2,by simp only [List.take_succ_cons,z6y,e1,k1],by simpa using k2,by rw [Bool.and_assoc]⟩
theorem x8q {P:Program} {w:World} {t:Nat} {d:TypeDesc} (hu:P.underlying t=some d) (ht:(∃ k,d=.int k)∨d=.bool∨d=.string) {cs:Array Value} {off:Nat} {v:Value} (hv:cs[off]?=some v):(part t cs off).run P w=.ok v w:=by
 have ha:(isAgg t).run P w=.ok false w:=by
  unfold isAgg
  rw [Sem.run_bind,run_underlying hu]
  rcases ht with ⟨k,rfl⟩ | rfl | rfl <;> rfl
 unfold part
 rw [Sem.run_bind,ha]
 simp [hv]
theorem j0a {P:Program} {w:World} {own:Nat→Prop} {d:Nat} {rec:Nat→List Field→Option (List U)}
    (hrec:∀ T fs us,P.underlying T=some (.struct fs)→rec T fs.toList=some us→∀ (xs ys:Array Value) (avz bs:List DV) (b:Bool),fitB us avz=true→fitB us bs=true→xs.size=avz.length→ys.size=bs.length →
     (∀ (j:Nat) u e,xs[j]?=some u→avz[j]?=some e→RepD w own u e)→(∀ (j:Nat) u e,ys[j]?=some u→bs[j]?=some e→RepD w own u e)→z6y avz bs=some b→(Op.equalIn (d+1) T (.agg xs) (.agg ys)).run P w=.ok b w):∀ (fs:List Field) (k:Nat) (us:List U),j4e P rec k fs=some us→∀ (xs ys:Array Value) (avz bs:List DV) (b:Bool),fitB us avz=true→fitB us bs=true→xs.size=k+avz.length→ys.size=k+bs.length →
    (∀ (j:Nat) u e,xs[k+j]?=some u→avz[j]?=some e→RepD w own u e)→(∀ (j:Nat) u e,ys[k+j]?=some u→bs[j]?=some e→RepD w own u e)→z6y avz bs=some b →
    (Op.eqFields (d+1) xs ys fs).run P w=.ok b w
 | [],k,us,hu,xs,ys,avz,bs,b,ha,hb,hx,hy,_,_,he=>by
  cases hu
  cases avz with
  | nil =>
   cases bs with
   | nil=>cases he;rfl
   | cons _ _=>cases he
  | cons _ _=>cases ha
 | f::fs,k,us,hu,xs,ys,avz,bs,b,ha,hb,hx,hy,hrx,hry,he=>by
  simp only [j4e] at hu
  split at hu
  · rename_i hc
    simp only [Bool.and_eq_true,beq_iff_eq,bne_iff_ne] at hc
    obtain ⟨h1,h2⟩:=hc
    cases hd:P.underlying f.type with
    | none=>rw [hd] at hu;cases hu
    | some de =>
    by_cases hst:∃ gs,de=.struct gs
    · obtain ⟨gs,rfl⟩:=hst
      rw [hd] at hu
      simp only at hu
      cases hr1:rec f.type gs.toList with
      | none=>rw [hr1] at hu;cases hu
      | some us1 =>
      cases hus:j4e P rec (k+szOf P f.type) fs with
      | none=>rw [hr1,hus] at hu;cases hu
      | some us2 =>
      rw [hr1,hus] at hu
      simp only at hu
      split at hu
      · rename_i hsz
        cases hu
        simp only [Bool.and_eq_true,beq_iff_eq] at hsz
        obtain ⟨hsz,hin⟩:=hsz
        obtain ⟨i,hi⟩:=Option.isSome_iff_exists.1 hin
        have hsi:szOf P f.type=i.size:=by unfold szOf;rw [hi]
        obtain ⟨fa1,fa2,fa3⟩:=x6h ha
        obtain ⟨fb1,fb2,fb3⟩:=x6h hb
        obtain ⟨c1,c2,k1,k2,rfl⟩:=x6f he fa3 fb3
        have hag:(isAgg f.type).run P w=.ok true w:=by
         unfold isAgg
         rw [Sem.run_bind,run_underlying hd]
         rfl
        have hpart:∀ zs:Array Value,(part f.type zs k).run P w=.ok (.agg (zs.extract k (k+us1.length))) w:=by
         intro zs
         unfold part
         rw [Sem.run_bind,hag]
         simp only [Result.andThen_ok,if_true]
         rw [Sem.run_bind,z7u hi]
         simp only [Result.andThen_ok,hsz,hsi]
         rfl
        have hex:∀ (zs:Array Value) (cs:List DV),zs.size=k+cs.length→us1.length≤cs.length→(∀ (j:Nat) u e,zs[k+j]?=some u→cs[j]?=some e→RepD w own u e)→(zs.extract k (k+us1.length)).size=(cs.take us1.length).length∧∀ (j:Nat) u e,(zs.extract k (k+us1.length))[j]?=some u→(cs.take us1.length)[j]?=some e→RepD w own u e:=by
         intro zs cs h1 h2 h3
         refine ⟨by simp;omega,fun j u e hu hj=>?_⟩
         rw [List.getElem?_take] at hj
         split at hj
         · refine h3 j u e ?_ hj
           have hlt:=(Array.getElem?_eq_some_iff.1 hu).1
           simp at hlt
           have hk:k+j<zs.size:=by omega
           rw [Array.getElem?_eq_getElem (by simp;omega),Array.getElem_extract] at hu
           rw [Array.getElem?_eq_getElem hk]
           exact hu
         · cases hj
        obtain ⟨x1,x2⟩:=hex xs avz hx fa3 hrx
        obtain ⟨y1,y2⟩:=hex ys bs hy fb3 hry
        have heq:=hrec f.type gs us1 hd hr1 _ _ _ _ c1 fa1 fb1 x1 y1 x2 y2 k1
        have ih:=j0a hrec fs (k+szOf P f.type) us2 hus xs ys (avz.drop us1.length) (bs.drop us1.length) c2 fa2 fb2 (by simp;omega) (by simp;omega) (fun j u e hu hj=>hrx (us1.length+j) u e (by rw [← hu];congr 1;omega) (by rw [List.getElem?_drop] at hj;exact hj)) (fun j u e hu hj=>hry (us1.length+j) u e (by rw [← hu];congr 1;omega) (by rw [List.getElem?_drop] at hj;exact hj)) k2
        simp only [Op.eqFields,h1]
        rw [if_pos h2,Sem.run_bind,hpart xs]
        simp only [Result.andThen_ok]
        rw [Sem.run_bind,hpart ys]
        simp only [Result.andThen_ok]
        rw [Sem.run_bind,heq]
        simp only [Result.andThen_ok]
        cases c1 with
        | true=>simpa using ih
        | false=>rfl
      · cases hu
    cases hus:j4e P rec (k+1) fs with
    | none=>rw [hd] at hu;cases de <;> simp only [hus] at hu <;> first | cases hu | exact absurd ⟨_,rfl⟩ hst
    | some us' =>
    have hu':us=uOf de::us':=by
     rw [hd] at hu
     cases de <;> simp only [hus] at hu <;> first | (cases hu;rfl) | exact absurd ⟨_,rfl⟩ hst
    subst hu'
    cases avz with
    | nil=>cases hud:uOf de <;> rw [hud] at ha <;> cases ha
    | cons x avz =>
     cases bs with
     | nil=>cases he
     | cons y bs =>
      simp only [List.length_cons] at hx hy
      simp only [z6y] at he
      cases e1:eqD x y with
      | none=>rw [e1] at he;cases he
      | some c =>
       cases e2:z6y avz bs with
       | none=>rw [e1,e2] at he;cases he
       | some c2 =>
        rw [e1,e2] at he
        cases he
        have kx:k<xs.size:=by omega
        have ky:k<ys.size:=by omega
        have rx:=hrx 0 xs[k] x (by simp [kx]) rfl
        have ry:=hry 0 ys[k] y (by simp [ky]) rfl
        have fits:fitB us' avz=true∧fitB us' bs=true∧((∃ k0,de=.int k0)∨de=.bool∨de=.string)∧(Op.equalIn (d+1) f.type xs[k] ys[k]).run P w=.ok c w:=by
         generalize xs[k]=u at rx
         generalize ys[k]=v at ry
         cases hud:uOf de with
         | int k0 =>
          rw [hud] at ha hb
          have hde:=w1g hud
          cases x with
          | int k1 a =>
           cases y with
           | int k2 b =>
            simp only [fitB,Bool.and_eq_true,beq_iff_eq] at ha hb
            obtain ⟨rfl,ha⟩:=ha
            obtain ⟨rfl,hb⟩:=hb
            cases rx
            cases ry
            cases e1
            exact ⟨ha,hb,.inl ⟨_,hde⟩,run_equalIn_int w d f.type _ _ _ _ (hde ▸ hd)⟩
           | _=>cases e1
          | _=>cases ha
         | bool =>
          rw [hud] at ha hb
          have hde:=w1f hud
          cases x with
          | bool a =>
           cases y with
           | bool b =>
            cases rx
            cases ry
            cases e1
            exact ⟨ha,hb,.inr (.inl hde),run_equalIn_bool' w d f.type _ _ (hde ▸ hd)⟩
           | _=>cases e1
          | _=>cases ha
         | str =>
          rw [hud] at ha hb
          have hde:=q2q hud
          cases x with
          | str a =>
           cases y with
           | str b =>
            cases rx
            cases ry
            cases e1
            refine ⟨ha,hb,.inr (.inr hde),?_⟩
            rw [run_equalIn_string w d f.type _ _ (hde ▸ hd),beq_toListBytes]
           | _=>cases e1
          | _=>cases ha
         | _=>rw [hud] at ha;cases ha
        obtain ⟨fa,fb,hty,heq⟩:=fits
        have p1:=x8q (w:=w) hd hty (Array.getElem?_eq_getElem kx)
        have p2:=x8q (w:=w) hd hty (Array.getElem?_eq_getElem ky)
        have ih:=j0a hrec fs (k+1) us' hus xs ys avz bs c2 fa fb (by omega) (by omega) (fun j u e hu hj=>hrx (j+1) u e (by rw [← hu];congr 1;omega) (by simpa using hj)) (fun j u e hu hj=>hry (j+1) u e (by rw [← hu];congr 1;omega) (by simpa using hj)) e2
        simp only [Op.eqFields,h1]
        rw [if_pos h2,Sem.run_bind,p1]
        simp only [Result.andThen_ok]
        rw [Sem.run_bind,p2]
        simp only [Result.andThen_ok]
        rw [Sem.run_bind,heq]
        simp only [Result.andThen_ok]
        cases c with
        | true=>simpa using ih
        | false=>rfl
  · cases hu
theorem q2f {P:Program} {w:World} {own:Nat→Prop}:∀ (n d:Nat),n≤d→∀ T fs us,P.underlying T=some (.struct fs)→v3j P n T fs.toList=some us→∀ (xs ys:Array Value) (avz bs:List DV) (b:Bool),fitB us avz=true→fitB us bs=true→xs.size=avz.length→ys.size=bs.length →
      (∀ (j:Nat) u e,xs[j]?=some u→avz[j]?=some e→RepD w own u e)→(∀ (j:Nat) u e,ys[j]?=some u→bs[j]?=some e→RepD w own u e)→z6y avz bs=some b→(Op.equalIn (d+1) T (.agg xs) (.agg ys)).run P w=.ok b w
 | 0,d,_,T,fs,us,hu,h=>by cases h
 | n+1,d,hd,T,fs,us,hu,h=>by
  intro xs ys avz bs b ha hb hx hy hrx hry he
  unfold v3j at h
  split at h
  · rename_i hc
    simp only [Bool.not_eq_true'] at hc
    obtain ⟨d',rfl⟩:∃ d',d=d'+1:=⟨d-1,by omega⟩
    have hfs:P.fieldsOf T=fs:=by simp [Program.fieldsOf,hu]
    rw [run_equalIn_struct w (d'+1) T xs ys (by rw [hfs];exact hu) hc,hfs]
    exact j0a (q2f n d' (by omega)) fs.toList 0 us h xs ys avz bs b ha hb (by omega) (by omega) (fun j u e hu hj=>hrx j u e (by simpa using hu) hj) (fun j u e hu hj=>hry j u e (by simpa using hu) hj) he
  · cases h
theorem tabOk (P:Program) (thr new:Nat→Bool):TabOk P ⟨tiOf P,v1c P,thr,new⟩:=by
 refine ⟨fun t ti h=>v6e h,fun t us h w own xs ys avz bs b ha hb hx hy hrx hry he=>?_⟩
 unfold v1c at h
 cases hu:P.underlying t with
 | none=>simp only [hu] at h;cases h
 | some de =>
  simp only [hu] at h
  cases de with
  | struct fs =>
   simp only at h
   split at h
   · rename_i hc
     simp only [Bool.not_eq_true'] at hc
     refine ⟨?_,hc⟩
     show (Op.equalIn (9999+1) t (.agg xs) (.agg ys)).run P w=_
     exact q2f 4 9999 (by omega) t fs us hu h xs ys avz bs b ha hb hx hy hrx hry he
   · cases h
  | _=>cases h
def y8o:Code→List Code
 | .loop b=>b::y8o b
 | .seq a b=>y8o a++y8o b
 | .cond _ a b=>y8o a++y8o b
 | .block _ b=>y8o b
 | .scope b=>y8o b
 | _=>[]
def q7u (P:Program) (f k:Nat):Code:=match P.funcs[f]? with
 | some fn=>match fn.body with
  | some c=>(y8o c).getD k .skip
  | none=>.skip
 | none=>.skip
def stOf (n:Nat) (vs:List (Nat × AV)) (objs:Objs):St:=⟨vs.foldl (fun s p=>s.set p.1 p.2) (List.replicate n .undef),objs⟩
theorem enters_of {P:Program} {f:Nat} {fn:Func} (hf:P.funcs[f]?=some fn) (hn:(fn.name == "runtime.NumGoroutine")=false) (hb:fn.body.isNone=false) (cargs:Array Value) (w:World):(callFunc f cargs).run P w=.ok (.enter f cargs) w:=by
 unfold callFunc
 rw [Sem.run_bind,run_program]
 simp only [Result.andThen_ok,hf]
 rw [if_neg (by rw [hn];simp),if_neg (by rw [hb];simp)]
 rfl
end Gev
namespace Gev
open Go
variable {P:Program} {D:Tab} {B0:Nat} {Gd:World→Prop}
def cval:DV→Option Value
 | .int k n=>some (.int k n)
 | .bool b=>some (.bool b)
 | .str s=>some (.string s)
 | _=>none
def q0t:List DV→Option (List Value)
 | []=>some []
 | d::ds=>match cval d,q0t ds with
  | some v,some vs=>some (v::vs)
  | _,_=>none
theorem v7a {d:DV} {v u:Value} {w:World} {own:Nat→Prop} (h:cval d=some v) (hr:RepD w own u d):u=v:=by
 cases hr <;> cases h <;> rfl
theorem q0u:∀ {ds:List DV} {vs:List Value},q0t ds=some vs→vs.length=ds.length∧∀ (i:Nat) d,ds[i]?=some d→∃ v,vs[i]?=some v∧cval d=some v
 | [],vs,h=>by cases h;exact ⟨rfl,fun i d h=>by simp at h⟩
 | d::ds,vs,h=>by
  simp only [q0t] at h
  cases h1:cval d with
  | none=>rw [h1] at h;cases h
  | some v =>
   cases h2:q0t ds with
   | none=>rw [h1,h2] at h;cases h
   | some vs' =>
    rw [h1,h2] at h
    cases h
    obtain ⟨l1,l2⟩:=q0u h2
    refine ⟨by simp [l1],fun i e he=>?_⟩
    cases i with
    | zero=>simp at he;subst he;exact ⟨v,by simp,h1⟩
    | succ i=>obtain ⟨u,a,b⟩:=l2 i e (by simpa using he);exact ⟨u,by simpa using a,b⟩
theorem v0z {Γ:Ctx} {ds:List DV} {vs:List Value} (h:q0t ds=some vs) {cargs:Array Value} (hl:cargs.size=(ds.map AV.c).length) (ha:∀ (i:Nat) v a,cargs[i]?=some v→(ds.map AV.c)[i]?=some a→RepA D Γ v a):cargs=vs.toArray:=by
 obtain ⟨l1,l2⟩:=q0u h
 apply Array.ext
 · simp at hl ⊢;omega
 · intro i h1 h2
   simp at hl
   have hd:i<ds.length:=by omega
   obtain ⟨v,e1,e2⟩:=l2 i ds[i] (List.getElem?_eq_getElem hd)
   have:=ha i cargs[i] (.c ds[i]) (Array.getElem?_eq_getElem h1) (by simp [hd])
   generalize cargs[i]=u at this
   cases this with
   | c hr =>
    rw [v7a e2 hr]
    have h3:i<vs.length:=by omega
    rw [List.getElem?_eq_getElem h3] at e1
    simp at e1 ⊢
    exact e1.symm
theorem Kept.of_below {w w':World} (h:RowKit.Below w.heap.size w w'):Kept (fun _=>False) w w':=⟨fun b hb _=>h.block b hb,h.size,h.os,h.tape,h.output⟩
theorem Kept.of_drewN (w:World) (n:Nat):Kept (fun _=>False) w (w.drewN n):=⟨fun _ _ _=>rfl,Nat.le_refl _,rfl,rfl,rfl⟩
theorem z4r (hs:Stable B0 Gd) {f:Nat} {ds:List DV} {vs:List Value} {r:AV} (he:∀ cargs w,(callFunc f cargs).run P w=.ok (.enter f cargs) w) (hr:r.Data) (hv:q0t ds=some vs)
    (h:∀ (w:World),Gd w→B0≤w.heap.size→Calls P f vs.toArray w fun e w'=>∃ v,e=.returned v∧Kept (fun _=>False) w w'∧∀ ext,RepA D ⟨⟨fun _=>none,fun _ _=>none,ext⟩,[],w'⟩ v r):FnOk P D B0 Gd f (ds.map AV.c) r:=by
 refine ⟨he,hr,fun w ext cargs hg hB hx hl ha=>?_⟩
 rw [v0z hv hl ha]
 refine Calls.mono (h w hg hB) ?_
 rintro e w' ⟨v,rfl,hk,k⟩
 exact ⟨v,rfl,hs w _ (fun b hb=>hk.heap b (Nat.lt_of_lt_of_le hb hB) id) hk.size hg,hk,k ext⟩
end Gev
namespace Gev
open Go Go.Proofs
noncomputable abbrev PP:Program:=Tryz.prog
abbrev z0y:Nat:=3
abbrev z2p:Nat:=5
abbrev M7:Nat:=6
abbrev D5:Nat:=7
abbrev F7:Nat:=8
abbrev C4:Nat:=9
abbrev J5:Nat:=10
abbrev F5:Nat:=11
abbrev K5:Nat:=12
abbrev M2:Nat:=13
abbrev y0k:Nat:=14
abbrev H8:Nat:=15
abbrev z6w:Nat:=16
abbrev B4:Nat:=17
abbrev C3:Nat:=18
abbrev M9:Nat:=19
abbrev Y5:Nat:=20
abbrev z3e:Nat:=22
abbrev D4:Nat:=24
abbrev P5:Nat:=25
abbrev H0:Nat:=26
abbrev z1h:Nat:=27
abbrev D8:Nat:=28
abbrev F6:Nat:=29
abbrev K4:Nat:=30
abbrev K3:Nat:=31
abbrev N5:Nat:=32
abbrev z1r:Nat:=33
abbrev J6:Nat:=34
abbrev F1:Nat:=35
abbrev z7d:Nat:=36
abbrev z1p:Nat:=37
abbrev C9:Nat:=38
abbrev D2:Nat:=39
abbrev z1q:Nat:=40
abbrev D7:Nat:=41
abbrev D9:Nat:=42
abbrev z2r:Nat:=43
abbrev V4:Nat:=44
abbrev I2:Nat:=45
abbrev K6:Nat:=46
abbrev D3:Nat:=47
abbrev I9:Nat:=48
abbrev z3u:Nat:=49
abbrev F3:Nat:=50
abbrev z0m:Nat:=51
abbrev A1:Nat:=52
abbrev H2:Nat:=53
abbrev z7e:Nat:=54
abbrev A5:Nat:=55
abbrev z9q:Nat:=56
abbrev z3f:Nat:=57
abbrev G2:Nat:=58
abbrev O3:Nat:=59
abbrev G3:Nat:=60
abbrev V3:Nat:=61
abbrev I0:Nat:=62
abbrev z8a:Nat:=63
abbrev z0z:Nat:=64
abbrev y5n:Nat:=65
abbrev z2q:Nat:=66
abbrev U7:Nat:=67
abbrev z4q:Nat:=68
abbrev z4p:Nat:=69
abbrev K2:Nat:=70
abbrev z1k:Nat:=71
abbrev A6:Nat:=72
abbrev F_rational_both:Nat:=73
abbrev U4:Nat:=74
abbrev V2:Nat:=75
abbrev y0v:Nat:=76
abbrev I5:Nat:=77
abbrev y2o:Nat:=78
abbrev V6:Nat:=79
abbrev y5o:Nat:=80
abbrev y0z:Nat:=81
abbrev y3y:Nat:=82
abbrev y0j:Nat:=83
abbrev y6o:Nat:=84
abbrev G9:Nat:=85
abbrev y3r:Nat:=86
abbrev z1g:Nat:=87
abbrev H9:Nat:=88
abbrev z1s:Nat:=89
abbrev z8b:Nat:=90
abbrev I8:Nat:=91
abbrev F8:Nat:=92
abbrev y9c:Nat:=93
abbrev F_rational_frac_text:Nat:=95
abbrev I6:Nat:=96
abbrev y6m:Nat:=97
abbrev z1n:Nat:=98
abbrev z4s:Nat:=99
abbrev K1:Nat:=100
abbrev N6:Nat:=101
abbrev X7:Nat:=102
abbrev P4:Nat:=103
abbrev N4:Nat:=104
abbrev Y8:Nat:=105
abbrev F4:Nat:=106
abbrev y0y:Nat:=107
abbrev I7:Nat:=108
abbrev z3v:Nat:=109
abbrev G0:Nat:=110
abbrev y6n:Nat:=111
abbrev y2p:Nat:=112
abbrev H3:Nat:=113
abbrev G1:Nat:=114
abbrev N7:Nat:=115
abbrev G8:Nat:=116
abbrev z6h:Nat:=118
abbrev z5q:Nat:=119
abbrev C8:Nat:=120
abbrev z4u:Nat:=121
abbrev z8v:Nat:=122
abbrev Z5:Nat:=123
abbrev y0w:Nat:=124
abbrev z3g:Nat:=125
abbrev H7:Nat:=126
abbrev y3p:Nat:=127
abbrev Z4:Nat:=128
abbrev Y4:Nat:=129
abbrev z1a:Nat:=130
abbrev x2a:Nat:=131
abbrev Y7:Nat:=132
abbrev D6:Nat:=133
abbrev z0n:Nat:=134
abbrev Y1:Nat:=135
abbrev U5:Nat:=136
abbrev z8k:Nat:=137
abbrev U6:Nat:=138
abbrev z4v:Nat:=139
abbrev y8z:Nat:=141
abbrev y9b:Nat:=142
abbrev z0r:Nat:=143
abbrev Z6:Nat:=144
abbrev X6:Nat:=145
abbrev C5:Nat:=146
abbrev y3q:Nat:=147
abbrev y0x:Nat:=148
abbrev z8w:Nat:=149
abbrev B7:Nat:=150
abbrev Y6:Nat:=151
abbrev y3o:Nat:=152
abbrev P3:Nat:=153
abbrev y9a:Nat:=154
abbrev C7:Nat:=156
abbrev V5:Nat:=158
abbrev M8:Nat:=159
abbrev B6:Nat:=160
abbrev z1o:Nat:=161
abbrev C0:Nat:=162
abbrev z0q:Nat:=163
abbrev z4w:Nat:=164
abbrev z3q:Nat:=165
abbrev y2n:Nat:=166
abbrev z1j:Nat:=167
abbrev C1:Nat:=172
abbrev z4t:Nat:=173
abbrev A4:Nat:=174
abbrev z8l:Nat:=176
abbrev B1:Nat:=182
abbrev z2o:Nat:=183
abbrev Z3:Nat:=184
abbrev U3:Nat:=188
abbrev O5:Nat:=191
abbrev y4t:Nat:=200
abbrev z9p:Nat:=201
abbrev x5s:Nat:=218
abbrev y8i:Nat:=5
abbrev y4u:Nat:=22
abbrev M6:Nat:=32
abbrev A7:Nat:=37
abbrev A3:Nat:=60
abbrev G4:Nat:=70
abbrev A0:Nat:=103
def thrL:List Nat:=[A1,A5,H3,D6,B6]
def newL:List Nat:=[H0,z2r,K6,F3,H2,C5]
end Gev
namespace Gev
open Go Go.Proofs
noncomputable def DD:Tab:=⟨tiOf PP,v1c PP,fun f=>thrL.contains f,fun f=>newL.contains f⟩
theorem hTT:TabOk PP DD:=tabOk PP _ _
theorem hmm:PP.follows .mixedOrders=true:=by kernel_rfl
abbrev DV.i64 (n:Int):DV:=.int .i64 n
abbrev DV.u64 (n:Int):DV:=.int .u64 n
abbrev DV.u32 (n:Int):DV:=.int .u32 n
abbrev DV.u8 (n:Int):DV:=.int .u8 n
structure Env where
 B0:Nat
 Gd:World→Prop
 hs:Stable B0 Gd
abbrev Fn (E:Env) (f:Nat) (args:List AV) (r:AV):Prop:=FnOk PP DD E.B0 E.Gd f args r
abbrev Rn (E:Env) (f:Nat) (args:List AV) (objs:Objs) (r:AV) (objs':Objs):Prop:=RunOk PP DD E.B0 E.Gd f args objs r objs'
abbrev Lp (E:Env) (n f k:Nat) (st:St) (o:Out) (st':St):Prop:=y9d PP DD E.B0 E.Gd n (q7u PP f k) st o st'
def known (P:Program) (f:Nat):Bool:=match P.funcs[f]? with | some fn=>!(fn.name == "runtime.NumGoroutine") && !fn.body.isNone | none=>false
theorem O7 {P:Program} {f:Nat} (h:known P f=true) (cargs:Array Value) (w:World):(callFunc f cargs).run P w=.ok (.enter f cargs) w:=by
 unfold known at h
 cases hf:P.funcs[f]? with
 | none=>rw [hf] at h;cases h
 | some fn =>
  rw [hf] at h
  simp only [Bool.and_eq_true,Bool.not_eq_true'] at h
  exact enters_of hf h.1 h.2 cargs w
mutual
def AV.isData:AV→Bool
 | .c _ | .undef | .agg _ | .fn _ []=>true
 | .mv _ ds=>AV.areData ds
 | .tup vs=>AV.areData vs
 | _=>false
def AV.areData:List AV→Bool
 | []=>true
 | v::vs=>v.isData && AV.areData vs
end
mutual
theorem AV.isData_ok:∀ {v:AV},v.isData=true→v.Data
 | .c _,_=>.c _
 | .undef,_=>.undef
 | .agg _,_=>.agg _
 | .fn _ [],_=>.fn _
 | .fn _ (_::_),h=>by simp [AV.isData] at h
 | .mv f ds,h=>.mv f ds (AV.areData_ok (by simpa [AV.isData] using h))
 | .tup vs,h=>.tup vs (AV.areData_ok (by simpa [AV.isData] using h))
 | .nils,h=>by simp [AV.isData] at h
 | .ptr _ _,h=>by simp [AV.isData] at h
 | .eptr _,h=>by simp [AV.isData] at h
 | .vptr _ _ _,h=>by simp [AV.isData] at h
 | .vec _ _,h=>by simp [AV.isData] at h
 | .frow _,h=>by simp [AV.isData] at h
 | .frp _,h=>by simp [AV.isData] at h
theorem AV.areData_ok:∀ {vs:List AV},AV.areData vs=true→∀ (i:Nat) v,vs[i]?=some v→v.Data
 | [],_,i,v,h=>by simp at h
 | x::xs,h,i,v,hv=>by
  simp only [AV.areData,Bool.and_eq_true] at h
  cases i with
  | zero=>simp at hv;subst hv;exact AV.isData_ok h.1
  | succ i=>exact AV.areData_ok h.2 i v (by simpa using hv)
end
theorem aO {p:Prop} (h:p):All [p]:=h
theorem beT {α:Type} [BEq α] [LawfulBEq α] {a b:α} (h:a=b):(a == b)=true:=by simp [h]
theorem beF {α:Type} [BEq α] [LawfulBEq α] {a b:α} (h:¬ a=b):(a == b)=false:=by simp [h]
theorem bnT {α:Type} [BEq α] [LawfulBEq α] {a b:α} (h:¬ a=b):(a != b)=true:=by simp [h]
theorem bnF {α:Type} [BEq α] [LawfulBEq α] {a b:α} (h:a=b):(a != b)=false:=by simp [h]
theorem ncF {a b:Bool} (h:a=b):(!(a == b))=false:=by simp [h]
theorem bsize (a:ByteArray):a.data.toList.length=a.size:=Array.length_toList
theorem j1b (a:ByteArray):∀ (n i:Nat) (r:List UInt8),i+n=a.size→ByteArray.toList.loop a i r=r.reverse++a.data.toList.drop i
 | 0,i,r,h=>by
  unfold ByteArray.toList.loop
  rw [if_neg (by omega),List.drop_eq_nil_of_le (by rw [bsize];omega),List.append_nil]
 | n+1,i,r,h=>by
  unfold ByteArray.toList.loop
  have hi:i<a.data.toList.length:=by rw [bsize];omega
  have hj:i<a.data.size:=by rw [← Array.length_toList];exact hi
  rw [if_pos (by omega),j1b a n (i+1) _ (by omega),List.drop_eq_getElem_cons hi]
  have e:a.get! i=a.data.toList[i]:=by
   cases a with
   | mk d=>show d[i]! = d.toList[i];rw [getElem!_pos d i hj,Array.getElem_toList]
  rw [e];simp
theorem toList_eq (a:ByteArray):a.toList=a.data.toList:=by
 unfold ByteArray.toList
 rw [j1b a a.size 0 [] (by omega)];simp
theorem bytes_ext {a b:ByteArray} (h:a.toList=b.toList):a=b:=by
 rw [toList_eq,toList_eq] at h
 cases a;cases b;simp at h;simp [h]
theorem seT {a b:ByteArray} (h:a=b):(a.toList == b.toList)=true:=by simp [h]
theorem seF {a b:ByteArray} (h:¬ a=b):(a.toList == b.toList)=false:=by
 rw [beq_eq_false_iff_ne];exact fun e=>h (bytes_ext e)
theorem snT {a b:ByteArray} (h:¬ a=b):(!(a.toList == b.toList))=true:=by rw [seF h];rfl
theorem snF {a b:ByteArray} (h:a=b):(!(a.toList == b.toList))=false:=by rw [seT h];rfl
section
variable {E:Env}
theorem fnMk {f:Nat} {args:List AV} {r:AV} (os:List Orc) {ps:List Prop} (hk:known PP f=true) (hr:r.isData=true) (hp:All ps) (h:k6a DD (sem PP DD E.B0 E.Gd) PP false f args [] os=some ((r,[]),[],ps)):Fn E f args r :=
 fn_mk hTT E.hs hmm os (O7 hk) (AV.isData_ok hr) hp h
theorem rnMk {f:Nat} {args:List AV} {objs objs':Objs} {r:AV} (os:List Orc) {ps:List Prop} (hk:known PP f=true) (hp:All ps) (h:k6a DD (sem PP DD E.B0 E.Gd) PP (DD.thr f || (DD.new f && objs.isEmpty)) f args objs os=some ((r,objs'),[],ps)):Rn E f args objs r objs' :=
 run_mk hTT E.hs hmm os (O7 hk) hp h
theorem lpOn {n f k:Nat} {st st':St} {o:Out} (st2:St) (keep:List Nat) (os:List Orc) {ps:List Prop} (hp:All ps) (h:round DD (sem PP DD E.B0 E.Gd) (q7u PP f k) n keep st os=some (.norm,st2,ps)) (hr:Lp E n f k st2 o st'):Lp E n f k st o st' :=
 w2m hTT E.hs hmm st2 keep os ps h hp hr
theorem lpOff {n f k:Nat} {st st':St} {o:Out} (keep:List Nat) (os:List Orc) {ps:List Prop} (hp:All ps) (h:round DD (sem PP DD E.B0 E.Gd) (q7u PP f k) n keep st os=some (o,st',ps)) (ho:o≠.norm):Lp E n f k st o st' :=
 v7y hTT E.hs hmm keep os ps h ho hp
end
abbrev RW:=List (List DV)
abbrev BA:=ByteArray
abbrev DV.i (n:Int):DV:=.int .i64 n
abbrev DV.w (n:Int):DV:=.int .u32 n
abbrev DV.l (x:RW):DV:=.list x
abbrev DV.s (x:BA):DV:=.str x
abbrev DV.b (x:Bool):DV:=.bool x
abbrev AV.i (n:Int):AV:=.c (.int .i64 n)
abbrev AV.w (n:Int):AV:=.c (.int .u32 n)
abbrev AV.l (x:RW):AV:=.c (.list x)
abbrev AV.s (x:BA):AV:=.c (.str x)
abbrev AV.b (x:Bool):AV:=.c (.bool x)
abbrev AV.q (x:Bool) (y z:RW):AV:=.agg [.bool x,.list y,.list z]
abbrev AV.z (x:Bool) (y:RW):AV:=.agg [.bool x,.list y]
abbrev sC (l:List AV):Option Ob:=some (.cells l)
abbrev sF (l:RW):Option Ob:=some (.fro l)
abbrev sV (t:Nat) (l:RW):Option Ob:=some (.vec t l)
def j4w:Nat→List AV→List Nat
 | _,[]=>[]
 | i,.undef::vs=>j4w (i+1) vs
 | i,_::vs=>i::j4w (i+1) vs
def St.live (s:St):List Nat:=j4w 0 s.slots
def Owe (_:List Orc) (ps:List Prop):Prop:=All ps
theorem all_cons {p:Prop} {ps:List Prop} (h:p) (k:All ps):All (p::ps):=match ps,k with
 | [],_=>h
 | _::_,k=>⟨h,k⟩
section
variable {E:Env} {os:List Orc} {ps:List Prop}
theorem oZ:Owe [] []:=trivial
theorem oP {p:Prop} (h:p) (k:Owe os ps):Owe os (p::ps):=all_cons h k
theorem oK (k:Owe os ps):Owe (.keep::os) ps:=k
theorem oO (o:Orc) (k:Owe os ps):Owe (o::os) ps:=k
theorem oI (l:Nat) {xs:List RW} {i:Nat} {x:RW} (h:xs[i]?=some x) (k:Owe os ps):Owe (.ln l i x::os) ((xs[i]?=some x)::ps):=all_cons h k
theorem oQ {f n t:Nat} {a:List AV} {xs:List RW} (h:Rn E f a [] (.vec 0 n) [some (.mat t xs [])]) (k:Owe os ps):Owe (.nm n t xs::os) (Rn E f a [] (.vec 0 n) [some (.mat t xs [])]::ps):=all_cons h k
theorem oT {p:Prop} [Decidable p] (h:p) (k:Owe os ps):Owe (.t true::os) ((decide p=true)::ps):=all_cons (decide_eq_true h) k
theorem oU {p:Prop} [Decidable p] (h:¬ p) (k:Owe os ps):Owe (.t false::os) ((decide p=false)::ps):=all_cons (decide_eq_false h) k
theorem oB {b:Bool} (h:b=true) (k:Owe os ps):Owe (.t true::os) ((b=true)::ps):=all_cons h k
theorem oC {b:Bool} (h:b=false) (k:Owe os ps):Owe (.t false::os) ((b=false)::ps):=all_cons h k
theorem oD {xs:RW} {i:Nat} {cs:List DV} (h:xs[i]?=some cs) (k:Owe os ps):Owe (.d cs::os) ((xs[i]?=some cs)::ps):=all_cons h k
theorem oF {f:Nat} {a:List AV} {r:AV} (h:Fn E f a r) (k:Owe os ps):Owe (.v r::os) (Fn E f a r::ps):=all_cons h k
theorem oR {f:Nat} {a:List AV} {r:AV} {x:Objs} (h:Rn E f a x r x) (k:Owe os ps):Owe (.vr r::os) (Rn E f a x r x::ps):=all_cons h k
theorem oV {f:Nat} {a:List AV} {r:AV} {x y:Objs} (h:Rn E f a x r y) (k:Owe os ps):Owe (.vt r y::os) (Rn E f a x r y::ps):=all_cons h k
theorem oN {f n t:Nat} {a:List AV} {xs:RW} (h:Rn E f a [] (.vec 0 n) [some (.vec t xs)]) (k:Owe os ps):Owe (.nw n t xs::os) (Rn E f a [] (.vec 0 n) [some (.vec t xs)]::ps):=all_cons h k
theorem oM (g:List (Nat × Nat)) {n f b:Nat} {s s':St} {o:Out} (h:Lp E n f b s o s') (k:Owe os ps):Owe (.loop s.live g o s'::os) (Lp E n f b s o s'::ps):=all_cons h k
theorem oL {n f b:Nat} {s s':St} {o:Out} (h:Lp E n f b s o s') (k:Owe os ps):Owe (.loop s.live [] o s'::os) (Lp E n f b s o s'::ps):=all_cons h k
theorem fnM {f:Nat} {args:List AV} {r:AV} (hp:Owe os ps) (h:k6a DD (sem PP DD E.B0 E.Gd) PP false f args [] os=some ((r,[]),[],ps):=by kernel_rfl) (hk:known PP f=true:=by kernel_rfl) (hr:r.isData=true:=by kernel_rfl):Fn E f args r:=fnMk os hk hr hp h
theorem rnM {f:Nat} {args:List AV} {objs objs':Objs} {r:AV} (hp:Owe os ps) (h:k6a DD (sem PP DD E.B0 E.Gd) PP (DD.thr f || (DD.new f && objs.isEmpty)) f args objs os=some ((r,objs'),[],ps):=by kernel_rfl) (hk:known PP f=true:=by kernel_rfl):Rn E f args objs r objs':=rnMk os hk hp h
theorem lpM {n f k:Nat} {st st2 st':St} {o:Out} (hp:Owe os ps) (hr:Lp E n f k st2 o st') (h:round DD (sem PP DD E.B0 E.Gd) (q7u PP f k) n st2.live st os=some (.norm,st2,ps):=by kernel_rfl):Lp E n f k st o st':=lpOn st2 st2.live os hp h hr
theorem lpX {n f k:Nat} {st st':St} {o:Out} (hp:Owe os ps) (h:round DD (sem PP DD E.B0 E.Gd) (q7u PP f k) n st'.live st os=some (o,st',ps):=by kernel_rfl) (ho:o≠.norm:=by simp):Lp E n f k st o st':=lpOff st'.live os hp h ho
end
end Gev
namespace Gev
open Go Go.Proofs
variable {E:Env}
variable {i0 i1:Int}
section
variable (h1:Fn E y4t [.i i0] (.b false))
include h1
section
variable (h2:Fn E y4t [.i i1] (.b false))
include h2
theorem k4z (h3:i0<i1):Fn E z2o [.i i0,.i i1] (.i (-1)):=fnM (oF h1 (oF h2 (oT h3 oZ)))
theorem k5a (h3:¬ i0<i1)(h4:i0>i1):Fn E z2o [.i i0,.i i1] (.i 1):=fnM (oF h1 (oF h2 (oU h3 (oT h4 oZ))))
theorem k5b (h3:¬ i0<i1)(h4:¬ i0>i1):Fn E z2o [.i i0,.i i1] (.i 0):=fnM (oF h1 (oF h2 (oU h3 (oU h4 oZ))))
end
end
section
variable (h1:Fn E z9p [.w i0] (.b false))
include h1
section
variable (h2:Fn E z9p [.w i1] (.b false))
include h2
theorem x5x (h3:i0<i1):Fn E Z3 [.w i0,.w i1] (.i (-1)):=fnM (oF h1 (oF h2 (oT h3 oZ)))
theorem x5y (h3:¬ i0<i1)(h4:i0>i1):Fn E Z3 [.w i0,.w i1] (.i 1):=fnM (oF h1 (oF h2 (oU h3 (oT h4 oZ))))
theorem x5z (h3:¬ i0<i1)(h4:¬ i0>i1):Fn E Z3 [.w i0,.w i1] (.i 0):=fnM (oF h1 (oF h2 (oU h3 (oU h4 oZ))))
end
end
theorem x4e (h1:i0=i0):Fn E y4t [.i i0] (.b false):=fnM (oC (bnF h1) oZ)
theorem y6r (h1:i0=i0):Fn E z9p [.w i0] (.b false):=fnM (oC (bnF h1) oZ)
end Gev
namespace Gev
open Go Go.Proofs
variable {E:Env}
variable {o:Out} {t:St} {r0 r1 r2 r3 r4 r5 r6 r7 r8 r9 r10 r11 r13 r15 r17 r18 r19 r20:RW} {i0 i1 i2 i3 i4 i5 i6 i7 i8 i9 i10 i11 i12 i13 i14 i15 i16 i17 i18 i19 i20 i21 i22 i23 i24 i25 i26 i27 i28 i29 i30 i31:Int} {s0 s1 s2 s3:BA} {n0 n1 n2 n3 n4 n5 n6 n7 n8 n9 n10:Nat} {b0 b1 b2:Bool}
theorem j5v (h1:Fn E C8 [.s s0] (.b true))(h2:Fn E C8 [.s s1] (.b true))(h3:Fn E V5 [.s s0] (.l r0))(h4:Fn E V5 [.s s1] (.l r1)):Fn E Z6 [.s s0,.s s1] (.tup [.l r0,.l r1,.i 0]):=fnM (oF h1 (oF h2 (oF h3 (oF h4 oZ))))
theorem j8w (h1:Fn E Z6 [.s s0,.s s1] (.tup [.l r0,.l r1,.i i0]))(h2:i0=0)(h3:Fn E X6 [.mv C5 [.l r0],.l r1] (.tup [.s s2,.i i1])):Fn E z3g [.s s0,.s s1] (.tup [.s s2,.i i1]):=fnM (oF h1 (oC (bnF h2) (oF h3 oZ)))
def M3 (s0:BA) (i0 i1:Int):St:=stOf 32 [(0,.s s0),(17,.i i0),(18,.i i1)] []
def z1x:St:=stOf 32 [(2,.b false)] []
def z5h:St:=stOf 32 [] []
section
variable (e1:((s0.data.toList.getD (Int.toNat i1) 0).toNat:Int)=i2)
include e1
theorem y5m (e2:IntKind.i64.wrap (i1+1)=i3)(h1:i1<i0)(h2:0≤i1∧i1<s0.size)(h3:¬ i2<48)(h4:¬ i2>57)(ih:Lp E 0 C8 0 (M3 s0 i0 i3) o t):Lp E 0 C8 0 (M3 s0 i0 i1) o t:=by subst e1 e2;exact lpM (oT h1 (oP h2 (oU h3 (oP h2 (oU h4 oZ))))) ih
section
variable (h1:i1<i0)(h2:0≤i1∧i1<s0.size)
include h1 h2
theorem x5d (h3:i2<48):Lp E 0 C8 0 (M3 s0 i0 i1) .ret (z1x):=by subst e1;exact lpX (oT h1 (oP h2 (oT h3 oZ)))
theorem x5e (h3:¬ i2<48)(h4:i2>57):Lp E 0 C8 0 (M3 s0 i0 i1) .ret (z1x):=by subst e1;exact lpX (oT h1 (oP h2 (oU h3 (oP h2 (oT h4 oZ)))))
end
end
theorem x5f (h1:¬ i1<i0):Lp E 0 C8 0 (M3 s0 i0 i1) (.exit 0) (z5h):=lpX (oU h1 oZ)
theorem j1l (h1:s0=(⟨#[]⟩:BA)):Fn E C8 [.s s0] (.b false):=fnM (oB (seT h1) oZ)
section
variable (e1:((s0.data.toList.getD 0 0).toNat:Int)=i0)(h1:¬ s0=(⟨#[]⟩:BA))(h2:(s0.size:Int)>1)(h3:0≤(0:Int)∧(0:Int)<s0.size)
include e1 h1 h2 h3
theorem j1m (h4:i0=48):Fn E C8 [.s s0] (.b false):=by subst e1;exact fnM (oC (seF h1) (oT h2 (oP h3 (oB (beT h4) oZ))))
theorem j1n (h4:¬ i0=48)(h5:Lp E 0 C8 0 (M3 s0 (s0.size:Int) 0) .ret (z1x)):Fn E C8 [.s s0] (.b false):=by subst e1;exact fnM (oC (seF h1) (oT h2 (oP h3 (oC (beF h4) (oL h5 oZ)))))
theorem j1o (h4:¬ i0=48)(h5:Lp E 0 C8 0 (M3 s0 (s0.size:Int) 0) (.exit 0) (z5h)):Fn E C8 [.s s0] (.b true):=by subst e1;exact fnM (oC (seF h1) (oT h2 (oP h3 (oC (beF h4) (oL h5 oZ)))))
end
section
variable (h1:¬ s0=(⟨#[]⟩:BA))(h2:¬ (s0.size:Int)>1)
include h1 h2
theorem j1p (h3:Lp E 0 C8 0 (M3 s0 (s0.size:Int) 0) .ret (z1x)):Fn E C8 [.s s0] (.b false):=fnM (oC (seF h1) (oU h2 (oL h3 oZ)))
theorem j1q (h3:Lp E 0 C8 0 (M3 s0 (s0.size:Int) 0) (.exit 0) (z5h)):Fn E C8 [.s s0] (.b true):=fnM (oC (seF h1) (oU h2 (oL h3 oZ)))
end
def z5u (s0:BA) (n0:Nat) (r0:RW):St:=stOf 31 [(0,.s s0),(3,.vec 0 n0)] [sV A0 r0]
def y1p (n1:Nat) (r1:RW):St:=stOf 31 [(3,.vec 0 n1)] [sV A0 r1]
theorem k3f (e1:IntKind.i64.wrap ((s0.size:Int)-9)=i0)(e2:(if 0>i0 then 0 else i0)=i1)(e3:s0.extract (Int.toNat i1) (Int.toNat (s0.size:Int))=s1)(e4:IntKind.u32.wrap i2=i3)(e5:(r0.take n0)++[[.w i3]]=r2)(e6:n0+1=n2)(e7:s0.extract 0 (Int.toNat i1)=s2)(h1:(s0.size:Int)>0)(h2:0≤i1∧i1≤(s0.size:Int)∧(s0.size:Int)≤s0.size)(h3:Fn E z8l [.s s1,.i 10,.i 32] (.tup [.c (.u64 i2),.undef]))(h4:(n0+1)*4≤140737488355328∧n0+1≤140737488355328)(h5:0≤(0:Int)∧(0:Int)≤i1∧i1≤s0.size)(ih:Lp E 0 V5 0 (z5u s2 n2 r2) o t):Lp E 0 V5 0 (z5u s0 n0 r0) o t:=by subst e1 e2 e3 e4 e5 e6 e7;exact lpM (oT h1 (oP h2 (oF h3 (oP (show ∀ y∈([[.w (IntKind.u32.wrap i2)]]:RW),y.length=1 from by simp) (oP h4 (oP h5 oZ)))))) ih
theorem x7o (h1:¬ (s0.size:Int)>0):Lp E 0 V5 0 (z5u s0 n0 r0) (.exit 0) (y1p n0 r0):=lpX (oU h1 oZ)
theorem j5w (e1:(r0.take n1)=r1)(h1:Lp E 0 V5 0 (z5u s0 0 []) (.exit 0) (y1p n0 r0))(h2:Rn E B6 [.vec 0 n0] [sV A0 r0] (.vec 0 n1) [sV A0 r0]):Fn E V5 [.s s0] (.l r1):=by subst e1;exact fnM (oM [(3,A0)] h1 (oR h2 oZ))
theorem y0a (h1:Fn E C5 [.l r0,.l r1] (.l r2))(h2:Fn E M8 [.l r2] (.s s0)):Fn E X6 [.mv C5 [.l r0],.l r1] (.tup [.s s0,.i 0]):=fnM (oF h1 (oF h2 oZ))
theorem k8x (h1:Fn E Z6 [.s s0,.s s1] (.tup [.l r0,.l r1,.i i0]))(h2:i0=0)(h3:¬ (r1.length:Int)=0)(h4:Fn E A4 [.l r0,.l r1] (.tup [.l r2,.l r3]))(h5:Fn E M8 [.l r2] (.s s2))(h6:Fn E M8 [.l r3] (.s s3)):Fn E z1j [.s s0,.s s1] (.tup [.s s2,.s s3,.i 0]):=fnM (oF h1 (oC (bnF h2) (oC (beF h3) (oF h4 (oF h5 (oF h6 oZ))))))
def X5 (n0:Nat) (r0:RW):St:=stOf 21 [(0,.vec 0 n0)] [sV A0 r0]
def z2h (r0:RW) (n1:Nat):St:=stOf 21 [(0,.vec 0 n1)] [sV A0 r0]
section
variable (e1:IntKind.i64.wrap (((n0:Nat):Int)-1)=i0)
include e1
theorem x3l (e2:(Int.toNat i0)=n2)(h1:((n0:Nat):Int)>0)(h2:0≤i0∧i0<((n0:Nat):Int))(h3:r0[(Int.toNat i0)]?=some [.w i1])(h4:i1=0)(h5:0≤i0∧i0≤((n0:Nat):Int))(ih:Lp E 1 B6 0 (X5 n2 r0) o t):Lp E 1 B6 0 (X5 n0 r0) o t:=by subst e1 e2;exact lpM (oT h1 (oP h2 (oD h3 (oB (beT h4) (oP h5 oZ))))) ih
theorem y9q (h1:((n0:Nat):Int)>0)(h2:0≤i0∧i0<((n0:Nat):Int))(h3:r0[(Int.toNat i0)]?=some [.w i1])(h4:¬ i1=0):Lp E 1 B6 0 (X5 n0 r0) (.exit 0) (z2h r0 n0):=by subst e1;exact lpX (oT h1 (oP h2 (oD h3 (oC (beF h4) oZ))))
end
theorem y9r (h1:¬ ((n0:Nat):Int)>0):Lp E 1 B6 0 (X5 n0 r0) (.exit 0) (z2h r0 n0):=lpX (oU h1 oZ)
theorem k3e (h1:Lp E 1 B6 0 (X5 n0 r0) (.exit 0) (z2h r0 n1)):Rn E B6 [.vec 0 n0] [sV A0 r0] (.vec 0 n1) [sV A0 r0]:=rnM (oL h1 oZ)
def z0d (r0:RW) (n0:Nat) (i0 i1 i2:Int) (r1:RW) (i3 i4:Int) (r2:RW) (i5 i6:Int) (r3:RW):St:=stOf 68 [(1,.l r0),(5,.vec 0 n0),(6,.i i0),(7,.w i1),(8,.c (.u64 i2)),(17,.l r1),(18,.i i3),(19,.i i4),(24,.l r2),(25,.i i5),(26,.i i6)] [sV A0 r3]
def z5j (r0:RW) (n0:Nat) (i0:Int) (r1:RW) (i3 i4 i7:Int) (r4:RW):St:=stOf 68 [(1,.l r0),(5,.vec 0 n0),(6,.i i0),(8,.c (.u64 i7)),(17,.l r1),(18,.i i3),(19,.i i4)] [sV A0 r4]
theorem x1j (e1:IntKind.u64.wrap i1=i9)(e2:IntKind.u64.wrap i8=i10)(e3:IntKind.u64.wrap (i9*i10)=i11)(e4:IntKind.i64.wrap (i0+i6)=i12)(e5:IntKind.u64.wrap i13=i14)(e6:IntKind.u64.wrap (i11+i14)=i15)(e7:IntKind.u64.wrap (i2+i15)=i16)(e8:Int.tmod i16 1000000000=i17)(e9:IntKind.u32.wrap i17=i18)(e10:List.set r3 (Int.toNat i12) [.w i18]=r5)(e11:IntKind.u64.wrap (Int.tdiv i16 1000000000)=i19)(e12:IntKind.i64.wrap (i6+1)=i20)(h1:i6<i5)(h2:0≤i6)(h3:r2[(Int.toNat i6)]?=some [.w i8])(h4:0≤i12∧i12<((n0:Nat):Int))(h5:r3[(Int.toNat i12)]?=some [.w i13])(ih:Lp E 1 C5 1 (z0d r0 n0 i0 i1 i19 r1 i3 i4 r2 i5 i20 r5) o t):Lp E 1 C5 1 (z0d r0 n0 i0 i1 i2 r1 i3 i4 r2 i5 i6 r3) o t:=by subst e1 e2 e3 e4 e5 e6 e7 e8 e9 e10 e11 e12;exact lpM (oT h1 (oP h2 (oD h3 (oP h4 (oD h5 (oP (show (1000000000:Int)≠0 from by decide) (oP h4 (oD h5 (oP (show (1000000000:Int)≠0 from by decide) oZ))))))))) ih
theorem y8f (h1:¬ i6<i5):Lp E 1 C5 1 (z0d r0 n0 i0 i1 i2 r1 i3 i4 r2 i5 i6 r3) (.exit 2) (z5j r0 n0 i0 r1 i3 i4 i2 r3):=lpX (oU h1 oZ)
def z0c (r0:RW) (n0:Nat) (r1:RW) (i0 i1:Int) (r2:RW):St:=stOf 68 [(1,.l r0),(5,.vec 0 n0),(17,.l r1),(18,.i i0),(19,.i i1)] [sV A0 r2]
def z5i (n0:Nat) (r3:RW):St:=stOf 68 [(5,.vec 0 n0)] [sV A0 r3]
theorem x1i (e1:IntKind.i64.wrap (i1+(r0.length:Int))=i4)(e2:IntKind.u32.wrap i3=i5)(e3:List.set r4 (Int.toNat i4) [.w i5]=r5)(e4:IntKind.i64.wrap (i1+1)=i7)(h1:i1<i0)(h2:0≤i1)(h3:r1[(Int.toNat i1)]?=some [.w i2])(h4:Lp E 1 C5 1 (z0d r0 n0 i1 i2 0 r1 i0 i1 r0 (r0.length:Int) 0 r2) (.exit 2) (z5j r0 n0 i1 r1 i0 i1 i3 r4))(h5:0≤i4∧i4<((n0:Nat):Int))(h6:r4[(Int.toNat i4)]?=some [.w i6])(ih:Lp E 1 C5 0 (z0c r0 n0 r1 i0 i7 r5) o t):Lp E 1 C5 0 (z0c r0 n0 r1 i0 i1 r2) o t:=by subst e1 e2 e3 e4;exact lpM (oT h1 (oP h2 (oD h3 (oL h4 (oP h5 (oD h6 oZ)))))) ih
theorem y8e (h1:¬ i1<i0):Lp E 1 C5 0 (z0c r0 n0 r1 i0 i1 r2) (.exit 0) (z5i n0 r2):=lpX (oU h1 oZ)
theorem k0t (e1:IntKind.i64.wrap ((r0.length:Int)+(r1.length:Int))=i0)(e2:Int.toNat i0=n0)(e3:List.replicate n0 [.w 0]=r2)(h1:0≤i0∧i0≤i0∧(Int.toNat i0)*4≤140737488355328∧(Int.toNat i0)≤140737488355328)(h2:Lp E 1 C5 0 (z0c r1 n0 r0 (r0.length:Int) 0 r2) (.exit 0) (z5i n0 r3))(h3:Rn E B6 [.vec 0 n0] [sV A0 r3] (.vec 0 n1) [sV A0 r3]):Rn E C5 [.l r0,.l r1] [] (.vec 0 n1) [sV A0 r3]:=by subst e1 e2 e3;exact rnM (oP h1 (oL h2 (oR h3 oZ)))
theorem j8v (h1:Fn E Z6 [.s s0,.s s1] (.tup [.l r0,.l r1,.i i0]))(h2:i0=0)(h3:Fn E X6 [.mv C7 [.l r0],.l r1] (.tup [.s s2,.i i1])):Fn E y9b [.s s0,.s s1] (.tup [.s s2,.i i1]):=fnM (oF h1 (oC (bnF h2) (oF h3 oZ)))
def G5 (r0:RW) (n0 n1:Nat) (i0:Int) (n2:Nat) (i1 i2 i3:Int) (r1 r2 r3 r4:RW):St:=stOf 299 [(10,.l r0),(11,.vec 2 n0),(12,.vec 3 n1),(13,.i i0),(14,.vec 4 n2),(15,.i i1),(17,.c (.u64 i2)),(18,.c (.u64 i3))] [some .dead,sV A0 r1,sV A0 r2,sV A0 r3,sV A0 r4]
def J7 (r0:RW) (n0 n1:Nat) (i0:Int) (n2:Nat) (i1:Int) (r1 r2 r3 r4:RW) (i4:Int):St:=stOf 299 [(10,.l r0),(11,.vec 2 n0),(12,.vec 3 n1),(13,.i i0),(14,.vec 4 n2),(15,.i i1),(17,.c (.u64 i4))] [some .dead,sV A0 r1,sV A0 r2,sV A0 r3,sV A0 r4]
theorem y7z (e1:IntKind.u64.wrap (i2-1)=i5)(e2:IntKind.i64.wrap (i0-1)=i6)(e3:IntKind.u64.wrap i7=i8)(e4:IntKind.u64.wrap (i3+i8)=i9)(h1:i2≥1000000000)(h2:0≤i6∧i6<((n1:Nat):Int))(h3:r3[(Int.toNat i6)]?=some [.w i7])(h4:¬ i9≥1000000000)(ih:Lp E 5 A4 1 (G5 r0 n0 n1 i0 n2 i1 i5 i9 r1 r2 r3 r4) o t):Lp E 5 A4 1 (G5 r0 n0 n1 i0 n2 i1 i2 i3 r1 r2 r3 r4) o t:=by subst e1 e2 e3 e4;exact lpM (oT h1 (oP h2 (oD h3 (oU h4 oZ)))) ih
theorem y8a (e1:IntKind.i64.wrap (i0-2)=i5)(e2:IntKind.u64.wrap i6=i7)(e3:IntKind.u64.wrap (i2*i7)=i8)(e4:IntKind.u64.wrap (i3*1000000000)=i9)(e5:IntKind.i64.wrap (i1+i0)=i10)(e6:IntKind.i64.wrap (i10-2)=i11)(e7:IntKind.u64.wrap i12=i13)(e8:IntKind.u64.wrap (i9+i13)=i14)(e9:IntKind.u64.wrap (i2-1)=i15)(e10:IntKind.i64.wrap (i0-1)=i16)(e11:IntKind.u64.wrap i17=i18)(e12:IntKind.u64.wrap (i3+i18)=i19)(h1:¬ i2≥1000000000)(h2:0≤i5∧i5<((n1:Nat):Int))(h3:r3[(Int.toNat i5)]?=some [.w i6])(h4:0≤i11∧i11<((n0:Nat):Int))(h5:r2[(Int.toNat i11)]?=some [.w i12])(h6:i8>i14)(h7:0≤i16∧i16<((n1:Nat):Int))(h8:r3[(Int.toNat i16)]?=some [.w i17])(h9:¬ i19≥1000000000)(ih:Lp E 5 A4 1 (G5 r0 n0 n1 i0 n2 i1 i15 i19 r1 r2 r3 r4) o t):Lp E 5 A4 1 (G5 r0 n0 n1 i0 n2 i1 i2 i3 r1 r2 r3 r4) o t:=by subst e1 e2 e3 e4 e5 e6 e7 e8 e9 e10 e11 e12;exact lpM (oU h1 (oP h2 (oD h3 (oP h4 (oD h5 (oT h6 (oP h7 (oD h8 (oU h9 oZ))))))))) ih
theorem y5t (e1:IntKind.u64.wrap (i2-1)=i5)(e2:IntKind.i64.wrap (i0-1)=i6)(e3:IntKind.u64.wrap i7=i8)(e4:IntKind.u64.wrap (i3+i8)=i9)(h1:i2≥1000000000)(h2:0≤i6∧i6<((n1:Nat):Int))(h3:r3[(Int.toNat i6)]?=some [.w i7])(h4:i9≥1000000000):Lp E 5 A4 1 (G5 r0 n0 n1 i0 n2 i1 i2 i3 r1 r2 r3 r4) (.exit 3) (J7 r0 n0 n1 i0 n2 i1 r1 r2 r3 r4 i5):=by subst e1 e2 e3 e4;exact lpX (oT h1 (oP h2 (oD h3 (oT h4 oZ))))
section
variable (e1:IntKind.i64.wrap (i0-2)=i5)(e2:IntKind.u64.wrap i6=i7)(e3:IntKind.u64.wrap (i2*i7)=i8)(e4:IntKind.u64.wrap (i3*1000000000)=i9)(e5:IntKind.i64.wrap (i1+i0)=i10)(e6:IntKind.i64.wrap (i10-2)=i11)(e7:IntKind.u64.wrap i12=i13)(e8:IntKind.u64.wrap (i9+i13)=i14)
include e1 e2 e3 e4 e5 e6 e7 e8
theorem y5u (e9:IntKind.u64.wrap (i2-1)=i15)(e10:IntKind.i64.wrap (i0-1)=i16)(e11:IntKind.u64.wrap i17=i18)(e12:IntKind.u64.wrap (i3+i18)=i19)(h1:¬ i2≥1000000000)(h2:0≤i5∧i5<((n1:Nat):Int))(h3:r3[(Int.toNat i5)]?=some [.w i6])(h4:0≤i11∧i11<((n0:Nat):Int))(h5:r2[(Int.toNat i11)]?=some [.w i12])(h6:i8>i14)(h7:0≤i16∧i16<((n1:Nat):Int))(h8:r3[(Int.toNat i16)]?=some [.w i17])(h9:i19≥1000000000):Lp E 5 A4 1 (G5 r0 n0 n1 i0 n2 i1 i2 i3 r1 r2 r3 r4) (.exit 3) (J7 r0 n0 n1 i0 n2 i1 r1 r2 r3 r4 i15):=by subst e1 e2 e3 e4 e5 e6 e7 e8 e9 e10 e11 e12;exact lpX (oU h1 (oP h2 (oD h3 (oP h4 (oD h5 (oT h6 (oP h7 (oD h8 (oT h9 oZ)))))))))
theorem y5v (h1:¬ i2≥1000000000)(h2:0≤i5∧i5<((n1:Nat):Int))(h3:r3[(Int.toNat i5)]?=some [.w i6])(h4:0≤i11∧i11<((n0:Nat):Int))(h5:r2[(Int.toNat i11)]?=some [.w i12])(h6:¬ i8>i14):Lp E 5 A4 1 (G5 r0 n0 n1 i0 n2 i1 i2 i3 r1 r2 r3 r4) (.exit 3) (J7 r0 n0 n1 i0 n2 i1 r1 r2 r3 r4 i2):=by subst e1 e2 e3 e4 e5 e6 e7 e8;exact lpX (oU h1 (oP h2 (oD h3 (oP h4 (oD h5 (oU h6 oZ))))))
end
def G6 (r0:RW) (n0 n1:Nat) (i0:Int) (n2:Nat) (i1 i2 i3 i4 i5 i6:Int) (r1 r2 r3 r4:RW):St:=stOf 299 [(10,.l r0),(11,.vec 2 n0),(12,.vec 3 n1),(13,.i i0),(14,.vec 4 n2),(15,.i i1),(17,.c (.u64 i2)),(19,.i i3),(20,.i i4),(180,.i i5),(181,.i i6)] [some .dead,sV A0 r1,sV A0 r2,sV A0 r3,sV A0 r4]
def P6 (r0:RW) (n0 n1:Nat) (i0:Int) (n2:Nat) (i1 i2:Int) (r1 r3 r4:RW) (i7 i8:Int) (r5:RW):St:=stOf 299 [(10,.l r0),(11,.vec 2 n0),(12,.vec 3 n1),(13,.i i0),(14,.vec 4 n2),(15,.i i1),(17,.c (.u64 i2)),(19,.i i7),(20,.i i8)] [some .dead,sV A0 r1,sV A0 r5,sV A0 r3,sV A0 r4]
section
variable (e1:IntKind.i64.wrap i2=i9)(e2:IntKind.i64.wrap i10=i11)(e3:IntKind.i64.wrap (i9*i11)=i12)(e4:IntKind.i64.wrap (i12+i3)=i13)(e5:IntKind.i64.wrap (Int.tdiv i13 1000000000)=i14)(e6:IntKind.i64.wrap (i6+i1)=i15)(e7:IntKind.i64.wrap i16=i17)(e8:Int.tmod i13 1000000000=i18)(e9:IntKind.i64.wrap (i17-i18)=i19)(e10:IntKind.i64.wrap (i19-i4)=i20)
include e1 e2 e3 e4 e5 e6 e7 e8 e9 e10
theorem y8b (e11:IntKind.i64.wrap (i20+1000000000)=i21)(e12:IntKind.u32.wrap i21=i22)(e13:List.set r2 (Int.toNat i15) [.w i22]=r6)(e14:IntKind.i64.wrap (i6+1)=i23)(h1:i6<i5)(h2:0≤i6∧i6<((n1:Nat):Int))(h3:r3[(Int.toNat i6)]?=some [.w i10])(h4:0≤i15∧i15<((n0:Nat):Int))(h5:r2[(Int.toNat i15)]?=some [.w i16])(h6:i20<0)(ih:Lp E 5 A4 2 (G6 r0 n0 n1 i0 n2 i1 i2 i14 1 i5 i23 r1 r6 r3 r4) o t):Lp E 5 A4 2 (G6 r0 n0 n1 i0 n2 i1 i2 i3 i4 i5 i6 r1 r2 r3 r4) o t:=by subst e1 e2 e3 e4 e5 e6 e7 e8 e9 e10 e11 e12 e13 e14;exact lpM (oT h1 (oP h2 (oD h3 (oP (show (1000000000:Int)≠0 from by decide) (oP h4 (oD h5 (oP (show (1000000000:Int)≠0 from by decide) (oT h6 (oP h4 (oD h5 oZ)))))))))) ih
theorem y8c (e11:IntKind.u32.wrap i20=i21)(e12:List.set r2 (Int.toNat i15) [.w i21]=r7)(e13:IntKind.i64.wrap (i6+1)=i24)(h1:i6<i5)(h2:0≤i6∧i6<((n1:Nat):Int))(h3:r3[(Int.toNat i6)]?=some [.w i10])(h4:0≤i15∧i15<((n0:Nat):Int))(h5:r2[(Int.toNat i15)]?=some [.w i16])(h6:¬ i20<0)(ih:Lp E 5 A4 2 (G6 r0 n0 n1 i0 n2 i1 i2 i14 0 i5 i24 r1 r7 r3 r4) o t):Lp E 5 A4 2 (G6 r0 n0 n1 i0 n2 i1 i2 i3 i4 i5 i6 r1 r2 r3 r4) o t:=by subst e1 e2 e3 e4 e5 e6 e7 e8 e9 e10 e11 e12 e13;exact lpM (oT h1 (oP h2 (oD h3 (oP (show (1000000000:Int)≠0 from by decide) (oP h4 (oD h5 (oP (show (1000000000:Int)≠0 from by decide) (oU h6 (oP h4 (oD h5 oZ)))))))))) ih
end
theorem y5w (h1:¬ i6<i5):Lp E 5 A4 2 (G6 r0 n0 n1 i0 n2 i1 i2 i3 i4 i5 i6 r1 r2 r3 r4) (.exit 5) (P6 r0 n0 n1 i0 n2 i1 i2 r1 r3 r4 i3 i4 r2):=lpX (oU h1 oZ)
def X1 (r0:RW) (n0 n1:Nat) (i0:Int) (n2:Nat) (i1 i2 i3 i4 i5 i6:Int) (r1 r2 r3 r4:RW):St:=stOf 299 [(10,.l r0),(11,.vec 2 n0),(12,.vec 3 n1),(13,.i i0),(14,.vec 4 n2),(15,.i i1),(17,.c (.u64 i2)),(24,.i i3),(25,.c (.u64 i4)),(235,.i i5),(236,.i i6)] [some .dead,sV A0 r1,sV A0 r2,sV A0 r3,sV A0 r4]
def z3l (r0:RW) (n0 n1:Nat) (i0:Int) (n2:Nat) (i1 i2 i3:Int) (r1 r3 r4:RW) (i7:Int) (r5:RW):St:=stOf 299 [(10,.l r0),(11,.vec 2 n0),(12,.vec 3 n1),(13,.i i0),(14,.vec 4 n2),(15,.i i1),(17,.c (.u64 i2)),(24,.i i3),(25,.c (.u64 i7))] [some .dead,sV A0 r1,sV A0 r5,sV A0 r3,sV A0 r4]
theorem y8d (e1:IntKind.i64.wrap (i6+i1)=i8)(e2:IntKind.u64.wrap i9=i10)(e3:IntKind.u64.wrap i11=i12)(e4:IntKind.u64.wrap (i10+i12)=i13)(e5:IntKind.u64.wrap (i4+i13)=i14)(e6:Int.tmod i14 1000000000=i15)(e7:IntKind.u32.wrap i15=i16)(e8:List.set r2 (Int.toNat i8) [.w i16]=r6)(e9:IntKind.u64.wrap (Int.tdiv i14 1000000000)=i17)(e10:IntKind.i64.wrap (i6+1)=i18)(h1:i6<i5)(h2:0≤i8∧i8<((n0:Nat):Int))(h3:r2[(Int.toNat i8)]?=some [.w i9])(h4:0≤i6∧i6<((n1:Nat):Int))(h5:r3[(Int.toNat i6)]?=some [.w i11])(ih:Lp E 5 A4 3 (X1 r0 n0 n1 i0 n2 i1 i2 i3 i17 i5 i18 r1 r6 r3 r4) o t):Lp E 5 A4 3 (X1 r0 n0 n1 i0 n2 i1 i2 i3 i4 i5 i6 r1 r2 r3 r4) o t:=by subst e1 e2 e3 e4 e5 e6 e7 e8 e9 e10;exact lpM (oT h1 (oP h2 (oD h3 (oP h4 (oD h5 (oP (show (1000000000:Int)≠0 from by decide) (oP h2 (oD h3 (oP (show (1000000000:Int)≠0 from by decide) oZ))))))))) ih
theorem y5x (h1:¬ i6<i5):Lp E 5 A4 3 (X1 r0 n0 n1 i0 n2 i1 i2 i3 i4 i5 i6 r1 r2 r3 r4) (.exit 7) (z3l r0 n0 n1 i0 n2 i1 i2 i3 r1 r3 r4 i4 r2):=lpX (oU h1 oZ)
def H4 (r0:RW) (n0 n1:Nat) (i0:Int) (n2:Nat) (i1:Int) (r1 r2 r3 r4:RW):St:=stOf 299 [(10,.l r0),(11,.vec 2 n0),(12,.vec 3 n1),(13,.i i0),(14,.vec 4 n2),(15,.i i1)] [some .dead,sV A0 r1,sV A0 r2,sV A0 r3,sV A0 r4]
def z3k (r0:RW) (n0:Nat) (i0:Int) (n2:Nat) (r1 r3 r5 r6:RW):St:=stOf 299 [(10,.l r0),(11,.vec 2 n0),(13,.i i0),(14,.vec 4 n2)] [some .dead,sV A0 r1,sV A0 r5,sV A0 r3,sV A0 r6]
section
variable (e1:IntKind.i64.wrap (i1+i0)=i2)(e2:IntKind.u64.wrap i3=i4)(e3:IntKind.u64.wrap (i4*1000000000)=i5)(e4:IntKind.i64.wrap (i2-1)=i6)(e5:IntKind.u64.wrap i7=i8)(e6:IntKind.u64.wrap (i5+i8)=i9)(e7:IntKind.i64.wrap (i0-1)=i10)(e8:IntKind.u64.wrap i11=i12)(e9:IntKind.u64.wrap (Int.tdiv i9 i12)=i13)(e10:Int.tmod i9 i12=i14)(e11:IntKind.i64.wrap i18=i19)(e12:IntKind.i64.wrap (i19-i16)=i20)(e13:IntKind.i64.wrap (i20-i17)=i21)
include e1 e2 e3 e4 e5 e6 e7 e8 e9 e10 e11 e12 e13
theorem y7x (e14:IntKind.u64.wrap (i15-1)=i22)(e15:IntKind.i64.wrap i23=i24)(e16:IntKind.i64.wrap (i21+i24)=i25)(e17:(if 0>i25 then 0 else i25)=i26)(e18:IntKind.u32.wrap i26=i27)(e19:List.set r8 (Int.toNat i2) [.w i27]=r9)(e20:IntKind.u32.wrap i22=i29)(e21:List.set r4 (Int.toNat i1) [.w i29]=r10)(e22:IntKind.i64.wrap (i1-1)=i31)(h1:i1≥0)(h2:0≤i2∧i2<((n0:Nat):Int))(h3:r2[(Int.toNat i2)]?=some [.w i3])(h4:0≤i6∧i6<((n0:Nat):Int))(h5:r2[(Int.toNat i6)]?=some [.w i7])(h6:0≤i10∧i10<((n1:Nat):Int))(h7:r3[(Int.toNat i10)]?=some [.w i11])(h8:i12≠0)(h9:Lp E 5 A4 1 (G5 r0 n0 n1 i0 n2 i1 i13 i14 r1 r2 r3 r4) (.exit 3) (J7 r0 n0 n1 i0 n2 i1 r1 r2 r3 r4 i15))(h10:Lp E 5 A4 2 (G6 r0 n0 n1 i0 n2 i1 i15 0 0 i0 0 r1 r2 r3 r4) (.exit 5) (P6 r0 n0 n1 i0 n2 i1 i15 r1 r3 r4 i16 i17 r7))(h11:r7[(Int.toNat i2)]?=some [.w i18])(h12:i21<0)(h13:Lp E 5 A4 3 (X1 r0 n0 n1 i0 n2 i1 i22 i21 0 i0 0 r1 r7 r3 r4) (.exit 7) (z3l r0 n0 n1 i0 n2 i1 i22 i21 r1 r3 r4 i23 r8))(h14:r8[(Int.toNat i2)]?=some [.w i28])(h15:0≤i1∧i1<((n2:Nat):Int))(h16:r4[(Int.toNat i1)]?=some [.w i30])(ih:Lp E 5 A4 0 (H4 r0 n0 n1 i0 n2 i31 r1 r9 r3 r10) o t):Lp E 5 A4 0 (H4 r0 n0 n1 i0 n2 i1 r1 r2 r3 r4) o t:=by subst e1 e2 e3 e4 e5 e6 e7 e8 e9 e10 e11 e12 e13 e14 e15 e16 e17 e18 e19 e20 e21 e22;exact lpM (oT h1 (oP h2 (oD h3 (oP h4 (oD h5 (oP h6 (oD h7 (oP h8 (oP h6 (oD h7 (oP h8 (oL h9 (oL h10 (oP h2 (oD h11 (oT h12 (oL h13 (oP h2 (oD h14 (oP h15 (oD h16 oZ))))))))))))))))))))) ih
theorem y7y (e14:(if 0>i21 then 0 else i21)=i22)(e15:IntKind.u32.wrap i22=i23)(e16:List.set r7 (Int.toNat i2) [.w i23]=r8)(e17:IntKind.u32.wrap i15=i24)(e18:List.set r4 (Int.toNat i1) [.w i24]=r11)(e19:IntKind.i64.wrap (i1-1)=i27)(h1:i1≥0)(h2:0≤i2∧i2<((n0:Nat):Int))(h3:r2[(Int.toNat i2)]?=some [.w i3])(h4:0≤i6∧i6<((n0:Nat):Int))(h5:r2[(Int.toNat i6)]?=some [.w i7])(h6:0≤i10∧i10<((n1:Nat):Int))(h7:r3[(Int.toNat i10)]?=some [.w i11])(h8:i12≠0)(h9:Lp E 5 A4 1 (G5 r0 n0 n1 i0 n2 i1 i13 i14 r1 r2 r3 r4) (.exit 3) (J7 r0 n0 n1 i0 n2 i1 r1 r2 r3 r4 i15))(h10:Lp E 5 A4 2 (G6 r0 n0 n1 i0 n2 i1 i15 0 0 i0 0 r1 r2 r3 r4) (.exit 5) (P6 r0 n0 n1 i0 n2 i1 i15 r1 r3 r4 i16 i17 r7))(h11:r7[(Int.toNat i2)]?=some [.w i18])(h12:¬ i21<0)(h13:0≤i1∧i1<((n2:Nat):Int))(h14:r4[(Int.toNat i1)]?=some [.w i25])(ih:Lp E 5 A4 0 (H4 r0 n0 n1 i0 n2 i27 r1 r8 r3 r11) o t):Lp E 5 A4 0 (H4 r0 n0 n1 i0 n2 i1 r1 r2 r3 r4) o t:=by subst e1 e2 e3 e4 e5 e6 e7 e8 e9 e10 e11 e12 e13 e14 e15 e16 e17 e18 e19;exact lpM (oT h1 (oP h2 (oD h3 (oP h4 (oD h5 (oP h6 (oD h7 (oP h8 (oP h6 (oD h7 (oP h8 (oL h9 (oL h10 (oP h2 (oD h11 (oU h12 (oP h2 (oD h11 (oP h13 (oD h14 oZ)))))))))))))))))))) ih
end
theorem y5s (h1:¬ i1≥0):Lp E 5 A4 0 (H4 r0 n0 n1 i0 n2 i1 r1 r2 r3 r4) (.exit 1) (z3k r0 n0 i0 n2 r1 r3 r2 r4):=lpX (oU h1 oZ)
theorem x7k (h1:Fn E C0 [.l r0,.l r1] (.i i0))(h2:i0<0):Fn E A4 [.l r0,.l r1] (.tup [.l [],.l r0]):=fnM (oF h1 (oT h2 oZ))
theorem x7l (e1:IntKind.u64.wrap (Int.tdiv i1 i2)=i3)(e2:Int.tmod i1 i2=i4)(h1:Fn E C0 [.l r0,.l r1] (.i i0))(h2:¬ i0<0)(h3:Fn E C1 [.l r0] (.tup [.c (.u64 i1),.b true]))(h4:Fn E C1 [.l r1] (.tup [.c (.u64 i2),.b true]))(h5:i2≠0)(h6:Fn E z4t [.c (.u64 i3)] (.l r2))(h7:Fn E z4t [.c (.u64 i4)] (.l r3)):Fn E A4 [.l r0,.l r1] (.tup [.l r2,.l r3]):=by subst e1 e2;exact fnM (oF h1 (oU h2 (oF h3 (oF h4 (oP h5 (oF h6 (oP h5 (oF h7 oZ))))))))
theorem x7m (e1:IntKind.u64.wrap i3=i5)(h1:Fn E C0 [.l r0,.l r1] (.i i0))(h2:¬ i0<0)(h3:Fn E C1 [.l r0] (.tup [.c (.u64 i1),.b false]))(h4:Fn E C1 [.l r1] (.tup [.c (.u64 i2),.b b2]))(h5:(r1.length:Int)=1)(h6:r1[0]?=some [.w i3])(h7:Fn E O5 [.l r0,.c (.u64 i5)] (.tup [.l r4,.l r3])):Fn E A4 [.l r0,.l r1] (.tup [.l r4,.l r3]):=by subst e1;exact fnM (oF h1 (oU h2 (oF h3 (oF h4 (oB (beT h5) (oP (show (0:Int)≤0 from by decide) (oD h6 (oF h7 oZ))))))))
theorem y4i (e1:IntKind.i64.wrap ((r1.length:Int)-1)=i3)(e2:IntKind.u64.wrap i5=i4)(e3:IntKind.u64.wrap (i4+1)=i6)(e4:IntKind.u64.wrap (Int.tdiv 1000000000 i6)=i7)(e5:(r6.take n0)++[[.w 0]]=r7)(e6:n0+1=n1)(e7:IntKind.i64.wrap (((n1:Nat):Int)-((n2:Nat):Int))=i11)(e8:Int.toNat i11=n3)(e9:List.replicate n3 [.w 0]=r17)(e10:IntKind.i64.wrap (((n3:Nat):Int)-1)=i12)(e11:(Int.toNat ((n2:Nat):Int))=n8)(e12:(r10.take n9)=r19)(e13:(r18.take n10)=r15)(h1:Fn E C0 [.l r0,.l r1] (.i i0))(h2:¬ i0<0)(h3:Fn E C1 [.l r0] (.tup [.c (.u64 i1),.b false]))(h4:Fn E C1 [.l r1] (.tup [.c (.u64 i2),.b b2]))(h5:¬ (r1.length:Int)=1)(h6:0≤i3)(h7:r1[(Int.toNat i3)]?=some [.w i5])(h8:i6≠0)(h9:Fn E z4t [.c (.u64 i7)] (.l r5))(h10:Rn E C5 [.l r0,.l r5] [] (.vec 0 n0) [sV A0 r6])(h11:(n0+1)*4≤140737488355328∧n0+1≤140737488355328)(h12:Rn E C5 [.l r1,.l r5] [] (.vec 0 n2) [sV A0 r8])(h13:¬ ((n1:Nat):Int)=(r0.length:Int))(h14:0≤i11∧i11≤i11∧(Int.toNat i11)*4≤140737488355328∧(Int.toNat i11)≤140737488355328)(h15:Lp E 5 A4 0 (H4 r5 n1 n2 ((n2:Nat):Int) n3 i12 [[.w 0]] r7 r8 r17) (.exit 1) (z3k r5 n1 ((n2:Nat):Int) n3 [[.w 0]] r8 r10 r18))(h16:Fn E C1 [.l r5] (.tup [.c (.u64 i13),.b b1]))(h17:0≤((n2:Nat):Int)∧((n2:Nat):Int)≤((n1:Nat):Int))(h18:Rn E B6 [.vec 2 n8] [some .dead,sV A0 [[.w 0]],sV A0 r10,sV A0 r8,sV A0 r18] (.vec 2 n9) [some .dead,sV A0 [[.w 0]],sV A0 r10,sV A0 r8,sV A0 r18])(h19:Fn E O5 [.l r19,.c (.u64 i13)] (.tup [.l r20,.l r13]))(h20:Rn E B6 [.vec 4 n3] [some .dead,sV A0 [[.w 0]],sF r10,sV A0 r8,sV A0 r18] (.vec 4 n10) [some .dead,sV A0 [[.w 0]],sF r10,sV A0 r8,sV A0 r18]):Fn E A4 [.l r0,.l r1] (.tup [.l r15,.l r20]):=by subst e1 e2 e3 e4 e5 e6 e7 e8 e9 e10 e11 e12 e13;exact fnM (oF h1 (oU h2 (oF h3 (oF h4 (oC (beF h5) (oP h6 (oD h7 (oP h8 (oF h9 (oN h10 (oP (show ∀ y∈([[.w 0]]:RW),y.length=1 from by simp) (oP h11 (oN h12 (oC (beF h13) (oP h14 (oL h15 (oF h16 (oP h17 (oR h18 (oF h19 (oR h20 oZ)))))))))))))))))))))
theorem j8u (h1:Fn E Z6 [.s s0,.s s1] (.tup [.l r0,.l r1,.i i0]))(h2:i0=0)(h3:Fn E X6 [.mv z1o [.l r0],.l r1] (.tup [.s s2,.i i1])):Fn E y3q [.s s0,.s s1] (.tup [.s s2,.i i1]):=fnM (oF h1 (oC (bnF h2) (oF h3 oZ)))
theorem k5x (h1:Fn E Z6 [.s s0,.s s1] (.tup [.l r0,.l r1,.i i0]))(h2:i0=0)(h3:Fn E C0 [.l r0,.l r1] (.i i1)):Fn E y0x [.s s0,.s s1] (.tup [.i i1,.i 0]):=fnM (oF h1 (oC (bnF h2) (oF h3 oZ)))
theorem j8x (h1:Fn E Z6 [.s s0,.s s1] (.tup [.l r0,.l r1,.i i0]))(h2:i0=0)(h3:Fn E C0 [.l r0,.l r1] (.i i1))(h4:¬ i1<0)(h5:Fn E X6 [.mv z0q [.l r0],.l r1] (.tup [.s s2,.i i2])):Fn E z8w [.s s0,.s s1] (.tup [.s s2,.i i2]):=fnM (oF h1 (oC (bnF h2) (oF h3 (oU h4 (oF h5 oZ)))))
theorem y1o (h1:Fn E C7 [.l r0,.l r1] (.l r2))(h2:Fn E M8 [.l r2] (.s s0)):Fn E X6 [.mv C7 [.l r0],.l r1] (.tup [.s s0,.i 0]):=fnM (oF h1 (oF h2 oZ))
def J3 (r0 r1:RW) (i0:Int):St:=stOf 41 [(0,.l r0),(1,.l r1),(5,.i i0)] []
def z3i (i1:Int):St:=stOf 41 [(4,.i i1)] []
def z3j:St:=stOf 41 [] []
theorem z8j (e1:IntKind.i64.wrap (i0-1)=i4)(h1:i0≥0)(h2:0≤i0)(h3:r0[(Int.toNat i0)]?=some [.w i2])(h4:r1[(Int.toNat i0)]?=some [.w i3])(h5:i2=i3)(ih:Lp E 0 C0 0 (J3 r0 r1 i4) o t):Lp E 0 C0 0 (J3 r0 r1 i0) o t:=by subst e1;exact lpM (oT h1 (oP h2 (oD h3 (oP h2 (oD h4 (oC (bnF h5) oZ)))))) ih
theorem y5q (h1:i0≥0)(h2:0≤i0)(h3:r0[(Int.toNat i0)]?=some [.w i2])(h4:r1[(Int.toNat i0)]?=some [.w i3])(h5:¬ i2=i3)(h6:Fn E Z3 [.w i2,.w i3] (.i i4)):Lp E 0 C0 0 (J3 r0 r1 i0) .ret (z3i i4):=lpX (oT h1 (oP h2 (oD h3 (oP h2 (oD h4 (oB (bnT h5) (oP h2 (oD h3 (oP h2 (oD h4 (oF h6 oZ)))))))))))
theorem y5r (h1:¬ i0≥0):Lp E 0 C0 0 (J3 r0 r1 i0) (.exit 0) (z3j):=lpX (oU h1 oZ)
theorem x5g (h1:¬ (r0.length:Int)=(r1.length:Int))(h2:Fn E z2o [.i (r0.length:Int),.i (r1.length:Int)] (.i i0)):Fn E C0 [.l r0,.l r1] (.i i0):=fnM (oB (bnT h1) (oF h2 oZ))
section
variable (e1:IntKind.i64.wrap ((r0.length:Int)-1)=i0)(h1:(r0.length:Int)=(r1.length:Int))
include e1 h1
theorem x5h (h2:Lp E 0 C0 0 (J3 r0 r1 i0) .ret (z3i i1)):Fn E C0 [.l r0,.l r1] (.i i1):=by subst e1;exact fnM (oC (bnF h1) (oL h2 oZ))
theorem x5i (h2:Lp E 0 C0 0 (J3 r0 r1 i0) (.exit 0) (z3j)):Fn E C0 [.l r0,.l r1] (.i 0):=by subst e1;exact fnM (oC (bnF h1) (oL h2 oZ))
end
theorem k0p (h1:(r0.length:Int)=0):Fn E C1 [.l r0] (.tup [.c (.u64 0),.b true]):=fnM (oB (beT h1) oZ)
theorem k0q (e1:IntKind.u64.wrap i0=i1)(h1:¬ (r0.length:Int)=0)(h2:(r0.length:Int)=1)(h3:r0[0]?=some [.w i0]):Fn E C1 [.l r0] (.tup [.c (.u64 i1),.b true]):=by subst e1;exact fnM (oC (beF h1) (oB (beT h2) (oP (show (0:Int)≤0 from by decide) (oD h3 oZ))))
theorem k0r (e1:IntKind.u64.wrap i0=i1)(e2:IntKind.u64.wrap i2=i3)(e3:IntKind.u64.wrap (1000000000*i3)=i4)(e4:IntKind.u64.wrap (i1+i4)=i5)(h1:¬ (r0.length:Int)=0)(h2:¬ (r0.length:Int)=1)(h3:(r0.length:Int)=2)(h4:r0[0]?=some [.w i0])(h5:r0[1]?=some [.w i2]):Fn E C1 [.l r0] (.tup [.c (.u64 i5),.b true]):=by subst e1 e2 e3 e4;exact fnM (oC (beF h1) (oC (beF h2) (oB (beT h3) (oP (show (0:Int)≤0 from by decide) (oD h4 (oP (show (0:Int)≤1 from by decide) (oD h5 oZ)))))))
theorem k0s (h1:¬ (r0.length:Int)=0)(h2:¬ (r0.length:Int)=1)(h3:¬ (r0.length:Int)=2):Fn E C1 [.l r0] (.tup [.c (.u64 0),.b false]):=fnM (oC (beF h1) (oC (beF h2) (oC (beF h3) oZ)))
theorem q4r (e1:Int.tmod i0 1000000000=i1)(e2:IntKind.u32.wrap i1=i2)(e3:IntKind.u64.wrap (Int.tdiv i0 1000000000)=i3)(e4:IntKind.u32.wrap i3=i4)(e5:(([[.w i2],[.w i4]]:RW).take n0)=r0)(h1:Rn E B6 [.vec 0 2] [sV A0 [[.w i2],[.w i4]]] (.vec 0 n0) [sV A0 [[.w i2],[.w i4]]]):Fn E z4t [.c (.u64 i0)] (.l r0):=by subst e1 e2 e3 e4 e5;exact fnM (oP (show (1000000000:Int)≠0 from by decide) (oP (show (1000000000:Int)≠0 from by decide) (oR h1 oZ)))
def z2y (r0:RW) (i0:Int) (n0:Nat) (i1 i2:Int) (r1:RW):St:=stOf 41 [(0,.l r0),(1,.c (.u64 i0)),(6,.vec 0 n0),(7,.c (.u64 i1)),(8,.i i2)] [sV A0 r1]
def z8s (n0:Nat) (i3:Int) (r2:RW):St:=stOf 41 [(6,.vec 0 n0),(7,.c (.u64 i3))] [sV A0 r2]
theorem x7j (e1:IntKind.u64.wrap (i1*1000000000)=i4)(e2:IntKind.u64.wrap i5=i6)(e3:IntKind.u64.wrap (i4+i6)=i7)(e4:IntKind.u64.wrap (Int.tdiv i7 i0)=i8)(e5:IntKind.u32.wrap i8=i9)(e6:List.set r1 (Int.toNat i2) [.w i9]=r3)(e7:Int.tmod i7 i0=i11)(e8:IntKind.i64.wrap (i2-1)=i12)(h1:i2≥0)(h2:0≤i2)(h3:r0[(Int.toNat i2)]?=some [.w i5])(h4:i0≠0)(h5:0≤i2∧i2<((n0:Nat):Int))(h6:r1[(Int.toNat i2)]?=some [.w i10])(ih:Lp E 1 O5 0 (z2y r0 i0 n0 i11 i12 r3) o t):Lp E 1 O5 0 (z2y r0 i0 n0 i1 i2 r1) o t:=by subst e1 e2 e3 e4 e5 e6 e7 e8;exact lpM (oT h1 (oP h2 (oD h3 (oP h4 (oP h5 (oD h6 (oP h4 oZ))))))) ih
theorem x3k (h1:¬ i2≥0):Lp E 1 O5 0 (z2y r0 i0 n0 i1 i2 r1) (.exit 0) (z8s n0 i1 r1):=lpX (oU h1 oZ)
theorem k8y (e1:Int.toNat (r0.length:Int)=n0)(e2:List.replicate n0 [.w 0]=r1)(e3:IntKind.i64.wrap ((r0.length:Int)-1)=i1)(e4:(r2.take n1)=r4)(h1:0≤(r0.length:Int)∧(r0.length:Int)≤(r0.length:Int)∧(Int.toNat (r0.length:Int))*4≤140737488355328∧(Int.toNat (r0.length:Int))≤140737488355328)(h2:Lp E 1 O5 0 (z2y r0 i0 n0 0 i1 r1) (.exit 0) (z8s n0 i2 r2))(h3:Rn E B6 [.vec 0 n0] [sV A0 r2] (.vec 0 n1) [sV A0 r2])(h4:Fn E z4t [.c (.u64 i2)] (.l r3)):Fn E O5 [.l r0,.c (.u64 i0)] (.tup [.l r4,.l r3]):=by subst e1 e2 e3 e4;exact fnM (oP h1 (oL h2 (oR h3 (oF h4 oZ))))
theorem y0u (h1:Fn E z1o [.l r0,.l r1] (.l r2))(h2:Fn E M8 [.l r2] (.s s0)):Fn E X6 [.mv z1o [.l r0],.l r1] (.tup [.s s0,.i 0]):=fnM (oF h1 (oF h2 oZ))
theorem z9z (h1:Fn E z0q [.l r0,.l r1] (.l r2))(h2:Fn E M8 [.l r2] (.s s0)):Fn E X6 [.mv z0q [.l r0],.l r1] (.tup [.s s0,.i 0]):=fnM (oF h1 (oF h2 oZ))
def z1y (i0 i1:Int):St:=stOf 45 [(5,.c (.u64 i0)),(7,.c (.u64 i1))] []
def z7k (i2:Int):St:=stOf 45 [(5,.c (.u64 i2))] []
theorem x5j (e1:Int.tmod i0 i1=i3)(h1:i1>0)(h2:i1≠0)(ih:Lp E 0 C7 1 (z1y i1 i3) o t):Lp E 0 C7 1 (z1y i0 i1) o t:=by subst e1;exact lpM (oT h1 (oP h2 oZ)) ih
theorem x1h (h1:¬ i1>0):Lp E 0 C7 1 (z1y i0 i1) (.exit 2) (z7k i0):=lpX (oU h1 oZ)
def J8 (r0 r1:RW):St:=stOf 45 [(0,.l r0),(1,.l r1)] []
def z7i (r2:RW):St:=stOf 45 [(4,.l r2)] []
def z7j (r3:RW):St:=stOf 45 [(0,.l r3)] []
section
variable (h1:(r1.length:Int)>0)
include h1
theorem y2l (h2:Fn E C1 [.l r0] (.tup [.c (.u64 i0),.b true]))(h3:Fn E C1 [.l r1] (.tup [.c (.u64 i1),.b false]))(h4:Fn E A4 [.l r0,.l r1] (.tup [.l r4,.l r5]))(ih:Lp E 0 C7 0 (J8 r1 r5) o t):Lp E 0 C7 0 (J8 r0 r1) o t:=lpM (oT h1 (oF h2 (oF h3 (oF h4 oZ)))) ih
theorem y2m (h2:Fn E C1 [.l r0] (.tup [.c (.u64 i0),.b false]))(h3:Fn E C1 [.l r1] (.tup [.c (.u64 i1),.b b0]))(h4:Fn E A4 [.l r0,.l r1] (.tup [.l r4,.l r5]))(ih:Lp E 0 C7 0 (J8 r1 r5) o t):Lp E 0 C7 0 (J8 r0 r1) o t:=lpM (oT h1 (oF h2 (oF h3 (oF h4 oZ)))) ih
theorem x1f (h2:Fn E C1 [.l r0] (.tup [.c (.u64 i0),.b true]))(h3:Fn E C1 [.l r1] (.tup [.c (.u64 i1),.b true]))(h4:Lp E 0 C7 1 (z1y i0 i1) (.exit 2) (z7k i2))(h5:Fn E z4t [.c (.u64 i2)] (.l r5)):Lp E 0 C7 0 (J8 r0 r1) .ret (z7i r5):=lpX (oT h1 (oF h2 (oF h3 (oL h4 (oF h5 oZ)))))
end
theorem x1g (h1:¬ (r1.length:Int)>0):Lp E 0 C7 0 (J8 r0 r1) (.exit 0) (z7j r0):=lpX (oU h1 oZ)
theorem k5y (h1:Lp E 0 C7 0 (J8 r0 r1) .ret (z7i r2)):Fn E C7 [.l r0,.l r1] (.l r2):=fnM (oL h1 oZ)
theorem k5z (h1:Lp E 0 C7 0 (J8 r0 r1) (.exit 0) (z7j r2)):Fn E C7 [.l r0,.l r1] (.l r2):=fnM (oL h1 oZ)
theorem k3d (h1:Fn E B1 [.l r0,.l r1,.i 1] (.l r2)):Fn E z1o [.l r0,.l r1] (.l r2):=fnM (oF h1 oZ)
theorem k0o (h1:Fn E B1 [.l r0,.l r1,.i (-1)] (.l r2))(h2:Rn E B6 [.l r2] [] (.l r3) []):Fn E z0q [.l r0,.l r1] (.l r3):=fnM (oF h1 (oR h2 oZ))
def B5 (r0 r1:RW) (i0:Int) (n0:Nat) (i1 i2 i3:Int) (r2:RW):St:=stOf 71 [(0,.l r0),(1,.l r1),(2,.i i0),(7,.vec 1 n0),(8,.i i1),(19,.i i2),(20,.i i3)] [some .dead,sV A0 r2]
def z1c (n1:Nat) (i4:Int) (r3:RW):St:=stOf 71 [(7,.vec 1 n1),(8,.i i4)] [some .dead,sV A0 r3]
section
variable (e1:IntKind.i64.wrap i5=i6)
include e1
section
variable (e2:IntKind.i64.wrap (i1+i6)=i7)
include e2
section
variable (e3:IntKind.i64.wrap i8=i9)(e4:IntKind.i64.wrap (i0*i9)=i10)(e5:IntKind.i64.wrap (i7+i10)=i11)(e6:Int.tmod i11 1000000000=i12)(e7:IntKind.i64.wrap (Int.tdiv i11 1000000000)=i13)
include e3 e4 e5 e6 e7
theorem x0x (e8:IntKind.i64.wrap (i12+1000000000)=i14)(e9:IntKind.i64.wrap (i13-1)=i15)(e10:IntKind.u32.wrap i14=i16)(e11:(r2.take n0)++[[.w i16]]=r4)(e12:n0+1=n2)(e13:IntKind.i64.wrap (i3+1)=i17)(h1:i3<i2)(h2:i3<(r0.length:Int))(h3:0≤i3)(h4:r0[(Int.toNat i3)]?=some [.w i5])(h5:i3<(r1.length:Int))(h6:r1[(Int.toNat i3)]?=some [.w i8])(h7:i12<0)(h8:(n0+1)*4≤140737488355328∧n0+1≤140737488355328)(ih:Lp E 1 B1 0 (B5 r0 r1 i0 n2 i15 i2 i17 r4) o t):Lp E 1 B1 0 (B5 r0 r1 i0 n0 i1 i2 i3 r2) o t:=by subst e1 e2 e3 e4 e5 e6 e7 e8 e9 e10 e11 e12 e13;exact lpM (oT h1 (oT h2 (oP h3 (oD h4 (oT h5 (oP h3 (oD h6 (oP (show (1000000000:Int)≠0 from by decide) (oP (show (1000000000:Int)≠0 from by decide) (oT h7 (oP (show ∀ y∈([[.w (IntKind.u32.wrap (IntKind.i64.wrap ((Int.tmod (IntKind.i64.wrap ((IntKind.i64.wrap (i1+(IntKind.i64.wrap i5)))+(IntKind.i64.wrap (i0*(IntKind.i64.wrap i8))))) 1000000000)+1000000000)))]]:RW),y.length=1 from by simp) (oP h8 oZ)))))))))))) ih
theorem x0y (e8:IntKind.u32.wrap i12=i14)(e9:(r2.take n0)++[[.w i14]]=r5)(e10:n0+1=n3)(e11:IntKind.i64.wrap (i3+1)=i18)(h1:i3<i2)(h2:i3<(r0.length:Int))(h3:0≤i3)(h4:r0[(Int.toNat i3)]?=some [.w i5])(h5:i3<(r1.length:Int))(h6:r1[(Int.toNat i3)]?=some [.w i8])(h7:¬ i12<0)(h8:(n0+1)*4≤140737488355328∧n0+1≤140737488355328)(ih:Lp E 1 B1 0 (B5 r0 r1 i0 n3 i13 i2 i18 r5) o t):Lp E 1 B1 0 (B5 r0 r1 i0 n0 i1 i2 i3 r2) o t:=by subst e1 e2 e3 e4 e5 e6 e7 e8 e9 e10 e11;exact lpM (oT h1 (oT h2 (oP h3 (oD h4 (oT h5 (oP h3 (oD h6 (oP (show (1000000000:Int)≠0 from by decide) (oP (show (1000000000:Int)≠0 from by decide) (oU h7 (oP (show ∀ y∈([[.w (IntKind.u32.wrap (Int.tmod (IntKind.i64.wrap ((IntKind.i64.wrap (i1+(IntKind.i64.wrap i5)))+(IntKind.i64.wrap (i0*(IntKind.i64.wrap i8))))) 1000000000))]]:RW),y.length=1 from by simp) (oP h8 oZ)))))))))))) ih
end
section
variable (e3:Int.tmod i7 1000000000=i8)(e4:IntKind.i64.wrap (Int.tdiv i7 1000000000)=i9)
include e3 e4
theorem x0z (e5:IntKind.i64.wrap (i8+1000000000)=i10)(e6:IntKind.i64.wrap (i9-1)=i11)(e7:IntKind.u32.wrap i10=i12)(e8:(r2.take n0)++[[.w i12]]=r6)(e9:n0+1=n4)(e10:IntKind.i64.wrap (i3+1)=i15)(h1:i3<i2)(h2:i3<(r0.length:Int))(h3:0≤i3)(h4:r0[(Int.toNat i3)]?=some [.w i5])(h5:¬ i3<(r1.length:Int))(h6:i8<0)(h7:(n0+1)*4≤140737488355328∧n0+1≤140737488355328)(ih:Lp E 1 B1 0 (B5 r0 r1 i0 n4 i11 i2 i15 r6) o t):Lp E 1 B1 0 (B5 r0 r1 i0 n0 i1 i2 i3 r2) o t:=by subst e1 e2 e3 e4 e5 e6 e7 e8 e9 e10;exact lpM (oT h1 (oT h2 (oP h3 (oD h4 (oU h5 (oP (show (1000000000:Int)≠0 from by decide) (oP (show (1000000000:Int)≠0 from by decide) (oT h6 (oP (show ∀ y∈([[.w (IntKind.u32.wrap (IntKind.i64.wrap ((Int.tmod (IntKind.i64.wrap (i1+(IntKind.i64.wrap i5))) 1000000000)+1000000000)))]]:RW),y.length=1 from by simp) (oP h7 oZ)))))))))) ih
theorem x1a (e5:IntKind.u32.wrap i8=i10)(e6:(r2.take n0)++[[.w i10]]=r7)(e7:n0+1=n5)(e8:IntKind.i64.wrap (i3+1)=i13)(h1:i3<i2)(h2:i3<(r0.length:Int))(h3:0≤i3)(h4:r0[(Int.toNat i3)]?=some [.w i5])(h5:¬ i3<(r1.length:Int))(h6:¬ i8<0)(h7:(n0+1)*4≤140737488355328∧n0+1≤140737488355328)(ih:Lp E 1 B1 0 (B5 r0 r1 i0 n5 i9 i2 i13 r7) o t):Lp E 1 B1 0 (B5 r0 r1 i0 n0 i1 i2 i3 r2) o t:=by subst e1 e2 e3 e4 e5 e6 e7 e8;exact lpM (oT h1 (oT h2 (oP h3 (oD h4 (oU h5 (oP (show (1000000000:Int)≠0 from by decide) (oP (show (1000000000:Int)≠0 from by decide) (oU h6 (oP (show ∀ y∈([[.w (IntKind.u32.wrap (Int.tmod (IntKind.i64.wrap (i1+(IntKind.i64.wrap i5))) 1000000000))]]:RW),y.length=1 from by simp) (oP h7 oZ)))))))))) ih
end
end
section
variable (e2:IntKind.i64.wrap (i0*i6)=i7)(e3:IntKind.i64.wrap (i1+i7)=i8)(e4:Int.tmod i8 1000000000=i9)(e5:IntKind.i64.wrap (Int.tdiv i8 1000000000)=i10)
include e2 e3 e4 e5
theorem x1b (e6:IntKind.i64.wrap (i9+1000000000)=i11)(e7:IntKind.i64.wrap (i10-1)=i12)(e8:IntKind.u32.wrap i11=i13)(e9:(r2.take n0)++[[.w i13]]=r8)(e10:n0+1=n6)(e11:IntKind.i64.wrap (i3+1)=i16)(h1:i3<i2)(h2:¬ i3<(r0.length:Int))(h3:i3<(r1.length:Int))(h4:0≤i3)(h5:r1[(Int.toNat i3)]?=some [.w i5])(h6:i9<0)(h7:(n0+1)*4≤140737488355328∧n0+1≤140737488355328)(ih:Lp E 1 B1 0 (B5 r0 r1 i0 n6 i12 i2 i16 r8) o t):Lp E 1 B1 0 (B5 r0 r1 i0 n0 i1 i2 i3 r2) o t:=by subst e1 e2 e3 e4 e5 e6 e7 e8 e9 e10 e11;exact lpM (oT h1 (oU h2 (oT h3 (oP h4 (oD h5 (oP (show (1000000000:Int)≠0 from by decide) (oP (show (1000000000:Int)≠0 from by decide) (oT h6 (oP (show ∀ y∈([[.w (IntKind.u32.wrap (IntKind.i64.wrap ((Int.tmod (IntKind.i64.wrap (i1+(IntKind.i64.wrap (i0*(IntKind.i64.wrap i5))))) 1000000000)+1000000000)))]]:RW),y.length=1 from by simp) (oP h7 oZ)))))))))) ih
theorem x1c (e6:IntKind.u32.wrap i9=i11)(e7:(r2.take n0)++[[.w i11]]=r9)(e8:n0+1=n7)(e9:IntKind.i64.wrap (i3+1)=i14)(h1:i3<i2)(h2:¬ i3<(r0.length:Int))(h3:i3<(r1.length:Int))(h4:0≤i3)(h5:r1[(Int.toNat i3)]?=some [.w i5])(h6:¬ i9<0)(h7:(n0+1)*4≤140737488355328∧n0+1≤140737488355328)(ih:Lp E 1 B1 0 (B5 r0 r1 i0 n7 i10 i2 i14 r9) o t):Lp E 1 B1 0 (B5 r0 r1 i0 n0 i1 i2 i3 r2) o t:=by subst e1 e2 e3 e4 e5 e6 e7 e8 e9;exact lpM (oT h1 (oU h2 (oT h3 (oP h4 (oD h5 (oP (show (1000000000:Int)≠0 from by decide) (oP (show (1000000000:Int)≠0 from by decide) (oU h6 (oP (show ∀ y∈([[.w (IntKind.u32.wrap (Int.tmod (IntKind.i64.wrap (i1+(IntKind.i64.wrap (i0*(IntKind.i64.wrap i5))))) 1000000000))]]:RW),y.length=1 from by simp) (oP h7 oZ)))))))))) ih
end
end
section
variable (e1:Int.tmod i1 1000000000=i5)(e2:IntKind.i64.wrap (Int.tdiv i1 1000000000)=i6)
include e1 e2
theorem x1d (e3:IntKind.i64.wrap (i5+1000000000)=i7)(e4:IntKind.i64.wrap (i6-1)=i8)(e5:IntKind.u32.wrap i7=i9)(e6:(r2.take n0)++[[.w i9]]=r10)(e7:n0+1=n8)(e8:IntKind.i64.wrap (i3+1)=i12)(h1:i3<i2)(h2:¬ i3<(r0.length:Int))(h3:¬ i3<(r1.length:Int))(h4:i5<0)(h5:(n0+1)*4≤140737488355328∧n0+1≤140737488355328)(ih:Lp E 1 B1 0 (B5 r0 r1 i0 n8 i8 i2 i12 r10) o t):Lp E 1 B1 0 (B5 r0 r1 i0 n0 i1 i2 i3 r2) o t:=by subst e1 e2 e3 e4 e5 e6 e7 e8;exact lpM (oT h1 (oU h2 (oU h3 (oP (show (1000000000:Int)≠0 from by decide) (oP (show (1000000000:Int)≠0 from by decide) (oT h4 (oP (show ∀ y∈([[.w (IntKind.u32.wrap (IntKind.i64.wrap ((Int.tmod i1 1000000000)+1000000000)))]]:RW),y.length=1 from by simp) (oP h5 oZ)))))))) ih
theorem x1e (e3:IntKind.u32.wrap i5=i7)(e4:(r2.take n0)++[[.w i7]]=r11)(e5:n0+1=n9)(e6:IntKind.i64.wrap (i3+1)=i10)(h1:i3<i2)(h2:¬ i3<(r0.length:Int))(h3:¬ i3<(r1.length:Int))(h4:¬ i5<0)(h5:(n0+1)*4≤140737488355328∧n0+1≤140737488355328)(ih:Lp E 1 B1 0 (B5 r0 r1 i0 n9 i6 i2 i10 r11) o t):Lp E 1 B1 0 (B5 r0 r1 i0 n0 i1 i2 i3 r2) o t:=by subst e1 e2 e3 e4 e5 e6;exact lpM (oT h1 (oU h2 (oU h3 (oP (show (1000000000:Int)≠0 from by decide) (oP (show (1000000000:Int)≠0 from by decide) (oU h4 (oP (show ∀ y∈([[.w (IntKind.u32.wrap (Int.tmod i1 1000000000))]]:RW),y.length=1 from by simp) (oP h5 oZ)))))))) ih
end
theorem y7w (h1:¬ i3<i2):Lp E 1 B1 0 (B5 r0 r1 i0 n0 i1 i2 i3 r2) (.exit 0) (z1c n0 i1 r2):=lpX (oU h1 oZ)
section
variable (e1:IntKind.i64.wrap ((r0.length:Int)+1)=i1)(e2:(if (r1.length:Int)>(r0.length:Int) then (r1.length:Int) else (r0.length:Int))=i2)
include e1 e2
theorem k0m (e3:IntKind.u32.wrap i3=i4)(e4:(r2.take n0)++[[.w i4]]=r3)(e5:n0+1=n1)(e6:(r3.take n1)=r4)(h1:0≤(0:Int)∧(0:Int)≤i1∧(Int.toNat i1)*4≤140737488355328∧(Int.toNat i1)≤140737488355328)(h2:Lp E 1 B1 0 (B5 r0 r1 i0 0 0 i2 0 []) (.exit 0) (z1c n0 i3 r2))(h3:i3>0)(h4:(n0+1)*4≤140737488355328∧n0+1≤140737488355328):Fn E B1 [.l r0,.l r1,.i i0] (.l r4):=by subst e1 e2 e3 e4 e5 e6;exact fnM (oP h1 (oM [(7,A0)] h2 (oT h3 (oP (show ∀ y∈([[.w (IntKind.u32.wrap i3)]]:RW),y.length=1 from by simp) (oP h4 oZ)))))
theorem k0n (e3:(r2.take n0)=r5)(h1:0≤(0:Int)∧(0:Int)≤i1∧(Int.toNat i1)*4≤140737488355328∧(Int.toNat i1)≤140737488355328)(h2:Lp E 1 B1 0 (B5 r0 r1 i0 0 0 i2 0 []) (.exit 0) (z1c n0 i3 r2))(h3:¬ i3>0):Fn E B1 [.l r0,.l r1,.i i0] (.l r5):=by subst e1 e2 e3;exact fnM (oP h1 (oM [(7,A0)] h2 (oU h3 oZ)))
end
def V0 (r0:RW):St:=stOf 21 [(0,.l r0)] []
def z1d (r1:RW):St:=stOf 21 [(0,.l r1)] []
section
variable (e1:IntKind.i64.wrap ((r0.length:Int)-1)=i0)
include e1
theorem x1k (e2:List.drop 0 (r0.take (Int.toNat i0))=r2)(h1:(r0.length:Int)>0)(h2:0≤i0)(h3:r0[(Int.toNat i0)]?=some [.w i1])(h4:i1=0)(h5:0≤(0:Int)∧(0:Int)≤i0∧i0≤r0.length∧∀ x∈r0,x.length=1)(ih:Lp E 0 B6 0 (V0 r2) o t):Lp E 0 B6 0 (V0 r0) o t:=by subst e1 e2;exact lpM (oT h1 (oP h2 (oD h3 (oB (beT h4) (oP h5 oZ))))) ih
theorem y8g (h1:(r0.length:Int)>0)(h2:0≤i0)(h3:r0[(Int.toNat i0)]?=some [.w i1])(h4:¬ i1=0):Lp E 0 B6 0 (V0 r0) (.exit 0) (z1d r0):=by subst e1;exact lpX (oT h1 (oP h2 (oD h3 (oC (beF h4) oZ))))
end
theorem y8h (h1:¬ (r0.length:Int)>0):Lp E 0 B6 0 (V0 r0) (.exit 0) (z1d r0):=lpX (oU h1 oZ)
theorem x7n (h1:Lp E 0 B6 0 (V0 r0) (.exit 0) (z1d r1)):Rn E B6 [.l r0] [] (.l r1) []:=rnM (oL h1 oZ)
end Gev
namespace Gev
open Go Go.Proofs
variable {E:Env}
variable {i0 i1 i2:Int} {s0 s1 s2 s3 s4 s5 s6 s7 s8:BA} {b0 b1 b2 b3 b4 b5 b6:Bool}
theorem j8f (h1:Fn E z8v [.s s0] (.tup [.agg [.b b0,.s s1],.i i0]))(h2:i0=0)(h3:Fn E X7 [.agg [.b b0,.s s1]] (.agg [.b b1,.s s2]))(h4:Fn E K1 [.agg [.b b1,.s s2]] (.s s3)):Fn E y9a [.s s0] (.tup [.s s3,.i 0]):=fnM (oF h1 (oC (bnF h2) (oF h3 (oF h4 oZ))))
theorem j8e (h1:Fn E z1n [.s s0,.s s1] (.tup [.agg [.b b0,.s s2],.agg [.b b1,.s s3],.i i0]))(h2:i0=0)(h3:Fn E z4s [.agg [.b b0,.s s2],.agg [.b b1,.s s3]] (.agg [.b b2,.s s4]))(h4:Fn E K1 [.agg [.b b2,.s s4]] (.s s5)):Fn E V2 [.s s0,.s s1] (.tup [.s s5,.i 0]):=fnM (oF h1 (oC (bnF h2) (oF h3 (oF h4 oZ))))
theorem j8d (h1:Fn E z1n [.s s0,.s s1] (.tup [.agg [.b b0,.s s2],.agg [.b b1,.s s3],.i i0]))(h2:i0=0)(h3:Fn E N6 [.agg [.b b0,.s s2],.agg [.b b1,.s s3]] (.agg [.b b2,.s s4]))(h4:Fn E K1 [.agg [.b b2,.s s4]] (.s s5)):Fn E y3o [.s s0,.s s1] (.tup [.s s5,.i 0]):=fnM (oF h1 (oC (bnF h2) (oF h3 (oF h4 oZ))))
theorem j8i (h1:Fn E z1n [.s s0,.s ⟨#[48]⟩] (.tup [.agg [.b b0,.s s1],.agg [.b b1,.s s2],.i i0])):Fn E z8v [.s s0] (.tup [.agg [.b b0,.s s1],.i i0]):=fnM (oF h1 oZ)
theorem y7m (h1:Fn E H7 [.b (!b0),.s s0] (.agg [.b b1,.s s1])):Fn E X7 [.agg [.b b0,.s s0]] (.agg [.b b1,.s s1]):=fnM (oF h1 oZ)
theorem x4t (e1:(⟨#[45]⟩:BA)++s0=s1)(h1:(⟨#[45]⟩:BA).size+s0.size≤9223372036854775807):Fn E K1 [.agg [.b true,.s s0]] (.s s1):=by subst e1;exact fnM (oP h1 oZ)
theorem x4u:Fn E K1 [.agg [.b false,.s s0]] (.s s0):=fnM oZ
theorem k5m (h1:Fn E z1n [.s s0,.s s1] (.tup [.agg [.b b0,.s s2],.agg [.b b1,.s s3],.i i0]))(h2:Fn E X7 [.agg [.b b1,.s s3]] (.agg [.b b2,.s s4]))(h3:Fn E N6 [.agg [.b b0,.s s2],.agg [.b b2,.s s4]] (.agg [.b b3,.s s5]))(h4:Fn E P4 [.agg [.b b3,.s s5]] (.i i1)):Fn E y0v [.s s0,.s s1] (.tup [.i i1,.i i0]):=fnM (oF h1 (oF h2 (oF h3 (oF h4 oZ))))
theorem j4p (h1:Fn E Z5 [.s s0] (.tup [.agg [.b b0,.s s2],.b true]))(h2:Fn E Z5 [.s s1] (.tup [.agg [.b b1,.s s3],.b true])):Fn E z1n [.s s0,.s s1] (.tup [.agg [.b b0,.s s2],.agg [.b b1,.s s3],.i 0]):=fnM (oF h1 (oF h2 oZ))
theorem x2n (e1:(!(b0 == b1))=b2)(h1:Fn E z3g [.s s0,.s s1] (.tup [.s s2,.i i0]))(h2:Fn E H7 [.b b2,.s s2] (.agg [.b b3,.s s3])):Fn E z4s [.agg [.b b0,.s s0],.agg [.b b1,.s s1]] (.agg [.b b3,.s s3]):=by subst e1;exact fnM (oF h1 (oK (oF h2 oZ)))
section
variable (h1:Fn E Y4 [.b b0] (.i 0))
include h1
theorem x4m (h2:Fn E Y4 [.b b1] (.i 0))(h3:Fn E y3p [.agg [.b b0,.s s0],.agg [.b b1,.s s1]] (.agg [.b b2,.s s2])):Fn E N6 [.agg [.b b0,.s s0],.agg [.b b1,.s s1]] (.agg [.b b2,.s s2]):=fnM (oF h1 (oF h2 (oP (show (0:Int)≤0∧(0:Int)<2 from by decide) (oP (show (0:Int)≤0∧(0:Int)<2 from by decide) (oF h3 oZ)))))
theorem x4n (h2:Fn E Y4 [.b b1] (.i 1))(h3:Fn E Z4 [.agg [.b b0,.s s0],.agg [.b b1,.s s1]] (.agg [.b b2,.s s2])):Fn E N6 [.agg [.b b0,.s s0],.agg [.b b1,.s s1]] (.agg [.b b2,.s s2]):=fnM (oF h1 (oF h2 (oP (show (0:Int)≤0∧(0:Int)<2 from by decide) (oP (show (0:Int)≤1∧(1:Int)<2 from by decide) (oF h3 oZ)))))
end
section
variable (h1:Fn E Y4 [.b b0] (.i 1))
include h1
theorem x4o (h2:Fn E Y4 [.b b1] (.i 0))(h3:Fn E Z4 [.agg [.b b0,.s s0],.agg [.b b1,.s s1]] (.agg [.b b2,.s s2])):Fn E N6 [.agg [.b b0,.s s0],.agg [.b b1,.s s1]] (.agg [.b b2,.s s2]):=fnM (oF h1 (oF h2 (oP (show (0:Int)≤1∧(1:Int)<2 from by decide) (oP (show (0:Int)≤0∧(0:Int)<2 from by decide) (oF h3 oZ)))))
theorem x4p (h2:Fn E Y4 [.b b1] (.i 1))(h3:Fn E y3p [.agg [.b b0,.s s0],.agg [.b b1,.s s1]] (.agg [.b b2,.s s2])):Fn E N6 [.agg [.b b0,.s s0],.agg [.b b1,.s s1]] (.agg [.b b2,.s s2]):=fnM (oF h1 (oF h2 (oP (show (0:Int)≤1∧(1:Int)<2 from by decide) (oP (show (0:Int)≤1∧(1:Int)<2 from by decide) (oF h3 oZ)))))
end
theorem k8i (h1:Fn E z1n [.s s0,.s s1] (.tup [.agg [.b b0,.s s2],.agg [.b b1,.s s3],.i i0]))(h2:i0=0)(h3:Fn E y0w [] (.agg [.b b2,.s s4]))(h4:((b1 == b2) && ((s3 == s4) && true))=false)(h5:Fn E U3 [.agg [.b b0,.s s2],.agg [.b b1,.s s3]] (.tup [.agg [.b b3,.s s5],.agg [.b b4,.s s6]]))(h6:Fn E K1 [.agg [.b b3,.s s5]] (.s s7))(h7:Fn E K1 [.agg [.b b4,.s s6]] (.s s8)):Fn E y2n [.s s0,.s s1] (.tup [.s s7,.s s8,.i 0]):=fnM (oF h1 (oC (bnF h2) (oF h3 (oC (id h4) (oF h5 (oF h6 (oF h7 oZ)))))))
theorem j1f (h1:Fn E Z5 [.s s0] (.tup [.agg [.b b0,.s s1],.b b1])):Fn E z5q [.s s0] (.b b1):=fnM (oF h1 oZ)
theorem j4r (h1:¬ s0=(⟨#[48]⟩:BA)):Fn E H7 [.b true,.s s0] (.agg [.b true,.s s0]):=fnM (oB (snT h1) oZ)
theorem j4s (h1:s0=(⟨#[48]⟩:BA)):Fn E H7 [.b true,.s s0] (.agg [.b false,.s s0]):=fnM (oC (snF h1) oZ)
theorem j4t:Fn E H7 [.b false,.s s0] (.agg [.b false,.s s0]):=fnM oZ
theorem j4o (h1:Fn E z8v [.s s0] (.tup [.agg [.b b0,.s s1],.i i0]))(h2:Fn E P4 [.agg [.b b0,.s s1]] (.i i1)):Fn E y6m [.s s0] (.tup [.i i1,.i i0]):=fnM (oF h1 (oF h2 oZ))
section
variable (h1:Fn E y0w [] (.agg [.b b1,.s s1]))
include h1
theorem x4q (h2:((b0 == b1) && ((s0 == s1) && true))=true):Fn E P4 [.agg [.b b0,.s s0]] (.i 0):=fnM (oF h1 (oB (id h2) oZ))
theorem x4r (h2:((true == b1) && ((s0 == s1) && true))=false):Fn E P4 [.agg [.b true,.s s0]] (.i (-1)):=fnM (oF h1 (oC (id h2) oZ))
theorem x4s (h2:((false == b1) && ((s0 == s1) && true))=false):Fn E P4 [.agg [.b false,.s s0]] (.i 1):=fnM (oF h1 (oC (id h2) oZ))
end
section
variable (h1:Fn E z0r [.s s0,.s ⟨#[45]⟩] (.tup [.s s1,.b b0]))
include h1
section
variable (h2:Fn E C8 [.s s1] (.b true))
include h2
theorem x6n (h3:(!((b0 == true) && ((s1 == (⟨#[48]⟩:BA)) && true)))=true):Fn E Z5 [.s s0] (.tup [.agg [.b b0,.s s1],.b true]):=fnM (oF h1 (oF h2 (oB (id h3) oZ)))
theorem j4q (h3:(!((b0 == true) && ((s1 == (⟨#[48]⟩:BA)) && true)))=false):Fn E Z5 [.s s0] (.tup [.agg [.b b0,.s s1],.b false]):=fnM (oF h1 (oF h2 (oC (id h3) oZ)))
end
theorem x6o (h2:Fn E C8 [.s s1] (.b false)):Fn E Z5 [.s s0] (.tup [.agg [.b b0,.s s1],.b false]):=fnM (oF h1 (oF h2 oZ))
end
theorem j4u:Fn E y0w [] (.agg [.b false,.s ⟨#[48]⟩]):=fnM oZ
theorem j8g:Fn E Y4 [.b true] (.i 1):=fnM oZ
theorem j8h:Fn E Y4 [.b false] (.i 0):=fnM oZ
theorem j8j (h1:Fn E y3q [.s s0,.s s1] (.tup [.s s2,.i i0]))(h2:Fn E H7 [.b b0,.s s2] (.agg [.b b2,.s s3])):Fn E y3p [.agg [.b b0,.s s0],.agg [.b b1,.s s1]] (.agg [.b b2,.s s3]):=fnM (oF h1 (oF h2 oZ))
section
variable (h1:Fn E y0x [.s s0,.s s1] (.tup [.i i0,.i i1]))
include h1
theorem x6l (h2:i0<0)(h3:Fn E z8w [.s s1,.s s0] (.tup [.s s2,.i i2]))(h4:Fn E H7 [.b b1,.s s2] (.agg [.b b2,.s s3])):Fn E Z4 [.agg [.b b0,.s s0],.agg [.b b1,.s s1]] (.agg [.b b2,.s s3]):=fnM (oF h1 (oT h2 (oF h3 (oF h4 oZ))))
theorem x6m (h2:¬ i0<0)(h3:Fn E z8w [.s s0,.s s1] (.tup [.s s2,.i i2]))(h4:Fn E H7 [.b b0,.s s2] (.agg [.b b2,.s s3])):Fn E Z4 [.agg [.b b0,.s s0],.agg [.b b1,.s s1]] (.agg [.b b2,.s s3]):=fnM (oF h1 (oU h2 (oF h3 (oF h4 oZ))))
end
theorem j8c (h1:Fn E z8v [.s s0] (.tup [.agg [.b b0,.s s1],.i i0]))(h2:i0=0):Fn E y8z [.s s0] (.tup [.s s1,.i 0]):=fnM (oF h1 (oC (bnF h2) oZ))
theorem x0e (e1:(!(true == b0))=b1)(h1:Fn E z1j [.s s0,.s s1] (.tup [.s s2,.s s3,.i i0]))(h2:¬ s3=(⟨#[48]⟩:BA))(h3:Fn E y3q [.s s2,.s ⟨#[49]⟩] (.tup [.s s4,.i i1]))(h4:Fn E z8w [.s s1,.s s3] (.tup [.s s5,.i i2]))(h5:Fn E H7 [.b b1,.s s4] (.agg [.b b2,.s s6]))(h6:Fn E H7 [.b false,.s s5] (.agg [.b b3,.s s7])):Fn E U3 [.agg [.b true,.s s0],.agg [.b b0,.s s1]] (.tup [.agg [.b b2,.s s6],.agg [.b b3,.s s7]]):=by subst e1;exact fnM (oF h1 (oB (snT h2) (oF h3 (oF h4 (oK (oF h5 (oF h6 oZ)))))))
theorem x0f (e1:(!(true == b0))=b4)(h1:Fn E z1j [.s s0,.s s1] (.tup [.s s2,.s s3,.i i0]))(h2:s3=(⟨#[48]⟩:BA))(h3:Fn E H7 [.b b4,.s s2] (.agg [.b b5,.s s5]))(h4:Fn E H7 [.b false,.s s3] (.agg [.b b6,.s s8])):Fn E U3 [.agg [.b true,.s s0],.agg [.b b0,.s s1]] (.tup [.agg [.b b5,.s s5],.agg [.b b6,.s s8]]):=by subst e1;exact fnM (oF h1 (oC (snF h2) (oK (oF h3 (oF h4 oZ)))))
theorem x0g (e1:(!(false == b0))=b4)(h1:Fn E z1j [.s s0,.s s1] (.tup [.s s2,.s s3,.i i0]))(h2:Fn E H7 [.b b4,.s s2] (.agg [.b b5,.s s5]))(h3:Fn E H7 [.b false,.s s3] (.agg [.b b6,.s s8])):Fn E U3 [.agg [.b false,.s s0],.agg [.b b0,.s s1]] (.tup [.agg [.b b5,.s s5],.agg [.b b6,.s s8]]):=by subst e1;exact fnM (oF h1 (oK (oF h2 (oF h3 oZ))))
end Gev
namespace Gev
open Go Go.Proofs
variable {E:Env}
variable {o:Out} {t:St} {i0 i1 i2 i3 i4 i5 i6 i7 i8 i9:Int} {s0 s1 s2 s3 s4 s5 s6 s7 s8 s9 s10:BA} {b0:Bool}
theorem j1t (e1:IntKind.i64.wrap (i0*i3)=i4)(e2:IntKind.i64.wrap (i2*i1)=i5)(e3:IntKind.i64.wrap (i4+i5)=i6)(e4:IntKind.i64.wrap (i1*i3)=i7)(h1:Fn E B7 [.agg [.s s0,.s s1]] (.tup [.i i0,.i i1,.b true]))(h2:Fn E B7 [.agg [.s s2,.s s3]] (.tup [.i i2,.i i3,.b true]))(h3:Fn E Y6 [.i i6,.i i7] (.agg [.s s4,.s s5])):Fn E z0n [.agg [.s s0,.s s1],.agg [.s s2,.s s3]] (.agg [.s s4,.s s5]):=by subst e1 e2 e3 e4;exact fnM (oF h1 (oF h2 (oF h3 oZ)))
theorem j1u (h1:Fn E B7 [.agg [.s s0,.s s1]] (.tup [.i i0,.i i1,.b true]))(h2:Fn E B7 [.agg [.s s2,.s s3]] (.tup [.i i2,.i i3,.b false]))(h3:Fn E V2 [.s s0,.s s3] (.tup [.s s6,.i i5]))(h4:Fn E V2 [.s s2,.s s1] (.tup [.s s7,.i i7]))(h5:Fn E y3o [.s s6,.s s7] (.tup [.s s4,.i i8]))(h6:Fn E z3g [.s s1,.s s3] (.tup [.s s8,.i i9]))(h7:Fn E P3 [.s s4,.s s8] (.agg [.s s9,.s s10])):Fn E z0n [.agg [.s s0,.s s1],.agg [.s s2,.s s3]] (.agg [.s s9,.s s10]):=fnM (oF h1 (oF h2 (oF h3 (oF h4 (oF h5 (oF h6 (oF h7 oZ)))))))
theorem j1v (h1:Fn E B7 [.agg [.s s0,.s s1]] (.tup [.i i0,.i i1,.b false]))(h2:Fn E B7 [.agg [.s s2,.s s3]] (.tup [.i i2,.i i3,.b b0]))(h3:Fn E V2 [.s s0,.s s3] (.tup [.s s6,.i i5]))(h4:Fn E V2 [.s s2,.s s1] (.tup [.s s7,.i i7]))(h5:Fn E y3o [.s s6,.s s7] (.tup [.s s4,.i i8]))(h6:Fn E z3g [.s s1,.s s3] (.tup [.s s8,.i i9]))(h7:Fn E P3 [.s s4,.s s8] (.agg [.s s9,.s s10])):Fn E z0n [.agg [.s s0,.s s1],.agg [.s s2,.s s3]] (.agg [.s s9,.s s10]):=fnM (oF h1 (oF h2 (oF h3 (oF h4 (oF h5 (oF h6 (oF h7 oZ)))))))
theorem k9d (e1:IntKind.i64.wrap (i0*i2)=i4)(e2:IntKind.i64.wrap (i1*i3)=i5)(h1:Fn E B7 [.agg [.s s0,.s s1]] (.tup [.i i0,.i i1,.b true]))(h2:Fn E B7 [.agg [.s s2,.s s3]] (.tup [.i i2,.i i3,.b true]))(h3:Fn E Y6 [.i i4,.i i5] (.agg [.s s4,.s s5])):Fn E Y1 [.agg [.s s0,.s s1],.agg [.s s2,.s s3]] (.agg [.s s4,.s s5]):=by subst e1 e2;exact fnM (oF h1 (oF h2 (oF h3 oZ)))
theorem k9e (h1:Fn E B7 [.agg [.s s0,.s s1]] (.tup [.i i0,.i i1,.b true]))(h2:Fn E B7 [.agg [.s s2,.s s3]] (.tup [.i i2,.i i3,.b false]))(h3:Fn E V2 [.s s0,.s s2] (.tup [.s s6,.i i5]))(h4:Fn E z3g [.s s1,.s s3] (.tup [.s s4,.i i6]))(h5:Fn E P3 [.s s6,.s s4] (.agg [.s s7,.s s8])):Fn E Y1 [.agg [.s s0,.s s1],.agg [.s s2,.s s3]] (.agg [.s s7,.s s8]):=fnM (oF h1 (oF h2 (oF h3 (oF h4 (oF h5 oZ)))))
theorem k9f (h1:Fn E B7 [.agg [.s s0,.s s1]] (.tup [.i i0,.i i1,.b false]))(h2:Fn E B7 [.agg [.s s2,.s s3]] (.tup [.i i2,.i i3,.b b0]))(h3:Fn E V2 [.s s0,.s s2] (.tup [.s s6,.i i5]))(h4:Fn E z3g [.s s1,.s s3] (.tup [.s s4,.i i6]))(h5:Fn E P3 [.s s6,.s s4] (.agg [.s s7,.s s8])):Fn E Y1 [.agg [.s s0,.s s1],.agg [.s s2,.s s3]] (.agg [.s s7,.s s8]):=fnM (oF h1 (oF h2 (oF h3 (oF h4 (oF h5 oZ)))))
theorem x1p (h1:Fn E z8k [.agg [.s s2,.s s3]] (.agg [.s s4,.s s5]))(h2:Fn E z0n [.agg [.s s0,.s s1],.agg [.s s4,.s s5]] (.agg [.s s6,.s s7])):Fn E U5 [.agg [.s s0,.s s1],.agg [.s s2,.s s3]] (.agg [.s s6,.s s7]):=fnM (oF h1 (oF h2 oZ))
theorem x1q (h1:Fn E z4v [.agg [.s s2,.s s3]] (.agg [.s s4,.s s5]))(h2:Fn E Y1 [.agg [.s s0,.s s1],.agg [.s s4,.s s5]] (.agg [.s s6,.s s7])):Fn E U6 [.agg [.s s0,.s s1],.agg [.s s2,.s s3]] (.agg [.s s6,.s s7]):=fnM (oF h1 (oF h2 oZ))
theorem x7z (h1:s1=(⟨#[49]⟩:BA)):Fn E F_rational_frac_text [.agg [.s s0,.s s1]] (.s s0):=fnM (oB (seT h1) oZ)
theorem x8a (e1:s0++(⟨#[47]⟩:BA)=s2)(e2:s2++s1=s3)(h1:¬ s1=(⟨#[49]⟩:BA))(h2:s0.size+(⟨#[47]⟩:BA).size≤9223372036854775807)(h3:s2.size+s1.size≤9223372036854775807):Fn E F_rational_frac_text [.agg [.s s0,.s s1]] (.s s3):=by subst e1 e2;exact fnM (oC (seF h1) (oP h2 (oP h3 oZ)))
theorem j1s (h1:Fn E I6 [.s s0] (.tup [.agg [.s s2,.s s3],.b true]))(h2:Fn E I6 [.s s1] (.tup [.agg [.s s4,.s s5],.b true])):Fn E F_rational_both [.s s0,.s s1] (.tup [.agg [.s s2,.s s3],.agg [.s s4,.s s5],.i 0]):=fnM (oF h1 (oF h2 oZ))
theorem j6h (h1:Fn E z1k [.c (.u8 42),.s s0,.s s1] (.tup [.s s2,.i i0])):Fn E z1r [.s s0,.s s1] (.tup [.s s2,.i i0]):=fnM (oF h1 oZ)
theorem j6i (h1:Fn E z1k [.c (.u8 45),.s s0,.s s1] (.tup [.s s2,.i i0])):Fn E z7d [.s s0,.s s1] (.tup [.s s2,.i i0]):=fnM (oF h1 oZ)
theorem j6f (h1:Fn E z1k [.c (.u8 43),.s s0,.s s1] (.tup [.s s2,.i i0])):Fn E z1p [.s s0,.s s1] (.tup [.s s2,.i i0]):=fnM (oF h1 oZ)
theorem k3h (h1:Fn E F_rational_both [.s s0,.s s1] (.tup [.agg [.s s2,.s s3],.agg [.s s4,.s s5],.i i0]))(h2:i0=0)(h3:s0=s1):Fn E z1q [.s s0,.s s1] (.tup [.i 0,.i i0]):=fnM (oF h1 (oC (bnF h2) (oB (seT h3) oZ)))
theorem k3i (e1:IntKind.i64.wrap (i1-i2)=i3)(e2:(if 1<i3 then 1 else i3)=i4)(e3:(if i4>(-1) then i4 else (-1))=i5)(h1:Fn E F_rational_both [.s s0,.s s1] (.tup [.agg [.s s2,.s s3],.agg [.s s4,.s s5],.i i0]))(h2:i0=0)(h3:¬ s0=s1)(h4:Fn E U4 [.agg [.s s2,.s s3]] (.i i1))(h5:Fn E U4 [.agg [.s s4,.s s5]] (.i i2))(h6:¬ i1=i2):Fn E z1q [.s s0,.s s1] (.tup [.i i5,.i 0]):=by subst e1 e2 e3;exact fnM (oF h1 (oC (bnF h2) (oC (seF h3) (oF h4 (oF h5 (oB (bnT h6) oZ))))))
theorem k3j (h1:Fn E F_rational_both [.s s0,.s s1] (.tup [.agg [.s s2,.s s3],.agg [.s s4,.s s5],.i i0]))(h2:i0=0)(h3:¬ s0=s1)(h4:Fn E U4 [.agg [.s s2,.s s3]] (.i i1))(h5:Fn E U4 [.agg [.s s4,.s s5]] (.i i2))(h6:i1=i2)(h7:Fn E V2 [.s s2,.s s5] (.tup [.s s6,.i i4]))(h8:Fn E V2 [.s s4,.s s3] (.tup [.s s7,.i i6]))(h9:Fn E y0v [.s s6,.s s7] (.tup [.i i7,.i i8])):Fn E z1q [.s s0,.s s1] (.tup [.i i7,.i i8]):=fnM (oF h1 (oC (bnF h2) (oC (seF h3) (oF h4 (oF h5 (oC (bnF h6) (oF h7 (oF h8 (oF h9 oZ)))))))))
theorem x3p (h1:(s0.size:Int)>9):Fn E B7 [.agg [.s s0,.s s1]] (.tup [.i 0,.i 0,.b false]):=fnM (oT h1 oZ)
theorem x3q (h1:¬ (s0.size:Int)>9)(h2:(s1.size:Int)>9):Fn E B7 [.agg [.s s0,.s s1]] (.tup [.i 0,.i 0,.b false]):=fnM (oU h1 (oT h2 oZ))
theorem x3r (h1:¬ (s0.size:Int)>9)(h2:¬ (s1.size:Int)>9)(h3:Fn E z4w [.s s0,.i 10,.i 64] (.tup [.i i0,.undef]))(h4:Fn E z4w [.s s1,.i 10,.i 64] (.tup [.i i1,.undef])):Fn E B7 [.agg [.s s0,.s s1]] (.tup [.i i0,.i i1,.b true]):=fnM (oU h1 (oU h2 (oF h3 (oF h4 oZ))))
def z7l (i0 i1 i2 i3:Int) (s0 s1:BA):St:=stOf 28 [(0,.i i0),(1,.i i1),(4,.ptr 0 0),(5,.i i2),(6,.i i3)] [sC [.s s0,.s s1]]
def y2x (i0 i1:Int) (s0 s1:BA) (i4:Int):St:=stOf 28 [(0,.i i0),(1,.i i1),(4,.ptr 0 0),(5,.i i4)] [sC [.s s0,.s s1]]
theorem k6m (e1:Int.tmod i2 i3=i5)(h1:¬ i3=0)(h2:i3≠0)(ih:Lp E 1 Y6 0 (z7l i0 i1 i3 i5 s0 s1) o t):Lp E 1 Y6 0 (z7l i0 i1 i2 i3 s0 s1) o t:=by subst e1;exact lpM (oB (bnT h1) (oP h2 oZ)) ih
theorem k0v (h1:i3=0):Lp E 1 Y6 0 (z7l i0 i1 i2 i3 s0 s1) (.exit 0) (y2x i0 i1 s0 s1 i2):=lpX (oC (bnF h1) oZ)
theorem j9b (e1:IntKind.i64.wrap (0-i2)=i3)(e2:(if i3>i2 then i3 else i2)=i4)(e3:IntKind.i64.wrap (Int.tdiv i0 i4)=i5)(e4:IntKind.i64.wrap (Int.tdiv i1 i4)=i6)(h1:Lp E 1 Y6 0 (z7l i0 i1 i0 i1 ⟨#[]⟩ ⟨#[]⟩) (.exit 0) (y2x i0 i1 ⟨#[]⟩ ⟨#[]⟩ i2))(h2:i4≠0)(h3:Fn E z3q [.i i5,.i 10] (.s s0))(h4:Fn E z3q [.i i6,.i 10] (.s s1)):Fn E Y6 [.i i0,.i i1] (.agg [.s s0,.s s1]):=by subst e1 e2 e3 e4;exact fnM (oL h1 (oP h2 (oF h3 (oP h2 (oF h4 oZ)))))
section
variable (h1:Fn E z4u [.s s0,.s s1] (.s s2))
include h1
theorem k6k (h2:¬ s2=(⟨#[49]⟩:BA))(h3:Fn E y2n [.s s0,.s s2] (.tup [.s s3,.s s4,.i i0]))(h4:Fn E z1j [.s s1,.s s2] (.tup [.s s5,.s s6,.i i1])):Fn E P3 [.s s0,.s s1] (.agg [.s s3,.s s5]):=fnM (oF h1 (oB (snT h2) (oF h3 (oF h4 oZ))))
theorem k6l (h2:s2=(⟨#[49]⟩:BA)):Fn E P3 [.s s0,.s s1] (.agg [.s s0,.s s1]):=fnM (oF h1 (oC (snF h2) oZ))
end
theorem k0w (h1:Fn E y9a [.s s0] (.tup [.s s2,.i i0])):Fn E z8k [.agg [.s s0,.s s1]] (.agg [.s s2,.s s1]):=fnM (oF h1 oZ)
theorem k3l (e1:(⟨#[45]⟩:BA)++s1=s3)(h1:Fn E z0r [.s s0,.s ⟨#[45]⟩] (.tup [.s s2,.b true]))(h2:(⟨#[45]⟩:BA).size+s1.size≤9223372036854775807):Fn E z4v [.agg [.s s0,.s s1]] (.agg [.s s3,.s s2]):=by subst e1;exact fnM (oF h1 (oP h2 oZ))
theorem k3m (h1:Fn E z0r [.s s0,.s ⟨#[45]⟩] (.tup [.s s2,.b false])):Fn E z4v [.agg [.s s0,.s s1]] (.agg [.s s1,.s s0]):=fnM (oF h1 oZ)
section
variable (h1:Fn E z6h [.s s0,.s ⟨#[47]⟩] (.tup [.s s1,.s s2,.b true]))
include h1
section
variable (h2:Fn E z5q [.s s1] (.b true))
include h2
section
variable (h3:¬ s1=(⟨#[48]⟩:BA))
include h3
section
variable (h4:Fn E C8 [.s s2] (.b true))
include h4
section
variable (h5:¬ s2=(⟨#[48]⟩:BA))
include h5
section
variable (h6:¬ s2=(⟨#[49]⟩:BA))(h7:Fn E z4u [.s s1,.s s2] (.s s3))
include h6 h7
theorem j1w (h8:s3=(⟨#[49]⟩:BA)):Fn E I6 [.s s0] (.tup [.agg [.s s1,.s s2],.b true]):=fnM (oF h1 (oF h2 (oB (snT h3) (oF h4 (oB (snT h5) (oB (snT h6) (oF h7 (oB (seT h8) oZ))))))))
theorem j1x (h8:¬ s3=(⟨#[49]⟩:BA)):Fn E I6 [.s s0] (.tup [.agg [.s s1,.s s2],.b false]):=fnM (oF h1 (oF h2 (oB (snT h3) (oF h4 (oB (snT h5) (oB (snT h6) (oF h7 (oC (seF h8) oZ))))))))
end
theorem j1y (h6:s2=(⟨#[49]⟩:BA)):Fn E I6 [.s s0] (.tup [.agg [.s s1,.s s2],.b false]):=fnM (oF h1 (oF h2 (oB (snT h3) (oF h4 (oB (snT h5) (oC (snF h6) oZ))))))
end
theorem j1z (h5:s2=(⟨#[48]⟩:BA)):Fn E I6 [.s s0] (.tup [.agg [.s s1,.s s2],.b false]):=fnM (oF h1 (oF h2 (oB (snT h3) (oF h4 (oC (snF h5) oZ)))))
end
theorem j2a (h4:Fn E C8 [.s s2] (.b false)):Fn E I6 [.s s0] (.tup [.agg [.s s1,.s s2],.b false]):=fnM (oF h1 (oF h2 (oB (snT h3) (oF h4 oZ))))
end
theorem j2b (h3:s1=(⟨#[48]⟩:BA)):Fn E I6 [.s s0] (.tup [.agg [.s s1,.s s2],.b false]):=fnM (oF h1 (oF h2 (oC (snF h3) oZ)))
end
theorem j2c (h2:Fn E z5q [.s s1] (.b false)):Fn E I6 [.s s0] (.tup [.agg [.s s1,.s s2],.b false]):=fnM (oF h1 (oF h2 oZ))
end
theorem x4k (h1:Fn E z6h [.s s0,.s ⟨#[47]⟩] (.tup [.s s1,.s s2,.b false]))(h2:Fn E z5q [.s s1] (.b b0)):Fn E I6 [.s s0] (.tup [.agg [.s s1,.s ⟨#[49]⟩],.b b0]):=fnM (oF h1 (oF h2 oZ))
theorem x7y (h1:Fn E y6m [.s s0] (.tup [.i i0,.i i1])):Fn E U4 [.agg [.s s0,.s s1]] (.i i0):=fnM (oF h1 oZ)
theorem k3k (h1:Fn E y8z [.s s0] (.tup [.s s2,.i i0]))(h2:Fn E y9b [.s s2,.s s1] (.tup [.s s3,.i i1])):Fn E z4u [.s s0,.s s1] (.s s3):=fnM (oF h1 (oF h2 oZ))
theorem j6g (h1:Fn E z1k [.c (.u8 47),.s s0,.s s1] (.tup [.s s2,.i i0])):Fn E y6n [.s s0,.s s1] (.tup [.s s2,.i i0]):=fnM (oF h1 oZ)
theorem x1o (h1:Fn E I6 [.s s0] (.tup [.agg [.s s1,.s s2],.b b0])):Fn E y2o [.s s0] (.b b0):=fnM (oF h1 oZ)
end Gev
namespace Gev
open Go Go.Proofs
variable {E:Env}
variable {o:Out} {t:St} {r0 r1 r2 r3 r4 r5 r6 r7 r8 r9 r10 r11 r12 r13 r14:RW} {i0 i1 i2 i3 i4 i5 i6 i7 i8 i9 i10 i11 i12 i13 i14 i15 i16 i17 i18 i19 i20 i21 i22 i23:Int} {s0:BA} {n0 n1 n2 n3 n4 n5 n6 n7:Nat}
def z3a (r0:RW) (n0:Nat) (i0 i1 i2:Int) (r1:RW):St:=stOf 72 [(0,.l r0),(3,.vec 1 n0),(4,.i i0),(5,.w i1),(6,.i i2)] [some .dead,sV y8i r1]
def y1w (r0:RW) (i0:Int) (n1:Nat) (r2:RW):St:=stOf 72 [(0,.l r0),(3,.vec 1 n1),(4,.i i0)] [some .dead,sV y8i r2]
section
variable (e1:IntKind.i64.wrap (i0+1)=i3)
include e1
section
variable (e2:Int.tmod i1 10=i4)(e3:IntKind.u32.wrap (48+i4)=i5)(e4:IntKind.u8.wrap i5=i6)(e5:(r1.take n0)++[[.u8 i6]]=r3)(e6:n0+1=n2)(e7:IntKind.u32.wrap (Int.tdiv i1 10)=i7)(e8:IntKind.i64.wrap (i2+1)=i8)(h1:i2<9)
include e2 e3 e4 e5 e6 e7 e8 h1
theorem j2d (h2:i3<(r0.length:Int))(h3:(n0+1)*1≤140737488355328∧n0+1≤140737488355328)(ih:Lp E 1 G9 1 (z3a r0 n2 i0 i7 i8 r3) o t):Lp E 1 G9 1 (z3a r0 n0 i0 i1 i2 r1) o t:=by subst e1 e2 e3 e4 e5 e6 e7 e8;exact lpM (oT h1 (oT h2 (oP (show (10:Int)≠0 from by decide) (oP (show ∀ y∈([[.u8 (IntKind.u8.wrap (IntKind.u32.wrap (48+(Int.tmod i1 10))))]]:RW),y.length=1 from by simp) (oP h3 (oP (show (10:Int)≠0 from by decide) oZ)))))) ih
theorem j2e (h2:¬ i3<(r0.length:Int))(h3:i1>0)(h4:(n0+1)*1≤140737488355328∧n0+1≤140737488355328)(ih:Lp E 1 G9 1 (z3a r0 n2 i0 i7 i8 r3) o t):Lp E 1 G9 1 (z3a r0 n0 i0 i1 i2 r1) o t:=by subst e1 e2 e3 e4 e5 e6 e7 e8;exact lpM (oT h1 (oU h2 (oT h3 (oP (show (10:Int)≠0 from by decide) (oP (show ∀ y∈([[.u8 (IntKind.u8.wrap (IntKind.u32.wrap (48+(Int.tmod i1 10))))]]:RW),y.length=1 from by simp) (oP h4 (oP (show (10:Int)≠0 from by decide) oZ))))))) ih
end
theorem k6x (h1:i2<9)(h2:¬ i3<(r0.length:Int))(h3:¬ i1>0):Lp E 1 G9 1 (z3a r0 n0 i0 i1 i2 r1) (.exit 2) (y1w r0 i0 n0 r1):=by subst e1;exact lpX (oT h1 (oU h2 (oU h3 oZ)))
end
theorem k6y (h1:¬ i2<9):Lp E 1 G9 1 (z3a r0 n0 i0 i1 i2 r1) (.exit 2) (y1w r0 i0 n0 r1):=lpX (oU h1 oZ)
def y4j (r0:RW) (n0:Nat) (i0:Int) (r1:RW):St:=stOf 72 [(0,.l r0),(3,.vec 0 n0),(4,.i i0)] [sV y8i r1]
def y9t (n1:Nat) (r2:RW):St:=stOf 72 [(3,.vec 0 n1)] [sV y8i r2]
theorem j6m (e1:IntKind.i64.wrap (i0+1)=i2)(h1:i0<(r0.length:Int))(h2:0≤i0)(h3:r0[(Int.toNat i0)]?=some [.w i1])(h4:Lp E 1 G9 1 (z3a r0 n0 i0 i1 0 r1) (.exit 2) (y1w r0 i0 n2 r3))(ih:Lp E 0 G9 0 (y4j r0 n2 i2 r3) o t):Lp E 0 G9 0 (y4j r0 n0 i0 r1) o t:=by subst e1;exact lpM (oT h1 (oP h2 (oD h3 (oM [(3,y8i)] h4 oZ)))) ih
theorem k9o (h1:¬ i0<(r0.length:Int)):Lp E 0 G9 0 (y4j r0 n0 i0 r1) (.exit 0) (y9t n0 r1):=lpX (oU h1 oZ)
def y4k (n0:Nat) (i0 i1:Int) (r0:RW):St:=stOf 72 [(3,.vec 0 n0),(7,.i i0),(8,.i i1)] [sV y8i r0]
def y9u (n0:Nat) (r1:RW):St:=stOf 72 [(3,.vec 0 n0)] [sV y8i r1]
theorem j6n (e1:List.set r0 (Int.toNat i0) [.u8 i2]=r2)(e2:List.set r2 (Int.toNat i1) [.u8 i3]=r3)(e3:IntKind.i64.wrap (i0+1)=i5)(e4:IntKind.i64.wrap (i1-1)=i6)(h1:i0<i1)(h2:0≤i1∧i1<((n0:Nat):Int))(h3:r0[(Int.toNat i1)]?=some [.u8 i2])(h4:0≤i0∧i0<((n0:Nat):Int))(h5:r0[(Int.toNat i0)]?=some [.u8 i3])(h6:r2[(Int.toNat i1)]?=some [.u8 i4])(ih:Lp E 1 G9 2 (y4k n0 i5 i6 r3) o t):Lp E 1 G9 2 (y4k n0 i0 i1 r0) o t:=by subst e1 e2 e3 e4;exact lpM (oT h1 (oP h2 (oD h3 (oP h4 (oD h5 (oP h4 (oD h5 (oP h2 (oD h6 oZ))))))))) ih
theorem k9p (h1:¬ i0<i1):Lp E 1 G9 2 (y4k n0 i0 i1 r0) (.exit 4) (y9u n0 r0):=lpX (oU h1 oZ)
theorem v1w (h1:(r0.length:Int)=0):Fn E G9 [.l r0] (.s ⟨#[48]⟩):=fnM (oB (beT h1) oZ)
theorem v1x (e1:IntKind.i64.wrap (((n0:Nat):Int)-1)=i0)(e2:ByteArray.mk (((r2.take n0).map x2e).toArray)=s0)(h1:¬ (r0.length:Int)=0)(h2:Lp E 0 G9 0 (y4j r0 0 0 []) (.exit 0) (y9t n0 r1))(h3:Lp E 1 G9 2 (y4k n0 0 i0 r1) (.exit 4) (y9u n0 r2))(h4:∀ x∈(r2.take n0),x5t x):Fn E G9 [.l r0] (.s s0):=by subst e1 e2;exact fnM (oC (beF h1) (oM [(3,y8i)] h2 (oL h3 (oP h4 oZ))))
theorem j9d (e1:Int.tmod i0 1000000000=i1)(e2:IntKind.u32.wrap (Int.tdiv i0 1000000000)=i2)(e3:(([[.w i1],[.w i2]]:RW).take n0)=r0)(h1:Rn E H3 [.vec 0 2] [sV A0 [[.w i1],[.w i2]]] (.vec 0 n0) [sV A0 [[.w i1],[.w i2]]]):Fn E z1g [.w i0] (.l r0):=by subst e1 e2 e3;exact fnM (oP (show (1000000000:Int)≠0 from by decide) (oP (show (1000000000:Int)≠0 from by decide) (oR h1 oZ)))
def z7o (r0 r1:RW) (n0:Nat) (i0 i1 i2:Int) (r2:RW):St:=stOf 77 [(0,.l r0),(1,.l r1),(5,.vec 0 n0),(6,.i i0),(7,.c (.u64 i1)),(8,.i i2)] [sV A0 r2]
def y3a (r0 r1:RW) (n0:Nat) (i0 i3:Int) (r3:RW):St:=stOf 77 [(0,.l r0),(1,.l r1),(5,.vec 0 n0),(6,.i i0),(7,.c (.u64 i3))] [sV A0 r3]
theorem k6w (e1:IntKind.i64.wrap (i0+i2)=i4)(e2:IntKind.u64.wrap i5=i6)(e3:IntKind.u64.wrap i7=i8)(e4:IntKind.u64.wrap i9=i10)(e5:IntKind.u64.wrap (i8*i10)=i11)(e6:IntKind.u64.wrap (i6+i11)=i12)(e7:IntKind.u64.wrap (i12+i1)=i13)(e8:Int.tmod i13 1000000000=i14)(e9:IntKind.u32.wrap i14=i15)(e10:List.set r2 (Int.toNat i4) [.w i15]=r4)(e11:IntKind.u64.wrap (Int.tdiv i13 1000000000)=i16)(e12:IntKind.i64.wrap (i2+1)=i17)(h1:i2<(r1.length:Int))(h2:0≤i4∧i4<((n0:Nat):Int))(h3:r2[(Int.toNat i4)]?=some [.w i5])(h4:0≤i0)(h5:r0[(Int.toNat i0)]?=some [.w i7])(h6:0≤i2)(h7:r1[(Int.toNat i2)]?=some [.w i9])(ih:Lp E 1 F8 1 (z7o r0 r1 n0 i0 i16 i17 r4) o t):Lp E 1 F8 1 (z7o r0 r1 n0 i0 i1 i2 r2) o t:=by subst e1 e2 e3 e4 e5 e6 e7 e8 e9 e10 e11 e12;exact lpM (oT h1 (oP h2 (oD h3 (oP h4 (oD h5 (oP h6 (oD h7 (oP (show (1000000000:Int)≠0 from by decide) (oP h2 (oD h3 (oP (show (1000000000:Int)≠0 from by decide) oZ))))))))))) ih
theorem k1a (h1:¬ i2<(r1.length:Int)):Lp E 1 F8 1 (z7o r0 r1 n0 i0 i1 i2 r2) (.exit 2) (y3a r0 r1 n0 i0 i1 r2):=lpX (oU h1 oZ)
def z7n (r0 r1:RW) (n0:Nat) (i0:Int) (r2:RW):St:=stOf 77 [(0,.l r0),(1,.l r1),(5,.vec 0 n0),(6,.i i0)] [sV A0 r2]
def y2z (n0:Nat) (r3:RW):St:=stOf 77 [(5,.vec 0 n0)] [sV A0 r3]
theorem k6v (e1:IntKind.i64.wrap (i0+(r1.length:Int))=i2)(e2:IntKind.u32.wrap i1=i3)(e3:List.set r4 (Int.toNat i2) [.w i3]=r5)(e4:IntKind.i64.wrap (i0+1)=i5)(h1:i0<(r0.length:Int))(h2:Lp E 1 F8 1 (z7o r0 r1 n0 i0 0 0 r2) (.exit 2) (y3a r0 r1 n0 i0 i1 r4))(h3:0≤i2∧i2<((n0:Nat):Int))(h4:r4[(Int.toNat i2)]?=some [.w i4])(ih:Lp E 1 F8 0 (z7n r0 r1 n0 i5 r5) o t):Lp E 1 F8 0 (z7n r0 r1 n0 i0 r2) o t:=by subst e1 e2 e3 e4;exact lpM (oT h1 (oL h2 (oP h3 (oD h4 oZ)))) ih
theorem k0z (h1:¬ i0<(r0.length:Int)):Lp E 1 F8 0 (z7n r0 r1 n0 i0 r2) (.exit 0) (y2z n0 r2):=lpX (oU h1 oZ)
theorem j9e (h1:(r0.length:Int)=0):Fn E F8 [.l r0,.l r1] (.l []):=fnM (oB (beT h1) oZ)
theorem j9f (h1:¬ (r0.length:Int)=0)(h2:(r1.length:Int)=0):Fn E F8 [.l r0,.l r1] (.l []):=fnM (oC (beF h1) (oB (beT h2) oZ))
theorem j9g (e1:IntKind.i64.wrap ((r0.length:Int)+(r1.length:Int))=i0)(e2:Int.toNat i0=n0)(e3:List.replicate n0 [.w 0]=r2)(e4:(r3.take n1)=r4)(h1:¬ (r0.length:Int)=0)(h2:¬ (r1.length:Int)=0)(h3:0≤i0∧i0≤i0∧(Int.toNat i0)*4≤140737488355328∧(Int.toNat i0)≤140737488355328)(h4:Lp E 1 F8 0 (z7n r0 r1 n0 0 r2) (.exit 0) (y2z n0 r3))(h5:Rn E H3 [.vec 0 n0] [sV A0 r3] (.vec 0 n1) [sV A0 r3]):Fn E F8 [.l r0,.l r1] (.l r4):=by subst e1 e2 e3 e4;exact fnM (oC (beF h1) (oC (beF h2) (oP h3 (oL h4 (oR h5 oZ)))))
def z1e (r0 r1:RW) (i0:Int):St:=stOf 41 [(0,.l r0),(1,.l r1),(5,.i i0)] []
def y1s (i1:Int):St:=stOf 41 [(4,.i i1)] []
def y7a:St:=stOf 41 [] []
theorem x4l (e1:IntKind.i64.wrap (i0-1)=i4)(h1:i0≥0)(h2:0≤i0)(h3:r0[(Int.toNat i0)]?=some [.w i2])(h4:r1[(Int.toNat i0)]?=some [.w i3])(h5:¬ i2<i3)(h6:¬ i2>i3)(ih:Lp E 0 H9 0 (z1e r0 r1 i4) o t):Lp E 0 H9 0 (z1e r0 r1 i0) o t:=by subst e1;exact lpM (oT h1 (oP h2 (oD h3 (oP h2 (oD h4 (oU h5 (oP h2 (oD h3 (oP h2 (oD h4 (oU h6 oZ))))))))))) ih
section
variable (h1:i0≥0)(h2:0≤i0)(h3:r0[(Int.toNat i0)]?=some [.w i2])(h4:r1[(Int.toNat i0)]?=some [.w i3])
include h1 h2 h3 h4
theorem k6n (h5:i2<i3):Lp E 0 H9 0 (z1e r0 r1 i0) .ret (y1s (-1)):=lpX (oT h1 (oP h2 (oD h3 (oP h2 (oD h4 (oT h5 oZ))))))
theorem k6o (h5:¬ i2<i3)(h6:i2>i3):Lp E 0 H9 0 (z1e r0 r1 i0) .ret (y1s 1):=lpX (oT h1 (oP h2 (oD h3 (oP h2 (oD h4 (oU h5 (oP h2 (oD h3 (oP h2 (oD h4 (oT h6 oZ)))))))))))
end
theorem k6p (h1:¬ i0≥0):Lp E 0 H9 0 (z1e r0 r1 i0) (.exit 0) (y7a):=lpX (oU h1 oZ)
section
variable (h1:¬ (r0.length:Int)=(r1.length:Int))
include h1
theorem q8u (h2:(r0.length:Int)<(r1.length:Int)):Fn E H9 [.l r0,.l r1] (.i (-1)):=fnM (oB (bnT h1) (oT h2 oZ))
theorem q8v (h2:¬ (r0.length:Int)<(r1.length:Int)):Fn E H9 [.l r0,.l r1] (.i 1):=fnM (oB (bnT h1) (oU h2 oZ))
end
section
variable (e1:IntKind.i64.wrap ((r0.length:Int)-1)=i0)(h1:(r0.length:Int)=(r1.length:Int))
include e1 h1
theorem q8w (h2:Lp E 0 H9 0 (z1e r0 r1 i0) .ret (y1s i1)):Fn E H9 [.l r0,.l r1] (.i i1):=by subst e1;exact fnM (oC (bnF h1) (oL h2 oZ))
theorem q8x (h2:Lp E 0 H9 0 (z1e r0 r1 i0) (.exit 0) (y7a)):Fn E H9 [.l r0,.l r1] (.i 0):=by subst e1;exact fnM (oC (bnF h1) (oL h2 oZ))
end
def O1 (s0:BA) (i0:Int):St:=stOf 33 [(0,.s s0),(3,.i i0)] []
def z8h:St:=stOf 33 [(2,.b false)] []
def z4g (s0:BA):St:=stOf 33 [(0,.s s0)] []
section
variable (e1:((s0.data.toList.getD (Int.toNat i0) 0).toNat:Int)=i1)
include e1
theorem y8r (e2:IntKind.i64.wrap (i0+1)=i2)(h1:i0<(s0.size:Int))(h2:0≤i0∧i0<s0.size)(h3:¬ i1<48)(h4:¬ i1>57)(ih:Lp E 0 F4 0 (O1 s0 i2) o t):Lp E 0 F4 0 (O1 s0 i0) o t:=by subst e1 e2;exact lpM (oT h1 (oP h2 (oU h3 (oP h2 (oU h4 oZ))))) ih
section
variable (h1:i0<(s0.size:Int))(h2:0≤i0∧i0<s0.size)
include h1 h2
theorem k1b (h3:i1<48):Lp E 0 F4 0 (O1 s0 i0) .ret (z8h):=by subst e1;exact lpX (oT h1 (oP h2 (oT h3 oZ)))
theorem k1c (h3:¬ i1<48)(h4:i1>57):Lp E 0 F4 0 (O1 s0 i0) .ret (z8h):=by subst e1;exact lpX (oT h1 (oP h2 (oU h3 (oP h2 (oT h4 oZ)))))
end
end
theorem k1d (h1:¬ i0<(s0.size:Int)):Lp E 0 F4 0 (O1 s0 i0) (.exit 0) (z4g s0):=lpX (oU h1 oZ)
theorem j9h (h1:Lp E 0 F4 0 (O1 s0 0) .ret (z8h)):Fn E F4 [.s s0] (.b false):=fnM (oL h1 oZ)
theorem j9i (h1:Lp E 0 F4 0 (O1 s0 0) (.exit 0) (z4g s0))(h2:(s0.size:Int)=1):Fn E F4 [.s s0] (.b true):=fnM (oL h1 (oB (beT h2) oZ))
section
variable (e1:((s0.data.toList.getD 0 0).toNat:Int)=i0)(h1:Lp E 0 F4 0 (O1 s0 0) (.exit 0) (z4g s0))(h2:¬ (s0.size:Int)=1)(h3:(s0.size:Int)>1)(h4:0≤(0:Int)∧(0:Int)<s0.size)
include e1 h1 h2 h3 h4
theorem j9j (h5:¬ i0=48):Fn E F4 [.s s0] (.b true):=by subst e1;exact fnM (oL h1 (oC (beF h2) (oT h3 (oP h4 (oB (bnT h5) oZ)))))
theorem j9k (h5:i0=48):Fn E F4 [.s s0] (.b false):=by subst e1;exact fnM (oL h1 (oC (beF h2) (oT h3 (oP h4 (oC (bnF h5) oZ)))))
end
theorem j9l (h1:Lp E 0 F4 0 (O1 s0 0) (.exit 0) (z4g s0))(h2:¬ (s0.size:Int)=1)(h3:¬ (s0.size:Int)>1):Fn E F4 [.s s0] (.b false):=fnM (oL h1 (oC (beF h2) (oU h3 oZ)))
def z7m (s0:BA) (n0:Nat) (i0 i1 i2:Int) (r0:RW):St:=stOf 35 [(0,.s s0),(3,.vec 0 n0),(4,.i i0),(5,.w i1),(6,.i i2)] [sV A0 r0]
def y2y (s0:BA) (n0:Nat) (i0:Int) (r0:RW) (i3:Int):St:=stOf 35 [(0,.s s0),(3,.vec 0 n0),(4,.i i0),(5,.w i3)] [sV A0 r0]
theorem k6q (e1:IntKind.u32.wrap (10*i1)=i4)(e2:((s0.data.toList.getD (Int.toNat i2) 0).toNat:Int)=i5)(e3:IntKind.u8.wrap (i5-48)=i6)(e4:IntKind.u32.wrap i6=i7)(e5:IntKind.u32.wrap (i4+i7)=i8)(e6:IntKind.i64.wrap (i2+1)=i9)(h1:i2<i0)(h2:0≤i2∧i2<s0.size)(ih:Lp E 1 I7 1 (z7m s0 n0 i0 i8 i9 r0) o t):Lp E 1 I7 1 (z7m s0 n0 i0 i1 i2 r0) o t:=by subst e1 e2 e3 e4 e5 e6;exact lpM (oT h1 (oP h2 oZ)) ih
theorem k0x (h1:¬ i2<i0):Lp E 1 I7 1 (z7m s0 n0 i0 i1 i2 r0) (.exit 2) (y2y s0 n0 i0 r0 i1):=lpX (oU h1 oZ)
def z9c (s0:BA) (n0:Nat) (i0:Int) (r0:RW):St:=stOf 35 [(0,.s s0),(3,.vec 0 n0),(4,.i i0)] [sV A0 r0]
def y5a (n1:Nat) (r1:RW):St:=stOf 35 [(3,.vec 0 n1)] [sV A0 r1]
theorem k9g (e1:IntKind.i64.wrap (i0-9)=i1)(e2:(if i1>0 then i1 else 0)=i2)(e3:(r0.take n0)++[[.w i3]]=r2)(e4:n0+1=n2)(h1:i0>0)(h2:Lp E 1 I7 1 (z7m s0 n0 i0 0 i2 r0) (.exit 2) (y2y s0 n0 i0 r0 i3))(h3:(n0+1)*4≤140737488355328∧n0+1≤140737488355328)(ih:Lp E 0 I7 0 (z9c s0 n2 i1 r2) o t):Lp E 0 I7 0 (z9c s0 n0 i0 r0) o t:=by subst e1 e2 e3 e4;exact lpM (oT h1 (oL h2 (oP (show ∀ y∈([[.w i3]]:RW),y.length=1 from by simp) (oP h3 oZ)))) ih
theorem k3o (h1:¬ i0>0):Lp E 0 I7 0 (z9c s0 n0 i0 r0) (.exit 0) (y5a n0 r0):=lpX (oU h1 oZ)
theorem q5d (e1:(r0.take n1)=r1)(h1:Lp E 0 I7 0 (z9c s0 0 (s0.size:Int) []) (.exit 0) (y5a n0 r0))(h2:Rn E H3 [.vec 0 n0] [sV A0 r0] (.vec 0 n1) [sV A0 r0]):Fn E I7 [.s s0] (.l r1):=by subst e1;exact fnM (oM [(3,A0)] h1 (oR h2 oZ))
def z5x (i0 i1:Int):St:=stOf 41 [(5,.c (.u64 i0)),(6,.c (.u64 i1))] []
def y1v (i2:Int):St:=stOf 41 [(5,.c (.u64 i2))] []
theorem k3n (e1:Int.tmod i0 i1=i3)(h1:¬ i1=0)(h2:i1≠0)(ih:Lp E 0 G0 1 (z5x i1 i3) o t):Lp E 0 G0 1 (z5x i0 i1) o t:=by subst e1;exact lpM (oB (bnT h1) (oP h2 oZ)) ih
theorem x8d (h1:i1=0):Lp E 0 G0 1 (z5x i0 i1) (.exit 2) (y1v i0):=lpX (oC (bnF h1) oZ)
def O4 (r0 r1:RW):St:=stOf 41 [(0,.l r0),(1,.l r1)] []
def y1t (r2:RW):St:=stOf 41 [(4,.l r2)] []
def y1u (r3:RW):St:=stOf 41 [(0,.l r3)] []
section
variable (h1:(r1.length:Int)>0)
include h1
theorem y7b (h2:(r0.length:Int)≤2)(h3:¬ (r1.length:Int)≤2)(h4:Fn E G1 [.l r0,.l r1] (.tup [.l r4,.l r5]))(ih:Lp E 0 G0 0 (O4 r1 r5) o t):Lp E 0 G0 0 (O4 r0 r1) o t:=lpM (oT h1 (oT h2 (oU h3 (oF h4 oZ)))) ih
theorem y7c (h2:¬ (r0.length:Int)≤2)(h3:Fn E G1 [.l r0,.l r1] (.tup [.l r4,.l r5]))(ih:Lp E 0 G0 0 (O4 r1 r5) o t):Lp E 0 G0 0 (O4 r0 r1) o t:=lpM (oT h1 (oU h2 (oF h3 oZ))) ih
theorem x8b (h2:(r0.length:Int)≤2)(h3:(r1.length:Int)≤2)(h4:Fn E z1a [.l r0] (.c (.u64 i0)))(h5:Fn E z1a [.l r1] (.c (.u64 i1)))(h6:Lp E 0 G0 1 (z5x i0 i1) (.exit 2) (y1v i2))(h7:Fn E x2a [.c (.u64 i2)] (.l r6)):Lp E 0 G0 0 (O4 r0 r1) .ret (y1t r6):=lpX (oT h1 (oT h2 (oT h3 (oF h4 (oF h5 (oL h6 (oF h7 oZ)))))))
end
theorem x8c (h1:¬ (r1.length:Int)>0):Lp E 0 G0 0 (O4 r0 r1) (.exit 0) (y1u r0):=lpX (oU h1 oZ)
theorem j6k (h1:Lp E 0 G0 0 (O4 r0 r1) .ret (y1t r2)):Fn E G0 [.l r0,.l r1] (.l r2):=fnM (oL h1 oZ)
theorem j6l (h1:Lp E 0 G0 0 (O4 r0 r1) (.exit 0) (y1u r2)):Fn E G0 [.l r0,.l r1] (.l r2):=fnM (oL h1 oZ)
def z6l (n0:Nat) (r0:RW):St:=stOf 21 [(0,.vec 0 n0)] [sV A0 r0]
def z9l (r0:RW) (n1:Nat):St:=stOf 21 [(0,.vec 0 n1)] [sV A0 r0]
section
variable (e1:IntKind.i64.wrap (((n0:Nat):Int)-1)=i0)
include e1
theorem k9q (e2:(Int.toNat i0)=n2)(h1:((n0:Nat):Int)>0)(h2:0≤i0∧i0<((n0:Nat):Int))(h3:r0[(Int.toNat i0)]?=some [.w i1])(h4:i1=0)(h5:0≤i0∧i0≤((n0:Nat):Int))(ih:Lp E 1 H3 0 (z6l n2 r0) o t):Lp E 1 H3 0 (z6l n0 r0) o t:=by subst e1 e2;exact lpM (oT h1 (oP h2 (oD h3 (oB (beT h4) (oP h5 oZ))))) ih
theorem k3w (h1:((n0:Nat):Int)>0)(h2:0≤i0∧i0<((n0:Nat):Int))(h3:r0[(Int.toNat i0)]?=some [.w i1])(h4:¬ i1=0):Lp E 1 H3 0 (z6l n0 r0) (.exit 0) (z9l r0 n0):=by subst e1;exact lpX (oT h1 (oP h2 (oD h3 (oC (beF h4) oZ))))
end
theorem k3x (h1:¬ ((n0:Nat):Int)>0):Lp E 1 H3 0 (z6l n0 r0) (.exit 0) (z9l r0 n0):=lpX (oU h1 oZ)
theorem q5i (h1:Lp E 1 H3 0 (z6l n0 r0) (.exit 0) (z9l r0 n1)):Rn E H3 [.vec 0 n0] [sV A0 r0] (.vec 0 n1) [sV A0 r0]:=rnM (oL h1 oZ)
def Z0 (i0:Int) (r0 r1:RW) (n0 n1:Nat) (i1 i2 i3:Int) (r2 r3 r4:RW):St:=stOf 176 [(8,.i i0),(9,.l r0),(10,.l r1),(11,.vec 3 n0),(12,.vec 4 n1),(13,.i i1),(15,.c (.u64 i2)),(16,.c (.u64 i3))] [some .dead,some .dead,sV A0 r2,sV A0 r3,sV A0 r4]
def z5y (i0:Int) (r0 r1:RW) (n0 n1:Nat) (i1:Int) (r2 r3 r4:RW) (i4:Int):St:=stOf 176 [(8,.i i0),(9,.l r0),(10,.l r1),(11,.vec 3 n0),(12,.vec 4 n1),(13,.i i1),(15,.c (.u64 i4))] [some .dead,some .dead,sV A0 r2,sV A0 r3,sV A0 r4]
theorem k9i (e1:IntKind.u64.wrap (i2-1)=i5)(e2:IntKind.i64.wrap (i0-1)=i6)(e3:IntKind.u64.wrap i7=i8)(e4:IntKind.u64.wrap (i3+i8)=i9)(h1:i3<1000000000)(h2:i2≥1000000000)(h3:0≤i6)(h4:r1[(Int.toNat i6)]?=some [.w i7])(ih:Lp E 5 G1 1 (Z0 i0 r0 r1 n0 n1 i1 i5 i9 r2 r3 r4) o t):Lp E 5 G1 1 (Z0 i0 r0 r1 n0 n1 i1 i2 i3 r2 r3 r4) o t:=by subst e1 e2 e3 e4;exact lpM (oT h1 (oT h2 (oP h3 (oD h4 oZ)))) ih
section
variable (e1:IntKind.i64.wrap (i0-2)=i5)(e2:IntKind.u64.wrap i6=i7)(e3:IntKind.u64.wrap (i2*i7)=i8)(e4:IntKind.u64.wrap (i3*1000000000)=i9)(e5:IntKind.i64.wrap (i1+i0)=i10)(e6:IntKind.i64.wrap (i10-2)=i11)(e7:IntKind.u64.wrap i12=i13)(e8:IntKind.u64.wrap (i9+i13)=i14)
include e1 e2 e3 e4 e5 e6 e7 e8
theorem k9j (e9:IntKind.u64.wrap (i2-1)=i15)(e10:IntKind.i64.wrap (i0-1)=i16)(e11:IntKind.u64.wrap i17=i18)(e12:IntKind.u64.wrap (i3+i18)=i19)(h1:i3<1000000000)(h2:¬ i2≥1000000000)(h3:0≤i5)(h4:r1[(Int.toNat i5)]?=some [.w i6])(h5:0≤i11∧i11<((n0:Nat):Int))(h6:r3[(Int.toNat i11)]?=some [.w i12])(h7:i8>i14)(h8:0≤i16)(h9:r1[(Int.toNat i16)]?=some [.w i17])(ih:Lp E 5 G1 1 (Z0 i0 r0 r1 n0 n1 i1 i15 i19 r2 r3 r4) o t):Lp E 5 G1 1 (Z0 i0 r0 r1 n0 n1 i1 i2 i3 r2 r3 r4) o t:=by subst e1 e2 e3 e4 e5 e6 e7 e8 e9 e10 e11 e12;exact lpM (oT h1 (oU h2 (oP h3 (oD h4 (oP h5 (oD h6 (oT h7 (oP h8 (oD h9 oZ))))))))) ih
theorem k3q (h1:i3<1000000000)(h2:¬ i2≥1000000000)(h3:0≤i5)(h4:r1[(Int.toNat i5)]?=some [.w i6])(h5:0≤i11∧i11<((n0:Nat):Int))(h6:r3[(Int.toNat i11)]?=some [.w i12])(h7:¬ i8>i14):Lp E 5 G1 1 (Z0 i0 r0 r1 n0 n1 i1 i2 i3 r2 r3 r4) (.exit 2) (z5y i0 r0 r1 n0 n1 i1 r2 r3 r4 i2):=by subst e1 e2 e3 e4 e5 e6 e7 e8;exact lpX (oT h1 (oU h2 (oP h3 (oD h4 (oP h5 (oD h6 (oU h7 oZ)))))))
end
theorem k3r (h1:¬ i3<1000000000):Lp E 5 G1 1 (Z0 i0 r0 r1 n0 n1 i1 i2 i3 r2 r3 r4) (.exit 2) (z5y i0 r0 r1 n0 n1 i1 r2 r3 r4 i2):=lpX (oU h1 oZ)
def z9d (i0:Int) (r0 r1:RW) (n0 n1:Nat) (i1:Int) (r2 r3 r4:RW):St:=stOf 176 [(8,.i i0),(9,.l r0),(10,.l r1),(11,.vec 3 n0),(12,.vec 4 n1),(13,.i i1)] [some .dead,some .dead,sV A0 r2,sV A0 r3,sV A0 r4]
def y5b (i0:Int) (r0:RW) (n0 n1:Nat) (r2 r5 r6:RW):St:=stOf 176 [(8,.i i0),(9,.l r0),(11,.vec 3 n0),(12,.vec 4 n1)] [some .dead,some .dead,sV A0 r2,sV A0 r5,sV A0 r6]
theorem k9h (e1:IntKind.i64.wrap (i1+i0)=i2)(e2:IntKind.u64.wrap i3=i4)(e3:IntKind.u64.wrap (i4*1000000000)=i5)(e4:IntKind.i64.wrap (i2-1)=i6)(e5:IntKind.u64.wrap i7=i8)(e6:IntKind.u64.wrap (i5+i8)=i9)(e7:IntKind.i64.wrap (i0-1)=i10)(e8:IntKind.u64.wrap i11=i12)(e9:IntKind.u64.wrap (Int.tdiv i9 i12)=i13)(e10:Int.tmod i9 i12=i14)(e11:List.set r4 (Int.toNat i1) [.w i16]=r8)(e12:IntKind.i64.wrap (i1-1)=i18)(h1:i1≥0)(h2:0≤i2∧i2<((n0:Nat):Int))(h3:r3[(Int.toNat i2)]?=some [.w i3])(h4:0≤i6∧i6<((n0:Nat):Int))(h5:r3[(Int.toNat i6)]?=some [.w i7])(h6:0≤i10)(h7:r1[(Int.toNat i10)]?=some [.w i11])(h8:i12≠0)(h9:Lp E 5 G1 1 (Z0 i0 r0 r1 n0 n1 i1 i13 i14 r2 r3 r4) (.exit 2) (z5y i0 r0 r1 n0 n1 i1 r2 r3 r4 i15))(h10:Rn E D6 [.vec 3 n0,.l r1,.i i1,.c (.u64 i15)] [some .dead,some .dead,sV A0 r2,sV A0 r3,sV A0 r4] (.w i16) [some .dead,some .dead,sV A0 r2,sV A0 r7,sV A0 r4])(h11:0≤i1∧i1<((n1:Nat):Int))(h12:r4[(Int.toNat i1)]?=some [.w i17])(ih:Lp E 5 G1 0 (z9d i0 r0 r1 n0 n1 i18 r2 r7 r8) o t):Lp E 5 G1 0 (z9d i0 r0 r1 n0 n1 i1 r2 r3 r4) o t:=by subst e1 e2 e3 e4 e5 e6 e7 e8 e9 e10 e11 e12;exact lpM (oT h1 (oP h2 (oD h3 (oP h4 (oD h5 (oP h6 (oD h7 (oP h8 (oP h6 (oD h7 (oP h8 (oL h9 (oV h10 (oP h11 (oD h12 oZ))))))))))))))) ih
theorem k3p (h1:¬ i1≥0):Lp E 5 G1 0 (z9d i0 r0 r1 n0 n1 i1 r2 r3 r4) (.exit 0) (y5b i0 r0 n0 n1 r2 r3 r4):=lpX (oU h1 oZ)
section
variable (h1:Fn E H9 [.l r0,.l r1] (.i i0))
include h1
theorem q5e (h2:i0<0):Fn E G1 [.l r0,.l r1] (.tup [.l [],.l r0]):=fnM (oF h1 (oT h2 oZ))
theorem q5f (h2:¬ i0<0)(h3:(r1.length:Int)=1)(h4:r1[0]?=some [.w i1])(h5:Fn E Y7 [.l r0,.w i1] (.tup [.l r2,.w i2]))(h6:Fn E z1g [.w i2] (.l r3)):Fn E G1 [.l r0,.l r1] (.tup [.l r2,.l r3]):=fnM (oF h1 (oU h2 (oB (beT h3) (oP (show (0:Int)≤0 from by decide) (oD h4 (oF h5 (oF h6 oZ)))))))
end
theorem q5g (e1:IntKind.i64.wrap ((r1.length:Int)-1)=i1)(e2:IntKind.i64.wrap i3=i2)(e3:IntKind.i64.wrap (i2+1)=i4)(e4:IntKind.i64.wrap (Int.tdiv 1000000000 i4)=i5)(e5:IntKind.u32.wrap i5=i6)(e6:(([]:RW).take 0)++r6=r7)(e7:0+r6.length=n0)(e8:(r7.take n0)++[[.w 0],[.w 0]]=r8)(e9:n0+2=n1)(e10:IntKind.i64.wrap ((r0.length:Int)+1)=i7)(e11:(if ((n2:Nat):Int)>i7 then ((n2:Nat):Int) else i7)=i8)(e12:(Int.toNat i8)=n3)(e13:IntKind.i64.wrap (((n3:Nat):Int)-(r1.length:Int))=i9)(e14:Int.toNat i9=n4)(e15:List.replicate n4 [.w 0]=r9)(e16:IntKind.i64.wrap (i9-1)=i10)(e17:(Int.toNat (r1.length:Int))=n5)(e18:(r10.take n6)=r12)(e19:(r11.take n7)=r14)(h1:Fn E H9 [.l r0,.l r1] (.i i0))(h2:¬ i0<0)(h3:¬ (r1.length:Int)=1)(h4:0≤i1)(h5:r1[(Int.toNat i1)]?=some [.w i3])(h6:i4≠0)(h7:Fn E z1g [.w i6] (.l r4))(h8:Fn E F8 [.l r1,.l r4] (.l r5))(h9:Fn E F8 [.l r0,.l r4] (.l r6))(h10:∀ y∈r6,y.length=1)(h11:(0+r6.length)*4≤140737488355328∧0+r6.length≤140737488355328)(h12:(n0+2)*4≤140737488355328∧n0+2≤140737488355328)(h13:Rn E H3 [.vec 3 n1] [some .dead,some .dead,sV A0 [[.w 0],[.w 0]],sV A0 r8] (.vec 3 n2) [some .dead,some .dead,sV A0 [[.w 0],[.w 0]],sV A0 r8])(h14:0≤i8∧i8≤((n1:Nat):Int))(h15:0≤i9∧i9≤i9∧(Int.toNat i9)*4≤140737488355328∧(Int.toNat i9)≤140737488355328)(h16:Lp E 5 G1 0 (z9d (r1.length:Int) r4 r5 n3 n4 i10 [[.w 0],[.w 0]] r8 r9) (.exit 0) (y5b (r1.length:Int) r4 n3 n4 [[.w 0],[.w 0]] r10 r11))(h17:0≤(r1.length:Int)∧(r1.length:Int)≤((n3:Nat):Int))(h18:Rn E H3 [.vec 3 n5] [some .dead,some .dead,sV A0 [[.w 0],[.w 0]],sV A0 r10,sV A0 r11] (.vec 3 n6) [some .dead,some .dead,sV A0 [[.w 0],[.w 0]],sV A0 r10,sV A0 r11])(h19:r4[0]?=some [.w i11])(h20:Fn E Y7 [.l r12,.w i11] (.tup [.l r13,.w i12]))(h21:Rn E H3 [.vec 4 n4] [some .dead,some .dead,sV A0 [[.w 0],[.w 0]],sF r10,sV A0 r11] (.vec 4 n7) [some .dead,some .dead,sV A0 [[.w 0],[.w 0]],sF r10,sV A0 r11]):Fn E G1 [.l r0,.l r1] (.tup [.l r14,.l r13]):=by subst e1 e2 e3 e4 e5 e6 e7 e8 e9 e10 e11 e12 e13 e14 e15 e16 e17 e18 e19;exact fnM (oF h1 (oU h2 (oC (beF h3) (oP h4 (oD h5 (oP h6 (oF h7 (oF h8 (oF h9 (oP h10 (oP h11 (oP (show ∀ y∈([[.w 0],[.w 0]]:RW),y.length=1 from by simp) (oP h12 (oR h13 (oP h14 (oP h15 (oL h16 (oP h17 (oR h18 (oP (show (0:Int)≤0 from by decide) (oD h19 (oF h20 (oR h21 oZ)))))))))))))))))))))))
def P8 (r0 r1:RW) (n0:Nat) (i0 i1:Int) (r2:RW):St:=stOf 55 [(0,.l r0),(1,.l r1),(5,.vec 0 n0),(6,.w i0),(7,.i i1)] [sV A0 r2]
def y5c (n1:Nat) (r3:RW):St:=stOf 55 [(5,.vec 0 n1)] [sV A0 r3]
section
variable (e1:IntKind.u32.wrap (i0+i2)=i3)
include e1
theorem k9k (e2:IntKind.u32.wrap (i3+i4)=i5)(e3:Int.tmod i5 1000000000=i6)(e4:(r2.take n0)++[[.w i6]]=r4)(e5:n0+1=n2)(e6:IntKind.u32.wrap (Int.tdiv i5 1000000000)=i7)(e7:IntKind.i64.wrap (i1+1)=i8)(h1:i1<(r0.length:Int))(h2:0≤i1)(h3:r0[(Int.toNat i1)]?=some [.w i2])(h4:i1<(r1.length:Int))(h5:r1[(Int.toNat i1)]?=some [.w i4])(h6:(n0+1)*4≤140737488355328∧n0+1≤140737488355328)(ih:Lp E 0 N7 0 (P8 r0 r1 n2 i7 i8 r4) o t):Lp E 0 N7 0 (P8 r0 r1 n0 i0 i1 r2) o t:=by subst e1 e2 e3 e4 e5 e6 e7;exact lpM (oT h1 (oT h1 (oP h2 (oD h3 (oT h4 (oP h2 (oD h5 (oP (show (1000000000:Int)≠0 from by decide) (oP (show ∀ y∈([[.w (Int.tmod (IntKind.u32.wrap ((IntKind.u32.wrap (i0+i2))+i4)) 1000000000)]]:RW),y.length=1 from by simp) (oP h6 (oP (show (1000000000:Int)≠0 from by decide) oZ))))))))))) ih
section
variable (e2:Int.tmod i3 1000000000=i4)(e3:(r2.take n0)++[[.w i4]]=r5)(e4:n0+1=n3)(e5:IntKind.u32.wrap (Int.tdiv i3 1000000000)=i9)(e6:IntKind.i64.wrap (i1+1)=i10)
include e2 e3 e4 e5 e6
theorem k9l (h1:i1<(r0.length:Int))(h2:0≤i1)(h3:r0[(Int.toNat i1)]?=some [.w i2])(h4:¬ i1<(r1.length:Int))(h5:(n0+1)*4≤140737488355328∧n0+1≤140737488355328)(ih:Lp E 0 N7 0 (P8 r0 r1 n3 i9 i10 r5) o t):Lp E 0 N7 0 (P8 r0 r1 n0 i0 i1 r2) o t:=by subst e1 e2 e3 e4 e5 e6;exact lpM (oT h1 (oT h1 (oP h2 (oD h3 (oU h4 (oP (show (1000000000:Int)≠0 from by decide) (oP (show ∀ y∈([[.w (Int.tmod (IntKind.u32.wrap (i0+i2)) 1000000000)]]:RW),y.length=1 from by simp) (oP h5 (oP (show (1000000000:Int)≠0 from by decide) oZ))))))))) ih
theorem k9m (h1:¬ i1<(r0.length:Int))(h2:i1<(r1.length:Int))(h3:0≤i1)(h4:r1[(Int.toNat i1)]?=some [.w i2])(h5:(n0+1)*4≤140737488355328∧n0+1≤140737488355328)(ih:Lp E 0 N7 0 (P8 r0 r1 n3 i9 i10 r5) o t):Lp E 0 N7 0 (P8 r0 r1 n0 i0 i1 r2) o t:=by subst e1 e2 e3 e4 e5 e6;exact lpM (oU h1 (oT h2 (oU h1 (oT h2 (oP h3 (oD h4 (oP (show (1000000000:Int)≠0 from by decide) (oP (show ∀ y∈([[.w (Int.tmod (IntKind.u32.wrap (i0+i2)) 1000000000)]]:RW),y.length=1 from by simp) (oP h5 (oP (show (1000000000:Int)≠0 from by decide) oZ)))))))))) ih
end
end
theorem k9n (e1:Int.tmod i0 1000000000=i2)(e2:(r2.take n0)++[[.w i2]]=r6)(e3:n0+1=n4)(e4:IntKind.u32.wrap (Int.tdiv i0 1000000000)=i5)(e5:IntKind.i64.wrap (i1+1)=i6)(h1:¬ i1<(r0.length:Int))(h2:¬ i1<(r1.length:Int))(h3:i0>0)(h4:(n0+1)*4≤140737488355328∧n0+1≤140737488355328)(ih:Lp E 0 N7 0 (P8 r0 r1 n4 i5 i6 r6) o t):Lp E 0 N7 0 (P8 r0 r1 n0 i0 i1 r2) o t:=by subst e1 e2 e3 e4 e5;exact lpM (oU h1 (oU h2 (oT h3 (oU h1 (oU h2 (oP (show (1000000000:Int)≠0 from by decide) (oP (show ∀ y∈([[.w (Int.tmod i0 1000000000)]]:RW),y.length=1 from by simp) (oP h4 (oP (show (1000000000:Int)≠0 from by decide) oZ))))))))) ih
theorem k3s (h1:¬ i1<(r0.length:Int))(h2:¬ i1<(r1.length:Int))(h3:¬ i0>0):Lp E 0 N7 0 (P8 r0 r1 n0 i0 i1 r2) (.exit 0) (y5c n0 r2):=lpX (oU h1 (oU h2 (oU h3 oZ)))
theorem q5h (e1:(r2.take n1)=r3)(h1:Lp E 0 N7 0 (P8 r0 r1 0 0 0 []) (.exit 0) (y5c n0 r2))(h2:Rn E H3 [.vec 0 n0] [sV A0 r2] (.vec 0 n1) [sV A0 r2]):Fn E N7 [.l r0,.l r1] (.l r3):=by subst e1;exact fnM (oM [(5,A0)] h1 (oR h2 oZ))
def J4 (r0 r1:RW) (n0:Nat) (i0 i1:Int) (r2:RW):St:=stOf 44 [(0,.l r0),(1,.l r1),(5,.vec 0 n0),(6,.i i0),(7,.i i1)] [sV A0 r2]
def z8g (n1:Nat) (r3:RW):St:=stOf 44 [(5,.vec 0 n1)] [sV A0 r3]
section
variable (e1:IntKind.i64.wrap i2=i3)(e2:IntKind.i64.wrap (i3-i0)=i4)
include e1 e2
section
variable (e3:IntKind.i64.wrap i5=i6)(e4:IntKind.i64.wrap (i4-i6)=i7)
include e3 e4
theorem k6r (e5:IntKind.i64.wrap (i7+1000000000)=i8)(e6:IntKind.u32.wrap i8=i9)(e7:(r2.take n0)++[[.w i9]]=r4)(e8:n0+1=n2)(e9:IntKind.i64.wrap (i1+1)=i10)(h1:i1<(r0.length:Int))(h2:0≤i1)(h3:r0[(Int.toNat i1)]?=some [.w i2])(h4:i1<(r1.length:Int))(h5:r1[(Int.toNat i1)]?=some [.w i5])(h6:i7<0)(h7:(n0+1)*4≤140737488355328∧n0+1≤140737488355328)(ih:Lp E 0 G8 0 (J4 r0 r1 n2 1 i10 r4) o t):Lp E 0 G8 0 (J4 r0 r1 n0 i0 i1 r2) o t:=by subst e1 e2 e3 e4 e5 e6 e7 e8 e9;exact lpM (oT h1 (oP h2 (oD h3 (oT h4 (oP h2 (oD h5 (oT h6 (oP (show ∀ y∈([[.w (IntKind.u32.wrap (IntKind.i64.wrap ((IntKind.i64.wrap ((IntKind.i64.wrap ((IntKind.i64.wrap i2)-i0))-(IntKind.i64.wrap i5)))+1000000000)))]]:RW),y.length=1 from by simp) (oP h7 oZ))))))))) ih
theorem k6s (e5:IntKind.u32.wrap i7=i8)(e6:(r2.take n0)++[[.w i8]]=r5)(e7:n0+1=n3)(e8:IntKind.i64.wrap (i1+1)=i11)(h1:i1<(r0.length:Int))(h2:0≤i1)(h3:r0[(Int.toNat i1)]?=some [.w i2])(h4:i1<(r1.length:Int))(h5:r1[(Int.toNat i1)]?=some [.w i5])(h6:¬ i7<0)(h7:(n0+1)*4≤140737488355328∧n0+1≤140737488355328)(ih:Lp E 0 G8 0 (J4 r0 r1 n3 0 i11 r5) o t):Lp E 0 G8 0 (J4 r0 r1 n0 i0 i1 r2) o t:=by subst e1 e2 e3 e4 e5 e6 e7 e8;exact lpM (oT h1 (oP h2 (oD h3 (oT h4 (oP h2 (oD h5 (oU h6 (oP (show ∀ y∈([[.w (IntKind.u32.wrap (IntKind.i64.wrap ((IntKind.i64.wrap ((IntKind.i64.wrap i2)-i0))-(IntKind.i64.wrap i5))))]]:RW),y.length=1 from by simp) (oP h7 oZ))))))))) ih
end
theorem k6t (e3:IntKind.i64.wrap (i4+1000000000)=i5)(e4:IntKind.u32.wrap i5=i6)(e5:(r2.take n0)++[[.w i6]]=r6)(e6:n0+1=n4)(e7:IntKind.i64.wrap (i1+1)=i9)(h1:i1<(r0.length:Int))(h2:0≤i1)(h3:r0[(Int.toNat i1)]?=some [.w i2])(h4:¬ i1<(r1.length:Int))(h5:i4<0)(h6:(n0+1)*4≤140737488355328∧n0+1≤140737488355328)(ih:Lp E 0 G8 0 (J4 r0 r1 n4 1 i9 r6) o t):Lp E 0 G8 0 (J4 r0 r1 n0 i0 i1 r2) o t:=by subst e1 e2 e3 e4 e5 e6 e7;exact lpM (oT h1 (oP h2 (oD h3 (oU h4 (oT h5 (oP (show ∀ y∈([[.w (IntKind.u32.wrap (IntKind.i64.wrap ((IntKind.i64.wrap ((IntKind.i64.wrap i2)-i0))+1000000000)))]]:RW),y.length=1 from by simp) (oP h6 oZ))))))) ih
theorem k6u (e3:IntKind.u32.wrap i4=i5)(e4:(r2.take n0)++[[.w i5]]=r7)(e5:n0+1=n5)(e6:IntKind.i64.wrap (i1+1)=i8)(h1:i1<(r0.length:Int))(h2:0≤i1)(h3:r0[(Int.toNat i1)]?=some [.w i2])(h4:¬ i1<(r1.length:Int))(h5:¬ i4<0)(h6:(n0+1)*4≤140737488355328∧n0+1≤140737488355328)(ih:Lp E 0 G8 0 (J4 r0 r1 n5 0 i8 r7) o t):Lp E 0 G8 0 (J4 r0 r1 n0 i0 i1 r2) o t:=by subst e1 e2 e3 e4 e5 e6;exact lpM (oT h1 (oP h2 (oD h3 (oU h4 (oU h5 (oP (show ∀ y∈([[.w (IntKind.u32.wrap (IntKind.i64.wrap ((IntKind.i64.wrap i2)-i0)))]]:RW),y.length=1 from by simp) (oP h6 oZ))))))) ih
end
theorem k0y (h1:¬ i1<(r0.length:Int)):Lp E 0 G8 0 (J4 r0 r1 n0 i0 i1 r2) (.exit 0) (z8g n0 r2):=lpX (oU h1 oZ)
theorem j9c (e1:(r2.take n1)=r3)(h1:Lp E 0 G8 0 (J4 r0 r1 0 0 0 []) (.exit 0) (z8g n0 r2))(h2:Rn E H3 [.vec 0 n0] [sV A0 r2] (.vec 0 n1) [sV A0 r2]):Fn E G8 [.l r0,.l r1] (.l r3):=by subst e1;exact fnM (oM [(5,A0)] h1 (oR h2 oZ))
def z9e (r0:RW) (i0 i1:Int):St:=stOf 21 [(0,.l r0),(3,.c (.u64 i0)),(4,.i i1)] []
def y5d (i2:Int):St:=stOf 21 [(3,.c (.u64 i2))] []
theorem k9r (e1:IntKind.u64.wrap (i0*1000000000)=i3)(e2:IntKind.u64.wrap i4=i5)(e3:IntKind.u64.wrap (i3+i5)=i6)(e4:IntKind.i64.wrap (i1-1)=i7)(h1:i1≥0)(h2:0≤i1)(h3:r0[(Int.toNat i1)]?=some [.w i4])(ih:Lp E 0 z1a 0 (z9e r0 i6 i7) o t):Lp E 0 z1a 0 (z9e r0 i0 i1) o t:=by subst e1 e2 e3 e4;exact lpM (oT h1 (oP h2 (oD h3 oZ))) ih
theorem k3y (h1:¬ i1≥0):Lp E 0 z1a 0 (z9e r0 i0 i1) (.exit 0) (y5d i0):=lpX (oU h1 oZ)
theorem q5k (e1:IntKind.i64.wrap ((r0.length:Int)-1)=i0)(h1:Lp E 0 z1a 0 (z9e r0 0 i0) (.exit 0) (y5d i1)):Fn E z1a [.l r0] (.c (.u64 i1)):=by subst e1;exact fnM (oL h1 oZ)
theorem q5j (e1:Int.tmod i0 1000000000=i1)(e2:IntKind.u32.wrap i1=i2)(e3:IntKind.u64.wrap (Int.tdiv i0 1000000000)=i3)(e4:Int.tmod i3 1000000000=i4)(e5:IntKind.u32.wrap i4=i5)(e6:IntKind.u64.wrap (Int.tdiv i3 1000000000)=i6)(e7:IntKind.u32.wrap i6=i7)(e8:(([[.w i2],[.w i5],[.w i7]]:RW).take n0)=r0)(h1:Rn E H3 [.vec 0 3] [sV A0 [[.w i2],[.w i5],[.w i7]]] (.vec 0 n0) [sV A0 [[.w i2],[.w i5],[.w i7]]]):Fn E x2a [.c (.u64 i0)] (.l r0):=by subst e1 e2 e3 e4 e5 e6 e7 e8;exact fnM (oP (show (1000000000:Int)≠0 from by decide) (oP (show (1000000000:Int)≠0 from by decide) (oP (show (1000000000:Int)≠0 from by decide) (oP (show (1000000000:Int)≠0 from by decide) (oP (show (1000000000:Int)≠0 from by decide) (oR h1 oZ))))))
def z7p (r0:RW) (i0:Int) (n0:Nat) (i1 i2:Int) (r1:RW):St:=stOf 44 [(0,.l r0),(1,.w i0),(6,.vec 0 n0),(7,.c (.u64 i1)),(8,.i i2)] [sV A0 r1]
def y3b (n0:Nat) (i3:Int) (r2:RW):St:=stOf 44 [(6,.vec 0 n0),(7,.c (.u64 i3))] [sV A0 r2]
theorem k6z (e1:IntKind.u64.wrap (i1*1000000000)=i4)(e2:IntKind.u64.wrap i5=i6)(e3:IntKind.u64.wrap (i4+i6)=i7)(e4:IntKind.u64.wrap i0=i8)(e5:IntKind.u64.wrap (Int.tdiv i7 i8)=i9)(e6:IntKind.u32.wrap i9=i10)(e7:List.set r1 (Int.toNat i2) [.w i10]=r3)(e8:Int.tmod i7 i8=i12)(e9:IntKind.i64.wrap (i2-1)=i13)(h1:i2≥0)(h2:0≤i2)(h3:r0[(Int.toNat i2)]?=some [.w i5])(h4:i8≠0)(h5:0≤i2∧i2<((n0:Nat):Int))(h6:r1[(Int.toNat i2)]?=some [.w i11])(ih:Lp E 1 Y7 0 (z7p r0 i0 n0 i12 i13 r3) o t):Lp E 1 Y7 0 (z7p r0 i0 n0 i1 i2 r1) o t:=by subst e1 e2 e3 e4 e5 e6 e7 e8 e9;exact lpM (oT h1 (oP h2 (oD h3 (oP h4 (oP h5 (oD h6 (oP h4 oZ))))))) ih
theorem k1e (h1:¬ i2≥0):Lp E 1 Y7 0 (z7p r0 i0 n0 i1 i2 r1) (.exit 0) (y3b n0 i1 r1):=lpX (oU h1 oZ)
theorem j9m (e1:Int.toNat (r0.length:Int)=n0)(e2:List.replicate n0 [.w 0]=r1)(e3:IntKind.i64.wrap ((r0.length:Int)-1)=i1)(e4:IntKind.u32.wrap i2=i3)(e5:(r2.take n1)=r3)(h1:0≤(r0.length:Int)∧(r0.length:Int)≤(r0.length:Int)∧(Int.toNat (r0.length:Int))*4≤140737488355328∧(Int.toNat (r0.length:Int))≤140737488355328)(h2:Lp E 1 Y7 0 (z7p r0 i0 n0 0 i1 r1) (.exit 0) (y3b n0 i2 r2))(h3:Rn E H3 [.vec 0 n0] [sV A0 r2] (.vec 0 n1) [sV A0 r2]):Fn E Y7 [.l r0,.w i0] (.tup [.l r3,.w i3]):=by subst e1 e2 e3 e4 e5;exact fnM (oP h1 (oL h2 (oR h3 oZ)))
def M1 (n0:Nat) (r0:RW) (i0 i1 i2 i3 i4 i5:Int) (r1:RW):St:=stOf 136 [(0,.vec 0 n0),(1,.l r0),(2,.i i0),(3,.c (.u64 i1)),(9,.i i2),(10,.i i3),(11,.c (.u64 i4)),(12,.i i5)] [sV A0 r1]
def z0k (n0:Nat) (r0:RW) (i0 i1 i2 i6 i7:Int) (r2:RW):St:=stOf 136 [(0,.vec 0 n0),(1,.l r0),(2,.i i0),(3,.c (.u64 i1)),(9,.i i2),(10,.i i6),(11,.c (.u64 i7))] [sV A0 r2]
section
variable (e1:IntKind.u64.wrap i8=i9)(e2:IntKind.u64.wrap (i1*i9)=i10)(e3:IntKind.u64.wrap (i10+i4)=i11)(e4:IntKind.u64.wrap (Int.tdiv i11 1000000000)=i12)(e5:IntKind.i64.wrap (i0+i5)=i13)(e6:IntKind.i64.wrap i14=i15)(e7:Int.tmod i11 1000000000=i16)(e8:IntKind.i64.wrap i16=i17)(e9:IntKind.i64.wrap (i15-i17)=i18)(e10:IntKind.i64.wrap (i18-i3)=i19)
include e1 e2 e3 e4 e5 e6 e7 e8 e9 e10
theorem k3t (e11:IntKind.i64.wrap (i19+1000000000)=i20)(e12:IntKind.u32.wrap i20=i21)(e13:List.set r1 (Int.toNat i13) [.w i21]=r3)(e14:IntKind.i64.wrap (i5+1)=i22)(h1:i5<i2)(h2:0≤i5)(h3:r0[(Int.toNat i5)]?=some [.w i8])(h4:0≤i13∧i13<((n0:Nat):Int))(h5:r1[(Int.toNat i13)]?=some [.w i14])(h6:i19<0)(ih:Lp E 1 D6 0 (M1 n0 r0 i0 i1 i2 1 i12 i22 r3) o t):Lp E 1 D6 0 (M1 n0 r0 i0 i1 i2 i3 i4 i5 r1) o t:=by subst e1 e2 e3 e4 e5 e6 e7 e8 e9 e10 e11 e12 e13 e14;exact lpM (oT h1 (oP h2 (oD h3 (oP (show (1000000000:Int)≠0 from by decide) (oP h4 (oD h5 (oP (show (1000000000:Int)≠0 from by decide) (oT h6 (oP h4 (oD h5 oZ)))))))))) ih
theorem k3u (e11:IntKind.u32.wrap i19=i20)(e12:List.set r1 (Int.toNat i13) [.w i20]=r4)(e13:IntKind.i64.wrap (i5+1)=i23)(h1:i5<i2)(h2:0≤i5)(h3:r0[(Int.toNat i5)]?=some [.w i8])(h4:0≤i13∧i13<((n0:Nat):Int))(h5:r1[(Int.toNat i13)]?=some [.w i14])(h6:¬ i19<0)(ih:Lp E 1 D6 0 (M1 n0 r0 i0 i1 i2 0 i12 i23 r4) o t):Lp E 1 D6 0 (M1 n0 r0 i0 i1 i2 i3 i4 i5 r1) o t:=by subst e1 e2 e3 e4 e5 e6 e7 e8 e9 e10 e11 e12 e13;exact lpM (oT h1 (oP h2 (oD h3 (oP (show (1000000000:Int)≠0 from by decide) (oP h4 (oD h5 (oP (show (1000000000:Int)≠0 from by decide) (oU h6 (oP h4 (oD h5 oZ)))))))))) ih
end
theorem x8e (h1:¬ i5<i2):Lp E 1 D6 0 (M1 n0 r0 i0 i1 i2 i3 i4 i5 r1) (.exit 0) (z0k n0 r0 i0 i1 i2 i3 i4 r1):=lpX (oU h1 oZ)
def z2l (n0:Nat) (r0:RW) (i0 i1 i2 i3 i4:Int) (r1:RW):St:=stOf 136 [(0,.vec 0 n0),(1,.l r0),(2,.i i0),(3,.c (.u64 i1)),(9,.i i2),(16,.w i3),(17,.i i4)] [sV A0 r1]
def z6z (n0:Nat) (i0 i1 i2 i5:Int) (r2:RW):St:=stOf 136 [(0,.vec 0 n0),(2,.i i0),(3,.c (.u64 i1)),(9,.i i2),(16,.w i5)] [sV A0 r2]
theorem k3v (e1:IntKind.i64.wrap (i0+i4)=i6)(e2:IntKind.u32.wrap (i7+i8)=i9)(e3:IntKind.u32.wrap (i9+i3)=i10)(e4:Int.tmod i10 1000000000=i11)(e5:List.set r1 (Int.toNat i6) [.w i11]=r3)(e6:IntKind.u32.wrap (Int.tdiv i10 1000000000)=i12)(e7:IntKind.i64.wrap (i4+1)=i13)(h1:i4<i2)(h2:0≤i6∧i6<((n0:Nat):Int))(h3:r1[(Int.toNat i6)]?=some [.w i7])(h4:0≤i4)(h5:r0[(Int.toNat i4)]?=some [.w i8])(ih:Lp E 1 D6 1 (z2l n0 r0 i0 i1 i2 i12 i13 r3) o t):Lp E 1 D6 1 (z2l n0 r0 i0 i1 i2 i3 i4 r1) o t:=by subst e1 e2 e3 e4 e5 e6 e7;exact lpM (oT h1 (oP h2 (oD h3 (oP h4 (oD h5 (oP (show (1000000000:Int)≠0 from by decide) (oP h2 (oD h3 (oP (show (1000000000:Int)≠0 from by decide) oZ))))))))) ih
theorem x8f (h1:¬ i4<i2):Lp E 1 D6 1 (z2l n0 r0 i0 i1 i2 i3 i4 r1) (.exit 2) (z6z n0 i0 i1 i2 i3 r1):=lpX (oU h1 oZ)
section
variable (e1:IntKind.i64.wrap (i0+(r1.length:Int))=i4)(e2:IntKind.i64.wrap i5=i6)(e3:IntKind.i64.wrap i3=i7)(e4:IntKind.i64.wrap (i6-i7)=i8)(e5:IntKind.i64.wrap (i8-i2)=i9)
include e1 e2 e3 e4 e5
theorem j6o (e6:IntKind.u32.wrap i9=i10)(e7:List.set r2 (Int.toNat i4) [.w i10]=r3)(e8:IntKind.u32.wrap i1=i11)(h1:Lp E 1 D6 0 (M1 n0 r1 i0 i1 (r1.length:Int) 0 0 0 r0) (.exit 0) (z0k n0 r1 i0 i1 (r1.length:Int) i2 i3 r2))(h2:0≤i4∧i4<((n0:Nat):Int))(h3:r2[(Int.toNat i4)]?=some [.w i5])(h4:i9≥0):Rn E D6 [.vec 0 n0,.l r1,.i i0,.c (.u64 i1)] [sV A0 r0] (.w i11) [sV A0 r3]:=by subst e1 e2 e3 e4 e5 e6 e7 e8;exact rnM (oL h1 (oP h2 (oD h3 (oT h4 (oP h2 (oD h3 oZ))))))
theorem j6p (e6:IntKind.i64.wrap (i9+1000000000)=i10)(e7:IntKind.u32.wrap i10=i12)(e8:List.set r2 (Int.toNat i4) [.w i12]=r4)(e9:IntKind.u32.wrap (i14+i13)=i15)(e10:Int.tmod i15 1000000000=i16)(e11:List.set r5 (Int.toNat i4) [.w i16]=r6)(e12:IntKind.u64.wrap (i1-1)=i17)(e13:IntKind.u32.wrap i17=i18)(h1:Lp E 1 D6 0 (M1 n0 r1 i0 i1 (r1.length:Int) 0 0 0 r0) (.exit 0) (z0k n0 r1 i0 i1 (r1.length:Int) i2 i3 r2))(h2:0≤i4∧i4<((n0:Nat):Int))(h3:r2[(Int.toNat i4)]?=some [.w i5])(h4:¬ i9≥0)(h5:Lp E 1 D6 1 (z2l n0 r1 i0 i1 (r1.length:Int) 0 0 r4) (.exit 2) (z6z n0 i0 i1 (r1.length:Int) i13 r5))(h6:r5[(Int.toNat i4)]?=some [.w i14]):Rn E D6 [.vec 0 n0,.l r1,.i i0,.c (.u64 i1)] [sV A0 r0] (.w i18) [sV A0 r6]:=by subst e1 e2 e3 e4 e5 e6 e7 e8 e9 e10 e11 e12 e13;exact rnM (oL h1 (oP h2 (oD h3 (oU h4 (oP h2 (oD h3 (oL h5 (oP h2 (oD h6 (oP (show (1000000000:Int)≠0 from by decide) (oP h2 (oD h6 oZ))))))))))))
end
end Gev
namespace Gev
open Go Go.Proofs
variable {E:Env}
variable {r0 r1 r2 r3 r4 r5:RW} {i0 i1 i2:Int} {s0 s1:BA} {b0 b1 b2 b3:Bool}
theorem v1y (e1:(⟨#[45]⟩:BA)++s0=s1)(h1:Fn E G9 [.l r0] (.s s0))(h2:(⟨#[45]⟩:BA).size+s0.size≤9223372036854775807):Fn E y6o [.z true r0] (.s s1):=by subst e1;exact fnM (oF h1 (oP h2 oZ))
theorem v1z (h1:Fn E G9 [.l r0] (.s s0)):Fn E y6o [.z false r0] (.s s0):=fnM (oF h1 oZ)
theorem j9n (e1:IntKind.i64.wrap (0-i0)=i1)(e2:IntKind.u32.wrap i1=i2)(h1:i0<0)(h2:Fn E z1g [.w i2] (.l r0))(h3:Fn E I8 [.b true,.l r0] (.z b0 r1)):Fn E y3r [.i i0] (.z b0 r1):=by subst e1 e2;exact fnM (oT h1 (oF h2 (oF h3 oZ)))
theorem j9o (e1:IntKind.u32.wrap i0=i1)(h1:¬ i0<0)(h2:Fn E z1g [.w i1] (.l r2))(h3:Fn E I8 [.b false,.l r2] (.z b1 r3)):Fn E y3r [.i i0] (.z b1 r3):=by subst e1;exact fnM (oU h1 (oF h2 (oF h3 oZ)))
theorem j9p (e1:(!(b0 == b1))=b2)(h1:Fn E F8 [.l r0,.l r1] (.l r2))(h2:Fn E I8 [.b b2,.l r2] (.z b3 r3)):Fn E y9c [.z b0 r0,.z b1 r1] (.z b3 r3):=by subst e1;exact fnM (oK (oF h1 (oF h2 oZ)))
theorem q5o (h1:b0=b1)(h2:Fn E N7 [.l r0,.l r1] (.l r2))(h3:Fn E I8 [.b b0,.l r2] (.z b2 r3)):Fn E z8b [.z b0 r0,.z b1 r1] (.z b2 r3):=fnM (oB (beT h1) (oF h2 (oF h3 oZ)))
section
variable (h1:¬ b0=b1)(h2:Fn E H9 [.l r0,.l r1] (.i i0))
include h1 h2
theorem q5p (h3:i0≥0)(h4:Fn E G8 [.l r0,.l r1] (.l r4))(h5:Fn E I8 [.b b0,.l r4] (.z b3 r5)):Fn E z8b [.z b0 r0,.z b1 r1] (.z b3 r5):=fnM (oC (beF h1) (oF h2 (oT h3 (oF h4 (oF h5 oZ)))))
theorem q5q (h3:¬ i0≥0)(h4:Fn E G8 [.l r1,.l r0] (.l r4))(h5:Fn E I8 [.b b1,.l r4] (.z b3 r5)):Fn E z8b [.z b0 r0,.z b1 r1] (.z b3 r5):=fnM (oC (beF h1) (oF h2 (oU h3 (oF h4 (oF h5 oZ)))))
end
theorem q5l (h1:(r0.length:Int)>0):Fn E I8 [.b true,.l r0] (.z true r0):=fnM (oT h1 oZ)
theorem q5m (h1:¬ (r0.length:Int)>0):Fn E I8 [.b true,.l r0] (.z false r0):=fnM (oU h1 oZ)
theorem q5n:Fn E I8 [.b false,.l r0] (.z false r0):=fnM oZ
section
variable (e1:((s0.data.toList.getD 0 0).toNat:Int)=i0)
include e1
theorem j9q (e2:s0.extract 1 (Int.toNat (s0.size:Int))=s1)(h1:(s0.size:Int)>1)(h2:0≤(0:Int)∧(0:Int)<s0.size)(h3:i0=45)(h4:¬ s0=(⟨#[45,48]⟩:BA))(h5:0≤(1:Int)∧(1:Int)≤(s0.size:Int)∧(s0.size:Int)≤s0.size)(h6:Fn E F4 [.s s1] (.b b0)):Fn E Y8 [.s s0] (.b b0):=by subst e1 e2;exact fnM (oT h1 (oP h2 (oB (beT h3) (oB (snT h4) (oP h5 (oF h6 oZ))))))
section
variable (h1:(s0.size:Int)>1)(h2:0≤(0:Int)∧(0:Int)<s0.size)
include h1 h2
theorem j9r (h3:i0=45)(h4:s0=(⟨#[45,48]⟩:BA)):Fn E Y8 [.s s0] (.b false):=by subst e1;exact fnM (oT h1 (oP h2 (oB (beT h3) (oC (snF h4) oZ))))
theorem j9s (h3:¬ i0=45)(h4:Fn E F4 [.s s0] (.b b1)):Fn E Y8 [.s s0] (.b b1):=by subst e1;exact fnM (oT h1 (oP h2 (oC (beF h3) (oF h4 oZ))))
end
end
theorem k2d (h1:¬ (s0.size:Int)>1)(h2:Fn E F4 [.s s0] (.b b2)):Fn E Y8 [.s s0] (.b b2):=fnM (oU h1 (oF h2 oZ))
section
variable (e1:((s0.data.toList.getD 0 0).toNat:Int)=i0)
include e1
theorem q5r (e2:s0.extract 1 (Int.toNat (s0.size:Int))=s1)(h1:0≤(0:Int)∧(0:Int)<s0.size)(h2:i0=45)(h3:0≤(1:Int)∧(1:Int)≤(s0.size:Int)∧(s0.size:Int)≤s0.size)(h4:Fn E I7 [.s s1] (.l r0)):Fn E y0y [.s s0] (.z true r0):=by subst e1 e2;exact fnM (oP h1 (oB (beT h2) (oP h3 (oF h4 oZ))))
theorem q5s (h1:0≤(0:Int)∧(0:Int)<s0.size)(h2:¬ i0=45)(h3:Fn E I7 [.s s0] (.l r1)):Fn E y0y [.s s0] (.z false r1):=by subst e1;exact fnM (oP h1 (oC (beF h2) (oF h3 oZ)))
end
theorem j6q:Fn E z3v [.z true r0] (.i (-1)):=fnM oZ
theorem j6r (h1:(r0.length:Int)>0):Fn E z3v [.z false r0] (.i 1):=fnM (oT h1 oZ)
theorem j6s (h1:¬ (r0.length:Int)>0):Fn E z3v [.z false r0] (.i 0):=fnM (oU h1 oZ)
theorem k9s (h1:Fn E I8 [.b (!b0),.l r0] (.z b1 r1)):Fn E y2p [.z b0 r0] (.z b1 r1):=fnM (oF h1 oZ)
end Gev
namespace Gev
open Go Go.Proofs
variable {E:Env}
variable {o:Out} {t:St} {r0 r1 r2 r3 r4 r5 r6 r7 r8 r9 r10 r11 r12 r13:RW} {i0 i1 i2 i3:Int} {s0 s1 s2 s3 s4:BA} {b0 b1 b2 b3 b4 b5 b6 b7:Bool}
theorem v2a (e1:(⟨#[47]⟩:BA)++s1=s2)(e2:s0++s2=s3)(h1:Fn E y6o [.z b0 r0] (.s s0))(h2:Fn E G9 [.l r1] (.s s1))(h3:¬ s1=(⟨#[49]⟩:BA))(h4:(⟨#[47]⟩:BA).size+s1.size≤9223372036854775807)(h5:s0.size+s2.size≤9223372036854775807):Fn E z9q [.q b0 r0 r1] (.s s3):=by subst e1 e2;exact fnM (oF h1 (oF h2 (oB (snT h3) (oP h4 (oP h5 oZ)))))
theorem v2b (h1:Fn E y6o [.z b0 r0] (.s s0))(h2:Fn E G9 [.l r1] (.s s1))(h3:s1=(⟨#[49]⟩:BA)):Fn E z9q [.q b0 r0 r1] (.s s0):=fnM (oF h1 (oF h2 (oC (snF h3) oZ)))
theorem q9a (h1:Fn E y3r [.i i0] (.z b0 r0))(h2:Fn E z1g [.w 1] (.l r1)):Fn E I0 [.i i0] (.q b0 r0 r1):=fnM (oF h1 (oF h2 oZ))
theorem q9e (h1:Fn E y3y [.q b1 r2 r3] (.q b2 r4 r5))(h2:Fn E z4p [.q b0 r0 r1,.q b2 r4 r5] (.q b3 r6 r7)):Fn E z4q [.q b0 r0 r1,.q b1 r2 r3] (.q b3 r6 r7):=fnM (oF h1 (oF h2 oZ))
theorem q9c (h1:Fn E y9c [.z b0 r0,.z b1 r2] (.z b2 r4))(h2:Fn E F8 [.l r1,.l r3] (.l r5))(h3:Fn E z1s [.z b2 r4,.l r5] (.q b3 r6 r7)):Fn E K2 [.q b0 r0 r1,.q b1 r2 r3] (.q b3 r6 r7):=fnM (oF h1 (oF h2 (oF h3 oZ)))
section
variable (h1:Fn E H9 [.l r1,.l r3] (.i i0))
include h1
theorem q8y (h2:i0=0)(h3:Fn E z8b [.z b0 r0,.z b1 r2] (.z b2 r4))(h4:Fn E z1s [.z b2 r4,.l r1] (.q b3 r5 r6)):Fn E z4p [.q b0 r0 r1,.q b1 r2 r3] (.q b3 r5 r6):=fnM (oF h1 (oB (beT h2) (oF h3 (oF h4 oZ))))
theorem q8z (h2:¬ i0=0)(h3:Fn E F8 [.l r0,.l r3] (.l r7))(h4:Fn E I8 [.b b0,.l r7] (.z b4 r8))(h5:Fn E F8 [.l r2,.l r1] (.l r5))(h6:Fn E I8 [.b b1,.l r5] (.z b5 r9))(h7:Fn E z8b [.z b4 r8,.z b5 r9] (.z b6 r10))(h8:Fn E F8 [.l r1,.l r3] (.l r11))(h9:Fn E z1s [.z b6 r10,.l r11] (.q b7 r12 r13)):Fn E z4p [.q b0 r0 r1,.q b1 r2 r3] (.q b7 r12 r13):=fnM (oF h1 (oC (beF h2) (oF h3 (oF h4 (oF h5 (oF h6 (oF h7 (oF h8 (oF h9 oZ)))))))))
end
section
variable (h1:Fn E N4 [.s s0] (.tup [.s s1,.s s2,.b true]))(h2:Fn E Y8 [.s s1] (.b true))(h3:Fn E F4 [.s s2] (.b true))(h4:Fn E y0y [.s s1] (.z b0 r0))(h5:Fn E I7 [.s s2] (.l r1))(h6:Fn E z1g [.w 1] (.l r2))(h7:Fn E H9 [.l r1,.l r2] (.i i0))
include h1 h2 h3 h4 h5 h6 h7
section
variable (h8:i0>0)(h9:Fn E z3v [.z b0 r0] (.i i1))
include h8 h9
section
variable (h10:¬ i1=0)(h11:Fn E G0 [.l r0,.l r1] (.l r3))(h12:Fn E H9 [.l r3,.l r2] (.i i2))
include h10 h11 h12
theorem q5t (h13:i2=0):Fn E V6 [.s s0] (.tup [.q b0 r0 r1,.b true]):=fnM (oF h1 (oF h2 (oF h3 (oF h4 (oF h5 (oF h6 (oF h7 (oT h8 (oF h9 (oB (bnT h10) (oF h11 (oF h12 (oB (beT h13) oZ)))))))))))))
theorem q5u (h13:¬ i2=0)(h14:Fn E I0 [.i 0] (.q b1 r4 r5)):Fn E V6 [.s s0] (.tup [.q b1 r4 r5,.b false]):=fnM (oF h1 (oF h2 (oF h3 (oF h4 (oF h5 (oF h6 (oF h7 (oT h8 (oF h9 (oB (bnT h10) (oF h11 (oF h12 (oC (beF h13) (oF h14 oZ))))))))))))))
end
theorem q5v (h10:i1=0)(h11:Fn E I0 [.i 0] (.q b2 r6 r7)):Fn E V6 [.s s0] (.tup [.q b2 r6 r7,.b false]):=fnM (oF h1 (oF h2 (oF h3 (oF h4 (oF h5 (oF h6 (oF h7 (oT h8 (oF h9 (oC (bnF h10) (oF h11 oZ)))))))))))
end
theorem q5w (h8:¬ i0>0)(h9:Fn E I0 [.i 0] (.q b3 r3 r6)):Fn E V6 [.s s0] (.tup [.q b3 r3 r6,.b false]):=fnM (oF h1 (oF h2 (oF h3 (oF h4 (oF h5 (oF h6 (oF h7 (oU h8 (oF h9 oZ)))))))))
end
theorem q5x (h1:Fn E N4 [.s s0] (.tup [.s s1,.s s2,.b false]))(h2:Fn E Y8 [.s s1] (.b true))(h3:Fn E F4 [.s s2] (.b true))(h4:Fn E y0y [.s s1] (.z b0 r0))(h5:Fn E I7 [.s s2] (.l r1)):Fn E V6 [.s s0] (.tup [.q b0 r0 r1,.b true]):=fnM (oF h1 (oF h2 (oF h3 (oF h4 (oF h5 oZ)))))
section
variable (h1:Fn E N4 [.s s0] (.tup [.s s1,.s s2,.b b4]))
include h1
theorem q5y (h2:Fn E Y8 [.s s1] (.b true))(h3:Fn E F4 [.s s2] (.b false))(h4:Fn E I0 [.i 0] (.q b0 r0 r1)):Fn E V6 [.s s0] (.tup [.q b0 r0 r1,.b false]):=fnM (oF h1 (oF h2 (oF h3 (oF h4 oZ))))
theorem k7a (h2:Fn E Y8 [.s s1] (.b false))(h3:Fn E I0 [.i 0] (.q b5 r8 r0)):Fn E V6 [.s s0] (.tup [.q b5 r8 r0,.b false]):=fnM (oF h1 (oF h2 (oF h3 oZ)))
end
theorem q5z (h1:Fn E z3v [.z b0 r0] (.i i0)):Fn E y0z [.q b0 r0 r1] (.i i0):=fnM (oF h1 oZ)
theorem q9d (h1:Fn E y2p [.z b0 r0] (.z b1 r2)):Fn E y3y [.q b0 r0 r1] (.q b1 r2 r1):=fnM (oF h1 oZ)
theorem q9b (h1:Fn E I8 [.b b0,.l r1] (.z b1 r2)):Fn E y0j [.q b0 r0 r1] (.q b1 r2 r0):=fnM (oF h1 oZ)
section
variable (h1:Fn E G0 [.l r0,.l r1] (.l r2))
include h1
section
variable (h2:(r2.length:Int)=1)(h3:r2[0]?=some [.w i0])
include h2 h3
theorem j6t (h4:i0=1):Fn E z1s [.z b0 r0,.l r1] (.q b0 r0 r1):=fnM (oF h1 (oB (beT h2) (oP (show (0:Int)≤0 from by decide) (oD h3 (oB (beT h4) oZ)))))
theorem j6u (h4:¬ i0=1)(h5:Fn E G1 [.l r0,.l r2] (.tup [.l r3,.l r4]))(h6:Fn E G1 [.l r1,.l r2] (.tup [.l r5,.l r6]))(h7:Fn E I8 [.b b0,.l r3] (.z b1 r7)):Fn E z1s [.z b0 r0,.l r1] (.q b1 r7 r5):=fnM (oF h1 (oB (beT h2) (oP (show (0:Int)≤0 from by decide) (oD h3 (oC (beF h4) (oF h5 (oF h6 (oF h7 oZ))))))))
end
theorem j6v (h2:¬ (r2.length:Int)=1)(h3:Fn E G1 [.l r0,.l r2] (.tup [.l r8,.l r3]))(h4:Fn E G1 [.l r1,.l r2] (.tup [.l r4,.l r5]))(h5:Fn E I8 [.b b0,.l r8] (.z b2 r9)):Fn E z1s [.z b0 r0,.l r1] (.q b2 r9 r4):=fnM (oF h1 (oC (beF h2) (oF h3 (oF h4 (oF h5 oZ)))))
end
def z0g (s0:BA) (i0:Int):St:=stOf 24 [(0,.s s0),(5,.i i0)] []
def y3c (s1 s2:BA):St:=stOf 24 [(2,.s s1),(3,.s s2),(4,.b true)] []
def y3d (s0:BA):St:=stOf 24 [(0,.s s0)] []
section
variable (e1:((s0.data.toList.getD (Int.toNat i0) 0).toNat:Int)=i1)
include e1
theorem y8s (e2:IntKind.i64.wrap (i0+1)=i2)(h1:i0<(s0.size:Int))(h2:0≤i0∧i0<s0.size)(h3:¬ i1=47)(ih:Lp E 0 N4 0 (z0g s0 i2) o t):Lp E 0 N4 0 (z0g s0 i0) o t:=by subst e1 e2;exact lpM (oT h1 (oP h2 (oC (beF h3) oZ))) ih
theorem k1f (e2:s0.extract 0 (Int.toNat i0)=s3)(e3:IntKind.i64.wrap (i0+1)=i3)(e4:s0.extract (Int.toNat i3) (Int.toNat (s0.size:Int))=s4)(h1:i0<(s0.size:Int))(h2:0≤i0∧i0<s0.size)(h3:i1=47)(h4:0≤(0:Int)∧(0:Int)≤i0∧i0≤s0.size)(h5:0≤i3∧i3≤(s0.size:Int)∧(s0.size:Int)≤s0.size):Lp E 0 N4 0 (z0g s0 i0) .ret (y3c s3 s4):=by subst e1 e2 e3 e4;exact lpX (oT h1 (oP h2 (oB (beT h3) (oP h4 (oP h5 oZ)))))
end
theorem k1g (h1:¬ i0<(s0.size:Int)):Lp E 0 N4 0 (z0g s0 i0) (.exit 0) (y3d s0):=lpX (oU h1 oZ)
theorem j9t (h1:Lp E 0 N4 0 (z0g s0 0) .ret (y3c s1 s2)):Fn E N4 [.s s0] (.tup [.s s1,.s s2,.b true]):=fnM (oL h1 oZ)
theorem j9u (h1:Lp E 0 N4 0 (z0g s0 0) (.exit 0) (y3d s0)):Fn E N4 [.s s0] (.tup [.s s0,.s ⟨#[49]⟩,.b false]):=fnM (oL h1 oZ)
end Gev
namespace Gev
open Go Go.Proofs
variable {E:Env}
variable {o:Out} {t:St} {r0 r1 r2 r3 r4 r5 r6 r7 r8:RW} {i0 i1 i2 i3 i4 i5 i6 i7 i8 i9:Int} {s0 s1 s2 s3 s4 s5 s6:BA} {n0 n1 n2 n3 n4 n5:Nat} {b0:Bool} {m0 m1 m2 m3 m4 m5 m6 m7 m8 m9 m10 m11 m12 m13:List (RW)}
def z6k (r0 r1:RW) (n0:Nat) (i0 i1:Int) (r2:RW):St:=stOf 33 [(0,.l r0),(1,.l r1),(11,.vec 0 n0),(12,.i i0),(13,.i i1)] [sV y4u r2]
def x4h (r2:RW) (i2:Int):St:=stOf 33 [(4,.nils),(5,.i i2)] [sV y4u r2]
def x4i (r0 r1 r2:RW):St:=stOf 33 [(0,.l r0),(1,.l r1)] [sV y4u r2]
section
variable (h1:i1<i0)(h2:0≤i1∧i1<((n0:Nat):Int))(h3:r2[(Int.toNat i1)]?=some [.l r3])(h4:Fn E B4 [.l r3] (.i i3))
include h1 h2 h3 h4
theorem y2w (h5:i3=0)(e1:IntKind.i64.wrap (i1+1)=i4)(ih:Lp E 1 K5 0 (z6k r0 r1 n0 i0 i4 r2) o t):Lp E 1 K5 0 (z6k r0 r1 n0 i0 i1 r2) o t:=by subst e1;exact lpM (oT h1 (oP h2 (oD h3 (oF h4 (oC (bnF h5) oZ))))) ih
theorem y6w (h5:¬ i3=0):Lp E 1 K5 0 (z6k r0 r1 n0 i0 i1 r2) .ret (x4h r2 i3):=lpX (oT h1 (oP h2 (oD h3 (oF h4 (oB (bnT h5) oZ)))))
end
theorem k2u (h1:¬ i1<i0):Lp E 1 K5 0 (z6k r0 r1 n0 i0 i1 r2) (.exit 0) (x4i r0 r1 r2):=lpX (oU h1 oZ)
theorem k5w (h1:Lp E 1 K5 0 (z6k r0 r1 2 2 0 [[.l r0],[.l r1]]) .ret (x4h [[.l r0],[.l r1]] i0)):Fn E K5 [.l r0,.l r1] (.tup [.l [],.i i0]):=fnM (oL h1 oZ)
section
variable (h1:Lp E 1 K5 0 (z6k r0 r1 2 2 0 [[.l r0],[.l r1]]) (.exit 0) (x4i r0 r1 [[.l r0],[.l r1]]))(h2:r0[0]?=some [.l r2])
include h1 h2
theorem q4h (h3:¬ (r2.length:Int)=(r1.length:Int)):Fn E K5 [.l r0,.l r1] (.tup [.l [],.i 10]):=fnM (oL h1 (oP (show (0:Int)≤0 from by decide) (oD h2 (oB (bnT h3) oZ))))
theorem q4i (h3:(r2.length:Int)=(r1.length:Int))(h4:Fn E D9 [.l r0,.l r1] (.l r3)):Fn E K5 [.l r0,.l r1] (.tup [.l r3,.i 0]):=fnM (oL h1 (oP (show (0:Int)≤0 from by decide) (oD h2 (oC (bnF h3) (oF h4 oZ)))))
end
section
variable (h1:Fn E B4 [.l r0] (.i i0))
include h1
theorem k2v (h2:¬ i0=0):Fn E H8 [.l r0] (.tup [.l [],.i i0]):=fnM (oF h1 (oB (bnT h2) oZ))
theorem k2w (h2:i0=0)(h3:Fn E D3 [.l r0] (.l r1)):Fn E H8 [.l r0] (.tup [.l r1,.i 0]):=fnM (oF h1 (oC (bnF h2) (oF h3 oZ)))
end
def z0o (r0 r1:RW) (i0 i1:Int):St:=stOf 53 [(0,.l r0),(29,.l r1),(30,.i i0),(31,.i i1)] []
def y1h:St:=stOf 53 [(2,.i 10)] []
def y1i (r0:RW):St:=stOf 53 [(0,.l r0)] []
section
variable (h1:i1<i0)(h2:0≤i1)(h3:r1[(Int.toNat i1)]?=some [.l r2])(h4:r0[0]?=some [.l r3])
include h1 h2 h3 h4
theorem k2r (h5:(r2.length:Int)=(r3.length:Int))(e1:IntKind.i64.wrap (i1+1)=i2)(ih:Lp E 0 B4 0 (z0o r0 r1 i0 i2) o t):Lp E 0 B4 0 (z0o r0 r1 i0 i1) o t:=by subst e1;exact lpM (oT h1 (oP h2 (oD h3 (oP (show (0:Int)≤0 from by decide) (oD h4 (oC (bnF h5) oZ)))))) ih
theorem x6x (h5:¬ (r2.length:Int)=(r3.length:Int)):Lp E 0 B4 0 (z0o r0 r1 i0 i1) .ret (y1h):=lpX (oT h1 (oP h2 (oD h3 (oP (show (0:Int)≤0 from by decide) (oD h4 (oB (bnT h5) oZ))))))
end
theorem x6y (h1:¬ i1<i0):Lp E 0 B4 0 (z0o r0 r1 i0 i1) (.exit 1) (y1i r0):=lpX (oU h1 oZ)
def z0p (r0:RW) (i0 i1:Int):St:=stOf 53 [(43,.l r0),(44,.i i0),(45,.i i1)] []
def y1j:St:=stOf 53 [(2,.i 1)] []
def y1k:St:=stOf 53 [] []
section
variable (h1:i1<i0)(h2:0≤i1)(h3:r0[(Int.toNat i1)]?=some [.l r1])
include h1 h2 h3
theorem k2s (h4:Fn E z3u [.l r1] (.b true))(e1:IntKind.i64.wrap (i1+1)=i2)(ih:Lp E 0 B4 1 (z0p r0 i0 i2) o t):Lp E 0 B4 1 (z0p r0 i0 i1) o t:=by subst e1;exact lpM (oT h1 (oP h2 (oD h3 (oF h4 oZ)))) ih
theorem x6z (h4:Fn E z3u [.l r1] (.b false)):Lp E 0 B4 1 (z0p r0 i0 i1) .ret (y1j):=lpX (oT h1 (oP h2 (oD h3 (oF h4 oZ))))
end
theorem x7a (h1:¬ i1<i0):Lp E 0 B4 1 (z0p r0 i0 i1) (.exit 3) (y1k):=lpX (oU h1 oZ)
theorem j5c (h1:(r0.length:Int)=0):Fn E B4 [.l r0] (.i 9):=fnM (oB (beT h1) oZ)
section
variable (h1:¬ (r0.length:Int)=0)(h2:r0[0]?=some [.l r1])
include h1 h2
theorem j5d (h3:(r1.length:Int)=0):Fn E B4 [.l r0] (.i 9):=fnM (oC (beF h1) (oP (show (0:Int)≤0 from by decide) (oD h2 (oB (beT h3) oZ))))
section
variable (h3:¬ (r1.length:Int)=0)
include h3
theorem j5e (h4:(r0.length:Int)>12):Fn E B4 [.l r0] (.i 8):=fnM (oC (beF h1) (oP (show (0:Int)≤0 from by decide) (oD h2 (oC (beF h3) (oT h4 oZ)))))
section
variable (h4:¬ (r0.length:Int)>12)
include h4
theorem j5f (h5:(r1.length:Int)>12):Fn E B4 [.l r0] (.i 8):=fnM (oC (beF h1) (oP (show (0:Int)≤0 from by decide) (oD h2 (oC (beF h3) (oU h4 (oP (show (0:Int)≤0 from by decide) (oD h2 (oT h5 oZ))))))))
section
variable (h5:¬ (r1.length:Int)>12)
include h5
theorem j5g (h6:Lp E 0 B4 0 (z0o r0 r0 (r0.length:Int) 0) .ret (y1h)):Fn E B4 [.l r0] (.i 10):=fnM (oC (beF h1) (oP (show (0:Int)≤0 from by decide) (oD h2 (oC (beF h3) (oU h4 (oP (show (0:Int)≤0 from by decide) (oD h2 (oU h5 (oL h6 oZ)))))))))
section
variable (h6:Lp E 0 B4 0 (z0o r0 r0 (r0.length:Int) 0) (.exit 1) (y1i r0))
include h6
theorem j5h (h7:Lp E 0 B4 1 (z0p r0 (r0.length:Int) 0) .ret (y1j)):Fn E B4 [.l r0] (.i 1):=fnM (oC (beF h1) (oP (show (0:Int)≤0 from by decide) (oD h2 (oC (beF h3) (oU h4 (oP (show (0:Int)≤0 from by decide) (oD h2 (oU h5 (oL h6 (oL h7 oZ))))))))))
theorem j5i (h7:Lp E 0 B4 1 (z0p r0 (r0.length:Int) 0) (.exit 3) (y1k)):Fn E B4 [.l r0] (.i 0):=fnM (oC (beF h1) (oP (show (0:Int)≤0 from by decide) (oD h2 (oC (beF h3) (oU h4 (oP (show (0:Int)≤0 from by decide) (oD h2 (oU h5 (oL h6 (oL h7 oZ))))))))))
end
end
end
end
end
section
variable (h1:Fn E z0m [.l r0] (.i i0))
include h1
theorem q3z (h2:¬ i0=0):Fn E Y5 [.l r0] (.tup [.s ⟨#[]⟩,.i i0]):=fnM (oF h1 (oB (bnT h2) oZ))
section
variable (h2:i0=0)(h3:Rn E H2 [.l r0] [] (.vec 0 n0) [some (.mat A7 m0 [])])(h4:Rn E A1 [.vec 0 n0,.i (r0.length:Int)] [some (.mat A7 m0 [])] (.tup [.i i1,.s s0]) [some (.mat A7 m1 [])])
include h2 h3 h4
theorem q4a (h5:i1<(r0.length:Int)):Fn E Y5 [.l r0] (.tup [.s ⟨#[48]⟩,.i 0]):=fnM (oF h1 (oC (bnF h2) (oQ h3 (oV h4 (oT h5 oZ)))))
theorem q4b (h5:¬ i1<(r0.length:Int)):Fn E Y5 [.l r0] (.tup [.s s0,.i 0]):=fnM (oF h1 (oC (bnF h2) (oQ h3 (oV h4 (oU h5 oZ)))))
end
end
section
variable (h1:Fn E B4 [.l r0] (.i i0))
include h1
theorem j8o (h2:¬ i0=0):Fn E z3e [.l r0] (.tup [.i 0,.i i0]):=fnM (oF h1 (oB (bnT h2) oZ))
theorem j8p (h2:i0=0)(h3:Rn E H2 [.l r0] [] (.vec 0 n0) [some (.mat A7 m0 [])])(h4:r0[0]?=some [.l r1])(h5:Rn E A1 [.vec 0 n0,.i (r1.length:Int)] [some (.mat A7 m0 [])] (.tup [.i i1,.s s0]) [some (.mat A7 m1 [])]):Fn E z3e [.l r0] (.tup [.i i1,.i 0]):=fnM (oF h1 (oC (bnF h2) (oQ h3 (oP (show (0:Int)≤0 from by decide) (oD h4 (oV h5 oZ))))))
end
section
variable (h1:Fn E B4 [.l r0] (.i i0))
include h1
theorem j5j (h2:¬ i0=0):Fn E P5 [.l r0,.l r1] (.tup [.l [],.i i0]):=fnM (oF h1 (oB (bnT h2) oZ))
section
variable (h2:i0=0)(h3:Fn E z3f [.l r1] (.i i1))
include h2 h3
theorem j5k (h4:¬ i1=0):Fn E P5 [.l r0,.l r1] (.tup [.l [],.i i1]):=fnM (oF h1 (oC (bnF h2) (oF h3 (oB (bnT h4) oZ))))
section
variable (h4:i1=0)(h5:r0[0]?=some [.l r2])
include h4 h5
theorem j5l (h6:¬ (r0.length:Int)=(r2.length:Int)):Fn E P5 [.l r0,.l r1] (.tup [.l [],.i 10]):=fnM (oF h1 (oC (bnF h2) (oF h3 (oC (bnF h4) (oP (show (0:Int)≤0 from by decide) (oD h5 (oB (bnT h6) oZ)))))))
section
variable (h6:(r0.length:Int)=(r2.length:Int))
include h6
theorem j5m (h7:¬ (r1.length:Int)=(r0.length:Int)):Fn E P5 [.l r0,.l r1] (.tup [.l [],.i 10]):=fnM (oF h1 (oC (bnF h2) (oF h3 (oC (bnF h4) (oP (show (0:Int)≤0 from by decide) (oD h5 (oC (bnF h6) (oB (bnT h7) oZ))))))))
section
variable (h7:(r1.length:Int)=(r0.length:Int))(h8:Fn E O3 [.l r1] (.l r3))
include h7 h8
theorem j5n (h9:Fn E G2 [.l r0,.l r3] (.tup [.l r4,.b true]))(h10:Fn E D3 [.l r4] (.l r5))(h11:r5[0]?=some [.l r6]):Fn E P5 [.l r0,.l r1] (.tup [.l r6,.i 0]):=fnM (oF h1 (oC (bnF h2) (oF h3 (oC (bnF h4) (oP (show (0:Int)≤0 from by decide) (oD h5 (oC (bnF h6) (oC (bnF h7) (oF h8 (oF h9 (oF h10 (oP (show (0:Int)≤0 from by decide) (oD h11 oZ)))))))))))))
theorem j5o (h9:Fn E G2 [.l r0,.l r3] (.tup [.l r4,.b false])):Fn E P5 [.l r0,.l r1] (.tup [.l [],.i 18]):=fnM (oF h1 (oC (bnF h2) (oF h3 (oC (bnF h4) (oP (show (0:Int)≤0 from by decide) (oD h5 (oC (bnF h6) (oC (bnF h7) (oF h8 (oF h9 oZ))))))))))
end
end
end
end
end
def V9 (r0:RW) (n0:Nat) (i0 i1 i2 i3 i4:Int) (m0:List (RW)):St:=stOf 53 [(0,.l r0),(5,.vec 0 n0),(6,.i i0),(20,.i i1),(21,.i i2),(25,.i i3),(26,.i i4)] [some (.mat A7 m0 [])]
def z8o (r0:RW) (n0:Nat) (i1 i2:Int) (m1:List (RW)):St:=stOf 53 [(0,.l r0),(5,.vec 0 n0),(20,.i i1),(21,.i i2)] [some (.mat A7 m1 [])]
theorem x7c (h1:i4<i3)(h2:i0=i4)(h3:m0[(Int.toNat i0)]?=some r1)(h4:0≤i0∧i0<((n0:Nat):Int))(h5:(n1+1)*16≤140737488355328∧n1+1≤140737488355328)(e1:r1.length=n1)(e2:(r1.take n1)++[[.s ⟨#[49]⟩]]=r2)(e3:n1+1=n2)(e4:List.set m0 (Int.toNat i0) (r2.take n2)=m2)(e5:IntKind.i64.wrap (i4+1)=i5)(ih:Lp E 1 D8 1 (V9 r0 n0 i0 i1 i2 i3 i5 m2) o t):Lp E 1 D8 1 (V9 r0 n0 i0 i1 i2 i3 i4 m0) o t:=by subst e1 e2 e3 e4 e5;exact lpM (oT h1 (oB (beT h2) (oI 0 h3 (oP h4 (oO (.sm 0) (oP (show (Int.toNat i0)=(Int.toNat i0) from rfl) (oP (show ∀ y∈([[.s ⟨#[49]⟩]]:RW),y.length=1 from by simp) (oP h5 (oP h4 (oO (.sm 0) (oP (show (Int.toNat i0)=(Int.toNat i0) from rfl) (oO (.gt 0) oZ)))))))))))) ih
theorem x7d (h1:i4<i3)(h2:¬ i0=i4)(h3:m0[(Int.toNat i0)]?=some r1)(h4:0≤i0∧i0<((n0:Nat):Int))(h5:(n1+1)*16≤140737488355328∧n1+1≤140737488355328)(e1:r1.length=n1)(e2:(r1.take n1)++[[.s ⟨#[48]⟩]]=r2)(e3:n1+1=n2)(e4:List.set m0 (Int.toNat i0) (r2.take n2)=m2)(e5:IntKind.i64.wrap (i4+1)=i5)(ih:Lp E 1 D8 1 (V9 r0 n0 i0 i1 i2 i3 i5 m2) o t):Lp E 1 D8 1 (V9 r0 n0 i0 i1 i2 i3 i4 m0) o t:=by subst e1 e2 e3 e4 e5;exact lpM (oT h1 (oC (beF h2) (oI 0 h3 (oP h4 (oO (.sm 0) (oP (show (Int.toNat i0)=(Int.toNat i0) from rfl) (oP (show ∀ y∈([[.s ⟨#[48]⟩]]:RW),y.length=1 from by simp) (oP h5 (oP h4 (oO (.sm 0) (oP (show (Int.toNat i0)=(Int.toNat i0) from rfl) (oO (.gt 0) oZ)))))))))))) ih
theorem x2x (h1:¬ i4<i3):Lp E 1 D8 1 (V9 r0 n0 i0 i1 i2 i3 i4 m0) (.exit 2) (z8o r0 n0 i1 i2 m0):=lpX (oU h1 oZ)
def z2u (r0:RW) (n0:Nat) (i0 i1:Int) (m0:List (RW)):St:=stOf 53 [(0,.l r0),(5,.vec 0 n0),(20,.i i0),(21,.i i1)] [some (.mat A7 m0 [])]
def z8n (r0:RW) (n0:Nat) (m1:List (RW)):St:=stOf 53 [(0,.l r0),(5,.vec 0 n0)] [some (.mat A7 m1 [])]
theorem x7b (h1:i1<i0)(h2:Lp E 1 D8 1 (V9 r0 n0 i1 i0 i1 ((n0:Nat):Int) 0 m0) (.exit 2) (z8o r0 n0 i0 i1 m2))(e1:IntKind.i64.wrap (i1+1)=i2)(ih:Lp E 1 D8 0 (z2u r0 n0 i0 i2 m2) o t):Lp E 1 D8 0 (z2u r0 n0 i0 i1 m0) o t:=by subst e1;exact lpM (oT h1 (oL h2 oZ)) ih
theorem x2w (h1:¬ i1<i0):Lp E 1 D8 0 (z2u r0 n0 i0 i1 m0) (.exit 0) (z8n r0 n0 m0):=lpX (oU h1 oZ)
section
variable (h1:Fn E z0m [.l r0] (.i i0))
include h1
theorem k8r (h2:¬ i0=0):Fn E D8 [.l r0] (.tup [.l [],.i i0]):=fnM (oF h1 (oB (bnT h2) oZ))
section
variable (h2:i0=0)(h3:0≤(r0.length:Int)∧(r0.length:Int)≤(r0.length:Int)∧(Int.toNat (r0.length:Int))*24≤140737488355328∧(Int.toNat (r0.length:Int))≤140737488355328)(h4:Lp E 1 D8 0 (z2u r0 n0 ((n0:Nat):Int) 0 m0) (.exit 0) (z8n r0 n0 m1))
include h2 h3 h4
theorem k8s (h5:Fn E G2 [.l r0,.l r2] (.tup [.l r3,.b true]))(e1:Int.toNat (r0.length:Int)=n0)(e2:(List.replicate n0 []:List (RW))=m0)(e3:List.map (fun x=>[DV.list x]) m1=r1)(e4:(r1.take n0)=r2):Fn E D8 [.l r0] (.tup [.l r3,.i 0]):=by subst e1 e2 e3 e4;exact fnM (oF h1 (oC (bnF h2) (oP h3 (oO .mk (oL h4 (oO (.dm 0) (oF h5 oZ)))))))
theorem k8t (h5:Fn E G2 [.l r0,.l r2] (.tup [.l r3,.b false]))(e1:Int.toNat (r0.length:Int)=n0)(e2:(List.replicate n0 []:List (RW))=m0)(e3:List.map (fun x=>[DV.list x]) m1=r1)(e4:(r1.take n0)=r2):Fn E D8 [.l r0] (.tup [.l [],.i 18]):=by subst e1 e2 e3 e4;exact fnM (oF h1 (oC (bnF h2) (oP h3 (oO .mk (oL h4 (oO (.dm 0) (oF h5 oZ)))))))
end
end
def z8z (r0 r1:RW) (s0:BA) (r2:RW) (i0 i1:Int):St:=stOf 74 [(1,.l r0),(12,.l r1),(13,.s s0),(51,.l r2),(52,.i i0),(53,.i i1)] []
def y4w (r1:RW) (s1:BA):St:=stOf 74 [(12,.l r1),(13,.s s1)] []
theorem k8q (h1:i1<i0)(h2:0≤i1)(h3:r2[(Int.toNat i1)]?=some [.l r3])(h4:Fn E z0z [.l r3,.l r1] (.s s2))(h5:r0[(Int.toNat i1)]?=some [.s s3])(h6:Fn E z8a [.s s2,.s s3] (.s s4))(h7:Fn E z2q [.s s4,.s s4] (.s s5))(h8:Fn E y5n [.s s0,.s s5] (.s s6))(e1:IntKind.i64.wrap (i1+1)=i2)(ih:Lp E 0 K4 0 (z8z r0 r1 s6 r2 i0 i2) o t):Lp E 0 K4 0 (z8z r0 r1 s0 r2 i0 i1) o t:=by subst e1;exact lpM (oT h1 (oP h2 (oD h3 (oF h4 (oP h2 (oD h5 (oF h6 (oF h7 (oF h8 oZ))))))))) ih
theorem k2t (h1:¬ i1<i0):Lp E 0 K4 0 (z8z r0 r1 s0 r2 i0 i1) (.exit 0) (y4w r1 s0):=lpX (oU h1 oZ)
section
variable (h1:Fn E B4 [.l r0] (.i i0))
include h1
theorem q4c (h2:¬ i0=0):Fn E K4 [.l r0,.l r1] (.tup [.l [],.s ⟨#[]⟩,.i i0]):=fnM (oF h1 (oB (bnT h2) oZ))
section
variable (h2:i0=0)(h3:Fn E z3f [.l r1] (.i i1))
include h2 h3
theorem q4d (h4:¬ i1=0):Fn E K4 [.l r0,.l r1] (.tup [.l [],.s ⟨#[]⟩,.i i1]):=fnM (oF h1 (oC (bnF h2) (oF h3 (oB (bnT h4) oZ))))
theorem q4e (h4:i1=0)(h5:¬ (r1.length:Int)=(r0.length:Int)):Fn E K4 [.l r0,.l r1] (.tup [.l [],.s ⟨#[]⟩,.i 10]):=fnM (oF h1 (oC (bnF h2) (oF h3 (oC (bnF h4) (oB (bnT h5) oZ)))))
theorem q4f (h4:i1=0)(h5:(r1.length:Int)=(r0.length:Int))(h6:Fn E D3 [.l r0] (.l r2))(h7:Fn E D9 [.l r2,.l r0] (.l r3))(h8:Fn E O3 [.l r1] (.l r4))(h9:Fn E D9 [.l r2,.l r4] (.l r5))(h10:Fn E G2 [.l r3,.l r5] (.tup [.l r6,.b true]))(h11:Fn E D3 [.l r6] (.l r7))(h12:r7[0]?=some [.l r8])(h13:Lp E 0 K4 0 (z8z r1 r8 ⟨#[48]⟩ r0 (r0.length:Int) 0) (.exit 0) (y4w r8 s0)):Fn E K4 [.l r0,.l r1] (.tup [.l r8,.s s0,.i 0]):=fnM (oF h1 (oC (bnF h2) (oF h3 (oC (bnF h4) (oC (bnF h5) (oF h6 (oF h7 (oF h8 (oF h9 (oF h10 (oF h11 (oP (show (0:Int)≤0 from by decide) (oD h12 (oL h13 oZ))))))))))))))
theorem q4g (h4:i1=0)(h5:(r1.length:Int)=(r0.length:Int))(h6:Fn E D3 [.l r0] (.l r2))(h7:Fn E D9 [.l r2,.l r0] (.l r3))(h8:Fn E O3 [.l r1] (.l r4))(h9:Fn E D9 [.l r2,.l r4] (.l r5))(h10:Fn E G2 [.l r3,.l r5] (.tup [.l r6,.b false])):Fn E K4 [.l r0,.l r1] (.tup [.l [],.s ⟨#[]⟩,.i 18]):=fnM (oF h1 (oC (bnF h2) (oF h3 (oC (bnF h4) (oC (bnF h5) (oF h6 (oF h7 (oF h8 (oF h9 (oF h10 oZ))))))))))
end
end
def z2w (r0:RW) (n0:Nat) (i0:Int) (r1 r2:RW) (i1 i2:Int) (r3:RW) (i3 i4:Int) (m0:List (RW)):St:=stOf 44 [(5,.l r0),(6,.vec 0 n0),(7,.i i0),(8,.l r1),(16,.l r2),(17,.i i1),(18,.i i2),(23,.l r3),(24,.i i3),(25,.i i4)] [some (.mat A7 m0 [])]
def z8q (r0:RW) (n0:Nat) (r2:RW) (i1 i2:Int) (m1:List (RW)):St:=stOf 44 [(5,.l r0),(6,.vec 0 n0),(16,.l r2),(17,.i i1),(18,.i i2)] [some (.mat A7 m1 [])]
theorem x7f (h1:i4<i3)(h2:0≤i4)(h3:r3[(Int.toNat i4)]?=some [.l r4])(h4:m0[(Int.toNat i0)]?=some r5)(h5:0≤i0∧i0<((n0:Nat):Int))(h6:Fn E z0z [.l r1,.l r4] (.s s0))(h7:(n1+1)*16≤140737488355328∧n1+1≤140737488355328)(e1:r5.length=n1)(e2:(r5.take n1)++[[.s s0]]=r6)(e3:n1+1=n2)(e4:List.set m0 (Int.toNat i0) (r6.take n2)=m2)(e5:IntKind.i64.wrap (i4+1)=i5)(ih:Lp E 1 D9 1 (z2w r0 n0 i0 r1 r2 i1 i2 r3 i3 i5 m2) o t):Lp E 1 D9 1 (z2w r0 n0 i0 r1 r2 i1 i2 r3 i3 i4 m0) o t:=by subst e1 e2 e3 e4 e5;exact lpM (oT h1 (oP h2 (oD h3 (oI 0 h4 (oP h5 (oO (.sm 0) (oP (show (Int.toNat i0)=(Int.toNat i0) from rfl) (oF h6 (oP (show ∀ y∈([[.s s0]]:RW),y.length=1 from by simp) (oP h7 (oP h5 (oO (.sm 0) (oP (show (Int.toNat i0)=(Int.toNat i0) from rfl) (oO (.gt 0) oZ)))))))))))))) ih
theorem x3h (h1:¬ i4<i3):Lp E 1 D9 1 (z2w r0 n0 i0 r1 r2 i1 i2 r3 i3 i4 m0) (.exit 2) (z8q r0 n0 r2 i1 i2 m0):=lpX (oU h1 oZ)
def z2v (r0:RW) (n0:Nat) (r1:RW) (i0 i1:Int) (m0:List (RW)):St:=stOf 44 [(5,.l r0),(6,.vec 0 n0),(16,.l r1),(17,.i i0),(18,.i i1)] [some (.mat A7 m0 [])]
def z8p (n0:Nat) (m1:List (RW)):St:=stOf 44 [(6,.vec 0 n0)] [some (.mat A7 m1 [])]
theorem x7e (h1:i1<i0)(h2:0≤i1)(h3:r1[(Int.toNat i1)]?=some [.l r2])(h4:Lp E 1 D9 1 (z2w r0 n0 i1 r2 r1 i0 i1 r0 (r0.length:Int) 0 m0) (.exit 2) (z8q r0 n0 r1 i0 i1 m2))(e1:IntKind.i64.wrap (i1+1)=i2)(ih:Lp E 1 D9 0 (z2v r0 n0 r1 i0 i2 m2) o t):Lp E 1 D9 0 (z2v r0 n0 r1 i0 i1 m0) o t:=by subst e1;exact lpM (oT h1 (oP h2 (oD h3 (oL h4 oZ)))) ih
theorem x3g (h1:¬ i1<i0):Lp E 1 D9 0 (z2v r0 n0 r1 i0 i1 m0) (.exit 0) (z8p n0 m0):=lpX (oU h1 oZ)
theorem k8v (h1:Fn E D3 [.l r1] (.l r2))(h2:0≤(r0.length:Int)∧(r0.length:Int)≤(r0.length:Int)∧(Int.toNat (r0.length:Int))*24≤140737488355328∧(Int.toNat (r0.length:Int))≤140737488355328)(h3:Lp E 1 D9 0 (z2v r2 n0 r0 (r0.length:Int) 0 m0) (.exit 0) (z8p n0 m1))(e1:Int.toNat (r0.length:Int)=n0)(e2:(List.replicate n0 []:List (RW))=m0)(e3:List.map (fun x=>[DV.list x]) m1=r3)(e4:(r3.take n0)=r4):Fn E D9 [.l r0,.l r1] (.l r4):=by subst e1 e2 e3 e4;exact fnM (oF h1 (oP h2 (oO .mk (oL h3 (oO (.dm 0) oZ)))))
def z0w (r0:RW) (n0:Nat) (i0 i1 i2:Int) (r1:RW) (i3 i4:Int) (m0:List (RW)):St:=stOf 39 [(0,.l r0),(3,.vec 0 n0),(4,.i i0),(13,.i i1),(14,.i i2),(17,.l r1),(18,.i i3),(19,.i i4)] [some (.mat A7 m0 [])]
def z6t (r0:RW) (n0:Nat) (i1 i2:Int) (m1:List (RW)):St:=stOf 39 [(0,.l r0),(3,.vec 0 n0),(13,.i i1),(14,.i i2)] [some (.mat A7 m1 [])]
theorem x3j (h1:i4<i3)(h2:0≤i4)(h3:r1[(Int.toNat i4)]?=some [.l r2])(h4:m0[(Int.toNat i0)]?=some r3)(h5:0≤i0∧i0<((n0:Nat):Int))(h6:0≤i0)(h7:r2[(Int.toNat i0)]?=some [.s s0])(h8:(n1+1)*16≤140737488355328∧n1+1≤140737488355328)(e1:r3.length=n1)(e2:(r3.take n1)++[[.s s0]]=r4)(e3:n1+1=n2)(e4:List.set m0 (Int.toNat i0) (r4.take n2)=m2)(e5:IntKind.i64.wrap (i4+1)=i5)(ih:Lp E 1 D3 1 (z0w r0 n0 i0 i1 i2 r1 i3 i5 m2) o t):Lp E 1 D3 1 (z0w r0 n0 i0 i1 i2 r1 i3 i4 m0) o t:=by subst e1 e2 e3 e4 e5;exact lpM (oT h1 (oP h2 (oD h3 (oI 0 h4 (oP h5 (oO (.sm 0) (oP (show (Int.toNat i0)=(Int.toNat i0) from rfl) (oP h6 (oD h7 (oP (show ∀ y∈([[.s s0]]:RW),y.length=1 from by simp) (oP h8 (oP h5 (oO (.sm 0) (oP (show (Int.toNat i0)=(Int.toNat i0) from rfl) (oO (.gt 0) oZ))))))))))))))) ih
theorem y9p (h1:¬ i4<i3):Lp E 1 D3 1 (z0w r0 n0 i0 i1 i2 r1 i3 i4 m0) (.exit 2) (z6t r0 n0 i1 i2 m0):=lpX (oU h1 oZ)
def z0v (r0:RW) (n0:Nat) (i0 i1:Int) (m0:List (RW)):St:=stOf 39 [(0,.l r0),(3,.vec 0 n0),(13,.i i0),(14,.i i1)] [some (.mat A7 m0 [])]
def z6s (n0:Nat) (m1:List (RW)):St:=stOf 39 [(3,.vec 0 n0)] [some (.mat A7 m1 [])]
theorem x3i (h1:i1<i0)(h2:Lp E 1 D3 1 (z0w r0 n0 i1 i0 i1 r0 (r0.length:Int) 0 m0) (.exit 2) (z6t r0 n0 i0 i1 m2))(e1:IntKind.i64.wrap (i1+1)=i2)(ih:Lp E 1 D3 0 (z0v r0 n0 i0 i2 m2) o t):Lp E 1 D3 0 (z0v r0 n0 i0 i1 m0) o t:=by subst e1;exact lpM (oT h1 (oL h2 oZ)) ih
theorem y9o (h1:¬ i1<i0):Lp E 1 D3 0 (z0v r0 n0 i0 i1 m0) (.exit 0) (z6s n0 m0):=lpX (oU h1 oZ)
theorem k3b (h1:r0[0]?=some [.l r1])(h2:0≤(r1.length:Int)∧(r1.length:Int)≤(r1.length:Int)∧(Int.toNat (r1.length:Int))*24≤140737488355328∧(Int.toNat (r1.length:Int))≤140737488355328)(h3:Lp E 1 D3 0 (z0v r0 n0 ((n0:Nat):Int) 0 m0) (.exit 0) (z6s n0 m1))(e1:Int.toNat (r1.length:Int)=n0)(e2:(List.replicate n0 []:List (RW))=m0)(e3:List.map (fun x=>[DV.list x]) m1=r2)(e4:(r2.take n0)=r3):Fn E D3 [.l r0] (.l r3):=by subst e1 e2 e3 e4;exact fnM (oP (show (0:Int)≤0 from by decide) (oD h1 (oP h2 (oO .mk (oL h3 (oO (.dm 0) oZ))))))
theorem j5r (h1:Fn E C9 [.l r0,.fn I5 []] (.b b0)):Fn E z3u [.l r0] (.b (!b0)):=fnM (oF h1 oZ)
section
variable (h1:Fn E B4 [.l r0] (.i i0))
include h1
theorem j1i (h2:¬ i0=0):Fn E z0m [.l r0] (.i i0):=fnM (oF h1 (oB (bnT h2) oZ))
section
variable (h2:i0=0)(h3:r0[0]?=some [.l r1])
include h2 h3
theorem j1j (h4:¬ (r0.length:Int)=(r1.length:Int)):Fn E z0m [.l r0] (.i 10):=fnM (oF h1 (oC (bnF h2) (oP (show (0:Int)≤0 from by decide) (oD h3 (oB (bnT h4) oZ)))))
theorem j1k (h4:(r0.length:Int)=(r1.length:Int)):Fn E z0m [.l r0] (.i 0):=fnM (oF h1 (oC (bnF h2) (oP (show (0:Int)≤0 from by decide) (oD h3 (oC (bnF h4) oZ)))))
end
end
def Z9 (n0:Nat) (r0:RW) (i0 i1:Int) (m0:List (RW)):St:=stOf 23 [(3,.vec 0 n0),(9,.l r0),(10,.i i0),(11,.i i1)] [some (.mat A7 m0 [])]
def z5d (n0:Nat) (m1:List (RW)):St:=stOf 23 [(3,.vec 0 n0)] [some (.mat A7 m1 [])]
theorem x0q (h1:i1<i0)(h2:0≤i1)(h3:r0[(Int.toNat i1)]?=some [.l r1])(h4:Rn E H0 [.l r1] [] (.vec 0 n1) [sV M6 r2])(h5:0≤i1∧i1<((n0:Nat):Int))(e1:List.set m0 (Int.toNat i1) (r2.take n1)=m2)(e2:IntKind.i64.wrap (i1+1)=i2)(ih:Lp E 1 H2 0 (Z9 n0 r0 i0 i2 m2) o t):Lp E 1 H2 0 (Z9 n0 r0 i0 i1 m0) o t:=by subst e1 e2;exact lpM (oT h1 (oP h2 (oD h3 (oN h4 (oP h5 (oO .sn (oO (.gt 0) oZ))))))) ih
theorem y7s (h1:¬ i1<i0):Lp E 1 H2 0 (Z9 n0 r0 i0 i1 m0) (.exit 0) (z5d n0 m0):=lpX (oU h1 oZ)
theorem x5c (h1:0≤(r0.length:Int)∧(r0.length:Int)≤(r0.length:Int)∧(Int.toNat (r0.length:Int))*24≤140737488355328∧(Int.toNat (r0.length:Int))≤140737488355328)(h2:Lp E 1 H2 0 (Z9 n0 r0 (r0.length:Int) 0 m0) (.exit 0) (z5d n0 m1))(e1:Int.toNat (r0.length:Int)=n0)(e2:(List.replicate n0 []:List (RW))=m0):Rn E H2 [.l r0] [] (.vec 0 n0) [some (.mat A7 m1 [])]:=by subst e1 e2;exact rnM (oP h1 (oO .mk (oL h2 oZ)))
def K8 (n0:Nat) (i0:Int) (s0:BA) (i1 i2 i3 i4:Int) (m0:List (RW)):St:=stOf 144 [(0,.vec 0 n0),(6,.i i0),(7,.s s0),(8,.i i1),(9,.i i2),(15,.i i3),(16,.i i4)] [some (.mat A7 m0 [])]
def z6o (n0:Nat) (i0:Int) (s0:BA) (i3 i4:Int) (m1:List (RW)):St:=stOf 144 [(0,.vec 0 n0),(6,.i i0),(7,.s s0),(15,.i i3),(16,.i i4)] [some (.mat A7 m1 [])]
def z2g (n0:Nat) (i0:Int) (s0:BA) (i1 i3 i4 i5:Int) (m1:List (RW)):St:=stOf 144 [(0,.vec 0 n0),(6,.i i0),(7,.s s0),(8,.i i1),(9,.i i5),(15,.i i3),(16,.i i4)] [some (.mat A7 m1 [])]
theorem y1l (h1:¬ i2≥((n0:Nat):Int))(h2:m0[(Int.toNat i2)]?=some r0)(h3:0≤i2∧i2<((n0:Nat):Int))(h4:0≤i1∧i1<((n1:Nat):Int))(h5:r0[(Int.toNat i1)]?=some [.s s1])(h6:s1=(⟨#[48]⟩:BA))(e1:r0.length=n1)(e2:List.set m0 (Int.toNat i2) (r0.take n1)=m2)(e3:IntKind.i64.wrap (i2+1)=i6)(ih:Lp E 1 A1 1 (K8 n0 i0 s0 i1 i6 i3 i4 m2) o t):Lp E 1 A1 1 (K8 n0 i0 s0 i1 i2 i3 i4 m0) o t:=by subst e1 e2 e3;exact lpM (oU h1 (oI 0 h2 (oP h3 (oO (.sm 0) (oP (show (Int.toNat i2)=(Int.toNat i2) from rfl) (oP h4 (oD h5 (oC (snF h6) (oO (.gt 0) oZ))))))))) ih
theorem y9j (h1:i2≥((n0:Nat):Int)):Lp E 1 A1 1 (K8 n0 i0 s0 i1 i2 i3 i4 m0) (.exit 1) (z6o n0 i0 s0 i3 i4 m0):=lpX (oT h1 oZ)
theorem y9k (h1:¬ i2≥((n0:Nat):Int))(h2:m0[(Int.toNat i2)]?=some r0)(h3:0≤i2∧i2<((n0:Nat):Int))(h4:0≤i1∧i1<((n1:Nat):Int))(h5:r0[(Int.toNat i1)]?=some [.s s1])(h6:¬ s1=(⟨#[48]⟩:BA))(e1:r0.length=n1)(e2:List.set m0 (Int.toNat i2) (r0.take n1)=m2):Lp E 1 A1 1 (K8 n0 i0 s0 i1 i2 i3 i4 m0) (.exit 2) (z2g n0 i0 s0 i1 i3 i4 i2 m2):=by subst e1 e2;exact lpX (oU h1 (oI 0 h2 (oP h3 (oO (.sm 0) (oP (show (Int.toNat i2)=(Int.toNat i2) from rfl) (oP h4 (oD h5 (oB (snT h6) (oO (.gt 0) oZ)))))))))
def z0t (n0:Nat) (i0:Int) (s0:BA) (i1:Int) (s1:BA) (i2 i3 i4 i5:Int) (m0:List (RW)):St:=stOf 144 [(0,.vec 0 n0),(6,.i i0),(7,.s s0),(8,.i i1),(10,.s s1),(15,.i i2),(16,.i i3),(67,.i i4),(68,.i i5)] [some (.mat A7 m0 []),some .dead,some .dead,some .dead,some .dead]
def z6p (n0:Nat) (i0:Int) (s0:BA) (i1 i2 i3:Int) (m1:List (RW)):St:=stOf 144 [(0,.vec 0 n0),(6,.i i0),(7,.s s0),(8,.i i1),(15,.i i2),(16,.i i3)] [some (.mat A7 m1 []),some .dead,some .dead,some .dead,some .dead]
theorem x3b (h1:i5<i4)(h2:m0[(Int.toNat i0)]?=some r0)(h3:0≤i0∧i0<((n0:Nat):Int))(h4:0≤i5∧i5<((n1:Nat):Int))(h5:r0[(Int.toNat i5)]?=some [.s s2])(h6:Fn E y5o [.s s2,.s s1] (.s s3))(e1:r0.length=n1)(e2:List.set r0 (Int.toNat i5) [.s s3]=r1)(e3:List.set m0 (Int.toNat i0) (r1.take n1)=m2)(e4:IntKind.i64.wrap (i5+1)=i6)(ih:Lp E 5 A1 2 (z0t n0 i0 s0 i1 s1 i2 i3 i4 i6 m2) o t):Lp E 5 A1 2 (z0t n0 i0 s0 i1 s1 i2 i3 i4 i5 m0) o t:=by subst e1 e2 e3 e4;exact lpM (oT h1 (oI 0 h2 (oP h3 (oO (.sm 0) (oP (show (Int.toNat i0)=(Int.toNat i0) from rfl) (oP h3 (oO (.sm 0) (oP (show (Int.toNat i0)=(Int.toNat i0) from rfl) (oP h4 (oD h5 (oF h6 (oP h4 (oD h5 (oO (.gt 0) oZ)))))))))))))) ih
theorem y9l (h1:¬ i5<i4):Lp E 5 A1 2 (z0t n0 i0 s0 i1 s1 i2 i3 i4 i5 m0) (.exit 4) (z6p n0 i0 s0 i1 i2 i3 m0):=lpX (oU h1 oZ)
def z0u (n0:Nat) (i0:Int) (s0:BA) (i1 i2:Int) (s1:BA) (i3 i4 i5 i6 i7 i8:Int) (m0:List (RW)):St:=stOf 144 [(0,.vec 0 n0),(6,.i i0),(7,.s s0),(8,.i i1),(12,.i i2),(13,.s s1),(15,.i i3),(16,.i i4),(88,.i i5),(89,.i i6),(110,.i i7),(111,.i i8)] [some (.mat A7 m0 []),some .dead,some .dead,some .dead,some .dead,some .dead,some .dead]
def z6r (n0:Nat) (i0:Int) (s0:BA) (i1 i3 i4 i5 i6:Int) (m1:List (RW)):St:=stOf 144 [(0,.vec 0 n0),(6,.i i0),(7,.s s0),(8,.i i1),(15,.i i3),(16,.i i4),(88,.i i5),(89,.i i6)] [some (.mat A7 m1 []),some .dead,some .dead,some .dead,some .dead,some .dead,some .dead]
theorem x3f (h1:i8<i7)(h2:m0[(Int.toNat i2)]?=some r0)(h3:m0[(Int.toNat i0)]?=some r1)(h4:(Int.toNat i0)≠(Int.toNat i2))(h5:0≤i2∧i2<((n0:Nat):Int))(h6:0≤i8∧i8<((n1:Nat):Int))(h7:r0[(Int.toNat i8)]?=some [.s s2])(h8:0≤i0∧i0<((n0:Nat):Int))(h9:0≤i8∧i8<((n2:Nat):Int))(h10:r1[(Int.toNat i8)]?=some [.s s3])(h11:Fn E z2q [.s s1,.s s3] (.s s4))(h12:Fn E z8a [.s s2,.s s4] (.s s5))(e1:r0.length=n1)(e2:r1.length=n2)(e3:List.set r0 (Int.toNat i8) [.s s5]=r2)(e4:List.set m0 (Int.toNat i2) (r2.take n1)=m2)(e5:List.set m2 (Int.toNat i0) (r1.take n2)=m3)(e6:IntKind.i64.wrap (i8+1)=i9)(ih:Lp E 7 A1 4 (z0u n0 i0 s0 i1 i2 s1 i3 i4 i5 i6 i7 i9 m3) o t):Lp E 7 A1 4 (z0u n0 i0 s0 i1 i2 s1 i3 i4 i5 i6 i7 i8 m0) o t:=by subst e1 e2 e3 e4 e5 e6;exact lpM (oT h1 (oI 0 h2 (oI 0 h3 (oP h4 (oP h5 (oO (.sm 0) (oP (show (Int.toNat i2)=(Int.toNat i2) from rfl) (oP h5 (oO (.sm 0) (oP (show (Int.toNat i2)=(Int.toNat i2) from rfl) (oP h6 (oD h7 (oP h8 (oO (.sm 1) (oP (show (Int.toNat i0)=(Int.toNat i0) from rfl) (oP h9 (oD h10 (oF h11 (oF h12 (oP h6 (oD h7 (oO (.gt 0) oZ)))))))))))))))))))))) ih
theorem y9n (h1:¬ i8<i7):Lp E 7 A1 4 (z0u n0 i0 s0 i1 i2 s1 i3 i4 i5 i6 i7 i8 m0) (.exit 8) (z6r n0 i0 s0 i1 i3 i4 i5 i6 m0):=lpX (oU h1 oZ)
def K9 (n0:Nat) (i0:Int) (s0:BA) (i1 i2 i3 i4 i5:Int) (m0:List (RW)):St:=stOf 144 [(0,.vec 0 n0),(6,.i i0),(7,.s s0),(8,.i i1),(15,.i i2),(16,.i i3),(88,.i i4),(89,.i i5)] [some (.mat A7 m0 []),some .dead,some .dead,some .dead,some .dead]
def z6q (n0:Nat) (i0:Int) (s0:BA) (i2 i3:Int) (m1:List (RW)):St:=stOf 144 [(0,.vec 0 n0),(6,.i i0),(7,.s s0),(15,.i i2),(16,.i i3)] [some (.mat A7 m1 []),some .dead,some .dead,some .dead,some .dead]
section
variable (h1:i5<i4)(h2:m0[(Int.toNat i5)]?=some r0)(h3:0≤i5∧i5<((n0:Nat):Int))(h4:0≤i1∧i1<((n1:Nat):Int))(h5:r0[(Int.toNat i1)]?=some [.s s1])
include h1 h2 h3 h4 h5
theorem x3c (h6:¬ i5=i0)(h7:¬ s1=(⟨#[48]⟩:BA))(h8:m2[(Int.toNat i5)]?=some r1)(h9:Lp E 7 A1 4 (z0u n0 i0 s0 i1 i5 s1 i2 i3 i4 i5 ((n2:Nat):Int) 0 m3) (.exit 8) (z6r n0 i0 s0 i1 i2 i3 i4 i5 m4))(e1:r0.length=n1)(e2:List.set m0 (Int.toNat i5) (r0.take n1)=m2)(e3:r1.length=n2)(e4:List.set m2 (Int.toNat i5) (r1.take n2)=m3)(e5:IntKind.i64.wrap (i5+1)=i6)(ih:Lp E 5 A1 3 (K9 n0 i0 s0 i1 i2 i3 i4 i6 m4) o t):Lp E 5 A1 3 (K9 n0 i0 s0 i1 i2 i3 i4 i5 m0) o t:=by subst e1 e2 e3 e4 e5;exact lpM (oT h1 (oI 0 h2 (oP h3 (oO (.sm 0) (oP (show (Int.toNat i5)=(Int.toNat i5) from rfl) (oP h4 (oD h5 (oO (.gt 0) (oB (bnT h6) (oB (snT h7) (oI 0 h8 (oP h3 (oO (.sm 0) (oP (show (Int.toNat i5)=(Int.toNat i5) from rfl) (oO (.gt 0) (oL h9 oZ)))))))))))))))) ih
theorem x3d (h6:¬ i5=i0)(h7:s1=(⟨#[48]⟩:BA))(e1:r0.length=n1)(e2:List.set m0 (Int.toNat i5) (r0.take n1)=m2)(e3:IntKind.i64.wrap (i5+1)=i7)(ih:Lp E 5 A1 3 (K9 n0 i0 s0 i1 i2 i3 i4 i7 m2) o t):Lp E 5 A1 3 (K9 n0 i0 s0 i1 i2 i3 i4 i5 m0) o t:=by subst e1 e2 e3;exact lpM (oT h1 (oI 0 h2 (oP h3 (oO (.sm 0) (oP (show (Int.toNat i5)=(Int.toNat i5) from rfl) (oP h4 (oD h5 (oO (.gt 0) (oB (bnT h6) (oC (snF h7) oZ)))))))))) ih
theorem x3e (h6:i5=i0)(e1:r0.length=n1)(e2:List.set m0 (Int.toNat i5) (r0.take n1)=m2)(e3:IntKind.i64.wrap (i5+1)=i7)(ih:Lp E 5 A1 3 (K9 n0 i0 s0 i1 i2 i3 i4 i7 m2) o t):Lp E 5 A1 3 (K9 n0 i0 s0 i1 i2 i3 i4 i5 m0) o t:=by subst e1 e2 e3;exact lpM (oT h1 (oI 0 h2 (oP h3 (oO (.sm 0) (oP (show (Int.toNat i5)=(Int.toNat i5) from rfl) (oP h4 (oD h5 (oO (.gt 0) (oC (bnF h6) oZ))))))))) ih
end
theorem y9m (h1:¬ i5<i4):Lp E 5 A1 3 (K9 n0 i0 s0 i1 i2 i3 i4 i5 m0) (.exit 6) (z6q n0 i0 s0 i2 i3 m0):=lpX (oU h1 oZ)
def z0a (n0:Nat) (i0:Int) (s0:BA) (i1:Int) (s1:BA) (i2 i3 i4 i5:Int) (m0:List (RW)):St:=stOf 144 [(0,.vec 0 n0),(6,.i i0),(7,.s s0),(8,.i i1),(10,.s s1),(15,.i i2),(16,.i i3),(67,.i i4),(68,.i i5)] [some (.mat A7 m0 []),some .dead,some .dead]
def z5e (n0:Nat) (i0:Int) (s0:BA) (i1 i2 i3:Int) (m1:List (RW)):St:=stOf 144 [(0,.vec 0 n0),(6,.i i0),(7,.s s0),(8,.i i1),(15,.i i2),(16,.i i3)] [some (.mat A7 m1 []),some .dead,some .dead]
theorem x0r (h1:i5<i4)(h2:m0[(Int.toNat i0)]?=some r0)(h3:0≤i0∧i0<((n0:Nat):Int))(h4:0≤i5∧i5<((n1:Nat):Int))(h5:r0[(Int.toNat i5)]?=some [.s s2])(h6:Fn E y5o [.s s2,.s s1] (.s s3))(e1:r0.length=n1)(e2:List.set r0 (Int.toNat i5) [.s s3]=r1)(e3:List.set m0 (Int.toNat i0) (r1.take n1)=m2)(e4:IntKind.i64.wrap (i5+1)=i6)(ih:Lp E 3 A1 2 (z0a n0 i0 s0 i1 s1 i2 i3 i4 i6 m2) o t):Lp E 3 A1 2 (z0a n0 i0 s0 i1 s1 i2 i3 i4 i5 m0) o t:=by subst e1 e2 e3 e4;exact lpM (oT h1 (oI 0 h2 (oP h3 (oO (.sm 0) (oP (show (Int.toNat i0)=(Int.toNat i0) from rfl) (oP h3 (oO (.sm 0) (oP (show (Int.toNat i0)=(Int.toNat i0) from rfl) (oP h4 (oD h5 (oF h6 (oP h4 (oD h5 (oO (.gt 0) oZ)))))))))))))) ih
theorem y7t (h1:¬ i5<i4):Lp E 3 A1 2 (z0a n0 i0 s0 i1 s1 i2 i3 i4 i5 m0) (.exit 4) (z5e n0 i0 s0 i1 i2 i3 m0):=lpX (oU h1 oZ)
def z0b (n0:Nat) (i0:Int) (s0:BA) (i1 i2:Int) (s1:BA) (i3 i4 i5 i6 i7 i8:Int) (m0:List (RW)):St:=stOf 144 [(0,.vec 0 n0),(6,.i i0),(7,.s s0),(8,.i i1),(12,.i i2),(13,.s s1),(15,.i i3),(16,.i i4),(88,.i i5),(89,.i i6),(110,.i i7),(111,.i i8)] [some (.mat A7 m0 []),some .dead,some .dead,some .dead,some .dead]
def z5g (n0:Nat) (i0:Int) (s0:BA) (i1 i3 i4 i5 i6:Int) (m1:List (RW)):St:=stOf 144 [(0,.vec 0 n0),(6,.i i0),(7,.s s0),(8,.i i1),(15,.i i3),(16,.i i4),(88,.i i5),(89,.i i6)] [some (.mat A7 m1 []),some .dead,some .dead,some .dead,some .dead]
theorem x0v (h1:i8<i7)(h2:m0[(Int.toNat i2)]?=some r0)(h3:m0[(Int.toNat i0)]?=some r1)(h4:(Int.toNat i0)≠(Int.toNat i2))(h5:0≤i2∧i2<((n0:Nat):Int))(h6:0≤i8∧i8<((n1:Nat):Int))(h7:r0[(Int.toNat i8)]?=some [.s s2])(h8:0≤i0∧i0<((n0:Nat):Int))(h9:0≤i8∧i8<((n2:Nat):Int))(h10:r1[(Int.toNat i8)]?=some [.s s3])(h11:Fn E z2q [.s s1,.s s3] (.s s4))(h12:Fn E z8a [.s s2,.s s4] (.s s5))(e1:r0.length=n1)(e2:r1.length=n2)(e3:List.set r0 (Int.toNat i8) [.s s5]=r2)(e4:List.set m0 (Int.toNat i2) (r2.take n1)=m2)(e5:List.set m2 (Int.toNat i0) (r1.take n2)=m3)(e6:IntKind.i64.wrap (i8+1)=i9)(ih:Lp E 5 A1 4 (z0b n0 i0 s0 i1 i2 s1 i3 i4 i5 i6 i7 i9 m3) o t):Lp E 5 A1 4 (z0b n0 i0 s0 i1 i2 s1 i3 i4 i5 i6 i7 i8 m0) o t:=by subst e1 e2 e3 e4 e5 e6;exact lpM (oT h1 (oI 0 h2 (oI 0 h3 (oP h4 (oP h5 (oO (.sm 0) (oP (show (Int.toNat i2)=(Int.toNat i2) from rfl) (oP h5 (oO (.sm 0) (oP (show (Int.toNat i2)=(Int.toNat i2) from rfl) (oP h6 (oD h7 (oP h8 (oO (.sm 1) (oP (show (Int.toNat i0)=(Int.toNat i0) from rfl) (oP h9 (oD h10 (oF h11 (oF h12 (oP h6 (oD h7 (oO (.gt 0) oZ)))))))))))))))))))))) ih
theorem y7v (h1:¬ i8<i7):Lp E 5 A1 4 (z0b n0 i0 s0 i1 i2 s1 i3 i4 i5 i6 i7 i8 m0) (.exit 8) (z5g n0 i0 s0 i1 i3 i4 i5 i6 m0):=lpX (oU h1 oZ)
def J1 (n0:Nat) (i0:Int) (s0:BA) (i1 i2 i3 i4 i5:Int) (m0:List (RW)):St:=stOf 144 [(0,.vec 0 n0),(6,.i i0),(7,.s s0),(8,.i i1),(15,.i i2),(16,.i i3),(88,.i i4),(89,.i i5)] [some (.mat A7 m0 []),some .dead,some .dead]
def z5f (n0:Nat) (i0:Int) (s0:BA) (i2 i3:Int) (m1:List (RW)):St:=stOf 144 [(0,.vec 0 n0),(6,.i i0),(7,.s s0),(15,.i i2),(16,.i i3)] [some (.mat A7 m1 []),some .dead,some .dead]
section
variable (h1:i5<i4)(h2:m0[(Int.toNat i5)]?=some r0)(h3:0≤i5∧i5<((n0:Nat):Int))(h4:0≤i1∧i1<((n1:Nat):Int))(h5:r0[(Int.toNat i1)]?=some [.s s1])
include h1 h2 h3 h4 h5
theorem x0s (h6:¬ i5=i0)(h7:¬ s1=(⟨#[48]⟩:BA))(h8:m2[(Int.toNat i5)]?=some r1)(h9:Lp E 5 A1 4 (z0b n0 i0 s0 i1 i5 s1 i2 i3 i4 i5 ((n2:Nat):Int) 0 m3) (.exit 8) (z5g n0 i0 s0 i1 i2 i3 i4 i5 m4))(e1:r0.length=n1)(e2:List.set m0 (Int.toNat i5) (r0.take n1)=m2)(e3:r1.length=n2)(e4:List.set m2 (Int.toNat i5) (r1.take n2)=m3)(e5:IntKind.i64.wrap (i5+1)=i6)(ih:Lp E 3 A1 3 (J1 n0 i0 s0 i1 i2 i3 i4 i6 m4) o t):Lp E 3 A1 3 (J1 n0 i0 s0 i1 i2 i3 i4 i5 m0) o t:=by subst e1 e2 e3 e4 e5;exact lpM (oT h1 (oI 0 h2 (oP h3 (oO (.sm 0) (oP (show (Int.toNat i5)=(Int.toNat i5) from rfl) (oP h4 (oD h5 (oO (.gt 0) (oB (bnT h6) (oB (snT h7) (oI 0 h8 (oP h3 (oO (.sm 0) (oP (show (Int.toNat i5)=(Int.toNat i5) from rfl) (oO (.gt 0) (oL h9 oZ)))))))))))))))) ih
theorem x0t (h6:¬ i5=i0)(h7:s1=(⟨#[48]⟩:BA))(e1:r0.length=n1)(e2:List.set m0 (Int.toNat i5) (r0.take n1)=m2)(e3:IntKind.i64.wrap (i5+1)=i7)(ih:Lp E 3 A1 3 (J1 n0 i0 s0 i1 i2 i3 i4 i7 m2) o t):Lp E 3 A1 3 (J1 n0 i0 s0 i1 i2 i3 i4 i5 m0) o t:=by subst e1 e2 e3;exact lpM (oT h1 (oI 0 h2 (oP h3 (oO (.sm 0) (oP (show (Int.toNat i5)=(Int.toNat i5) from rfl) (oP h4 (oD h5 (oO (.gt 0) (oB (bnT h6) (oC (snF h7) oZ)))))))))) ih
theorem x0u (h6:i5=i0)(e1:r0.length=n1)(e2:List.set m0 (Int.toNat i5) (r0.take n1)=m2)(e3:IntKind.i64.wrap (i5+1)=i7)(ih:Lp E 3 A1 3 (J1 n0 i0 s0 i1 i2 i3 i4 i7 m2) o t):Lp E 3 A1 3 (J1 n0 i0 s0 i1 i2 i3 i4 i5 m0) o t:=by subst e1 e2 e3;exact lpM (oT h1 (oI 0 h2 (oP h3 (oO (.sm 0) (oP (show (Int.toNat i5)=(Int.toNat i5) from rfl) (oP h4 (oD h5 (oO (.gt 0) (oC (bnF h6) oZ))))))))) ih
end
theorem y7u (h1:¬ i5<i4):Lp E 3 A1 3 (J1 n0 i0 s0 i1 i2 i3 i4 i5 m0) (.exit 6) (z5f n0 i0 s0 i2 i3 m0):=lpX (oU h1 oZ)
def K7 (n0:Nat) (i0:Int) (s0:BA) (i1 i2:Int) (m0:List (RW)):St:=stOf 144 [(0,.vec 0 n0),(6,.i i0),(7,.s s0),(15,.i i1),(16,.i i2)] [some (.mat A7 m0 [])]
def z6n (i3:Int) (s1:BA) (m1:List (RW)):St:=stOf 144 [(6,.i i3),(7,.s s1)] [some (.mat A7 m1 [])]
theorem x2y (h1:i2<i1)(h2:Lp E 1 A1 1 (K8 n0 i0 s0 i2 i0 i1 i2 m0) (.exit 1) (z6o n0 i0 s0 i1 i2 m2))(e1:IntKind.i64.wrap (i2+1)=i4)(ih:Lp E 1 A1 0 (K7 n0 i0 s0 i1 i4 m2) o t):Lp E 1 A1 0 (K7 n0 i0 s0 i1 i2 m0) o t:=by subst e1;exact lpM (oT h1 (oL h2 oZ)) ih
theorem x2z (h1:i2<i1)(h2:Lp E 1 A1 1 (K8 n0 i0 s0 i2 i0 i1 i2 m0) (.exit 2) (z2g n0 i0 s0 i2 i1 i2 i5 m3))(h3:¬ i5=i0)(h4:m3[(Int.toNat i0)]?=some r0)(h5:m3[(Int.toNat i5)]?=some r1)(h6:(Int.toNat i5)≠(Int.toNat i0))(h7:0≤i0∧i0<((n0:Nat):Int))(h8:0≤i5∧i5<((n0:Nat):Int))(h9:Fn E z8a [.s ⟨#[48]⟩,.s s0] (.s s2))(h10:m5[(Int.toNat i0)]?=some r2)(h11:0≤i2∧i2<((n3:Nat):Int))(h12:r2[(Int.toNat i2)]?=some [.s s3])(h13:Fn E z2q [.s s2,.s s3] (.s s4))(h14:m6[(Int.toNat i0)]?=some r3)(h15:Lp E 5 A1 2 (z0t n0 i0 s4 i2 s3 i1 i2 ((n4:Nat):Int) 0 m7) (.exit 4) (z6p n0 i0 s4 i2 i1 i2 m8))(h16:Lp E 5 A1 3 (K9 n0 i0 s4 i2 i1 i2 ((n0:Nat):Int) 0 m8) (.exit 6) (z6q n0 i0 s4 i1 i2 m9))(e1:r0.length=n1)(e2:r1.length=n2)(e3:List.set m3 (Int.toNat i0) (r1.take n2)=m4)(e4:List.set m4 (Int.toNat i5) (r0.take n1)=m5)(e5:r2.length=n3)(e6:List.set m5 (Int.toNat i0) (r2.take n3)=m6)(e7:r3.length=n4)(e8:List.set m6 (Int.toNat i0) (r3.take n4)=m7)(e9:IntKind.i64.wrap (i0+1)=i6)(e10:IntKind.i64.wrap (i2+1)=i7)(ih:Lp E 1 A1 0 (K7 n0 i6 s4 i1 i7 m9) o t):Lp E 1 A1 0 (K7 n0 i0 s0 i1 i2 m0) o t:=by subst e1 e2 e3 e4 e5 e6 e7 e8 e9 e10;exact lpM (oT h1 (oL h2 (oB (bnT h3) (oI 0 h4 (oI 0 h5 (oP h6 (oP h7 (oO (.sm 0) (oP (show (Int.toNat i0)=(Int.toNat i0) from rfl) (oP h8 (oO (.sm 1) (oP (show (Int.toNat i5)=(Int.toNat i5) from rfl) (oP h8 (oO (.sm 1) (oP (show (Int.toNat i5)=(Int.toNat i5) from rfl) (oP h7 (oO (.sm 0) (oP (show (Int.toNat i0)=(Int.toNat i0) from rfl) (oO (.gt 0) (oF h9 (oI 0 h10 (oP h7 (oO (.sm 0) (oP (show (Int.toNat i0)=(Int.toNat i0) from rfl) (oP h11 (oD h12 (oO (.gt 0) (oF h13 (oI 0 h14 (oP h7 (oO (.sm 0) (oP (show (Int.toNat i0)=(Int.toNat i0) from rfl) (oO (.gt 0) (oL h15 (oL h16 oZ))))))))))))))))))))))))))))))))))) ih
theorem x3a (h1:i2<i1)(h2:Lp E 1 A1 1 (K8 n0 i0 s0 i2 i0 i1 i2 m0) (.exit 2) (z2g n0 i0 s0 i2 i1 i2 i5 m3))(h3:i5=i0)(h4:m3[(Int.toNat i0)]?=some r0)(h5:0≤i0∧i0<((n0:Nat):Int))(h6:0≤i2∧i2<((n1:Nat):Int))(h7:r0[(Int.toNat i2)]?=some [.s s5])(h8:Fn E z2q [.s s0,.s s5] (.s s6))(h9:m10[(Int.toNat i0)]?=some r4)(h10:Lp E 3 A1 2 (z0a n0 i0 s6 i2 s5 i1 i2 ((n5:Nat):Int) 0 m11) (.exit 4) (z5e n0 i0 s6 i2 i1 i2 m12))(h11:Lp E 3 A1 3 (J1 n0 i0 s6 i2 i1 i2 ((n0:Nat):Int) 0 m12) (.exit 6) (z5f n0 i0 s6 i1 i2 m13))(e1:r0.length=n1)(e2:List.set m3 (Int.toNat i0) (r0.take n1)=m10)(e3:r4.length=n5)(e4:List.set m10 (Int.toNat i0) (r4.take n5)=m11)(e5:IntKind.i64.wrap (i0+1)=i8)(e6:IntKind.i64.wrap (i2+1)=i9)(ih:Lp E 1 A1 0 (K7 n0 i8 s6 i1 i9 m13) o t):Lp E 1 A1 0 (K7 n0 i0 s0 i1 i2 m0) o t:=by subst e1 e2 e3 e4 e5 e6;exact lpM (oT h1 (oL h2 (oC (bnF h3) (oI 0 h4 (oP h5 (oO (.sm 0) (oP (show (Int.toNat i0)=(Int.toNat i0) from rfl) (oP h6 (oD h7 (oO (.gt 0) (oF h8 (oI 0 h9 (oP h5 (oO (.sm 0) (oP (show (Int.toNat i0)=(Int.toNat i0) from rfl) (oO (.gt 0) (oL h10 (oL h11 oZ)))))))))))))))))) ih
theorem y9i (h1:¬ i2<i1):Lp E 1 A1 0 (K7 n0 i0 s0 i1 i2 m0) (.exit 0) (z6n i0 s0 m0):=lpX (oU h1 oZ)
theorem k2y (h1:Lp E 1 A1 0 (K7 n0 0 ⟨#[49]⟩ i0 0 m0) (.exit 0) (z6n i1 s0 m1)):Rn E A1 [.vec 0 n0,.i i0] [some (.mat A7 m0 [])] (.tup [.i i1,.s s0]) [some (.mat A7 m1 [])]:=rnM (oL h1 oZ)
theorem j8q (h1:(r0.length:Int)=0):Fn E z3f [.l r0] (.i 1):=fnM (oB (beT h1) oZ)
section
variable (h1:¬ (r0.length:Int)=0)
include h1
theorem j8r (h2:(r0.length:Int)>12):Fn E z3f [.l r0] (.i 1):=fnM (oC (beF h1) (oT h2 oZ))
theorem j8s (h2:¬ (r0.length:Int)>12)(h3:Fn E z3u [.l r0] (.b true)):Fn E z3f [.l r0] (.i 0):=fnM (oC (beF h1) (oU h2 (oF h3 oZ)))
theorem j8t (h2:¬ (r0.length:Int)>12)(h3:Fn E z3u [.l r0] (.b false)):Fn E z3f [.l r0] (.i 1):=fnM (oC (beF h1) (oU h2 (oF h3 oZ)))
end
def z4d (n0:Nat) (r0:RW) (i0 i1:Int) (r1:RW):St:=stOf 19 [(3,.vec 0 n0),(6,.l r0),(7,.i i0),(8,.i i1)] [sV A7 r1]
def z9y (n1:Nat) (r2:RW):St:=stOf 19 [(3,.vec 0 n1)] [sV A7 r2]
theorem k0l (h1:i1<i0)(h2:0≤i1)(h3:r0[(Int.toNat i1)]?=some [.s s0])(h4:(n0+1)*24≤140737488355328∧n0+1≤140737488355328)(e1:(([[.s s0]]:RW).take 1)=r3)(e2:(r1.take n0)++[[.l r3]]=r4)(e3:n0+1=n2)(e4:IntKind.i64.wrap (i1+1)=i2)(ih:Lp E 0 O3 0 (z4d n2 r0 i0 i2 r4) o t):Lp E 0 O3 0 (z4d n0 r0 i0 i1 r1) o t:=by subst e1 e2 e3 e4;exact lpM (oT h1 (oP h2 (oD h3 (oP (show ∀ y∈([[.l (([[.s s0]]:RW).take 1)]]:RW),y.length=1 from by simp) (oP h4 oZ))))) ih
theorem x5b (h1:¬ i1<i0):Lp E 0 O3 0 (z4d n0 r0 i0 i1 r1) (.exit 0) (z9y n0 r1):=lpX (oU h1 oZ)
theorem j1h (h1:Lp E 0 O3 0 (z4d 0 r0 (r0.length:Int) 0 []) (.exit 0) (z9y n0 r1))(e1:(r1.take n0)=r2):Fn E O3 [.l r0] (.l r2):=by subst e1;exact fnM (oM [(3,A7)] h1 oZ)
def z5s (r0:RW) (i0:Int) (n0:Nat) (i1 i2:Int) (m0:List (RW)):St:=stOf 59 [(1,.l r0),(6,.i i0),(7,.vec 0 n0),(17,.i i1),(18,.i i2)] [some (.mat A7 m0 [])]
def y1m (i0:Int) (n0:Nat) (m1:List (RW)):St:=stOf 59 [(6,.i i0),(7,.vec 0 n0)] [some (.mat A7 m1 [])]
theorem k2z (h1:i2<i1)(h2:m0[(Int.toNat i2)]?=some r1)(h3:0≤i2∧i2<((n0:Nat):Int))(h4:0≤i2)(h5:r0[(Int.toNat i2)]?=some [.l r2])(h6:∀ y∈r2,y.length=1)(h7:(n1+r2.length)*16≤140737488355328∧n1+r2.length≤140737488355328)(e1:r1.length=n1)(e2:(r1.take n1)++r2=r3)(e3:n1+r2.length=n2)(e4:List.set m0 (Int.toNat i2) (r3.take n2)=m2)(e5:IntKind.i64.wrap (i2+1)=i3)(ih:Lp E 1 G2 0 (z5s r0 i0 n0 i1 i3 m2) o t):Lp E 1 G2 0 (z5s r0 i0 n0 i1 i2 m0) o t:=by subst e1 e2 e3 e4 e5;exact lpM (oT h1 (oI 0 h2 (oP h3 (oO (.sm 0) (oP (show (Int.toNat i2)=(Int.toNat i2) from rfl) (oP h4 (oD h5 (oP h6 (oP h7 (oP h3 (oO (.sm 0) (oP (show (Int.toNat i2)=(Int.toNat i2) from rfl) (oO (.gt 0) oZ))))))))))))) ih
theorem x7g (h1:¬ i2<i1):Lp E 1 G2 0 (z5s r0 i0 n0 i1 i2 m0) (.exit 0) (y1m i0 n0 m0):=lpX (oU h1 oZ)
def z5t (i0:Int) (n0:Nat) (i1 i2:Int) (r0:RW):St:=stOf 59 [(6,.i i0),(7,.vec 0 n0),(44,.i i1),(45,.i i2)] [sV A7 r0]
def y1n (n0:Nat) (r1:RW):St:=stOf 59 [(7,.vec 0 n0)] [sV A7 r1]
theorem k3a (h1:i2<i1)(h2:0≤i2∧i2<((n0:Nat):Int))(h3:r0[(Int.toNat i2)]?=some [.l r2])(h4:0≤i0∧i0≤(r2.length:Int)∧(r2.length:Int)≤r2.length∧∀ x∈r2,x.length=1)(e1:List.drop (Int.toNat i0) (r2.take (Int.toNat (r2.length:Int)))=r3)(e2:List.set r0 (Int.toNat i2) [.l r3]=r4)(e3:IntKind.i64.wrap (i2+1)=i3)(ih:Lp E 1 G2 1 (z5t i0 n0 i1 i3 r4) o t):Lp E 1 G2 1 (z5t i0 n0 i1 i2 r0) o t:=by subst e1 e2 e3;exact lpM (oT h1 (oP h2 (oD h3 (oP h4 (oP h2 (oD h3 oZ)))))) ih
theorem x7h (h1:¬ i2<i1):Lp E 1 G2 1 (z5t i0 n0 i1 i2 r0) (.exit 2) (y1n n0 r0):=lpX (oU h1 oZ)
section
variable (h1:Rn E H2 [.l r0] [] (.vec 0 n0) [some (.mat A7 m0 [])])(h2:Lp E 1 G2 0 (z5s r1 (r0.length:Int) n0 ((n0:Nat):Int) 0 m0) (.exit 0) (y1m (r0.length:Int) n0 m1))(h3:Rn E A1 [.vec 0 n0,.i (r0.length:Int)] [some (.mat A7 m1 [])] (.tup [.i i0,.s s0]) [some (.mat A7 m2 [])])
include h1 h2 h3
theorem j5p (h4:i0<(r0.length:Int))(e1:List.map (fun x=>[DV.list x]) m2=r2):Fn E G2 [.l r0,.l r1] (.tup [.l [],.b false]):=by subst e1;exact fnM (oQ h1 (oL h2 (oV h3 (oO (.dm 0) (oT h4 oZ)))))
theorem j5q (h4:¬ i0<(r0.length:Int))(h5:Lp E 1 G2 1 (z5t (r0.length:Int) n0 ((n0:Nat):Int) 0 r2) (.exit 2) (y1n n0 r3))(e1:List.map (fun x=>[DV.list x]) m2=r2)(e2:(r3.take n0)=r4):Fn E G2 [.l r0,.l r1] (.tup [.l r4,.b true]):=by subst e1 e2;exact fnM (oQ h1 (oL h2 (oV h3 (oO (.dm 0) (oU h4 (oL h5 oZ))))))
end
def z9a (r0 r1:RW) (s0:BA) (i0 i1:Int):St:=stOf 25 [(0,.l r0),(1,.l r1),(5,.s s0),(8,.i i0),(9,.i i1)] []
def y4x (s1:BA):St:=stOf 25 [(5,.s s1)] []
theorem k8u (h1:i1<i0)(h2:0≤i1)(h3:r0[(Int.toNat i1)]?=some [.s s2])(h4:r1[(Int.toNat i1)]?=some [.s s3])(h5:Fn E z2q [.s s2,.s s3] (.s s4))(h6:Fn E y5n [.s s0,.s s4] (.s s5))(e1:IntKind.i64.wrap (i1+1)=i2)(ih:Lp E 0 z0z 0 (z9a r0 r1 s5 i0 i2) o t):Lp E 0 z0z 0 (z9a r0 r1 s0 i0 i1) o t:=by subst e1;exact lpM (oT h1 (oP h2 (oD h3 (oP h2 (oD h4 (oF h5 (oF h6 oZ))))))) ih
theorem k2x (h1:¬ i1<i0):Lp E 0 z0z 0 (z9a r0 r1 s0 i0 i1) (.exit 0) (y4x s0):=lpX (oU h1 oZ)
theorem q4l (h1:Lp E 0 z0z 0 (z9a r0 r1 ⟨#[48]⟩ (r0.length:Int) 0) (.exit 0) (y4x s0)):Fn E z0z [.l r0,.l r1] (.s s0):=fnM (oL h1 oZ)
theorem q4n (h1:Fn E z7d [.s s0,.s s1] (.tup [.s s2,.i i0])):Fn E z8a [.s s0,.s s1] (.s s2):=fnM (oF h1 oZ)
theorem q4m (h1:Fn E z1r [.s s0,.s s1] (.tup [.s s2,.i i0])):Fn E z2q [.s s0,.s s1] (.s s2):=fnM (oF h1 oZ)
theorem q4j (h1:Fn E z1p [.s s0,.s s1] (.tup [.s s2,.i i0])):Fn E y5n [.s s0,.s s1] (.s s2):=fnM (oF h1 oZ)
theorem q4k (h1:Fn E y6n [.s s0,.s s1] (.tup [.s s2,.i i0])):Fn E y5o [.s s0,.s s1] (.s s2):=fnM (oF h1 oZ)
theorem k8w (h1:Fn E y2o [.s s0] (.b b0)):Fn E I5 [.s s0] (.b (!b0)):=fnM (oF h1 oZ)
end Gev
namespace Gev
open Go Go.Proofs
variable {E:Env}
variable {o:Out} {t:St} {r0 r1:RW} {i0 i1 i2 i3:Int} {s0 s1:BA}
def z0x (r0 r1:RW) (i0 i1:Int):St:=stOf 26 [(0,.l r0),(1,.l r1),(12,.i i0),(13,.i i1)] []
def z6v:St:=stOf 26 [] []
theorem x3x (h1:i1<i0)(h2:0≤i1)(h3:r0[(Int.toNat i1)]?=some [.s s0])(h4:r1[(Int.toNat i1)]?=some [.s s1])(h5:s0=s1)(e1:IntKind.i64.wrap (i1+1)=i2)(ih:Lp E 0 J6 0 (z0x r0 r1 i0 i2) o t):Lp E 0 J6 0 (z0x r0 r1 i0 i1) o t:=by subst e1;exact lpM (oT h1 (oP h2 (oD h3 (oP h2 (oD h4 (oC (snF h5) oZ)))))) ih
theorem y9v (h1:¬ i1<i0):Lp E 0 J6 0 (z0x r0 r1 i0 i1) (.exit 0) (z6v):=lpX (oU h1 oZ)
theorem k4r (h1:(r0.length:Int)=(r1.length:Int))(h2:Lp E 0 J6 0 (z0x r0 r1 (r0.length:Int) 0) (.exit 0) (z6v)):Fn E J6 [.l r0,.l r1] (.b true):=fnM (oC (bnF h1) (oL h2 oZ))
section
variable (h1:Fn E A6 [.l r0,.fn D2 []] (.i i0))
include h1
theorem z3o (h2:i0≥0):Fn E C9 [.l r0,.fn D2 []] (.b true):=fnM (oF h1 (oT h2 oZ))
theorem z3p (h2:¬ i0≥0):Fn E C9 [.l r0,.fn D2 []] (.b false):=fnM (oF h1 (oU h2 oZ))
end
section
variable (h1:Fn E A6 [.l r0,.fn D7 []] (.i i0))
include h1
theorem z3m (h2:i0≥0):Fn E C9 [.l r0,.fn D7 []] (.b true):=fnM (oF h1 (oT h2 oZ))
theorem z3n (h2:¬ i0≥0):Fn E C9 [.l r0,.fn D7 []] (.b false):=fnM (oF h1 (oU h2 oZ))
end
def M4 (r0:RW) (i0 i1:Int):St:=stOf 19 [(0,.l r0),(1,.fn D2 []),(7,.i i0),(8,.i i1)] []
def z2i (i2:Int):St:=stOf 19 [(4,.i i2)] []
def z2j:St:=stOf 19 [] []
section
variable (h1:i1<i0)(h2:0≤i1)(h3:r0[(Int.toNat i1)]?=some [.s s0])
include h1 h2 h3
theorem y7j (h4:Fn E D2 [.s s0] (.b false))(e1:IntKind.i64.wrap (i1+1)=i3)(ih:Lp E 0 A6 0 (M4 r0 i0 i3) o t):Lp E 0 A6 0 (M4 r0 i0 i1) o t:=by subst e1;exact lpM (oT h1 (oP h2 (oD h3 (oF h4 oZ)))) ih
theorem y5k (h4:Fn E D2 [.s s0] (.b true)):Lp E 0 A6 0 (M4 r0 i0 i1) .ret (z2i i1):=lpX (oT h1 (oP h2 (oD h3 (oF h4 oZ))))
end
theorem y5l (h1:¬ i1<i0):Lp E 0 A6 0 (M4 r0 i0 i1) (.exit 0) (z2j):=lpX (oU h1 oZ)
theorem z4n (h1:Lp E 0 A6 0 (M4 r0 (r0.length:Int) 0) .ret (z2i i0)):Fn E A6 [.l r0,.fn D2 []] (.i i0):=fnM (oL h1 oZ)
theorem z4o (h1:Lp E 0 A6 0 (M4 r0 (r0.length:Int) 0) (.exit 0) (z2j)):Fn E A6 [.l r0,.fn D2 []] (.i (-1)):=fnM (oL h1 oZ)
def J9 (r0:RW) (i0 i1:Int):St:=stOf 19 [(0,.l r0),(1,.fn D7 []),(7,.i i0),(8,.i i1)] []
def z2c (i2:Int):St:=stOf 19 [(4,.i i2)] []
def z2d:St:=stOf 19 [] []
section
variable (h1:i1<i0)(h2:0≤i1)(h3:r0[(Int.toNat i1)]?=some [.s s0])
include h1 h2 h3
theorem y6a (h4:Fn E D7 [.s s0] (.b false))(e1:IntKind.i64.wrap (i1+1)=i3)(ih:Lp E 0 A6 0 (J9 r0 i0 i3) o t):Lp E 0 A6 0 (J9 r0 i0 i1) o t:=by subst e1;exact lpM (oT h1 (oP h2 (oD h3 (oF h4 oZ)))) ih
theorem y4n (h4:Fn E D7 [.s s0] (.b true)):Lp E 0 A6 0 (J9 r0 i0 i1) .ret (z2c i1):=lpX (oT h1 (oP h2 (oD h3 (oF h4 oZ))))
end
theorem y4o (h1:¬ i1<i0):Lp E 0 A6 0 (J9 r0 i0 i1) (.exit 0) (z2d):=lpX (oU h1 oZ)
theorem z4l (h1:Lp E 0 A6 0 (J9 r0 (r0.length:Int) 0) .ret (z2c i0)):Fn E A6 [.l r0,.fn D7 []] (.i i0):=fnM (oL h1 oZ)
theorem z4m (h1:Lp E 0 A6 0 (J9 r0 (r0.length:Int) 0) (.exit 0) (z2d)):Fn E A6 [.l r0,.fn D7 []] (.i (-1)):=fnM (oL h1 oZ)
section
variable (h1:Fn E A6 [.l r0,.fn I5 []] (.i i0))
include h1
theorem z6d (h2:i0≥0):Fn E C9 [.l r0,.fn I5 []] (.b true):=fnM (oF h1 (oT h2 oZ))
theorem z6e (h2:¬ i0≥0):Fn E C9 [.l r0,.fn I5 []] (.b false):=fnM (oF h1 (oU h2 oZ))
end
def K0 (r0:RW) (i0 i1:Int):St:=stOf 19 [(0,.l r0),(1,.fn I5 []),(7,.i i0),(8,.i i1)] []
def z2e (i2:Int):St:=stOf 19 [(4,.i i2)] []
def z2f:St:=stOf 19 [] []
section
variable (h1:i1<i0)(h2:0≤i1)(h3:r0[(Int.toNat i1)]?=some [.s s0])
include h1 h2 h3
theorem y6b (h4:Fn E I5 [.s s0] (.b false))(e1:IntKind.i64.wrap (i1+1)=i3)(ih:Lp E 0 A6 0 (K0 r0 i0 i3) o t):Lp E 0 A6 0 (K0 r0 i0 i1) o t:=by subst e1;exact lpM (oT h1 (oP h2 (oD h3 (oF h4 oZ)))) ih
theorem y4p (h4:Fn E I5 [.s s0] (.b true)):Lp E 0 A6 0 (K0 r0 i0 i1) .ret (z2e i1):=lpX (oT h1 (oP h2 (oD h3 (oF h4 oZ))))
end
theorem y4q (h1:¬ i1<i0):Lp E 0 A6 0 (K0 r0 i0 i1) (.exit 0) (z2f):=lpX (oU h1 oZ)
theorem z7v (h1:Lp E 0 A6 0 (K0 r0 (r0.length:Int) 0) .ret (z2e i0)):Fn E A6 [.l r0,.fn I5 []] (.i i0):=fnM (oL h1 oZ)
theorem z7w (h1:Lp E 0 A6 0 (K0 r0 (r0.length:Int) 0) (.exit 0) (z2f)):Fn E A6 [.l r0,.fn I5 []] (.i (-1)):=fnM (oL h1 oZ)
end Gev
namespace Gev
open Go Go.Proofs
variable {E:Env}
variable {o:Out} {t:St} {r0 r1 r2 r3 r4 r5 r6 r7 r8 r9 r10 r11 r12 r13 r14 r15 r16 r17 r18 r19 r20 r21:RW} {i0 i1 i2 i3 i4 i5 i6 i7 i8 i9:Int} {s0 s1:BA} {n0 n1 n2 n3 n4:Nat} {b0 b1 b2 b3 b4 b5 b6 b7 b8 b9 b10:Bool} {m0 m1 m2 m3 m4 m5 m6 m7 m8 m9 m10 m11:List (RW)}
def z5m (r0:RW) (i0:Int):St:=stOf 24 [(0,.l r0),(3,.i i0)] []
def y7d:St:=stOf 24 [(2,.b false)] []
def y7e (r0:RW):St:=stOf 24 [(0,.l r0)] []
section
variable (h1:i0<(r0.length:Int))(h2:0≤i0)(h3:r0[(Int.toNat i0)]?=some [.l r1])
include h1 h2 h3
theorem j2j (h4:Fn E D4 [.l r1,.i 4] (.b true))(e1:IntKind.i64.wrap (i0+1)=i1)(ih:Lp E 0 F5 0 (z5m r0 i1) o t):Lp E 0 F5 0 (z5m r0 i0) o t:=by subst e1;exact lpM (oT h1 (oP h2 (oD h3 (oF h4 oZ)))) ih
theorem k7d (h4:Fn E D4 [.l r1,.i 4] (.b false)):Lp E 0 F5 0 (z5m r0 i0) .ret (y7d):=lpX (oT h1 (oP h2 (oD h3 (oF h4 oZ))))
end
theorem k7e (h1:¬ i0<(r0.length:Int)):Lp E 0 F5 0 (z5m r0 i0) (.exit 0) (y7e r0):=lpX (oU h1 oZ)
theorem q9f (h1:Lp E 0 F5 0 (z5m r0 0) .ret (y7d)):Fn E F5 [.l r0] (.b false):=fnM (oL h1 oZ)
section
variable (h1:Lp E 0 F5 0 (z5m r0 0) (.exit 0) (y7e r0))
include h1
theorem q9g (h2:(r0.length:Int)≤5):Fn E F5 [.l r0] (.b true):=fnM (oL h1 (oT h2 oZ))
theorem q9h (h2:¬ (r0.length:Int)≤5)(h3:(r0.length:Int)=13):Fn E F5 [.l r0] (.b true):=fnM (oL h1 (oU h2 (oB (beT h3) oZ)))
theorem q9i (h2:¬ (r0.length:Int)≤5)(h3:¬ (r0.length:Int)=13):Fn E F5 [.l r0] (.b false):=fnM (oL h1 (oU h2 (oC (beF h3) oZ)))
end
section
variable (h1:Fn E C3 [.l r0] (.i i0))
include h1
theorem q9o (h2:¬ i0=0):Fn E y0k [.l r0,.l r1] (.tup [.l [],.i i0]):=fnM (oF h1 (oB (bnT h2) oZ))
section
variable (h2:i0=0)(h3:Fn E C3 [.l r1] (.i i1))
include h2 h3
theorem q9p (h4:¬ i1=0):Fn E y0k [.l r0,.l r1] (.tup [.l [],.i i1]):=fnM (oF h1 (oC (bnF h2) (oF h3 (oB (bnT h4) oZ))))
section
variable (h4:i1=0)(h5:r0[0]?=some [.l r2])
include h4 h5
theorem q9q (h6:¬ (r2.length:Int)=(r1.length:Int)):Fn E y0k [.l r0,.l r1] (.tup [.l [],.i 10]):=fnM (oF h1 (oC (bnF h2) (oF h3 (oC (bnF h4) (oP (show (0:Int)≤0 from by decide) (oD h5 (oB (bnT h6) oZ)))))))
theorem q9r (h6:(r2.length:Int)=(r1.length:Int))(h7:Fn E K6 [.l r0] (.l r3))(h8:Fn E K6 [.l r1] (.l r4))(h9:Fn E I2 [.l r3,.l r4] (.l r5))(h10:Fn E V4 [.l r5] (.l r6)):Fn E y0k [.l r0,.l r1] (.tup [.l r6,.i 0]):=fnM (oF h1 (oC (bnF h2) (oF h3 (oC (bnF h4) (oP (show (0:Int)≤0 from by decide) (oD h5 (oC (bnF h6) (oF h7 (oF h8 (oF h9 (oF h10 oZ)))))))))))
end
end
end
section
variable (h1:Fn E C3 [.l r0] (.i i0))
include h1
theorem k7i (h2:¬ i0=0):Fn E z6w [.l r0] (.tup [.l [],.i i0]):=fnM (oF h1 (oB (bnT h2) oZ))
theorem k7j (h2:i0=0)(h3:Fn E K6 [.l r0] (.l r1))(h4:Fn E I9 [.l r1] (.l r2))(h5:Fn E V4 [.l r2] (.l r3)):Fn E z6w [.l r0] (.tup [.l r3,.i 0]):=fnM (oF h1 (oC (bnF h2) (oF h3 (oF h4 (oF h5 oZ)))))
end
def z1z (r0:RW) (i0:Int):St:=stOf 59 [(0,.l r0),(3,.i i0)] []
def y3e:St:=stOf 59 [(2,.i 10)] []
def y3f (r0:RW):St:=stOf 59 [(0,.l r0)] []
section
variable (h1:i0<(r0.length:Int))(h2:0≤i0)(h3:r0[(Int.toNat i0)]?=some [.l r1])(h4:r0[0]?=some [.l r2])
include h1 h2 h3 h4
theorem k7b (h5:(r1.length:Int)=(r2.length:Int))(e1:IntKind.i64.wrap (i0+1)=i1)(ih:Lp E 0 C3 0 (z1z r0 i1) o t):Lp E 0 C3 0 (z1z r0 i0) o t:=by subst e1;exact lpM (oT h1 (oP h2 (oD h3 (oP (show (0:Int)≤0 from by decide) (oD h4 (oC (bnF h5) oZ)))))) ih
theorem k1h (h5:¬ (r1.length:Int)=(r2.length:Int)):Lp E 0 C3 0 (z1z r0 i0) .ret (y3e):=lpX (oT h1 (oP h2 (oD h3 (oP (show (0:Int)≤0 from by decide) (oD h4 (oB (bnT h5) oZ))))))
end
theorem k1i (h1:¬ i0<(r0.length:Int)):Lp E 0 C3 0 (z1z r0 i0) (.exit 0) (y3f r0):=lpX (oU h1 oZ)
def z2a (r0:RW) (i0:Int):St:=stOf 59 [(0,.l r0),(4,.i i0)] []
def y3g:St:=stOf 59 [(2,.i 1)] []
def y3h:St:=stOf 59 [] []
section
variable (h1:i0<(r0.length:Int))(h2:0≤i0)(h3:r0[(Int.toNat i0)]?=some [.l r1])
include h1 h2 h3
theorem k7c (h4:Fn E F3 [.l r1] (.tup [.l r2,.b true]))(e1:IntKind.i64.wrap (i0+1)=i1)(ih:Lp E 0 C3 1 (z2a r0 i1) o t):Lp E 0 C3 1 (z2a r0 i0) o t:=by subst e1;exact lpM (oT h1 (oP h2 (oD h3 (oF h4 oZ)))) ih
theorem k1j (h4:Fn E F3 [.l r1] (.tup [.l r2,.b false])):Lp E 0 C3 1 (z2a r0 i0) .ret (y3g):=lpX (oT h1 (oP h2 (oD h3 (oF h4 oZ))))
end
theorem k1k (h1:¬ i0<(r0.length:Int)):Lp E 0 C3 1 (z2a r0 i0) (.exit 2) (y3h):=lpX (oU h1 oZ)
theorem j9v (h1:(r0.length:Int)=0):Fn E C3 [.l r0] (.i 9):=fnM (oB (beT h1) oZ)
section
variable (h1:¬ (r0.length:Int)=0)(h2:r0[0]?=some [.l r1])
include h1 h2
theorem j9w (h3:(r1.length:Int)=0):Fn E C3 [.l r0] (.i 9):=fnM (oC (beF h1) (oP (show (0:Int)≤0 from by decide) (oD h2 (oB (beT h3) oZ))))
section
variable (h3:¬ (r1.length:Int)=0)
include h3
theorem j9x (h4:(r0.length:Int)>12):Fn E C3 [.l r0] (.i 8):=fnM (oC (beF h1) (oP (show (0:Int)≤0 from by decide) (oD h2 (oC (beF h3) (oT h4 oZ)))))
section
variable (h4:¬ (r0.length:Int)>12)
include h4
theorem j9y (h5:(r1.length:Int)>12):Fn E C3 [.l r0] (.i 8):=fnM (oC (beF h1) (oP (show (0:Int)≤0 from by decide) (oD h2 (oC (beF h3) (oU h4 (oP (show (0:Int)≤0 from by decide) (oD h2 (oT h5 oZ))))))))
section
variable (h5:¬ (r1.length:Int)>12)
include h5
theorem j9z (h6:Lp E 0 C3 0 (z1z r0 0) .ret (y3e)):Fn E C3 [.l r0] (.i 10):=fnM (oC (beF h1) (oP (show (0:Int)≤0 from by decide) (oD h2 (oC (beF h3) (oU h4 (oP (show (0:Int)≤0 from by decide) (oD h2 (oU h5 (oL h6 oZ)))))))))
section
variable (h6:Lp E 0 C3 0 (z1z r0 0) (.exit 0) (y3f r0))
include h6
theorem q0a (h7:Lp E 0 C3 1 (z2a r0 0) .ret (y3g)):Fn E C3 [.l r0] (.i 1):=fnM (oC (beF h1) (oP (show (0:Int)≤0 from by decide) (oD h2 (oC (beF h3) (oU h4 (oP (show (0:Int)≤0 from by decide) (oD h2 (oU h5 (oL h6 (oL h7 oZ))))))))))
theorem q0b (h7:Lp E 0 C3 1 (z2a r0 0) (.exit 2) (y3h)):Fn E C3 [.l r0] (.i 0):=fnM (oC (beF h1) (oP (show (0:Int)≤0 from by decide) (oD h2 (oC (beF h3) (oU h4 (oP (show (0:Int)≤0 from by decide) (oD h2 (oU h5 (oL h6 (oL h7 oZ))))))))))
end
end
end
end
end
def z9f (r0 r1:RW) (i0:Int):St:=stOf 27 [(0,.l r0),(1,.l r1),(5,.i i0)] []
def y5f:St:=stOf 27 [] []
theorem k9u (h1:i0<(r0.length:Int))(h2:0≤i0)(h3:r0[(Int.toNat i0)]?=some [.l r2])(h4:r1[(Int.toNat i0)]?=some [.l r3])(h5:Fn E N5 [.l r2,.l r3] (.b true))(e1:IntKind.i64.wrap (i0+1)=i1)(ih:Lp E 0 M9 0 (z9f r0 r1 i1) o t):Lp E 0 M9 0 (z9f r0 r1 i0) o t:=by subst e1;exact lpM (oT h1 (oP h2 (oD h3 (oP h2 (oD h4 (oF h5 oZ)))))) ih
theorem k4j (h1:¬ i0<(r0.length:Int)):Lp E 0 M9 0 (z9f r0 r1 i0) (.exit 0) (y5f):=lpX (oU h1 oZ)
theorem q6e (h1:(r0.length:Int)=(r1.length:Int))(h2:Lp E 0 M9 0 (z9f r0 r1 0) (.exit 0) (y5f)):Fn E M9 [.l r0,.l r1] (.b true):=fnM (oC (bnF h1) (oL h2 oZ))
def Y3 (r0:RW) (i0 i1:Int):St:=stOf 27 [(0,.l r0),(1,.i i0),(5,.i i1)] []
def y0c:St:=stOf 27 [(4,.b false)] []
def y0d (r0:RW) (i0:Int):St:=stOf 27 [(0,.l r0),(1,.i i0)] []
section
variable (h1:i1<(r0.length:Int))(h2:0≤i1)(h3:r0[(Int.toNat i1)]?=some [.s s0])
include h1 h2 h3
theorem k1l (h4:¬ (s0.size:Int)>20)(e1:IntKind.i64.wrap (i1+1)=i2)(ih:Lp E 0 D4 0 (Y3 r0 i0 i2) o t):Lp E 0 D4 0 (Y3 r0 i0 i1) o t:=by subst e1;exact lpM (oT h1 (oP h2 (oD h3 (oU h4 oZ)))) ih
theorem x5k (h4:(s0.size:Int)>20):Lp E 0 D4 0 (Y3 r0 i0 i1) .ret (y0c):=lpX (oT h1 (oP h2 (oD h3 (oT h4 oZ))))
end
theorem x5l (h1:¬ i1<(r0.length:Int)):Lp E 0 D4 0 (Y3 r0 i0 i1) (.exit 0) (y0d r0 i0):=lpX (oU h1 oZ)
theorem j2f (h1:Lp E 0 D4 0 (Y3 r0 i0 0) .ret (y0c)):Fn E D4 [.l r0,.i i0] (.b false):=fnM (oL h1 oZ)
section
variable (h1:Lp E 0 D4 0 (Y3 r0 i0 0) (.exit 0) (y0d r0 i0))
include h1
theorem j2g (h2:(r0.length:Int)≤i0):Fn E D4 [.l r0,.i i0] (.b true):=fnM (oL h1 (oT h2 oZ))
theorem j2h (h2:¬ (r0.length:Int)≤i0)(h3:(r0.length:Int)=13):Fn E D4 [.l r0,.i i0] (.b true):=fnM (oL h1 (oU h2 (oB (beT h3) oZ)))
theorem j2i (h2:¬ (r0.length:Int)≤i0)(h3:¬ (r0.length:Int)=13):Fn E D4 [.l r0,.i i0] (.b false):=fnM (oL h1 (oU h2 (oC (beF h3) oZ)))
end
section
variable (h1:Fn E C3 [.l r0] (.i i0))
include h1
theorem q0c (h2:¬ i0=0):Fn E z1h [.l r0,.l r1] (.tup [.l [],.i i0]):=fnM (oF h1 (oB (bnT h2) oZ))
section
variable (h2:i0=0)
include h2
section
variable (h3:Fn E F3 [.l r1] (.tup [.l r2,.b true]))(h4:r0[0]?=some [.l r3])
include h3 h4
theorem q0d (h5:¬ (r0.length:Int)=(r3.length:Int)):Fn E z1h [.l r0,.l r1] (.tup [.l [],.i 10]):=fnM (oF h1 (oC (bnF h2) (oF h3 (oP (show (0:Int)≤0 from by decide) (oD h4 (oB (bnT h5) oZ))))))
section
variable (h5:(r0.length:Int)=(r3.length:Int))
include h5
theorem q0e (h6:¬ (r1.length:Int)=(r0.length:Int)):Fn E z1h [.l r0,.l r1] (.tup [.l [],.i 10]):=fnM (oF h1 (oC (bnF h2) (oF h3 (oP (show (0:Int)≤0 from by decide) (oD h4 (oC (bnF h5) (oB (bnT h6) oZ)))))))
section
variable (h6:(r1.length:Int)=(r0.length:Int))(h7:Fn E K6 [.l r0] (.l r4))
include h6 h7
theorem q0f (h8:Fn E G3 [.l r4,.l r2] (.tup [.l r5,.b true]))(h9:Fn E V3 [.l r5] (.l r6)):Fn E z1h [.l r0,.l r1] (.tup [.l r6,.i 0]):=fnM (oF h1 (oC (bnF h2) (oF h3 (oP (show (0:Int)≤0 from by decide) (oD h4 (oC (bnF h5) (oC (bnF h6) (oF h7 (oF h8 (oF h9 oZ))))))))))
theorem q0g (h8:Fn E G3 [.l r4,.l r2] (.tup [.l r5,.b false])):Fn E z1h [.l r0,.l r1] (.tup [.l [],.i 18]):=fnM (oF h1 (oC (bnF h2) (oF h3 (oP (show (0:Int)≤0 from by decide) (oD h4 (oC (bnF h5) (oC (bnF h6) (oF h7 (oF h8 oZ)))))))))
end
end
end
theorem q0h (h3:Fn E F3 [.l r1] (.tup [.l r2,.b false])):Fn E z1h [.l r0,.l r1] (.tup [.l [],.i 1]):=fnM (oF h1 (oC (bnF h2) (oF h3 oZ)))
end
end
def z3b (r0:RW) (i0:Int) (n0:Nat) (i1:Int) (n1:Nat) (i2:Int) (r1 r2:RW):St:=stOf 55 [(0,.l r0),(5,.i i0),(6,.vec 0 n0),(7,.i i1),(8,.vec 1 n1),(9,.i i2)] [sV A3 r1,sV G4 r2]
def z8t (r0:RW) (i0:Int) (n0:Nat) (i1:Int) (n1:Nat) (r1 r3:RW):St:=stOf 55 [(0,.l r0),(5,.i i0),(6,.vec 0 n0),(7,.i i1),(8,.vec 1 n1)] [sV A3 r1,sV G4 r3]
theorem x8g (h1:i2<i0)(h2:Fn E I0 [.i 0] (.q b0 r4 r5))(h3:0≤i2∧i2<((n1:Nat):Int))(h4:r2[(Int.toNat i2)]?=some [.b b1,.l r6,.l r7])(e1:List.set r2 (Int.toNat i2) [.b b0,.l r4,.l r5]=r8)(e2:IntKind.i64.wrap (i2+1)=i3)(ih:Lp E 2 F6 1 (z3b r0 i0 n0 i1 n1 i3 r1 r8) o t):Lp E 2 F6 1 (z3b r0 i0 n0 i1 n1 i2 r1 r2) o t:=by subst e1 e2;exact lpM (oT h1 (oF h2 (oP h3 (oD h4 oZ)))) ih
theorem x3t (h1:¬ i2<i0):Lp E 2 F6 1 (z3b r0 i0 n0 i1 n1 i2 r1 r2) (.exit 2) (z8t r0 i0 n0 i1 n1 r1 r2):=lpX (oU h1 oZ)
def O8 (r0:RW) (i0:Int) (n0:Nat) (i1:Int) (r1:RW):St:=stOf 55 [(0,.l r0),(5,.i i0),(6,.vec 0 n0),(7,.i i1)] [sV A3 r1]
def y7g:St:=stOf 55 [(2,.nils),(3,.i 18)] []
def y0e (n1:Nat) (r2:RW):St:=stOf 55 [(6,.vec 0 n1)] [sV A3 r2]
section
variable (h1:i1<i0)(h2:0≤i0∧i0≤i0∧(Int.toNat i0)*56≤140737488355328∧(Int.toNat i0)≤140737488355328)(h3:Lp E 2 F6 1 (z3b r0 i0 n0 i1 n2 0 r1 r3) (.exit 2) (z8t r0 i0 n0 i1 n2 r1 r4))(h4:Fn E I0 [.i 1] (.q b0 r5 r6))(h5:0≤i1∧i1<((n2:Nat):Int))(h6:r4[(Int.toNat i1)]?=some [.b b1,.l r7,.l r8])(h7:Fn E K6 [.l r0] (.l r10))
include h1 h2 h3 h4 h5 h6 h7
theorem k1m (h8:Fn E G3 [.l r10,.l r11] (.tup [.l r12,.b true]))(h9:(n0+1)*24≤140737488355328∧n0+1≤140737488355328)(e1:Int.toNat i0=n2)(e2:List.replicate n2 [.b false,.l [],.l []]=r3)(e3:List.set r4 (Int.toNat i1) [.b b0,.l r5,.l r6]=r9)(e4:(r9.take n2)=r11)(e5:(r1.take n0)++[[.l r12]]=r13)(e6:n0+1=n3)(e7:IntKind.i64.wrap (i1+1)=i2)(ih:Lp E 0 F6 0 (O8 r0 i0 n3 i2 r13) o t):Lp E 0 F6 0 (O8 r0 i0 n0 i1 r1) o t:=by subst e1 e2 e3 e4 e5 e6 e7;exact lpM (oT h1 (oP h2 (oL h3 (oF h4 (oP h5 (oD h6 (oF h7 (oF h8 (oP (show ∀ y∈([[.l r12]]:RW),y.length=1 from by simp) (oP h9 oZ)))))))))) ih
theorem x5m (h8:Fn E G3 [.l r10,.l r11] (.tup [.l r12,.b false]))(e1:Int.toNat i0=n2)(e2:List.replicate n2 [.b false,.l [],.l []]=r3)(e3:List.set r4 (Int.toNat i1) [.b b0,.l r5,.l r6]=r9)(e4:(r9.take n2)=r11):Lp E 0 F6 0 (O8 r0 i0 n0 i1 r1) .ret (y7g):=by subst e1 e2 e3 e4;exact lpX (oT h1 (oP h2 (oL h3 (oF h4 (oP h5 (oD h6 (oF h7 (oF h8 oZ))))))))
end
theorem x5n (h1:¬ i1<i0):Lp E 0 F6 0 (O8 r0 i0 n0 i1 r1) (.exit 0) (y0e n0 r1):=lpX (oU h1 oZ)
section
variable (h1:Fn E z7e [.l r0] (.i i0))
include h1
theorem j2m (h2:¬ i0=0):Fn E F6 [.l r0] (.tup [.l [],.i i0]):=fnM (oF h1 (oB (bnT h2) oZ))
theorem j2n (h2:i0=0)(h3:Lp E 0 F6 0 (O8 r0 (r0.length:Int) 0 0 []) .ret (y7g)):Fn E F6 [.l r0] (.tup [.l [],.i 18]):=fnM (oF h1 (oC (bnF h2) (oM [(6,A3)] h3 oZ)))
theorem j2o (h2:i0=0)(h3:Lp E 0 F6 0 (O8 r0 (r0.length:Int) 0 0 []) (.exit 0) (y0e n0 r1))(h4:Fn E I9 [.l r2] (.l r3))(h5:Fn E V4 [.l r3] (.l r4))(e1:(r1.take n0)=r2):Fn E F6 [.l r0] (.tup [.l r4,.i 0]):=by subst e1;exact fnM (oF h1 (oC (bnF h2) (oM [(6,A3)] h3 (oF h4 (oF h5 oZ)))))
end
def z8i (r0 r1 r2:RW) (n0:Nat) (i0:Int) (r3:RW):St:=stOf 91 [(8,.l r0),(10,.l r1),(11,.l r2),(12,.vec 2 n0),(13,.i i0)] [none,none,sV G4 r3]
def y1x (r0 r1 r2:RW) (n1:Nat) (r4:RW):St:=stOf 91 [(8,.l r0),(10,.l r1),(11,.l r2),(12,.vec 2 n1)] [none,none,sV G4 r4]
theorem j2k (h1:i0<(r2.length:Int))(h2:0≤i0)(h3:r2[(Int.toNat i0)]?=some [.l r5])(h4:Fn E U7 [.l r5,.l r0] (.q b0 r6 r7))(h5:(n0+1)*56≤140737488355328∧n0+1≤140737488355328)(e1:(r3.take n0)++[[.b b0,.l r6,.l r7]]=r8)(e2:n0+1=n2)(e3:IntKind.i64.wrap (i0+1)=i1)(ih:Lp E 2 K3 0 (z8i r0 r1 r2 n2 i1 r8) o t):Lp E 2 K3 0 (z8i r0 r1 r2 n0 i0 r3) o t:=by subst e1 e2 e3;exact lpM (oT h1 (oP h2 (oD h3 (oF h4 (oP (show ∀ y∈([[.b b0,.l r6,.l r7]]:RW),y.length=3 from by simp) (oP h5 oZ)))))) ih
theorem k7f (h1:¬ i0<(r2.length:Int)):Lp E 2 K3 0 (z8i r0 r1 r2 n0 i0 r3) (.exit 0) (y1x r0 r1 r2 n0 r3):=lpX (oU h1 oZ)
def y1y (r0 r1 r2:RW) (i0:Int) (r3:RW) (b0:Bool) (r4 r5:RW):St:=stOf 91 [(8,.l r0),(10,.l r1),(14,.l r2),(15,.ptr 3 0),(16,.i i0)] [none,none,sF r3,sC [.b b0,.l r4,.l r5]]
def y7f (r2 r3:RW) (b1:Bool) (r6 r7:RW):St:=stOf 91 [(14,.l r2),(15,.ptr 3 0)] [none,none,sF r3,sC [.b b1,.l r6,.l r7]]
theorem j2l (h1:i0<(r1.length:Int))(h2:0≤i0)(h3:r1[(Int.toNat i0)]?=some [.l r8])(h4:Fn E U7 [.l r8,.l r2] (.q b2 r9 r10))(h5:r0[(Int.toNat i0)]?=some [.b b3,.l r11,.l r12])(h6:Fn E z4q [.q b2 r9 r10,.q b3 r11 r12] (.q b4 r13 r14))(h7:Fn E K2 [.q b4 r13 r14,.q b4 r13 r14] (.q b5 r15 r16))(h8:Fn E z4p [.q b0 r4 r5,.q b5 r15 r16] (.q b6 r17 r18))(e1:IntKind.i64.wrap (i0+1)=i1)(ih:Lp E 4 K3 1 (y1y r0 r1 r2 i1 r3 b6 r17 r18) o t):Lp E 4 K3 1 (y1y r0 r1 r2 i0 r3 b0 r4 r5) o t:=by subst e1;exact lpM (oT h1 (oP h2 (oD h3 (oF h4 (oP h2 (oD h5 (oF h6 (oF h7 (oF h8 oZ))))))))) ih
theorem k7g (h1:¬ i0<(r1.length:Int)):Lp E 4 K3 1 (y1y r0 r1 r2 i0 r3 b0 r4 r5) (.exit 2) (y7f r2 r3 b0 r4 r5):=lpX (oU h1 oZ)
section
variable (h1:Fn E C3 [.l r0] (.i i0))
include h1
theorem q9j (h2:¬ i0=0):Fn E K3 [.l r0,.l r1] (.tup [.l [],.s ⟨#[]⟩,.i i0]):=fnM (oF h1 (oB (bnT h2) oZ))
theorem q9k (h2:i0=0)(h3:Fn E F3 [.l r1] (.tup [.l r2,.b true]))(h4:¬ (r1.length:Int)=(r0.length:Int)):Fn E K3 [.l r0,.l r1] (.tup [.l [],.s ⟨#[]⟩,.i 10]):=fnM (oF h1 (oC (bnF h2) (oF h3 (oB (bnT h4) oZ))))
theorem q9l (h2:i0=0)(h3:Fn E F3 [.l r1] (.tup [.l r2,.b true]))(h4:(r1.length:Int)=(r0.length:Int))(h5:Fn E K6 [.l r0] (.l r3))(h6:Fn E I9 [.l r3] (.l r4))(h7:Lp E 2 K3 0 (z8i r2 r3 r4 0 0 []) (.exit 0) (y1x r2 r3 r4 n0 r5))(h8:Fn E I2 [.l r4,.l r3] (.l r6))(h9:Fn E G3 [.l r6,.l r7] (.tup [.l r8,.b true]))(h10:Fn E I0 [.i 0] (.q b0 r9 r10))(h11:Lp E 4 K3 1 (y1y r2 r3 r8 0 r5 b0 r9 r10) (.exit 2) (y7f r8 r5 b1 r11 r12))(h12:Fn E V3 [.l r8] (.l r13))(h13:Fn E z9q [.q b1 r11 r12] (.s s0))(e1:(r5.take n0)=r7):Fn E K3 [.l r0,.l r1] (.tup [.l r13,.s s0,.i 0]):=by subst e1;exact fnM (oF h1 (oC (bnF h2) (oF h3 (oC (bnF h4) (oF h5 (oF h6 (oM [(12,G4)] h7 (oF h8 (oF h9 (oF h10 (oL h11 (oF h12 (oF h13 oZ)))))))))))))
theorem q9m (h2:i0=0)(h3:Fn E F3 [.l r1] (.tup [.l r2,.b true]))(h4:(r1.length:Int)=(r0.length:Int))(h5:Fn E K6 [.l r0] (.l r3))(h6:Fn E I9 [.l r3] (.l r4))(h7:Lp E 2 K3 0 (z8i r2 r3 r4 0 0 []) (.exit 0) (y1x r2 r3 r4 n0 r5))(h8:Fn E I2 [.l r4,.l r3] (.l r6))(h9:Fn E G3 [.l r6,.l r7] (.tup [.l r8,.b false]))(e1:(r5.take n0)=r7):Fn E K3 [.l r0,.l r1] (.tup [.l [],.s ⟨#[]⟩,.i 18]):=by subst e1;exact fnM (oF h1 (oC (bnF h2) (oF h3 (oC (bnF h4) (oF h5 (oF h6 (oM [(12,G4)] h7 (oF h8 (oF h9 oZ)))))))))
theorem q9n (h2:i0=0)(h3:Fn E F3 [.l r1] (.tup [.l r2,.b false])):Fn E K3 [.l r0,.l r1] (.tup [.l [],.s ⟨#[]⟩,.i 1]):=fnM (oF h1 (oC (bnF h2) (oF h3 oZ)))
end
def z3c (r0 r1:RW) (i0:Int):St:=stOf 26 [(0,.l r0),(1,.l r1),(5,.i i0)] []
def z8u:St:=stOf 26 [] []
theorem x8n (h1:i0<(r0.length:Int))(h2:0≤i0)(h3:r0[(Int.toNat i0)]?=some [.s s0])(h4:r1[(Int.toNat i0)]?=some [.s s1])(h5:s0=s1)(e1:IntKind.i64.wrap (i0+1)=i1)(ih:Lp E 0 N5 0 (z3c r0 r1 i1) o t):Lp E 0 N5 0 (z3c r0 r1 i0) o t:=by subst e1;exact lpM (oT h1 (oP h2 (oD h3 (oP h2 (oD h4 (oC (snF h5) oZ)))))) ih
theorem x3u (h1:¬ i0<(r0.length:Int)):Lp E 0 N5 0 (z3c r0 r1 i0) (.exit 0) (z8u):=lpX (oU h1 oZ)
theorem k9t (h1:(r0.length:Int)=(r1.length:Int))(h2:Lp E 0 N5 0 (z3c r0 r1 0) (.exit 0) (z8u)):Fn E N5 [.l r0,.l r1] (.b true):=fnM (oC (bnF h1) (oL h2 oZ))
def z9g (r0:RW) (n0:Nat) (i0:Int) (r1:RW):St:=stOf 26 [(0,.l r0),(3,.vec 0 n0),(4,.i i0)] [sV A3 r1]
def y5g (n1:Nat) (r2:RW):St:=stOf 26 [(3,.vec 0 n1)] [sV A3 r2]
theorem k9v (h1:i0<(r0.length:Int))(h2:0≤i0)(h3:r0[(Int.toNat i0)]?=some [.l r3])(h4:Fn E F3 [.l r3] (.tup [.l r4,.b b0]))(h5:(n0+1)*24≤140737488355328∧n0+1≤140737488355328)(e1:(r1.take n0)++[[.l r4]]=r5)(e2:n0+1=n2)(e3:IntKind.i64.wrap (i0+1)=i1)(ih:Lp E 0 K6 0 (z9g r0 n2 i1 r5) o t):Lp E 0 K6 0 (z9g r0 n0 i0 r1) o t:=by subst e1 e2 e3;exact lpM (oT h1 (oP h2 (oD h3 (oF h4 (oP (show ∀ y∈([[.l r4]]:RW),y.length=1 from by simp) (oP h5 oZ)))))) ih
theorem k4m (h1:¬ i0<(r0.length:Int)):Lp E 0 K6 0 (z9g r0 n0 i0 r1) (.exit 0) (y5g n0 r1):=lpX (oU h1 oZ)
theorem q6f (h1:Lp E 0 K6 0 (z9g r0 0 0 []) (.exit 0) (y5g n0 r1))(e1:(r1.take n0)=r2):Fn E K6 [.l r0] (.l r2):=by subst e1;exact fnM (oM [(3,A3)] h1 oZ)
def z7s (r0 r1:RW) (n0:Nat) (i0 i1:Int) (m0:List (RW)):St:=stOf 45 [(0,.l r0),(5,.l r1),(6,.vec 0 n0),(7,.i i0),(8,.i i1)] [some (.mat A3 m0 [])]
def y3l (r0 r1:RW) (n0:Nat) (i0:Int) (m1:List (RW)):St:=stOf 45 [(0,.l r0),(5,.l r1),(6,.vec 0 n0),(7,.i i0)] [some (.mat A3 m1 [])]
theorem k7m (h1:i1<(r1.length:Int))(h2:m0[(Int.toNat i0)]?=some r2)(h3:0≤i0∧i0<((n0:Nat):Int))(h4:0≤i0)(h5:r0[(Int.toNat i0)]?=some [.l r3])(h6:0≤i1)(h7:r1[(Int.toNat i1)]?=some [.l r4])(h8:Fn E U7 [.l r3,.l r4] (.q b0 r5 r6))(h9:(n1+1)*56≤140737488355328∧n1+1≤140737488355328)(e1:r2.length=n1)(e2:(r2.take n1)++[[.b b0,.l r5,.l r6]]=r7)(e3:n1+1=n2)(e4:List.set m0 (Int.toNat i0) (r7.take n2)=m2)(e5:IntKind.i64.wrap (i1+1)=i2)(ih:Lp E 1 I2 1 (z7s r0 r1 n0 i0 i2 m2) o t):Lp E 1 I2 1 (z7s r0 r1 n0 i0 i1 m0) o t:=by subst e1 e2 e3 e4 e5;exact lpM (oT h1 (oI 0 h2 (oP h3 (oO (.sm 0) (oP (show (Int.toNat i0)=(Int.toNat i0) from rfl) (oP h4 (oD h5 (oP h6 (oD h7 (oF h8 (oP (show ∀ y∈([[.b b0,.l r5,.l r6]]:RW),y.length=3 from by simp) (oP h9 (oP h3 (oO (.sm 0) (oP (show (Int.toNat i0)=(Int.toNat i0) from rfl) (oO (.gt 0) oZ)))))))))))))))) ih
theorem k1u (h1:¬ i1<(r1.length:Int)):Lp E 1 I2 1 (z7s r0 r1 n0 i0 i1 m0) (.exit 2) (y3l r0 r1 n0 i0 m0):=lpX (oU h1 oZ)
def z7r (r0 r1:RW) (n0:Nat) (i0:Int) (m0:List (RW)):St:=stOf 45 [(0,.l r0),(5,.l r1),(6,.vec 0 n0),(7,.i i0)] [some (.mat A3 m0 [])]
def y3k (n0:Nat) (m1:List (RW)):St:=stOf 45 [(6,.vec 0 n0)] [some (.mat A3 m1 [])]
theorem k7l (h1:i0<(r0.length:Int))(h2:Lp E 1 I2 1 (z7s r0 r1 n0 i0 0 m0) (.exit 2) (y3l r0 r1 n0 i0 m2))(e1:IntKind.i64.wrap (i0+1)=i1)(ih:Lp E 1 I2 0 (z7r r0 r1 n0 i1 m2) o t):Lp E 1 I2 0 (z7r r0 r1 n0 i0 m0) o t:=by subst e1;exact lpM (oT h1 (oL h2 oZ)) ih
theorem k1t (h1:¬ i0<(r0.length:Int)):Lp E 1 I2 0 (z7r r0 r1 n0 i0 m0) (.exit 0) (y3k n0 m0):=lpX (oU h1 oZ)
theorem q0j (h1:Fn E I9 [.l r1] (.l r2))(h2:0≤(r0.length:Int)∧(r0.length:Int)≤(r0.length:Int)∧(Int.toNat (r0.length:Int))*24≤140737488355328∧(Int.toNat (r0.length:Int))≤140737488355328)(h3:Lp E 1 I2 0 (z7r r0 r2 n0 0 m0) (.exit 0) (y3k n0 m1))(e1:Int.toNat (r0.length:Int)=n0)(e2:(List.replicate n0 []:List (RW))=m0)(e3:List.map (fun x=>[DV.list x]) m1=r3)(e4:(r3.take n0)=r4):Fn E I2 [.l r0,.l r1] (.l r4):=by subst e1 e2 e3 e4;exact fnM (oF h1 (oP h2 (oO .mk (oL h3 (oO (.dm 0) oZ)))))
def z7t (r0:RW) (n0:Nat) (i0:Int) (r1:RW):St:=stOf 20 [(0,.l r0),(3,.vec 0 n0),(4,.i i0)] [sV A7 r1]
def y3m (n1:Nat) (r2:RW):St:=stOf 20 [(3,.vec 0 n1)] [sV A7 r2]
theorem k7n (h1:i0<(r0.length:Int))(h2:0≤i0)(h3:r0[(Int.toNat i0)]?=some [.l r3])(h4:Fn E V3 [.l r3] (.l r4))(h5:(n0+1)*24≤140737488355328∧n0+1≤140737488355328)(e1:(r1.take n0)++[[.l r4]]=r5)(e2:n0+1=n2)(e3:IntKind.i64.wrap (i0+1)=i1)(ih:Lp E 0 V4 0 (z7t r0 n2 i1 r5) o t):Lp E 0 V4 0 (z7t r0 n0 i0 r1) o t:=by subst e1 e2 e3;exact lpM (oT h1 (oP h2 (oD h3 (oF h4 (oP (show ∀ y∈([[.l r4]]:RW),y.length=1 from by simp) (oP h5 oZ)))))) ih
theorem k1v (h1:¬ i0<(r0.length:Int)):Lp E 0 V4 0 (z7t r0 n0 i0 r1) (.exit 0) (y3m n0 r1):=lpX (oU h1 oZ)
theorem q0k (h1:Lp E 0 V4 0 (z7t r0 0 0 []) (.exit 0) (y3m n0 r1))(e1:(r1.take n0)=r2):Fn E V4 [.l r0] (.l r2):=by subst e1;exact fnM (oM [(3,A7)] h1 oZ)
def z9i (r0:RW) (n0:Nat) (i0 i1:Int) (m0:List (RW)):St:=stOf 42 [(0,.l r0),(3,.vec 0 n0),(4,.i i0),(5,.i i1)] [some (.mat A3 m0 [])]
def y5i (r0:RW) (n0:Nat) (i0:Int) (m1:List (RW)):St:=stOf 42 [(0,.l r0),(3,.vec 0 n0),(4,.i i0)] [some (.mat A3 m1 [])]
theorem k9x (h1:i1<(r0.length:Int))(h2:m0[(Int.toNat i0)]?=some r1)(h3:0≤i0∧i0<((n0:Nat):Int))(h4:0≤i1)(h5:r0[(Int.toNat i1)]?=some [.l r2])(h6:0≤i0)(h7:r2[(Int.toNat i0)]?=some [.b b0,.l r3,.l r4])(h8:(n1+1)*56≤140737488355328∧n1+1≤140737488355328)(e1:r1.length=n1)(e2:(r1.take n1)++[[.b b0,.l r3,.l r4]]=r5)(e3:n1+1=n2)(e4:List.set m0 (Int.toNat i0) (r5.take n2)=m2)(e5:IntKind.i64.wrap (i1+1)=i2)(ih:Lp E 1 I9 1 (z9i r0 n0 i0 i2 m2) o t):Lp E 1 I9 1 (z9i r0 n0 i0 i1 m0) o t:=by subst e1 e2 e3 e4 e5;exact lpM (oT h1 (oI 0 h2 (oP h3 (oO (.sm 0) (oP (show (Int.toNat i0)=(Int.toNat i0) from rfl) (oP h4 (oD h5 (oP h6 (oD h7 (oP (show ∀ y∈([[.b b0,.l r3,.l r4]]:RW),y.length=3 from by simp) (oP h8 (oP h3 (oO (.sm 0) (oP (show (Int.toNat i0)=(Int.toNat i0) from rfl) (oO (.gt 0) oZ))))))))))))))) ih
theorem k4o (h1:¬ i1<(r0.length:Int)):Lp E 1 I9 1 (z9i r0 n0 i0 i1 m0) (.exit 2) (y5i r0 n0 i0 m0):=lpX (oU h1 oZ)
def z9h (r0:RW) (n0:Nat) (i0:Int) (m0:List (RW)):St:=stOf 42 [(0,.l r0),(3,.vec 0 n0),(4,.i i0)] [some (.mat A3 m0 [])]
def y5h (n0:Nat) (m1:List (RW)):St:=stOf 42 [(3,.vec 0 n0)] [some (.mat A3 m1 [])]
theorem k9w (h1:r0[0]?=some [.l r1])(h2:i0<(r1.length:Int))(h3:Lp E 1 I9 1 (z9i r0 n0 i0 0 m0) (.exit 2) (y5i r0 n0 i0 m2))(e1:IntKind.i64.wrap (i0+1)=i1)(ih:Lp E 1 I9 0 (z9h r0 n0 i1 m2) o t):Lp E 1 I9 0 (z9h r0 n0 i0 m0) o t:=by subst e1;exact lpM (oP (show (0:Int)≤0 from by decide) (oD h1 (oT h2 (oL h3 oZ)))) ih
theorem k4n (h1:r0[0]?=some [.l r1])(h2:¬ i0<(r1.length:Int)):Lp E 1 I9 0 (z9h r0 n0 i0 m0) (.exit 0) (y5h n0 m0):=lpX (oP (show (0:Int)≤0 from by decide) (oD h1 (oU h2 oZ)))
theorem q6g (h1:r0[0]?=some [.l r1])(h2:0≤(r1.length:Int)∧(r1.length:Int)≤(r1.length:Int)∧(Int.toNat (r1.length:Int))*24≤140737488355328∧(Int.toNat (r1.length:Int))≤140737488355328)(h3:Lp E 1 I9 0 (z9h r0 n0 0 m0) (.exit 0) (y5h n0 m1))(e1:Int.toNat (r1.length:Int)=n0)(e2:(List.replicate n0 []:List (RW))=m0)(e3:List.map (fun x=>[DV.list x]) m1=r2)(e4:(r2.take n0)=r3):Fn E I9 [.l r0] (.l r3):=by subst e1 e2 e3 e4;exact fnM (oP (show (0:Int)≤0 from by decide) (oD h1 (oP h2 (oO .mk (oL h3 (oO (.dm 0) oZ))))))
def Z1 (r0:RW) (n0:Nat) (i0:Int) (r1:RW):St:=stOf 37 [(0,.l r0),(4,.vec 0 n0),(5,.i i0)] [sV G4 r1]
def y5e:St:=stOf 37 [(2,.nils),(3,.b false)] []
def z9m (r0:RW) (n1:Nat) (r2:RW):St:=stOf 37 [(0,.l r0),(4,.vec 0 n1)] [sV G4 r2]
section
variable (h1:i0<(r0.length:Int))(h2:0≤i0)(h3:r0[(Int.toNat i0)]?=some [.s s0])
include h1 h2 h3
theorem y3i (h4:Fn E V6 [.s s0] (.tup [.q b0 r3 r4,.b true]))(h5:(n0+1)*56≤140737488355328∧n0+1≤140737488355328)(e1:(r1.take n0)++[[.b b0,.l r3,.l r4]]=r5)(e2:n0+1=n2)(e3:IntKind.i64.wrap (i0+1)=i1)(ih:Lp E 0 F3 0 (Z1 r0 n2 i1 r5) o t):Lp E 0 F3 0 (Z1 r0 n0 i0 r1) o t:=by subst e1 e2 e3;exact lpM (oT h1 (oP h2 (oD h3 (oF h4 (oP (show ∀ y∈([[.b b0,.l r3,.l r4]]:RW),y.length=3 from by simp) (oP h5 oZ)))))) ih
theorem k3z (h4:Fn E V6 [.s s0] (.tup [.q b0 r3 r4,.b false])):Lp E 0 F3 0 (Z1 r0 n0 i0 r1) .ret (y5e):=lpX (oT h1 (oP h2 (oD h3 (oF h4 oZ))))
end
theorem y7h (h1:¬ i0<(r0.length:Int)):Lp E 0 F3 0 (Z1 r0 n0 i0 r1) (.exit 0) (z9m r0 n0 r1):=lpX (oU h1 oZ)
theorem q6a (h1:Lp E 0 F3 0 (Z1 r0 0 0 []) .ret (y5e)):Fn E F3 [.l r0] (.tup [.l [],.b false]):=fnM (oM [(4,G4)] h1 oZ)
section
variable (h1:Lp E 0 F3 0 (Z1 r0 0 0 []) (.exit 0) (z9m r0 n0 r1))
include h1
theorem q6b (h2:(r0.length:Int)≥1)(h3:(r0.length:Int)≤12)(e1:(r1.take n0)=r2):Fn E F3 [.l r0] (.tup [.l r2,.b true]):=by subst e1;exact fnM (oM [(4,G4)] h1 (oT h2 (oT h3 oZ)))
theorem q6c (h2:(r0.length:Int)≥1)(h3:¬ (r0.length:Int)≤12)(e1:(r1.take n0)=r2):Fn E F3 [.l r0] (.tup [.l r2,.b false]):=by subst e1;exact fnM (oM [(4,G4)] h1 (oT h2 (oU h3 oZ)))
theorem q6d (h2:¬ (r0.length:Int)≥1)(e1:(r1.take n0)=r2):Fn E F3 [.l r0] (.tup [.l r2,.b false]):=by subst e1;exact fnM (oM [(4,G4)] h1 (oU h2 oZ))
end
section
variable (h1:Fn E C3 [.l r0] (.i i0))
include h1
theorem j6z (h2:¬ i0=0):Fn E z7e [.l r0] (.i i0):=fnM (oF h1 (oB (bnT h2) oZ))
section
variable (h2:i0=0)(h3:r0[0]?=some [.l r1])
include h2 h3
theorem j7a (h4:¬ (r0.length:Int)=(r1.length:Int)):Fn E z7e [.l r0] (.i 10):=fnM (oF h1 (oC (bnF h2) (oP (show (0:Int)≤0 from by decide) (oD h3 (oB (bnT h4) oZ)))))
theorem j7b (h4:(r0.length:Int)=(r1.length:Int)):Fn E z7e [.l r0] (.i 0):=fnM (oF h1 (oC (bnF h2) (oP (show (0:Int)≤0 from by decide) (oD h3 (oC (bnF h4) oZ)))))
end
end
def z2m (n0:Nat) (i0 i1 i2 i3:Int) (m0:List (RW)) (b0 b1:Bool) (r0 r1:RW):St:=stOf 161 [(0,.vec 0 n0),(1,.i i0),(5,.ptr 1 0),(6,.ptr 2 0),(7,.i i1),(8,.i i2),(9,.i i3)] [some (.mat A3 m0 []),sC [.b b0,.nils,.nils],sC [.b b1,.l r0,.l r1]]
def z7a (n0:Nat) (i0 i1 i2:Int) (b0 b1:Bool) (r0 r1:RW) (i4:Int) (m1:List (RW)):St:=stOf 161 [(0,.vec 0 n0),(1,.i i0),(5,.ptr 1 0),(6,.ptr 2 0),(7,.i i1),(8,.i i2),(9,.i i4)] [some (.mat A3 m1 []),sC [.b b0,.nils,.nils],sC [.b b1,.l r0,.l r1]]
section
variable (h1:m0[(Int.toNat i3)]?=some r2)(h2:i3<((n0:Nat):Int))(h3:0≤i3∧i3<((n0:Nat):Int))(h4:0≤i2∧i2<((n1:Nat):Int))(h5:r2[(Int.toNat i2)]?=some [.b b2,.l r3,.l r4])(h6:Fn E y0z [.q b2 r3 r4] (.i i5))
include h1 h2 h3 h4 h5 h6
theorem k4d (h7:i5=0)(e1:r2.length=n1)(e2:List.set m0 (Int.toNat i3) (r2.take n1)=m2)(e3:IntKind.i64.wrap (i3+1)=i6)(ih:Lp E 3 A5 1 (z2m n0 i0 i1 i2 i6 m2 b0 b1 r0 r1) o t):Lp E 3 A5 1 (z2m n0 i0 i1 i2 i3 m0 b0 b1 r0 r1) o t:=by subst e1 e2 e3;exact lpM (oI 0 h1 (oT h2 (oP h3 (oO (.sm 0) (oP (show (Int.toNat i3)=(Int.toNat i3) from rfl) (oP h4 (oD h5 (oF h6 (oB (beT h7) (oO (.gt 0) oZ)))))))))) ih
theorem x8i (h7:¬ i5=0)(e1:r2.length=n1)(e2:List.set m0 (Int.toNat i3) (r2.take n1)=m2):Lp E 3 A5 1 (z2m n0 i0 i1 i2 i3 m0 b0 b1 r0 r1) (.exit 2) (z7a n0 i0 i1 i2 b0 b1 r0 r1 i3 m2):=by subst e1 e2;exact lpX (oI 0 h1 (oT h2 (oP h3 (oO (.sm 0) (oP (show (Int.toNat i3)=(Int.toNat i3) from rfl) (oP h4 (oD h5 (oF h6 (oC (beF h7) (oO (.gt 0) oZ))))))))))
end
theorem x8j (h1:¬ i3<((n0:Nat):Int)):Lp E 3 A5 1 (z2m n0 i0 i1 i2 i3 m0 b0 b1 r0 r1) (.exit 2) (z7a n0 i0 i1 i2 b0 b1 r0 r1 i3 m0):=lpX (oU h1 oZ)
def z5z (n0:Nat) (i0 i1 i2 i3:Int) (m0:List (RW)) (b0 b1:Bool) (r0 r1:RW) (b2:Bool) (r2 r3:RW):St:=stOf 161 [(0,.vec 0 n0),(1,.i i0),(5,.ptr 1 0),(6,.ptr 2 0),(7,.i i1),(8,.i i2),(10,.ptr 7 0),(11,.i i3)] [some (.mat A3 m0 []),sC [.b b0,.nils,.nils],sC [.b b1,.l r0,.l r1],some .dead,some .dead,some .dead,some .dead,sC [.b b2,.l r2,.l r3]]
def y2a (n0:Nat) (i0 i1 i2:Int) (b0 b1:Bool) (r0 r1:RW) (b2:Bool) (r2 r3:RW) (m1:List (RW)):St:=stOf 161 [(0,.vec 0 n0),(1,.i i0),(5,.ptr 1 0),(6,.ptr 2 0),(7,.i i1),(8,.i i2)] [some (.mat A3 m1 []),sC [.b b0,.nils,.nils],sC [.b b1,.l r0,.l r1],some .dead,some .dead,some .dead,some .dead,sC [.b b2,.l r2,.l r3]]
section
variable (h1:m0[(Int.toNat i1)]?=some r4)(h2:0≤i1∧i1<((n0:Nat):Int))
include h1 h2
theorem k4e (h3:i3<((n1:Nat):Int))(h4:m2[(Int.toNat i1)]?=some r5)(h5:0≤i3∧i3<((n2:Nat):Int))(h6:r5[(Int.toNat i3)]?=some [.b b3,.l r6,.l r7])(h7:Fn E K2 [.q b3 r6 r7,.q b2 r2 r3] (.q b4 r8 r9))(e1:r4.length=n1)(e2:List.set m0 (Int.toNat i1) (r4.take n1)=m2)(e3:r5.length=n2)(e4:List.set r5 (Int.toNat i3) [.b b4,.l r8,.l r9]=r10)(e5:List.set m2 (Int.toNat i1) (r10.take n2)=m3)(e6:IntKind.i64.wrap (i3+1)=i4)(ih:Lp E 8 A5 2 (z5z n0 i0 i1 i2 i4 m3 b0 b1 r0 r1 b2 r2 r3) o t):Lp E 8 A5 2 (z5z n0 i0 i1 i2 i3 m0 b0 b1 r0 r1 b2 r2 r3) o t:=by subst e1 e2 e3 e4 e5 e6;exact lpM (oI 0 h1 (oP h2 (oO (.sm 0) (oP (show (Int.toNat i1)=(Int.toNat i1) from rfl) (oT h3 (oO (.gt 0) (oI 0 h4 (oP h2 (oO (.sm 0) (oP (show (Int.toNat i1)=(Int.toNat i1) from rfl) (oP h2 (oO (.sm 0) (oP (show (Int.toNat i1)=(Int.toNat i1) from rfl) (oP h5 (oD h6 (oF h7 (oP h5 (oD h6 (oO (.gt 0) oZ))))))))))))))))))) ih
theorem x8k (h3:¬ i3<((n1:Nat):Int))(e1:r4.length=n1)(e2:List.set m0 (Int.toNat i1) (r4.take n1)=m2):Lp E 8 A5 2 (z5z n0 i0 i1 i2 i3 m0 b0 b1 r0 r1 b2 r2 r3) (.exit 4) (y2a n0 i0 i1 i2 b0 b1 r0 r1 b2 r2 r3 m2):=by subst e1 e2;exact lpX (oI 0 h1 (oP h2 (oO (.sm 0) (oP (show (Int.toNat i1)=(Int.toNat i1) from rfl) (oU h3 (oO (.gt 0) oZ))))))
end
def z6a (n0:Nat) (i0 i1 i2 i3 i4:Int) (m0:List (RW)) (b0 b1:Bool) (r0 r1:RW) (b2:Bool) (r2 r3:RW) (b3:Bool) (r4 r5:RW):St:=stOf 161 [(0,.vec 0 n0),(1,.i i0),(5,.ptr 1 0),(6,.ptr 2 0),(7,.i i1),(8,.i i2),(12,.i i3),(13,.ptr 9 0),(14,.i i4)] [some (.mat A3 m0 []),sC [.b b0,.nils,.nils],sC [.b b1,.l r0,.l r1],some .dead,some .dead,some .dead,some .dead,sC [.b b2,.l r2,.l r3],some .dead,sC [.b b3,.l r4,.l r5]]
def y2c (n0:Nat) (i0 i1 i2 i3:Int) (b0 b1:Bool) (r0 r1:RW) (b2:Bool) (r2 r3:RW) (b3:Bool) (r4 r5:RW) (m1:List (RW)):St:=stOf 161 [(0,.vec 0 n0),(1,.i i0),(5,.ptr 1 0),(6,.ptr 2 0),(7,.i i1),(8,.i i2),(12,.i i3)] [some (.mat A3 m1 []),sC [.b b0,.nils,.nils],sC [.b b1,.l r0,.l r1],some .dead,some .dead,some .dead,some .dead,sC [.b b2,.l r2,.l r3],some .dead,sC [.b b3,.l r4,.l r5]]
section
variable (h1:m0[(Int.toNat i3)]?=some r6)(h2:0≤i3∧i3<((n0:Nat):Int))
include h1 h2
theorem k4i (h3:i4<((n1:Nat):Int))(h4:m2[(Int.toNat i3)]?=some r7)(h5:m2[(Int.toNat i1)]?=some r8)(h6:(Int.toNat i1)≠(Int.toNat i3))(h7:0≤i4∧i4<((n2:Nat):Int))(h8:r7[(Int.toNat i4)]?=some [.b b4,.l r9,.l r10])(h9:0≤i1∧i1<((n0:Nat):Int))(h10:0≤i4∧i4<((n3:Nat):Int))(h11:r8[(Int.toNat i4)]?=some [.b b5,.l r11,.l r12])(h12:Fn E K2 [.q b3 r4 r5,.q b5 r11 r12] (.q b6 r13 r14))(h13:Fn E z4q [.q b4 r9 r10,.q b6 r13 r14] (.q b7 r15 r16))(e1:r6.length=n1)(e2:List.set m0 (Int.toNat i3) (r6.take n1)=m2)(e3:r7.length=n2)(e4:r8.length=n3)(e5:List.set r7 (Int.toNat i4) [.b b7,.l r15,.l r16]=r17)(e6:List.set m2 (Int.toNat i3) (r17.take n2)=m3)(e7:List.set m3 (Int.toNat i1) (r8.take n3)=m4)(e8:IntKind.i64.wrap (i4+1)=i5)(ih:Lp E 10 A5 4 (z6a n0 i0 i1 i2 i3 i5 m4 b0 b1 r0 r1 b2 r2 r3 b3 r4 r5) o t):Lp E 10 A5 4 (z6a n0 i0 i1 i2 i3 i4 m0 b0 b1 r0 r1 b2 r2 r3 b3 r4 r5) o t:=by subst e1 e2 e3 e4 e5 e6 e7 e8;exact lpM (oI 0 h1 (oP h2 (oO (.sm 0) (oP (show (Int.toNat i3)=(Int.toNat i3) from rfl) (oT h3 (oO (.gt 0) (oI 0 h4 (oI 0 h5 (oP h6 (oP h2 (oO (.sm 0) (oP (show (Int.toNat i3)=(Int.toNat i3) from rfl) (oP h2 (oO (.sm 0) (oP (show (Int.toNat i3)=(Int.toNat i3) from rfl) (oP h7 (oD h8 (oP h9 (oO (.sm 1) (oP (show (Int.toNat i1)=(Int.toNat i1) from rfl) (oP h10 (oD h11 (oF h12 (oF h13 (oP h7 (oD h8 (oO (.gt 0) oZ))))))))))))))))))))))))))) ih
theorem x8m (h3:¬ i4<((n1:Nat):Int))(e1:r6.length=n1)(e2:List.set m0 (Int.toNat i3) (r6.take n1)=m2):Lp E 10 A5 4 (z6a n0 i0 i1 i2 i3 i4 m0 b0 b1 r0 r1 b2 r2 r3 b3 r4 r5) (.exit 8) (y2c n0 i0 i1 i2 i3 b0 b1 r0 r1 b2 r2 r3 b3 r4 r5 m2):=by subst e1 e2;exact lpX (oI 0 h1 (oP h2 (oO (.sm 0) (oP (show (Int.toNat i3)=(Int.toNat i3) from rfl) (oU h3 (oO (.gt 0) oZ))))))
end
def U1 (n0:Nat) (i0 i1 i2 i3:Int) (m0:List (RW)) (b0 b1:Bool) (r0 r1:RW) (b2:Bool) (r2 r3:RW):St:=stOf 161 [(0,.vec 0 n0),(1,.i i0),(5,.ptr 1 0),(6,.ptr 2 0),(7,.i i1),(8,.i i2),(12,.i i3)] [some (.mat A3 m0 []),sC [.b b0,.nils,.nils],sC [.b b1,.l r0,.l r1],some .dead,some .dead,some .dead,some .dead,sC [.b b2,.l r2,.l r3]]
def y2b (n0:Nat) (i0 i1 i2:Int) (b0 b1:Bool) (r0 r1:RW) (b2:Bool) (r2 r3:RW) (m1:List (RW)):St:=stOf 161 [(0,.vec 0 n0),(1,.i i0),(5,.ptr 1 0),(6,.ptr 2 0),(7,.i i1),(8,.i i2)] [some (.mat A3 m1 []),sC [.b b0,.nils,.nils],sC [.b b1,.l r0,.l r1],some .dead,some .dead,some .dead,some .dead,sC [.b b2,.l r2,.l r3]]
section
variable (h1:i3<((n0:Nat):Int))(h2:m0[(Int.toNat i3)]?=some r4)(h3:0≤i3∧i3<((n0:Nat):Int))(h4:0≤i2∧i2<((n1:Nat):Int))(h5:r4[(Int.toNat i2)]?=some [.b b3,.l r5,.l r6])
include h1 h2 h3 h4 h5
section
variable (h6:¬ i3=i1)(h7:Fn E y0z [.q b3 r5 r6] (.i i4))
include h6 h7
theorem k4f (h8:¬ i4=0)(h9:Lp E 10 A5 4 (z6a n0 i0 i1 i2 i3 0 m2 b0 b1 r0 r1 b2 r2 r3 b3 r5 r6) (.exit 8) (y2c n0 i0 i1 i2 i3 b0 b1 r0 r1 b2 r2 r3 b3 r5 r6 m3))(e1:r4.length=n1)(e2:List.set m0 (Int.toNat i3) (r4.take n1)=m2)(e3:IntKind.i64.wrap (i3+1)=i5)(ih:Lp E 8 A5 3 (U1 n0 i0 i1 i2 i5 m3 b0 b1 r0 r1 b2 r2 r3) o t):Lp E 8 A5 3 (U1 n0 i0 i1 i2 i3 m0 b0 b1 r0 r1 b2 r2 r3) o t:=by subst e1 e2 e3;exact lpM (oT h1 (oI 0 h2 (oP h3 (oO (.sm 0) (oP (show (Int.toNat i3)=(Int.toNat i3) from rfl) (oP h4 (oD h5 (oO (.gt 0) (oB (bnT h6) (oF h7 (oB (bnT h8) (oL h9 oZ)))))))))))) ih
theorem k4g (h8:i4=0)(e1:r4.length=n1)(e2:List.set m0 (Int.toNat i3) (r4.take n1)=m2)(e3:IntKind.i64.wrap (i3+1)=i6)(ih:Lp E 8 A5 3 (U1 n0 i0 i1 i2 i6 m2 b0 b1 r0 r1 b2 r2 r3) o t):Lp E 8 A5 3 (U1 n0 i0 i1 i2 i3 m0 b0 b1 r0 r1 b2 r2 r3) o t:=by subst e1 e2 e3;exact lpM (oT h1 (oI 0 h2 (oP h3 (oO (.sm 0) (oP (show (Int.toNat i3)=(Int.toNat i3) from rfl) (oP h4 (oD h5 (oO (.gt 0) (oB (bnT h6) (oF h7 (oC (bnF h8) oZ))))))))))) ih
end
theorem k4h (h6:i3=i1)(e1:r4.length=n1)(e2:List.set m0 (Int.toNat i3) (r4.take n1)=m2)(e3:IntKind.i64.wrap (i3+1)=i4)(ih:Lp E 8 A5 3 (U1 n0 i0 i1 i2 i4 m2 b0 b1 r0 r1 b2 r2 r3) o t):Lp E 8 A5 3 (U1 n0 i0 i1 i2 i3 m0 b0 b1 r0 r1 b2 r2 r3) o t:=by subst e1 e2 e3;exact lpM (oT h1 (oI 0 h2 (oP h3 (oO (.sm 0) (oP (show (Int.toNat i3)=(Int.toNat i3) from rfl) (oP h4 (oD h5 (oO (.gt 0) (oC (bnF h6) oZ))))))))) ih
end
theorem x8l (h1:¬ i3<((n0:Nat):Int)):Lp E 8 A5 3 (U1 n0 i0 i1 i2 i3 m0 b0 b1 r0 r1 b2 r2 r3) (.exit 6) (y2b n0 i0 i1 i2 b0 b1 r0 r1 b2 r2 r3 m0):=lpX (oU h1 oZ)
def z4h (n0:Nat) (i0 i1 i2 i3:Int) (m0:List (RW)) (b0 b1:Bool) (r0 r1:RW) (b2:Bool) (r2 r3:RW):St:=stOf 161 [(0,.vec 0 n0),(1,.i i0),(5,.ptr 1 0),(6,.ptr 2 0),(7,.i i1),(8,.i i2),(10,.ptr 5 0),(11,.i i3)] [some (.mat A3 m0 []),sC [.b b0,.nils,.nils],sC [.b b1,.l r0,.l r1],some .dead,some .dead,sC [.b b2,.l r2,.l r3]]
def y0f (n0:Nat) (i0 i1 i2:Int) (b0 b1:Bool) (r0 r1:RW) (b2:Bool) (r2 r3:RW) (m1:List (RW)):St:=stOf 161 [(0,.vec 0 n0),(1,.i i0),(5,.ptr 1 0),(6,.ptr 2 0),(7,.i i1),(8,.i i2)] [some (.mat A3 m1 []),sC [.b b0,.nils,.nils],sC [.b b1,.l r0,.l r1],some .dead,some .dead,sC [.b b2,.l r2,.l r3]]
section
variable (h1:m0[(Int.toNat i1)]?=some r4)(h2:0≤i1∧i1<((n0:Nat):Int))
include h1 h2
theorem k1n (h3:i3<((n1:Nat):Int))(h4:m2[(Int.toNat i1)]?=some r5)(h5:0≤i3∧i3<((n2:Nat):Int))(h6:r5[(Int.toNat i3)]?=some [.b b3,.l r6,.l r7])(h7:Fn E K2 [.q b3 r6 r7,.q b2 r2 r3] (.q b4 r8 r9))(e1:r4.length=n1)(e2:List.set m0 (Int.toNat i1) (r4.take n1)=m2)(e3:r5.length=n2)(e4:List.set r5 (Int.toNat i3) [.b b4,.l r8,.l r9]=r10)(e5:List.set m2 (Int.toNat i1) (r10.take n2)=m3)(e6:IntKind.i64.wrap (i3+1)=i4)(ih:Lp E 6 A5 2 (z4h n0 i0 i1 i2 i4 m3 b0 b1 r0 r1 b2 r2 r3) o t):Lp E 6 A5 2 (z4h n0 i0 i1 i2 i3 m0 b0 b1 r0 r1 b2 r2 r3) o t:=by subst e1 e2 e3 e4 e5 e6;exact lpM (oI 0 h1 (oP h2 (oO (.sm 0) (oP (show (Int.toNat i1)=(Int.toNat i1) from rfl) (oT h3 (oO (.gt 0) (oI 0 h4 (oP h2 (oO (.sm 0) (oP (show (Int.toNat i1)=(Int.toNat i1) from rfl) (oP h2 (oO (.sm 0) (oP (show (Int.toNat i1)=(Int.toNat i1) from rfl) (oP h5 (oD h6 (oF h7 (oP h5 (oD h6 (oO (.gt 0) oZ))))))))))))))))))) ih
theorem x5o (h3:¬ i3<((n1:Nat):Int))(e1:r4.length=n1)(e2:List.set m0 (Int.toNat i1) (r4.take n1)=m2):Lp E 6 A5 2 (z4h n0 i0 i1 i2 i3 m0 b0 b1 r0 r1 b2 r2 r3) (.exit 4) (y0f n0 i0 i1 i2 b0 b1 r0 r1 b2 r2 r3 m2):=by subst e1 e2;exact lpX (oI 0 h1 (oP h2 (oO (.sm 0) (oP (show (Int.toNat i1)=(Int.toNat i1) from rfl) (oU h3 (oO (.gt 0) oZ))))))
end
def z4i (n0:Nat) (i0 i1 i2 i3 i4:Int) (m0:List (RW)) (b0 b1:Bool) (r0 r1:RW) (b2:Bool) (r2 r3:RW) (b3:Bool) (r4 r5:RW):St:=stOf 161 [(0,.vec 0 n0),(1,.i i0),(5,.ptr 1 0),(6,.ptr 2 0),(7,.i i1),(8,.i i2),(12,.i i3),(13,.ptr 7 0),(14,.i i4)] [some (.mat A3 m0 []),sC [.b b0,.nils,.nils],sC [.b b1,.l r0,.l r1],some .dead,some .dead,sC [.b b2,.l r2,.l r3],some .dead,sC [.b b3,.l r4,.l r5]]
def y0h (n0:Nat) (i0 i1 i2 i3:Int) (b0 b1:Bool) (r0 r1:RW) (b2:Bool) (r2 r3:RW) (b3:Bool) (r4 r5:RW) (m1:List (RW)):St:=stOf 161 [(0,.vec 0 n0),(1,.i i0),(5,.ptr 1 0),(6,.ptr 2 0),(7,.i i1),(8,.i i2),(12,.i i3)] [some (.mat A3 m1 []),sC [.b b0,.nils,.nils],sC [.b b1,.l r0,.l r1],some .dead,some .dead,sC [.b b2,.l r2,.l r3],some .dead,sC [.b b3,.l r4,.l r5]]
section
variable (h1:m0[(Int.toNat i3)]?=some r6)(h2:0≤i3∧i3<((n0:Nat):Int))
include h1 h2
theorem k1r (h3:i4<((n1:Nat):Int))(h4:m2[(Int.toNat i3)]?=some r7)(h5:m2[(Int.toNat i1)]?=some r8)(h6:(Int.toNat i1)≠(Int.toNat i3))(h7:0≤i4∧i4<((n2:Nat):Int))(h8:r7[(Int.toNat i4)]?=some [.b b4,.l r9,.l r10])(h9:0≤i1∧i1<((n0:Nat):Int))(h10:0≤i4∧i4<((n3:Nat):Int))(h11:r8[(Int.toNat i4)]?=some [.b b5,.l r11,.l r12])(h12:Fn E K2 [.q b3 r4 r5,.q b5 r11 r12] (.q b6 r13 r14))(h13:Fn E z4q [.q b4 r9 r10,.q b6 r13 r14] (.q b7 r15 r16))(e1:r6.length=n1)(e2:List.set m0 (Int.toNat i3) (r6.take n1)=m2)(e3:r7.length=n2)(e4:r8.length=n3)(e5:List.set r7 (Int.toNat i4) [.b b7,.l r15,.l r16]=r17)(e6:List.set m2 (Int.toNat i3) (r17.take n2)=m3)(e7:List.set m3 (Int.toNat i1) (r8.take n3)=m4)(e8:IntKind.i64.wrap (i4+1)=i5)(ih:Lp E 8 A5 4 (z4i n0 i0 i1 i2 i3 i5 m4 b0 b1 r0 r1 b2 r2 r3 b3 r4 r5) o t):Lp E 8 A5 4 (z4i n0 i0 i1 i2 i3 i4 m0 b0 b1 r0 r1 b2 r2 r3 b3 r4 r5) o t:=by subst e1 e2 e3 e4 e5 e6 e7 e8;exact lpM (oI 0 h1 (oP h2 (oO (.sm 0) (oP (show (Int.toNat i3)=(Int.toNat i3) from rfl) (oT h3 (oO (.gt 0) (oI 0 h4 (oI 0 h5 (oP h6 (oP h2 (oO (.sm 0) (oP (show (Int.toNat i3)=(Int.toNat i3) from rfl) (oP h2 (oO (.sm 0) (oP (show (Int.toNat i3)=(Int.toNat i3) from rfl) (oP h7 (oD h8 (oP h9 (oO (.sm 1) (oP (show (Int.toNat i1)=(Int.toNat i1) from rfl) (oP h10 (oD h11 (oF h12 (oF h13 (oP h7 (oD h8 (oO (.gt 0) oZ))))))))))))))))))))))))))) ih
theorem x5q (h3:¬ i4<((n1:Nat):Int))(e1:r6.length=n1)(e2:List.set m0 (Int.toNat i3) (r6.take n1)=m2):Lp E 8 A5 4 (z4i n0 i0 i1 i2 i3 i4 m0 b0 b1 r0 r1 b2 r2 r3 b3 r4 r5) (.exit 8) (y0h n0 i0 i1 i2 i3 b0 b1 r0 r1 b2 r2 r3 b3 r4 r5 m2):=by subst e1 e2;exact lpX (oI 0 h1 (oP h2 (oO (.sm 0) (oP (show (Int.toNat i3)=(Int.toNat i3) from rfl) (oU h3 (oO (.gt 0) oZ))))))
end
def O9 (n0:Nat) (i0 i1 i2 i3:Int) (m0:List (RW)) (b0 b1:Bool) (r0 r1:RW) (b2:Bool) (r2 r3:RW):St:=stOf 161 [(0,.vec 0 n0),(1,.i i0),(5,.ptr 1 0),(6,.ptr 2 0),(7,.i i1),(8,.i i2),(12,.i i3)] [some (.mat A3 m0 []),sC [.b b0,.nils,.nils],sC [.b b1,.l r0,.l r1],some .dead,some .dead,sC [.b b2,.l r2,.l r3]]
def y0g (n0:Nat) (i0 i1 i2:Int) (b0 b1:Bool) (r0 r1:RW) (b2:Bool) (r2 r3:RW) (m1:List (RW)):St:=stOf 161 [(0,.vec 0 n0),(1,.i i0),(5,.ptr 1 0),(6,.ptr 2 0),(7,.i i1),(8,.i i2)] [some (.mat A3 m1 []),sC [.b b0,.nils,.nils],sC [.b b1,.l r0,.l r1],some .dead,some .dead,sC [.b b2,.l r2,.l r3]]
section
variable (h1:i3<((n0:Nat):Int))(h2:m0[(Int.toNat i3)]?=some r4)(h3:0≤i3∧i3<((n0:Nat):Int))(h4:0≤i2∧i2<((n1:Nat):Int))(h5:r4[(Int.toNat i2)]?=some [.b b3,.l r5,.l r6])
include h1 h2 h3 h4 h5
section
variable (h6:¬ i3=i1)(h7:Fn E y0z [.q b3 r5 r6] (.i i4))
include h6 h7
theorem k1o (h8:¬ i4=0)(h9:Lp E 8 A5 4 (z4i n0 i0 i1 i2 i3 0 m2 b0 b1 r0 r1 b2 r2 r3 b3 r5 r6) (.exit 8) (y0h n0 i0 i1 i2 i3 b0 b1 r0 r1 b2 r2 r3 b3 r5 r6 m3))(e1:r4.length=n1)(e2:List.set m0 (Int.toNat i3) (r4.take n1)=m2)(e3:IntKind.i64.wrap (i3+1)=i5)(ih:Lp E 6 A5 3 (O9 n0 i0 i1 i2 i5 m3 b0 b1 r0 r1 b2 r2 r3) o t):Lp E 6 A5 3 (O9 n0 i0 i1 i2 i3 m0 b0 b1 r0 r1 b2 r2 r3) o t:=by subst e1 e2 e3;exact lpM (oT h1 (oI 0 h2 (oP h3 (oO (.sm 0) (oP (show (Int.toNat i3)=(Int.toNat i3) from rfl) (oP h4 (oD h5 (oO (.gt 0) (oB (bnT h6) (oF h7 (oB (bnT h8) (oL h9 oZ)))))))))))) ih
theorem k1p (h8:i4=0)(e1:r4.length=n1)(e2:List.set m0 (Int.toNat i3) (r4.take n1)=m2)(e3:IntKind.i64.wrap (i3+1)=i6)(ih:Lp E 6 A5 3 (O9 n0 i0 i1 i2 i6 m2 b0 b1 r0 r1 b2 r2 r3) o t):Lp E 6 A5 3 (O9 n0 i0 i1 i2 i3 m0 b0 b1 r0 r1 b2 r2 r3) o t:=by subst e1 e2 e3;exact lpM (oT h1 (oI 0 h2 (oP h3 (oO (.sm 0) (oP (show (Int.toNat i3)=(Int.toNat i3) from rfl) (oP h4 (oD h5 (oO (.gt 0) (oB (bnT h6) (oF h7 (oC (bnF h8) oZ))))))))))) ih
end
theorem k1q (h6:i3=i1)(e1:r4.length=n1)(e2:List.set m0 (Int.toNat i3) (r4.take n1)=m2)(e3:IntKind.i64.wrap (i3+1)=i4)(ih:Lp E 6 A5 3 (O9 n0 i0 i1 i2 i4 m2 b0 b1 r0 r1 b2 r2 r3) o t):Lp E 6 A5 3 (O9 n0 i0 i1 i2 i3 m0 b0 b1 r0 r1 b2 r2 r3) o t:=by subst e1 e2 e3;exact lpM (oT h1 (oI 0 h2 (oP h3 (oO (.sm 0) (oP (show (Int.toNat i3)=(Int.toNat i3) from rfl) (oP h4 (oD h5 (oO (.gt 0) (oC (bnF h6) oZ))))))))) ih
end
theorem x5p (h1:¬ i3<((n0:Nat):Int)):Lp E 6 A5 3 (O9 n0 i0 i1 i2 i3 m0 b0 b1 r0 r1 b2 r2 r3) (.exit 6) (y0g n0 i0 i1 i2 b0 b1 r0 r1 b2 r2 r3 m0):=lpX (oU h1 oZ)
def P9 (n0:Nat) (i0 i1 i2:Int) (m0:List (RW)) (b0 b1:Bool) (r0 r1:RW):St:=stOf 161 [(0,.vec 0 n0),(1,.i i0),(5,.ptr 1 0),(6,.ptr 2 0),(7,.i i1),(8,.i i2)] [some (.mat A3 m0 []),sC [.b b0,.nils,.nils],sC [.b b1,.l r0,.l r1]]
def y1z (b0:Bool) (i3:Int) (m1:List (RW)) (b2:Bool) (r2 r3:RW):St:=stOf 161 [(5,.ptr 1 0),(6,.ptr 2 0),(7,.i i3)] [some (.mat A3 m1 []),sC [.b b0,.nils,.nils],sC [.b b2,.l r2,.l r3]]
section
variable (h1:i2<i0)(h2:Lp E 3 A5 1 (z2m n0 i0 i1 i2 i1 m0 b0 b1 r0 r1) (.exit 2) (z7a n0 i0 i1 i2 b0 b1 r0 r1 i4 m2))
include h1 h2
theorem k4a (h3:i4≥((n0:Nat):Int))(h4:Fn E I0 [.i 0] (.q b3 r4 r5))(e1:IntKind.i64.wrap (i2+1)=i5)(ih:Lp E 3 A5 0 (P9 n0 i0 i1 i5 m2 b0 b3 r4 r5) o t):Lp E 3 A5 0 (P9 n0 i0 i1 i2 m0 b0 b1 r0 r1) o t:=by subst e1;exact lpM (oT h1 (oL h2 (oT h3 (oF h4 oZ)))) ih
theorem k4b (h3:¬ i4≥((n0:Nat):Int))(h4:¬ i4=i1)(h5:m2[(Int.toNat i1)]?=some r6)(h6:m2[(Int.toNat i4)]?=some r5)(h7:(Int.toNat i4)≠(Int.toNat i1))(h8:0≤i1∧i1<((n0:Nat):Int))(h9:0≤i4∧i4<((n0:Nat):Int))(h10:Fn E y3y [.q b1 r0 r1] (.q b4 r7 r8))(h11:m4[(Int.toNat i1)]?=some r9)(h12:0≤i2∧i2<((n3:Nat):Int))(h13:r9[(Int.toNat i2)]?=some [.b b5,.l r10,.l r11])(h14:Fn E K2 [.q b4 r7 r8,.q b5 r10 r11] (.q b6 r12 r13))(h15:m5[(Int.toNat i1)]?=some r14)(h16:0≤i2∧i2<((n4:Nat):Int))(h17:r14[(Int.toNat i2)]?=some [.b b7,.l r15,.l r16])(h18:Fn E y0j [.q b7 r15 r16] (.q b8 r17 r18))(h19:Lp E 8 A5 2 (z5z n0 i0 i1 i2 0 m6 b0 b6 r12 r13 b8 r17 r18) (.exit 4) (y2a n0 i0 i1 i2 b0 b6 r12 r13 b8 r17 r18 m7))(h20:Lp E 8 A5 3 (U1 n0 i0 i1 i2 0 m7 b0 b6 r12 r13 b8 r17 r18) (.exit 6) (y2b n0 i0 i1 i2 b0 b6 r12 r13 b8 r17 r18 m8))(e1:r6.length=n1)(e2:r5.length=n2)(e3:List.set m2 (Int.toNat i1) (r5.take n2)=m3)(e4:List.set m3 (Int.toNat i4) (r6.take n1)=m4)(e5:r9.length=n3)(e6:List.set m4 (Int.toNat i1) (r9.take n3)=m5)(e7:r14.length=n4)(e8:List.set m5 (Int.toNat i1) (r14.take n4)=m6)(e9:IntKind.i64.wrap (i1+1)=i6)(e10:IntKind.i64.wrap (i2+1)=i7)(ih:Lp E 3 A5 0 (P9 n0 i0 i6 i7 m8 b0 b6 r12 r13) o t):Lp E 3 A5 0 (P9 n0 i0 i1 i2 m0 b0 b1 r0 r1) o t:=by subst e1 e2 e3 e4 e5 e6 e7 e8 e9 e10;exact lpM (oT h1 (oL h2 (oU h3 (oB (bnT h4) (oI 0 h5 (oI 0 h6 (oP h7 (oP h8 (oO (.sm 0) (oP (show (Int.toNat i1)=(Int.toNat i1) from rfl) (oP h9 (oO (.sm 1) (oP (show (Int.toNat i4)=(Int.toNat i4) from rfl) (oP h9 (oO (.sm 1) (oP (show (Int.toNat i4)=(Int.toNat i4) from rfl) (oP h8 (oO (.sm 0) (oP (show (Int.toNat i1)=(Int.toNat i1) from rfl) (oO (.gt 0) (oF h10 (oI 0 h11 (oP h8 (oO (.sm 0) (oP (show (Int.toNat i1)=(Int.toNat i1) from rfl) (oP h12 (oD h13 (oF h14 (oO (.gt 0) (oI 0 h15 (oP h8 (oO (.sm 0) (oP (show (Int.toNat i1)=(Int.toNat i1) from rfl) (oP h16 (oD h17 (oF h18 (oO (.gt 0) (oL h19 (oL h20 oZ))))))))))))))))))))))))))))))))))))))) ih
theorem k4c (h3:¬ i4≥((n0:Nat):Int))(h4:i4=i1)(h5:m2[(Int.toNat i1)]?=some r6)(h6:0≤i1∧i1<((n0:Nat):Int))(h7:0≤i2∧i2<((n1:Nat):Int))(h8:r6[(Int.toNat i2)]?=some [.b b9,.l r19,.l r20])(h9:Fn E K2 [.q b1 r0 r1,.q b9 r19 r20] (.q b10 r21 r7))(h10:m9[(Int.toNat i1)]?=some r9)(h11:0≤i2∧i2<((n3:Nat):Int))(h12:r9[(Int.toNat i2)]?=some [.b b5,.l r10,.l r11])(h13:Fn E y0j [.q b5 r10 r11] (.q b6 r12 r13))(h14:Lp E 6 A5 2 (z4h n0 i0 i1 i2 0 m5 b0 b10 r21 r7 b6 r12 r13) (.exit 4) (y0f n0 i0 i1 i2 b0 b10 r21 r7 b6 r12 r13 m10))(h15:Lp E 6 A5 3 (O9 n0 i0 i1 i2 0 m10 b0 b10 r21 r7 b6 r12 r13) (.exit 6) (y0g n0 i0 i1 i2 b0 b10 r21 r7 b6 r12 r13 m11))(e1:r6.length=n1)(e2:List.set m2 (Int.toNat i1) (r6.take n1)=m9)(e3:r9.length=n3)(e4:List.set m9 (Int.toNat i1) (r9.take n3)=m5)(e5:IntKind.i64.wrap (i1+1)=i8)(e6:IntKind.i64.wrap (i2+1)=i9)(ih:Lp E 3 A5 0 (P9 n0 i0 i8 i9 m11 b0 b10 r21 r7) o t):Lp E 3 A5 0 (P9 n0 i0 i1 i2 m0 b0 b1 r0 r1) o t:=by subst e1 e2 e3 e4 e5 e6;exact lpM (oT h1 (oL h2 (oU h3 (oC (bnF h4) (oI 0 h5 (oP h6 (oO (.sm 0) (oP (show (Int.toNat i1)=(Int.toNat i1) from rfl) (oP h7 (oD h8 (oF h9 (oO (.gt 0) (oI 0 h10 (oP h6 (oO (.sm 0) (oP (show (Int.toNat i1)=(Int.toNat i1) from rfl) (oP h11 (oD h12 (oF h13 (oO (.gt 0) (oL h14 (oL h15 oZ)))))))))))))))))))))) ih
end
theorem x8h (h1:¬ i2<i0):Lp E 3 A5 0 (P9 n0 i0 i1 i2 m0 b0 b1 r0 r1) (.exit 0) (y1z b0 i1 m0 b1 r0 r1):=lpX (oU h1 oZ)
theorem j6w (h1:Fn E I0 [.i 1] (.q b0 r0 r1))(h2:Lp E 3 A5 0 (P9 n0 i0 0 0 m0 false b0 r0 r1) (.exit 0) (y1z false i1 m1 b1 r2 r3)):Rn E A5 [.vec 0 n0,.i i0] [some (.mat A3 m0 [])] (.tup [.i i1,.q b1 r2 r3]) [some (.mat A3 m1 [])]:=rnM (oF h1 (oL h2 oZ))
def z6b (r0 r1:RW) (i0:Int) (n0:Nat) (i1:Int) (m0:List (RW)):St:=stOf 62 [(0,.l r0),(1,.l r1),(6,.i i0),(7,.vec 0 n0),(8,.i i1)] [some (.mat A3 m0 [])]
def y2d (i0:Int) (n0:Nat) (m1:List (RW)):St:=stOf 62 [(6,.i i0),(7,.vec 0 n0)] [some (.mat A3 m1 [])]
theorem k4k (h1:i1<i0)(h2:0≤i1)(h3:r0[(Int.toNat i1)]?=some [.l r2])(h4:∀ y∈r2,y.length=3)(h5:(0+r2.length)*56≤140737488355328∧0+r2.length≤140737488355328)(h6:r1[(Int.toNat i1)]?=some [.b b0,.l r4,.l r5])(h7:(n1+1)*56≤140737488355328∧n1+1≤140737488355328)(h8:0≤i1∧i1<((n0:Nat):Int))(e1:(([]:RW).take 0)++r2=r3)(e2:0+r2.length=n1)(e3:(r3.take n1)++[[.b b0,.l r4,.l r5]]=r6)(e4:n1+1=n2)(e5:List.set m0 (Int.toNat i1) (r6.take n2)=m2)(e6:IntKind.i64.wrap (i1+1)=i2)(ih:Lp E 1 G3 0 (z6b r0 r1 i0 n0 i2 m2) o t):Lp E 1 G3 0 (z6b r0 r1 i0 n0 i1 m0) o t:=by subst e1 e2 e3 e4 e5 e6;exact lpM (oT h1 (oP h2 (oD h3 (oP h4 (oP h5 (oP h2 (oD h6 (oP (show ∀ y∈([[.b b0,.l r4,.l r5]]:RW),y.length=3 from by simp) (oP h7 (oP h8 (oO .sn (oO (.gt 0) oZ)))))))))))) ih
theorem x8o (h1:¬ i1<i0):Lp E 1 G3 0 (z6b r0 r1 i0 n0 i1 m0) (.exit 0) (y2d i0 n0 m0):=lpX (oU h1 oZ)
def z6c (i0:Int) (n0 n1:Nat) (i1:Int) (m0:List (RW)) (b0:Bool) (r0 r1 r2:RW):St:=stOf 62 [(6,.i i0),(7,.vec 0 n0),(11,.vec 2 n1),(12,.i i1)] [some (.mat A3 m0 []),sC [.b b0,.l r0,.l r1],sV G4 r2]
def y2e (b0:Bool) (r0 r1:RW) (n2:Nat) (m1:List (RW)) (r3:RW):St:=stOf 62 [(11,.vec 2 n2)] [some (.mat A3 m1 []),sC [.b b0,.l r0,.l r1],sV G4 r3]
theorem k4l (h1:i1<i0)(h2:m0[(Int.toNat i1)]?=some r4)(h3:0≤i1∧i1<((n0:Nat):Int))(h4:0≤i0∧i0<((n3:Nat):Int))(h5:r4[(Int.toNat i0)]?=some [.b b1,.l r5,.l r6])(h6:(n1+1)*56≤140737488355328∧n1+1≤140737488355328)(e1:r4.length=n3)(e2:(r2.take n1)++[[.b b1,.l r5,.l r6]]=r7)(e3:n1+1=n4)(e4:List.set m0 (Int.toNat i1) (r4.take n3)=m2)(e5:IntKind.i64.wrap (i1+1)=i2)(ih:Lp E 2 G3 1 (z6c i0 n0 n4 i2 m2 b0 r0 r1 r7) o t):Lp E 2 G3 1 (z6c i0 n0 n1 i1 m0 b0 r0 r1 r2) o t:=by subst e1 e2 e3 e4 e5;exact lpM (oT h1 (oI 0 h2 (oP h3 (oO (.sm 0) (oP (show (Int.toNat i1)=(Int.toNat i1) from rfl) (oP h4 (oD h5 (oP (show ∀ y∈([[.b b1,.l r5,.l r6]]:RW),y.length=3 from by simp) (oP h6 (oO (.gt 0) oZ)))))))))) ih
theorem x8p (h1:¬ i1<i0):Lp E 2 G3 1 (z6c i0 n0 n1 i1 m0 b0 r0 r1 r2) (.exit 2) (y2e b0 r0 r1 n1 m0 r2):=lpX (oU h1 oZ)
section
variable (h1:0≤(r0.length:Int)∧(r0.length:Int)≤(r0.length:Int)∧(Int.toNat (r0.length:Int))*24≤140737488355328∧(Int.toNat (r0.length:Int))≤140737488355328)(h2:Lp E 1 G3 0 (z6b r0 r1 (r0.length:Int) n0 0 m0) (.exit 0) (y2d (r0.length:Int) n0 m1))(h3:Rn E A5 [.vec 0 n0,.i (r0.length:Int)] [some (.mat A3 m1 []),none] (.tup [.i i0,.q b0 r2 r3]) [some (.mat A3 m2 []),none])
include h1 h2 h3
theorem j6x (h4:i0<(r0.length:Int))(e1:Int.toNat (r0.length:Int)=n0)(e2:(List.replicate n0 []:List (RW))=m0):Fn E G3 [.l r0,.l r1] (.tup [.l [],.b false]):=by subst e1 e2;exact fnM (oP h1 (oO .mk (oL h2 (oV h3 (oT h4 oZ)))))
theorem j6y (h4:¬ i0<(r0.length:Int))(h5:Lp E 2 G3 1 (z6c (r0.length:Int) n0 0 0 m2 b0 r2 r3 []) (.exit 2) (y2e b0 r2 r3 n1 m3 r4))(e1:Int.toNat (r0.length:Int)=n0)(e2:(List.replicate n0 []:List (RW))=m0)(e3:(r4.take n1)=r5):Fn E G3 [.l r0,.l r1] (.tup [.l r5,.b true]):=by subst e1 e2 e3;exact fnM (oP h1 (oO .mk (oL h2 (oV h3 (oU h4 (oM [(11,G4)] h5 oZ))))))
end
def z7q (r0:RW) (n0:Nat) (i0:Int) (r1:RW):St:=stOf 20 [(0,.l r0),(3,.vec 0 n0),(4,.i i0)] [sV M6 r1]
def y3j (n1:Nat) (r2:RW):St:=stOf 20 [(3,.vec 0 n1)] [sV M6 r2]
theorem k7h (h1:i0<(r0.length:Int))(h2:0≤i0)(h3:r0[(Int.toNat i0)]?=some [.b b0,.l r3,.l r4])(h4:Fn E z9q [.q b0 r3 r4] (.s s0))(h5:(n0+1)*16≤140737488355328∧n0+1≤140737488355328)(e1:(r1.take n0)++[[.s s0]]=r5)(e2:n0+1=n2)(e3:IntKind.i64.wrap (i0+1)=i1)(ih:Lp E 0 V3 0 (z7q r0 n2 i1 r5) o t):Lp E 0 V3 0 (z7q r0 n0 i0 r1) o t:=by subst e1 e2 e3;exact lpM (oT h1 (oP h2 (oD h3 (oF h4 (oP (show ∀ y∈([[.s s0]]:RW),y.length=1 from by simp) (oP h5 oZ)))))) ih
theorem k1s (h1:¬ i0<(r0.length:Int)):Lp E 0 V3 0 (z7q r0 n0 i0 r1) (.exit 0) (y3j n0 r1):=lpX (oU h1 oZ)
theorem q0i (h1:Lp E 0 V3 0 (z7q r0 0 0 []) (.exit 0) (y3j n0 r1))(e1:(r1.take n0)=r2):Fn E V3 [.l r0] (.l r2):=by subst e1;exact fnM (oM [(3,M6)] h1 oZ)
def y2f (r0 r1:RW) (i0:Int) (b0 b1:Bool) (r2 r3:RW):St:=stOf 26 [(0,.l r0),(1,.l r1),(4,.ptr 0 0),(5,.ptr 1 0),(6,.i i0)] [sC [.b b0,.nils,.nils],sC [.b b1,.l r2,.l r3]]
def y7i (b0 b2:Bool) (r4 r5:RW):St:=stOf 26 [(4,.ptr 0 0),(5,.ptr 1 0)] [sC [.b b0,.nils,.nils],sC [.b b2,.l r4,.l r5]]
theorem j2p (h1:i0<(r0.length:Int))(h2:0≤i0)(h3:r0[(Int.toNat i0)]?=some [.b b3,.l r6,.l r7])(h4:r1[(Int.toNat i0)]?=some [.b b4,.l r8,.l r9])(h5:Fn E K2 [.q b3 r6 r7,.q b4 r8 r9] (.q b5 r10 r11))(h6:Fn E z4p [.q b1 r2 r3,.q b5 r10 r11] (.q b6 r12 r13))(e1:IntKind.i64.wrap (i0+1)=i1)(ih:Lp E 2 U7 0 (y2f r0 r1 i1 b0 b6 r12 r13) o t):Lp E 2 U7 0 (y2f r0 r1 i0 b0 b1 r2 r3) o t:=by subst e1;exact lpM (oT h1 (oP h2 (oD h3 (oP h2 (oD h4 (oF h5 (oF h6 oZ))))))) ih
theorem k7k (h1:¬ i0<(r0.length:Int)):Lp E 2 U7 0 (y2f r0 r1 i0 b0 b1 r2 r3) (.exit 0) (y7i b0 b1 r2 r3):=lpX (oU h1 oZ)
theorem q9s (h1:Fn E I0 [.i 0] (.q b0 r2 r3))(h2:Lp E 2 U7 0 (y2f r0 r1 0 false b0 r2 r3) (.exit 0) (y7i false b1 r4 r5)):Fn E U7 [.l r0,.l r1] (.q b1 r4 r5):=fnM (oF h1 (oL h2 oZ))
end Gev
namespace Gev
open Go
theorem wi {n m:Int} (h:n=m∧-9223372036854775808≤m∧m≤9223372036854775807):IntKind.i64.wrap n=m:=by rw [IntKind.wrap_i64];omega
theorem wu {n m:Int} (h:n=m∧0≤m∧m≤18446744073709551615):IntKind.u64.wrap n=m:=by simp [IntKind.wrap,IntKind.bits,IntKind.signed];omega
theorem w32 {n m:Int} (h:n=m∧0≤m∧m≤4294967295):IntKind.u32.wrap n=m:=by rw [IntKind.wrap_u32];omega
theorem w8 {n m:Int} (h:n=m∧0≤m∧m≤255):IntKind.u8.wrap n=m:=by rw [IntKind.wrap_u8];omega
theorem tdv {a b c:Int} (ha:0≤a) (h:a / b=c):Int.tdiv a b=c:=by rw [Int.tdiv_eq_ediv_of_nonneg ha];exact h
theorem tmd {a b c:Int} (ha:0≤a) (h:a % b=c):Int.tmod a b=c:=by rw [Int.tmod_eq_emod_of_nonneg ha];exact h
def Wr (ws:List Int):RW:=ws.map fun x=>[.u32 x]
theorem A8 (ws:List Int):(Wr ws).length=ws.length:=by simp [Wr]
theorem v0q {ws:List Int} {i:Nat} {x:Int} (h:ws[i]?=some x):(Wr ws)[i]?=some [.u32 x]:=by simp [Wr,h]
theorem Y9 (ws:List Int) (n:Nat):(Wr ws).take n=Wr (ws.take n):=by simp [Wr,List.map_take]
theorem y8j (ws:List Int) (x:Int):Wr ws++[[.u32 x]]=Wr (ws++[x]):=by simp [Wr]
theorem v4v (ws xs:List Int):Wr ws++Wr xs=Wr (ws++xs):=by simp [Wr]
theorem z3w (ws:List Int) (n:Nat) (x:Int):(Wr ws).set n [.u32 x]=Wr (ws.set n x):=by simp [Wr,List.map_set]
theorem z4x (n:Nat) (x:Int):List.replicate n [DV.u32 x]=Wr (List.replicate n x):=by simp [Wr]
theorem v6o (ws:List Int):∀ x∈Wr ws,x.length=1:=by intro x hx;simp [Wr] at hx;obtain ⟨_,_,rfl⟩:=hx;rfl
theorem getD_some {ws:List Int} {i:Nat} (h:i<ws.length):ws[i]?=some (ws.getD i 0):=by
 rw [List.getD_eq_getElem?_getD,List.getElem?_eq_getElem h];rfl
theorem F0 {ws:List Int} {i:Nat} (h:i<ws.length):(Wr ws)[i]?=some [.u32 (ws.getD i 0)]:=v0q (getD_some h)
def B (l:List UInt8):BA:=⟨l.toArray⟩
theorem D1 (l:List UInt8):(B l).size=l.length:=by show l.toArray.size=_;simp
theorem z9o (l:List UInt8):(B l).data.toList=l:=by simp [B]
theorem B_of (a:BA):B a.data.toList=a:=by cases a;simp [B]
theorem y0i {l m:List UInt8} (h:B l=B m):l=m:=by have:=congrArg (fun a:BA=>a.data.toList) h;simpa [B] using this
theorem B_nil:B []=⟨#[]⟩:=rfl
theorem y6l (l m:List UInt8):B l++B m=B (l++m):=by
 show ByteArray.append _ _=_
 apply bytes_ext
 rw [toList_eq,toList_eq]
 have:(B l++B m).data=(B l).data++(B m).data:=ByteArray.data_append
 rw [show (ByteArray.append (B l) (B m)).data=(B l++B m).data from rfl,this]
 simp [B]
theorem y6c (l:List UInt8) (i j:Nat):(B l).extract i j=B ((l.take j).drop i):=by
 apply bytes_ext
 rw [toList_eq,toList_eq]
 have:((B l).extract i j).data=(B l).data.extract i j:=ByteArray.data_extract
 rw [this]
 simp [B,List.drop_take]
end Gev
namespace Gev
open Go Gb
variable {E:Env}
def cmpI (a b:Int):Int:=if a<b then -1 else if a>b then 1 else 0
theorem w1v (a b:Int):Fn E Z3 [.c (.u32 a),.c (.u32 b)] (.c (.i64 (cmpI a b))):=by
 have ha:=y6r (E:=E) (rfl:a=a)
 have hb:=y6r (E:=E) (rfl:b=b)
 unfold cmpI
 by_cases h:a<b
 · rw [if_pos h];exact x5x ha hb h
 · rw [if_neg h]
   by_cases k:a>b
   · rw [if_pos k];exact x5y ha hb h k
   · rw [if_neg k];exact x5z ha hb h k
theorem w1u (a b:Int):Fn E z2o [.c (.i64 a),.c (.i64 b)] (.c (.i64 (cmpI a b))):=by
 have ha:=x4e (E:=E) (rfl:a=a)
 have hb:=x4e (E:=E) (rfl:b=b)
 unfold cmpI
 by_cases h:a<b
 · rw [if_pos h];exact k4z ha hb h
 · rw [if_neg h]
   by_cases k:a>b
   · rw [if_pos k];exact k5a ha hb h k
   · rw [if_neg k];exact k5b ha hb h k
def z0h (ws:List Int):Nat→Nat
 | 0=>0
 | k+1=>if ws.getD k 0=0 then z0h ws k else k+1
theorem k7w (ws:List Int) (k:Nat):z0h ws k≤k:=by
 induction k with
 | zero=>exact Nat.le_refl 0
 | succ k ih=>unfold z0h;split <;> omega
theorem z0i {ws:List Int} (h:Wd ws) {k:Nat} (hk:k≤ws.length):ws.take (z0h ws k)=words (wv (ws.take k)).toNat:=by
 induction k with
 | zero=>simp [z0h,wv,O2]
 | succ k ih =>
  unfold z0h
  have e:=Z2 ws k (by omega)
  by_cases h0:ws.getD k 0=0
  · rw [if_pos h0,ih (by omega),e,h0];simp
  · rw [if_neg h0]
    refine q7i (h.take _) ?_
    rw [x9t ws k (by omega)]
    exact Tr.snoc h0
theorem q2o (ws:List Int):∀ k,k≤ws.length→k<9223372036854775807→Lp E 1 B6 0 (X5 k (Wr ws)) (.exit 0) (z2h (Wr ws) (z0h ws k))
 | 0,_,_=>y9r (by omega)
 | k+1,hk,hb=>by
  unfold z0h
  by_cases h0:ws.getD k 0=0
  · rw [if_pos h0]
    exact x3l (i0:=(k:Int)) (i1:=ws.getD k 0) (n2:=k) (wi (by omega)) rfl (by omega) (by omega) (F0 (by omega)) h0 (by omega) (q2o ws k (by omega) (by omega))
  · rw [if_neg h0]
    exact y9q (i0:=(k:Int)) (i1:=ws.getD k 0) (wi (by omega)) (by omega) (by omega) (F0 (by omega)) h0
theorem x1z {ws:List Int} {k:Nat} (hk:k≤ws.length) (hb:k<9223372036854775807):Rn E B6 [.vec 0 k] [some (.vec A0 (Wr ws))] (.vec 0 (z0h ws k)) [some (.vec A0 (Wr ws))] :=
 k3e (q2o ws k hk hb)
theorem j7r (ws:List Int):∀ k,k≤ws.length→k<9223372036854775807→Lp E 0 B6 0 (V0 (Wr (ws.take k))) (.exit 0) (z1d (Wr (ws.take (z0h ws k))))
 | 0,_,_=>y8h (by rw [A8];simp)
 | k+1,hk,hb=>by
  have hl:(ws.take (k+1)).length=k+1:=by simp;omega
  have hg:(Wr (ws.take (k+1)))[Int.toNat (k:Int)]?=some [.u32 (ws.getD k 0)]:=by
   refine v0q ?_
   rw [Int.toNat_natCast,List.getElem?_take_of_lt (by omega)]
   exact getD_some (by omega)
  unfold z0h
  by_cases h0:ws.getD k 0=0
  · rw [if_pos h0]
    refine x1k (i0:=(k:Int)) (i1:=ws.getD k 0) (r2:=Wr (ws.take k)) (wi (by rw [A8,hl];omega)) ?_ (by rw [A8,hl];omega) (by omega) hg h0 ⟨by omega,by omega,by rw [A8,hl];omega,v6o _⟩ (j7r ws k (by omega) (by omega))
    rw [Int.toNat_natCast,List.drop_zero,Y9,List.take_take,Nat.min_eq_left (by omega)]
  · rw [if_neg h0]
    exact y8g (i0:=(k:Int)) (i1:=ws.getD k 0) (wi (by rw [A8,hl];omega)) (by rw [A8,hl];omega) (by omega) hg h0
theorem v6j {ws:List Int} (h:Wd ws) (hb:ws.length<9223372036854775807):Rn E B6 [.c (.list (Wr ws))] [] (.c (.list (Wr (words (wv ws).toNat)))) []:=by
 have:=j7r (E:=E) ws ws.length (Nat.le_refl _) hb
 rw [List.take_length,z0i h (Nat.le_refl _),List.take_length] at this
 exact x7n this
theorem x9w {n:Nat} (h:n<1000000000000000000):words n=[]∧n=0∨(words n=[(n:Int)]∧n≠0∧n<1000000000)∨(words n=[((n % 1000000000:Nat):Int),((n / 1000000000:Nat):Int)]∧1000000000≤n):=by
 by_cases h0:n=0
 · exact .inl ⟨by rw [h0,O2],h0⟩
 · by_cases h1:n<1000000000
   · refine .inr (.inl ⟨?_,h0,h1⟩)
     rw [y6k h0,show n / 1000000000=0 by omega,O2,show n % 1000000000=n by omega]
   · refine .inr (.inr ⟨?_,by omega⟩)
     rw [y6k h0,y6k (n:=n / 1000000000) (by omega),show n / 1000000000 / 1000000000=0 by omega,O2,show n / 1000000000 % 1000000000=n / 1000000000 by omega]
theorem q2s {n:Nat}:(words n).length≤2↔n<1000000000000000000:=by
 constructor
 · intro h
   have h1:=z7y (B3 n)
   rw [B2] at h1
   have h2:=j3b h
   have:pw 2=1000000000000000000:=by decide
   omega
 · intro h
   exact z2n (by rw [show pw 2=1000000000000000000 by decide];omega)
theorem q1u {n:Nat} (h:n<1000000000000000000):Fn E z4t [.c (.u64 n)] (.c (.list (Wr (words n)))):=by
 have hw:Wd [((n % 1000000000:Nat):Int),((n / 1000000000:Nat):Int)]:=Wd.cons (by omega) (by omega) (Wd.cons (by omega) (by omega) Wd.nil)
 have ht:=x1z (E:=E) (ws:=[((n % 1000000000:Nat):Int),((n / 1000000000:Nat):Int)]) (k:=2) (Nat.le_refl _) (by decide)
 refine q4r (i1:=((n % 1000000000:Nat):Int)) (i2:=((n % 1000000000:Nat):Int)) (i3:=((n / 1000000000:Nat):Int)) (i4:=((n / 1000000000:Nat):Int)) (tmd (by omega) (by omega)) (w32 (by omega)) (wu ⟨tdv (by omega) (by omega),by omega,by omega⟩) (w32 (by omega)) ?_ ht
 show (Wr [((n % 1000000000:Nat):Int),((n / 1000000000:Nat):Int)]).take _=_
 rw [Y9,z0i hw (by simp)]
 have:(wv (List.take 2 [((n % 1000000000:Nat):Int),((n / 1000000000:Nat):Int)])).toNat=n:=by simp [wv];omega
 rw [this]
theorem z4j {n:Nat} (h:n<1000000000000000000):Fn E C1 [.c (.list (Wr (words n)))] (.tup [.c (.u64 n),.c (.bool true)]):=by
 rcases x9w h with ⟨e,rfl⟩ | ⟨e,h0,h1⟩ | ⟨e,h1⟩
 · rw [e];exact k0p rfl
 · rw [e]
   exact k0q (i0:=(n:Int)) (i1:=(n:Int)) (wu (by omega)) (by simp [Wr]) (by simp [Wr]) rfl
 · rw [e]
   exact k0r (i0:=((n % 1000000000:Nat):Int)) (i1:=((n % 1000000000:Nat):Int)) (i2:=((n / 1000000000:Nat):Int)) (i3:=((n / 1000000000:Nat):Int)) (i4:=1000000000*((n / 1000000000:Nat):Int)) (i5:=(n:Int))
    (wu (by omega)) (wu (by omega)) (wu (by omega)) (wu (by omega)) (by simp [Wr]) (by simp [Wr]) (by simp [Wr]) rfl rfl
theorem y2h {n:Nat} (h:¬ n<1000000000000000000):Fn E C1 [.c (.list (Wr (words n)))] (.tup [.c (.u64 0),.c (.bool false)]):=by
 have hl:¬ (words n).length≤2:=fun e=>h (q2s.1 e)
 exact k0s (by rw [A8];omega) (by rw [A8];omega) (by rw [A8];omega)
theorem y3x {xs ys:List Int} (hx:Wd xs) (hy:Wd ys) {i:Nat} (hi:i<xs.length) (hj:i<ys.length) (h:xs.getD i 0<ys.getD i 0) (he:xs.drop (i+1)=ys.drop (i+1)):wv xs<wv ys:=by
 rw [F9 xs i (by omega),F9 ys i (by omega),N8 xs i hi,N8 ys i hj,he]
 have h1:=z7y (hx.take i)
 have h2:=C6 (hy.take i)
 rw [List.length_take,Nat.min_eq_left (by omega)] at h1
 rw [Int.mul_add,Int.mul_add]
 have h3:pw i*(xs.getD i 0+1)≤pw i*ys.getD i 0:=Int.mul_le_mul_of_nonneg_left (by omega) (by have:=z0f i;omega)
 rw [Int.mul_add,Int.mul_one] at h3
 omega
theorem q6y (xs ys:List Int) (hx:Wd xs) (hy:Wd ys) (hl:xs.length=ys.length) (hb:xs.length<9223372036854775807):∀ k:Nat,k≤xs.length→xs.drop k=ys.drop k →
    (xs=ys∧Lp E 0 C0 0 (J3 (Wr xs) (Wr ys) ((k:Int)-1)) (.exit 0) z3j) ∨
    (xs≠ys∧Lp E 0 C0 0 (J3 (Wr xs) (Wr ys) ((k:Int)-1)) .ret (z3i (cmpI (wv xs) (wv ys))))
 | 0,_,h=>.inl ⟨by simpa using h,y5r (by omega)⟩
 | k+1,hk,h=>by
  have ek:((k+1:Nat):Int)-1=(k:Int):=by omega
  rw [ek]
  have g1:(Wr xs)[Int.toNat (k:Int)]?=some [.u32 (xs.getD k 0)]:=F0 (by omega)
  have g2:(Wr ys)[Int.toNat (k:Int)]?=some [.u32 (ys.getD k 0)]:=F0 (by omega)
  by_cases h0:xs.getD k 0=ys.getD k 0
  · have hd:xs.drop k=ys.drop k:=by rw [x0b xs k (by omega),x0b ys k (by omega),h0,h]
    rcases q6y xs ys hx hy hl hb k (by omega) hd with ⟨e,ih⟩ | ⟨e,ih⟩
    · exact .inl ⟨e,z8j (wi (by omega)) (by omega) (by omega) g1 g2 h0 ih⟩
    · exact .inr ⟨e,z8j (wi (by omega)) (by omega) (by omega) g1 g2 h0 ih⟩
  · refine .inr ⟨fun e=>h0 (by rw [e]),?_⟩
    have hc:cmpI (wv xs) (wv ys)=cmpI (xs.getD k 0) (ys.getD k 0):=by
     rcases Int.lt_or_gt_of_ne h0 with c | c
     · have:=y3x hx hy (by omega) (by omega) c h
       unfold cmpI;rw [if_pos this,if_pos c]
     · have:=y3x hy hx (by omega) (by omega) c h.symm
       unfold cmpI;rw [if_neg (by omega),if_pos this,if_neg (by omega),if_pos c]
    rw [hc]
    exact y5q (by omega) (by omega) g1 g2 h0 (w1v _ _)
theorem j2r {a b:Int} (h:a=b):cmpI a b=0:=by unfold cmpI;rw [if_neg (by omega),if_neg (by omega)]
theorem y6s {m n:Nat} (hm:(words m).length<9223372036854775807):Fn E C0 [.c (.list (Wr (words m))),.c (.list (Wr (words n)))] (.c (.i64 (cmpI m n))):=by
 by_cases hl:(words m).length=(words n).length
 · rcases q6y (E:=E) (words m) (words n) (B3 m) (B3 n) hl hm (words m).length (Nat.le_refl _) (by rw [List.drop_length,hl,List.drop_length]) with ⟨e,h⟩ | ⟨e,h⟩
   · have:=q2r e
     subst this
     rw [j2r rfl]
     exact x5i (wi (by rw [A8];omega)) (by rw [A8]) h
   · rw [B2,B2] at h
     exact x5h (wi (by rw [A8];omega)) (by rw [A8,A8];omega) h
 · have hc:cmpI m n=cmpI ((Wr (words m)).length:Int) ((Wr (words n)).length:Int):=by
    rw [A8,A8]
    rcases Nat.lt_or_gt_of_ne hl with c | c
    · have:m<n:=by
       rcases Nat.lt_or_ge m n with h | h
       · exact h
       · have:=(V1 n).length_le (B3 n) (B3 m) (by rw [B2,B2];omega)
         omega
      unfold cmpI;rw [if_pos (by omega),if_pos (by omega)]
    · have:n<m:=by
       rcases Nat.lt_or_ge n m with h | h
       · exact h
       · have:=(V1 m).length_le (B3 m) (B3 n) (by rw [B2,B2];omega)
         omega
      unfold cmpI;rw [if_neg (by omega),if_pos (by omega),if_neg (by omega),if_pos (by omega)]
   rw [hc]
   exact x5g (by rw [A8,A8];omega) (w1u _ _)
theorem drop_nil {xs:List Int} {i:Nat} (h:xs.length≤i):xs.drop i=[]:=List.drop_eq_nil_of_le h
theorem z5r {xs:List Int} {i:Nat} (h:xs.length≤i):xs.getD i 0=0:=by rw [List.getD_eq_getElem?_getD,List.getElem?_eq_none h];rfl
theorem z7b (xs:List Int) (i:Nat):wv (xs.drop i)=xs.getD i 0+1000000000*wv (xs.drop (i+1)):=by
 rcases Nat.lt_or_ge i xs.length with h | h
 · exact N8 xs i h
 · rw [drop_nil h,drop_nil (by omega),z5r h];rfl
theorem w3q (S:Int):(if Int.tmod S 1000000000<0 then Int.tmod S 1000000000+1000000000 else Int.tmod S 1000000000)=S % 1000000000:=by
 rw [Int.tmod_eq_emod]
 split <;> split <;> omega
theorem q7x {xs ys:List Int} {sg:Int} (hsg:sg=1∨sg=-1) (hx:Wd xs) (hy:Wd ys) {N:Int} (hN:N<4611686018427387904) {i:Nat} {c:Int} (hc:-1≤c∧c≤1) {zs:List Int} (hz:zs.length=i) (hi:(i:Int)<N) (hM:i+1≤35184372088832) {o:Out} {st':St}
    (ih:Lp E 1 B1 0 (B5 (Wr xs) (Wr ys) sg (i+1) ((c+xs.getD i 0+sg*ys.getD i 0) / 1000000000) N ((i+1:Nat):Int) (Wr (zs++[(c+xs.getD i 0+sg*ys.getD i 0) % 1000000000]))) o st') :
    Lp E 1 B1 0 (B5 (Wr xs) (Wr ys) sg i c N i (Wr zs)) o st':=by
 have ha:=hx.getD i
 have hb:=hy.getD i
 obtain ⟨a,ea⟩:∃ a,a=xs.getD i 0:=⟨_,rfl⟩
 obtain ⟨b,eb⟩:∃ b,b=ys.getD i 0:=⟨_,rfl⟩
 obtain ⟨p,ep⟩:∃ p,p=sg*b:=⟨_,rfl⟩
 have hp:-1000000000<p∧p<1000000000:=by rcases hsg with rfl | rfl <;> omega
 rw [← ea,← eb] at ih
 rw [← ea] at ha
 rw [← eb] at hb
 rw [← ep] at ih
 obtain ⟨S,eS⟩:∃ S,S=c+a+p:=⟨_,rfl⟩
 rw [← eS] at ih
 have gx:i<xs.length→(Wr xs)[Int.toNat (i:Int)]?=some [.u32 a]:=fun h=>by rw [ea];exact F0 h
 have gy:i<ys.length→(Wr ys)[Int.toNat (i:Int)]?=some [.u32 b]:=fun h=>by rw [eb];exact F0 h
 have hS:-2000000000<S∧S<3000000000:=by omega
 have hlen:(i+1)*4≤140737488355328∧i+1≤140737488355328:=by omega
 have hap:∀ w,(Wr zs).take i++[[DV.u32 w]]=Wr (zs++[w]):=fun w=>by rw [Y9,← hz,List.take_length,y8j]
 have ht:=w3q S
 have hq:Int.tmod S 1000000000<0→Int.tdiv S 1000000000-1=S / 1000000000:=fun h=>by
  have:=Int.tmod_add_mul_tdiv S 1000000000
  have:=Int.emod_add_mul_ediv S 1000000000
  rw [if_pos h] at ht;omega
 have hq':¬ Int.tmod S 1000000000<0→Int.tdiv S 1000000000=S / 1000000000:=fun h=>by
  have:=Int.tmod_add_mul_tdiv S 1000000000
  have:=Int.emod_add_mul_ediv S 1000000000
  rw [if_neg h] at ht;omega
 have hr:0≤S % 1000000000∧S % 1000000000<1000000000:=by omega
 have hd:-4≤S / 1000000000∧S / 1000000000≤4:=by omega
 by_cases c1:i<xs.length
 · by_cases c2:i<ys.length
   · by_cases c3:Int.tmod S 1000000000<0
     · rw [if_pos c3] at ht
       exact x0x (i5:=a) (i6:=a) (i7:=c+a) (i8:=b) (i9:=b) (i10:=p) (i11:=S) (i13:=Int.tdiv S 1000000000) (wi (by omega)) (wi (by omega)) (wi (by omega)) (wi (by omega)) (wi (by omega)) rfl (wi (by have:=hq c3;omega)) (wi ⟨ht,by omega⟩) (wi ⟨hq c3,by omega⟩) (w32 (by omega)) (hap _) rfl (wi (by omega))
        (by omega) (by rw [A8];omega) (by omega) (gx c1) (by rw [A8];omega) (gy c2) c3 hlen ih
     · rw [if_neg c3] at ht
       exact x0y (i5:=a) (i6:=a) (i7:=c+a) (i8:=b) (i9:=b) (i10:=p) (i11:=S) (i12:=S % 1000000000) (wi (by omega)) (wi (by omega)) (wi (by omega)) (wi (by omega)) (wi (by omega)) ht (wi ⟨hq' c3,by omega⟩) (w32 (by omega)) (hap _) rfl (wi (by omega))
        (by omega) (by rw [A8];omega) (by omega) (gx c1) (by rw [A8];omega) (gy c2) (by omega) hlen ih
   · have b0:b=0:=by rw [eb];exact z5r (by omega)
     have p0:p=0:=by rw [ep,b0];exact Int.mul_zero _
     by_cases c3:Int.tmod S 1000000000<0
     · rw [if_pos c3] at ht
       exact x0z (i5:=a) (i6:=a) (i7:=S) (i9:=Int.tdiv S 1000000000) (wi (by omega)) (wi (by omega)) rfl (wi (by have:=hq c3;omega)) (wi ⟨ht,by omega⟩) (wi ⟨hq c3,by omega⟩) (w32 (by omega)) (hap _) rfl (wi (by omega))
        (by omega) (by rw [A8];omega) (by omega) (gx c1) (by rw [A8];omega) c3 hlen ih
     · rw [if_neg c3] at ht
       exact x1a (i5:=a) (i6:=a) (i7:=S) (i8:=S % 1000000000) (wi (by omega)) (wi (by omega)) ht (wi ⟨hq' c3,by omega⟩) (w32 (by omega)) (hap _) rfl (wi (by omega))
        (by omega) (by rw [A8];omega) (by omega) (gx c1) (by rw [A8];omega) (by omega) hlen ih
 · have a0:a=0:=by rw [ea];exact z5r (by omega)
   by_cases c2:i<ys.length
   · by_cases c3:Int.tmod S 1000000000<0
     · rw [if_pos c3] at ht
       exact x1b (i5:=b) (i6:=b) (i7:=p) (i8:=S) (i10:=Int.tdiv S 1000000000) (wi (by omega)) (wi (by omega)) (wi (by omega)) rfl (wi (by have:=hq c3;omega)) (wi ⟨ht,by omega⟩) (wi ⟨hq c3,by omega⟩) (w32 (by omega)) (hap _) rfl (wi (by omega))
        (by omega) (by rw [A8];omega) (by rw [A8];omega) (by omega) (gy c2) c3 hlen ih
     · rw [if_neg c3] at ht
       exact x1c (i5:=b) (i6:=b) (i7:=p) (i8:=S) (i9:=S % 1000000000) (wi (by omega)) (wi (by omega)) (wi (by omega)) ht (wi ⟨hq' c3,by omega⟩) (w32 (by omega)) (hap _) rfl (wi (by omega))
        (by omega) (by rw [A8];omega) (by rw [A8];omega) (by omega) (gy c2) (by omega) hlen ih
   · have b0:b=0:=by rw [eb];exact z5r (by omega)
     have p0:p=0:=by rw [ep,b0];exact Int.mul_zero _
     have e0:S=c:=by omega
     subst e0
     by_cases c3:Int.tmod S 1000000000<0
     · rw [if_pos c3] at ht
       exact x1d (i6:=Int.tdiv S 1000000000) rfl (wi (by have:=hq c3;omega)) (wi ⟨ht,by omega⟩) (wi ⟨hq c3,by omega⟩) (w32 (by omega)) (hap _) rfl (wi (by omega))
        (by omega) (by rw [A8];omega) (by rw [A8];omega) c3 hlen ih
     · rw [if_neg c3] at ht
       exact x1e (i5:=S % 1000000000) ht (wi ⟨hq' c3,by omega⟩) (w32 (by omega)) (hap _) rfl (wi (by omega))
        (by omega) (by rw [A8];omega) (by rw [A8];omega) (by omega) hlen ih
theorem j5s {xs ys:List Int} {sg:Int} (hsg:sg=1∨sg=-1) (hx:Wd xs) (hy:Wd ys) {N:Nat} (hN:N<35184372088832):∀ d i c zs,i+d=N→-1≤c∧c≤1→zs.length=i→Wd zs →
    ∃ c' zs',Lp E 1 B1 0 (B5 (Wr xs) (Wr ys) sg i c N i (Wr zs)) (.exit 0) (z1c N c' (Wr zs'))∧zs'.length=N∧Wd zs'∧(-1≤c'∧c'≤1) ∧
     wv zs'+pw N*(c'+wv (xs.drop N)+sg*wv (ys.drop N))=wv zs+pw i*(c+wv (xs.drop i)+sg*wv (ys.drop i))
 | 0,i,c,zs,hi,hc,hz,hw=>by
  have:i=N:=by omega
  subst this
  exact ⟨c,zs,y7w (by omega),hz,hw,hc,rfl⟩
 | d+1,i,c,zs,hi,hc,hz,hw=>by
  have ha:=hx.getD i
  have hb:=hy.getD i
  obtain ⟨p,ep⟩:∃ p,p=sg*ys.getD i 0:=⟨_,rfl⟩
  have hp:-1000000000<p∧p<1000000000:=by rcases hsg with rfl | rfl <;> omega
  obtain ⟨S,eS⟩:∃ S,S=c+xs.getD i 0+sg*ys.getD i 0:=⟨_,rfl⟩
  rw [← ep] at eS
  have hr:0≤S % 1000000000∧S % 1000000000<1000000000:=by omega
  obtain ⟨c',zs',h1,h2,h3,h4,h5⟩:=j5s hsg hx hy hN d (i+1) (S / 1000000000) (zs++[S % 1000000000]) (by omega) (by omega) (by simp [hz]) (hw.append (Wd.cons hr.1 hr.2 Wd.nil))
  refine ⟨c',zs',q7x hsg hx hy (by omega) hc hz (by omega) (by omega) (by rw [← ep,← eS];exact h1),h2,h3,h4,?_⟩
  rw [h5,z7z,hz,z7b xs i,z7b ys i,z2z]
  have e1:S % 1000000000=S-1000000000*(S / 1000000000):=by omega
  rw [e1,eS,ep]
  grind
theorem q7w {xs ys:List Int} {sg:Int} (hsg:sg=1∨sg=-1) (hx:Wd xs) (hy:Wd ys)(h1:xs.length<35184372088000)(h2:ys.length<35184372088000) :
    ∃ c zs,Fn E B1 [.c (.list (Wr xs)),.c (.list (Wr ys)),.c (.i64 sg)] (.c (.list (Wr (if c>0 then zs++[c] else zs))))∧zs.length=max xs.length ys.length∧Wd zs∧(-1≤c∧c≤1)∧wv zs+pw (max xs.length ys.length)*c=wv xs+sg*wv ys:=by
 obtain ⟨c,zs,k1,k2,k3,k4,k5⟩:=j5s (E:=E) hsg hx hy (N:=max xs.length ys.length) (by omega) (max xs.length ys.length) 0 0 [] (by omega) (by omega) rfl Wd.nil
 rw [drop_nil (xs:=xs) (by omega),drop_nil (xs:=ys) (by omega),List.drop_zero,List.drop_zero,x3o] at k5
 have e5:wv zs+pw (max xs.length ys.length)*c=wv xs+sg*wv ys:=by
  rw [show wv []=0 from rfl] at k5
  have:c+0+sg*0=c:=by omega
  rw [this] at k5
  omega
 have em:(if ((Wr ys).length:Int)>((Wr xs).length:Int) then ((Wr ys).length:Int) else ((Wr xs).length:Int))=((max xs.length ys.length:Nat):Int):=by
  rw [A8,A8];split <;> omega
 have hcap:0≤(0:Int)∧(0:Int)≤(xs.length:Int)+1∧(Int.toNat ((xs.length:Int)+1))*4≤140737488355328∧(Int.toNat ((xs.length:Int)+1))≤140737488355328:=by omega
 have tk:(Wr zs).take (max xs.length ys.length)=Wr zs:=by rw [← k2,Y9,List.take_length]
 refine ⟨c,zs,?_,k2,k3,k4,e5⟩
 by_cases hc:c>0
 · rw [if_pos hc]
   refine k0m (i1:=(xs.length:Int)+1) (i4:=c) (r3:=Wr (zs++[c])) (wi (by rw [A8];omega)) em (w32 (by omega)) (by rw [tk,y8j]) rfl ?_ hcap k1 hc (by omega)
   rw [Y9,List.take_of_length_le (by simp;omega)]
 · rw [if_neg hc]
   exact k0n (i1:=(xs.length:Int)+1) (wi (by rw [A8];omega)) em tk hcap k1 hc
theorem w2u {m n:Nat} (h1:(words m).length<35184372088000)(h2:(words n).length<35184372088000):Fn E z1o [.c (.list (Wr (words m))),.c (.list (Wr (words n)))] (.c (.list (Wr (words (m+n))))):=by
 obtain ⟨c,zs,k1,k2,k3,k4,k5⟩:=q7w (E:=E) (.inl rfl) (B3 m) (B3 n) h1 h2
 refine k3d ?_
 have hv:=B2 m
 have hv':=B2 n
 rw [hv,hv',Int.one_mul] at k5
 have hz:=z7y k3
 have hz0:=C6 k3
 have hpos:=z0f (max (words m).length (words n).length)
 rw [k2] at hz
 have hc0:0≤c:=by
  rcases Int.lt_or_le c 0 with h | h
  · have:c=-1:=by omega
    subst this
    rw [Int.mul_neg,Int.mul_one] at k5
    omega
  · exact h
 have e:(if c>0 then zs++[c] else zs)=words (m+n):=by
  have hval:wv (if c>0 then zs++[c] else zs)=((m+n:Nat):Int):=by
   split
   · rw [z7z,k2,k5];omega
   · have:c=0:=by omega
     subst this
     rw [Int.mul_zero] at k5;omega
  have hwd:Wd (if c>0 then zs++[c] else zs):=by
   split
   · exact k3.append (Wd.cons hc0 (by omega) Wd.nil)
   · exact k3
  rw [← show (((m+n:Nat):Int)).toNat=m+n from rfl,← hval]
  refine q7i hwd ?_
  split
  · exact Tr.snoc (by omega)
  · rename_i hn
    have hc:c=0:=by omega
    subst hc
    rw [Int.mul_zero] at k5
    intro hl
    by_cases hzn:zs=[]
    · rw [hzn] at hl;cases hl
    · obtain ⟨ys,y,rfl⟩:∃ ys y,zs=ys++[y]:=by
       rcases List.eq_nil_or_concat zs with h | ⟨ys,y,h⟩
       · exact absurd h hzn
       · exact ⟨ys,y,by rw [h,List.concat_eq_append]⟩
      have hy:y=0:=by simpa using hl
      subst hy
      rw [z7z,Int.mul_zero] at k5
      have h6:=z7y k3.left
      simp only [List.length_append,List.length_singleton] at k2
      have h7:wv ys+0=(m:Int)+n:=by omega
      rcases Nat.le_total (words m).length (words n).length with hmn | hmn
      · have hne:words n≠[]:=by intro h0;rw [h0] at k2 hmn;simp at hmn;rw [hmn] at k2;simp at k2
        have h8:=(V1 n).val_ge (B3 n) hne
        rw [hv',show (words n).length-1=ys.length by omega] at h8
        omega
      · have hne:words m≠[]:=by intro h0;rw [h0] at k2 hmn;simp at hmn;rw [hmn] at k2;simp at k2
        have h8:=(V1 m).val_ge (B3 m) hne
        rw [hv,show (words m).length-1=ys.length by omega] at h8
        omega
 rw [e] at k1
 exact k1
theorem v8p {m n:Nat} (h1:(words m).length<35184372088000) (hmn:n≤m):Fn E z0q [.c (.list (Wr (words m))),.c (.list (Wr (words n)))] (.c (.list (Wr (words (m-n))))):=by
 have hle:(words n).length≤(words m).length:=(V1 n).length_le (B3 n) (B3 m) (by rw [B2,B2];omega)
 obtain ⟨c,zs,k1,k2,k3,k4,k5⟩:=q7w (E:=E) (.inr rfl) (B3 m) (B3 n) h1 (by omega)
 rw [B2,B2] at k5
 have hz:=z7y k3
 have hz0:=C6 k3
 have hpos:=z0f (max (words m).length (words n).length)
 rw [k2] at hz
 have hm:=z7y (B3 m)
 rw [B2] at hm
 rw [Nat.max_eq_left hle] at k5 k2 hz hpos
 have hc:c=0:=by
  rcases Int.lt_trichotomy c 0 with h | h | h
  · have:c=-1:=by omega
    subst this
    rw [Int.mul_neg,Int.mul_one] at k5
    omega
  · exact h
  · have:c=1:=by omega
    subst this
    rw [Int.mul_one] at k5
    omega
 subst hc
 rw [if_neg (by decide)] at k1
 refine k0o k1 ?_
 have:=v6j (E:=E) k3 (by omega)
 rw [show (wv zs).toNat=m-n by omega] at this
 exact this
theorem z8y {xs:List Int} {i:Nat} (h:i<xs.length) (x:Int):(xs.set i x).getD i 0=x:=by
 rw [List.getD_eq_getElem?_getD,List.getElem?_set_self h];rfl
theorem J0 {xs:List Int} {i j:Nat} (h:i≠j) (x:Int):(xs.set i x).getD j 0=xs.getD j 0:=by
 rw [List.getD_eq_getElem?_getD,List.getD_eq_getElem?_getD,List.getElem?_set_ne h]
theorem x9k {x y:Int} (hx:0≤x∧x<1000000000) (hy:0≤y∧y<1000000000):0≤x*y∧x*y≤999999998000000001:=by
 constructor
 · exact Int.mul_nonneg hx.1 hy.1
 · have:=Int.mul_le_mul (show x≤999999999 by omega) (show y≤999999999 by omega) hy.1 (by decide)
   omega
theorem Wd.at {xs:List Int} (h:Wd xs) {i:Nat}:0≤xs.getD i 0∧xs.getD i 0<1000000000:=h.getD i
theorem alg1 {O O0 P K c T x y w S q r p:Int} (hv:O+P*K*c=O0+P*(x*T)) (ep:p=x*y) (hS:S=c+(p+w)) (hr:r+1000000000*q=S):O+P*K*(r-w)+1000000000*(P*K)*q=O0+P*(x*(T+K*y)):=by
 have e:r=c+x*y+w-1000000000*q:=by omega
 subst e
 grind
theorem alg2 {A x w S q r V:Int} (hS:S=r*1000000000+x) (hr:A+w*q=S):(q+1000000000*V)*w+A=x+1000000000*(V*w+r):=by
 have e:A=r*1000000000+x-w*q:=by omega
 subst e
 grind
theorem j0v {xs ys:List Int} (hy:Wd ys) {N i:Nat} {x:Int} (hx:0≤x∧x<1000000000) (hN:N<4611686018427387904) (hiN:i+ys.length≤N) {out0:List Int} :
    ∀ d k c out,k+d=ys.length→0≤c∧c<1000000000→Wd out→out.length=N→(∀ j,i+k≤j→out.getD j 0=out0.getD j 0) →
    wv out+pw (i+k)*c=wv out0+pw i*(x*wv (ys.take k)) →
    ∃ c' out',Lp E 1 C5 1 (z0d (Wr ys) N i x c (Wr xs) xs.length i (Wr ys) ys.length k (Wr out)) (.exit 2) (z5j (Wr ys) N i (Wr xs) xs.length i c' (Wr out')) ∧
     (0≤c'∧c'<1000000000)∧Wd out'∧out'.length=N∧(∀ j,i+ys.length≤j→out'.getD j 0=out0.getD j 0)∧wv out'+pw (i+ys.length)*c'=wv out0+pw i*(x*wv ys)
 | 0,k,c,out,hk,hc,hw,hl,hj,hv=>by
  have:k=ys.length:=by omega
  subst this
  rw [List.take_length] at hv
  exact ⟨c,out,y8f (by omega),hc,hw,hl,hj,hv⟩
 | d+1,k,c,out,hk,hc,hw,hl,hj,hv=>by
  have hyk:=hy.getD k
  obtain ⟨y,ey⟩:∃ y,y=ys.getD k 0:=⟨_,rfl⟩
  rw [← ey] at hyk
  have ho:=hw.getD (i+k)
  obtain ⟨w,ew⟩:∃ w,w=out.getD (i+k) 0:=⟨_,rfl⟩
  rw [← ew] at ho
  have hxy:=x9k hx hyk
  obtain ⟨p,ep⟩:∃ p,p=x*y:=⟨_,rfl⟩
  rw [← ep] at hxy
  obtain ⟨S,eS⟩:∃ S,S=c+(p+w):=⟨_,rfl⟩
  have hS:0≤S∧S≤999999999999999999:=by omega
  have hik:i+k<out.length:=by omega
  obtain ⟨c',out',k1,k2,k3,k4,k5,k6⟩:=j0v hy hx hN hiN (out0:=out0) d (k+1) (S / 1000000000) (out.set (i+k) (S % 1000000000)) (by omega) (by omega) (hw.set _ (by omega) (by omega)) (by simpa using hl)
   (fun j h=>by rw [J0 (by omega)];exact hj j (by omega)) (by
    rw [z9n out (i+k) hik,← ew,Z2 ys k (by omega),← ey,← Nat.add_assoc,z2z,y0b]
    rw [y0b] at hv
    exact alg1 hv ep eS (Int.emod_add_mul_ediv S 1000000000))
  refine ⟨c',out',?_,k2,k3,k4,k5,k6⟩
  refine x1j (i8:=y) (i9:=x) (i10:=y) (i11:=p) (i12:=((i+k:Nat):Int)) (i13:=w) (i14:=w) (i15:=p+w) (i16:=S) (i17:=S % 1000000000) (i18:=S % 1000000000) (r5:=Wr (out.set (i+k) (S % 1000000000))) (i19:=S / 1000000000) (i20:=((k+1:Nat):Int))
   (wu (by omega)) (wu (by omega)) (wu (by omega)) (wi (by omega)) (wu (by omega)) (wu (by omega)) (wu (by omega)) (tmd hS.1 rfl) (w32 (by omega)) ?_ (wu ⟨tdv hS.1 rfl,by omega,by omega⟩) (wi (by omega))
   (by omega) (by omega) (by rw [ey];exact F0 (by omega)) (by omega) (by rw [ew];exact F0 hik) k1
  rw [Int.toNat_natCast,z3w]
theorem j0w {xs ys:List Int} (hx:Wd xs) (hy:Wd ys) {N:Nat} (hN:N<4611686018427387904) (hl:N=xs.length+ys.length) :
    ∀ d i out,i+d=xs.length→Wd out→out.length=N→(∀ j,i+ys.length≤j→out.getD j 0=0)→wv out=wv (xs.take i)*wv ys →
    ∃ out',Lp E 1 C5 0 (z0c (Wr ys) N (Wr xs) xs.length i (Wr out)) (.exit 0) (z5i N (Wr out'))∧Wd out'∧out'.length=N∧wv out'=wv xs*wv ys
 | 0,i,out,hi,hw,ho,_,hv=>by
  have:i=xs.length:=by omega
  subst this
  rw [List.take_length] at hv
  exact ⟨out,y8e (by omega),hw,ho,hv⟩
 | d+1,i,out,hi,hw,ho,hj,hv=>by
  have hxi:=hx.getD i
  obtain ⟨x,ex⟩:∃ x,x=xs.getD i 0:=⟨_,rfl⟩
  rw [← ex] at hxi
  obtain ⟨c',out1,k1,k2,k3,k4,k5,k6⟩:=j0v (E:=E) (xs:=xs) hy hxi hN (i:=i) (by omega) (out0:=out) ys.length 0 0 out (by omega) (by omega) hw ho (fun _ _=>rfl) (by simp [wv])
  have hik:i+ys.length<out1.length:=by omega
  have h0:out1.getD (i+ys.length) 0=0:=by rw [k5 _ (Nat.le_refl _)];exact hj _ (Nat.le_refl _)
  obtain ⟨out',g1,g2,g3,g4⟩:=j0w hx hy hN hl d (i+1) (out1.set (i+ys.length) c') (by omega) (k3.set _ k2.1 k2.2) (by simp [k4])
   (fun j h=>by rw [J0 (by omega),k5 j (by omega)];exact hj j (by omega)) (by
    rw [z9n out1 _ hik,h0,Z2 xs i (by omega),← ex,Int.sub_zero,k6,hv]
    grind)
  refine ⟨out',?_,g2,g3,g4⟩
  refine x1i (i2:=x) (i3:=c') (r4:=Wr out1) (i4:=((i+ys.length:Nat):Int)) (i5:=c') (i6:=0) (r5:=Wr (out1.set (i+ys.length) c')) (i7:=((i+1:Nat):Int))
   (wi (by rw [A8];omega)) (w32 (by omega)) (by rw [Int.toNat_natCast,z3w]) (wi (by omega)) (by omega) (by omega) (by rw [ex];exact F0 (by omega)) (by rw [A8];exact k1) (by omega) (by rw [← h0];exact F0 hik) g1
theorem v6h {a b:Int} {m n:Nat} (ha:a=m) (hb:b=n):(a*b).toNat=m*n:=by
 rw [ha,hb,← Int.natCast_mul];rfl
theorem j7o {m n:Nat} (hl:(words m).length+(words n).length<35184372088000):∃ k xs,Rn E C5 [.c (.list (Wr (words m))),.c (.list (Wr (words n)))] [] (.vec 0 k) [some (.vec A0 (Wr xs))]∧xs.take k=words (m*n)∧k≤xs.length∧xs.length=(words m).length+(words n).length:=by
 obtain ⟨out,k1,k2,k3,k4⟩:=j0w (E:=E) (B3 m) (B3 n) (N:=(words m).length+(words n).length) (by omega) rfl (words m).length 0 (List.replicate ((words m).length+(words n).length) 0) (by omega) (Wd.replicate _) (by simp)
  (fun j _=>by rw [List.getD_eq_getElem?_getD,List.getElem?_replicate];split <;> rfl) (by rw [k2h];simp [wv])
 have ht:=x1z (E:=E) (ws:=out) (k:=(words m).length+(words n).length) (by omega) (by omega)
 have hw:=z0i k2 (k:=(words m).length+(words n).length) (by omega)
 rw [← k3,List.take_length,k4,v6h (B2 m) (B2 n),k3] at hw
 refine ⟨z0h out ((words m).length+(words n).length),out,?_,hw,by have:=k7w out ((words m).length+(words n).length);omega,k3⟩
 refine k0t (i0:=(((words m).length+(words n).length:Nat):Int)) (n0:=(words m).length+(words n).length) (r2:=Wr (List.replicate ((words m).length+(words n).length) 0)) (wi (by rw [A8,A8];omega)) (Int.toNat_natCast _) (z4x _ _) (by omega) ?_ ht
 rw [A8];exact k1
theorem w1c {m n:Nat} (hl:(words m).length+(words n).length<35184372088000):Fn E C5 [.c (.list (Wr (words m))),.c (.list (Wr (words n)))] (.c (.list (Wr (words (m*n))))):=by
 obtain ⟨k,xs,h,hk,_,_⟩:=j7o (E:=E) hl
 have:=h.toFn hTT E.hs hmm
 rwa [Y9,hk] at this
theorem v2y {xs:List Int} (hx:Wd xs) {N:Nat} (hN:xs.length=N) (hb:N<4611686018427387904) {w:Int} (hw:0<w∧w<1000000000):∀ k rest out,k≤N→0≤rest∧rest<w→Wd out→out.length=N →
    wv (out.drop k)*w+rest=wv (xs.drop k) →
    ∃ rest' out',Lp E 1 O5 0 (z2y (Wr xs) w N rest ((k:Int)-1) (Wr out)) (.exit 0) (z8s N rest' (Wr out'))∧(0≤rest'∧rest'<w)∧Wd out'∧out'.length=N∧wv out'*w+rest'=wv xs
 | 0,rest,out,_,hr,ho,hl,hv=>by
  rw [List.drop_zero,List.drop_zero] at hv
  exact ⟨rest,out,x3k (by omega),hr,ho,hl,hv⟩
 | k+1,rest,out,hk,hr,ho,hl,hv=>by
  have ek:((k+1:Nat):Int)-1=(k:Int):=by omega
  rw [ek]
  have hxk:=hx.getD k
  obtain ⟨x,ex⟩:∃ x,x=xs.getD k 0:=⟨_,rfl⟩
  rw [← ex] at hxk
  obtain ⟨S,eS⟩:∃ S,S=rest*1000000000+x:=⟨_,rfl⟩
  have hS:0≤S∧S<w*1000000000:=by omega
  have hq0:0≤S / w:=Int.ediv_nonneg hS.1 (by omega)
  have hq:S / w<1000000000:=Int.ediv_lt_of_lt_mul (by omega) (by rw [Int.mul_comm];exact hS.2)
  have hm0:=Int.emod_nonneg S (show w≠0 by omega)
  have hm1:=Int.emod_lt_of_pos S (show 0<w by omega)
  have hdm:=Int.emod_add_mul_ediv S w
  have hkl:k<out.length:=by omega
  have hd:(out.set k (S / w)).drop (k+1)=out.drop (k+1):=List.drop_set_of_lt (Nat.lt_succ_self k)
  obtain ⟨rest',out',k1,k2,k3,k4,k5⟩:=v2y hx hN hb hw k (S % w) (out.set k (S / w)) (by omega) ⟨hm0,hm1⟩ (ho.set _ hq0 hq) (by simp [hl]) (by
   rw [z7b _ k,z7b xs k,← ex,z8y hkl,hd,← hv]
   exact alg2 eS hdm)
  refine ⟨rest',out',?_,k2,k3,k4,k5⟩
  exact x7j (i4:=rest*1000000000) (i5:=x) (i6:=x) (i7:=S) (i8:=S / w) (i9:=S / w) (i10:=out.getD k 0) (r3:=Wr (out.set k (S / w))) (i11:=S % w) (i12:=(k:Int)-1)
   (wu (by omega)) (wu (by omega)) (wu (by omega)) (wu ⟨tdv hS.1 rfl,hq0,by omega⟩) (w32 (by omega)) (by rw [Int.toNat_natCast,z3w]) (tmd hS.1 rfl) (wi (by omega))
   (by omega) (by omega) (by rw [ex];exact F0 (by omega)) (by omega) (by omega) (F0 hkl) k1
theorem by_ok {n w:Nat} (hw:0<w∧w<1000000000) (hl:(words n).length<35184372088000):Fn E O5 [.c (.list (Wr (words n))),.c (.u64 w)] (.tup [.c (.list (Wr (words (n / w)))),.c (.list (Wr (words (n % w))))]):=by
 obtain ⟨rest,out,k1,k2,k3,k4,k5⟩:=v2y (E:=E) (B3 n) (N:=(words n).length) rfl (by omega) (w:=w) (by omega) (words n).length 0 (List.replicate (words n).length 0) (Nat.le_refl _) (by omega) (Wd.replicate _) (by simp)
  (by rw [drop_nil (by simp),drop_nil (Nat.le_refl _)];simp [wv])
 rw [B2] at k5
 have h0:=C6 k3
 obtain ⟨q,hq⟩:∃ q:Nat,wv out=q:=⟨(wv out).toNat,by omega⟩
 obtain ⟨r,hr⟩:∃ r:Nat,rest=r:=⟨rest.toNat,by omega⟩
 rw [hq,hr] at k5
 subst hr
 have hn:q*w+r=n:=by
  have:((q*w+r:Nat):Int)=n:=by rw [Int.natCast_add,Int.natCast_mul];exact k5
  omega
 have hrw:r<w:=by omega
 have e1:n / w=q:=by rw [← hn,Nat.mul_comm,Nat.mul_add_div (by omega),Nat.div_eq_of_lt hrw,Nat.add_zero]
 have e2:n % w=r:=by rw [← hn,Nat.mul_comm,Nat.mul_add_mod,Nat.mod_eq_of_lt hrw]
 rw [e1,e2]
 have ht:=x1z (E:=E) (ws:=out) (k:=(words n).length) (by omega) (by omega)
 have hw':=z0i k3 (k:=(words n).length) (by omega)
 rw [← k4,List.take_length,hq,k4] at hw'
 refine k8y (n0:=(words n).length) (r1:=Wr (List.replicate (words n).length 0)) (i1:=((words n).length:Int)-1) (i2:=(r:Int)) (r2:=Wr out) (r3:=Wr (words r)) (by rw [A8];rfl) (z4x _ _) (wi (by rw [A8];omega)) ?_ ?_ k1 ht (q1u (by omega))
 · rw [Y9];exact congrArg Wr hw'
 · rw [A8];omega
end Gev
