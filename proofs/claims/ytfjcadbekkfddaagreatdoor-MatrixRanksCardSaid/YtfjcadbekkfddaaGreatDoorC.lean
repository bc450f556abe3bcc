/- A part of the proof: see the last text of this claim. -/
import Derived.Test.YtfjcadbekkfddaaGreatDoorB
import Derived.Laws.StructEq
import Derived.Deep.Draws
import Derived.Below
import Derived.Test.YtfjcadbekkfddaaGreatDoorProg
import Derived.KernelRfl
set_option linter.unusedSectionVars false
set_option linter.unusedVariables false
set_option linter.unusedSimpArgs false
namespace Gev
open Go
variable {P:Program} {D:Tab} {B0:Nat} {Gd:World→Prop}
def k1z (tmps:Array Value):ResultVar→Sem Value
 | .tmp t=>pure (tmps.getD t undef)
 | .cell x t=>do loadVar t (← asAddr (tmps.getD x undef))
theorem j6u (hT:TabOk P D) {Γ:Ctx} (hG:Good D B0 Gd Γ) {st:St} (hΓ:Γ.objs=st.objs) {a:Act} (hS:Slots D Γ st.slots a) {r:ResultVar} {v:AV} (h:x9t D st r=some v) :
    ∃ vc,(k1z a.tmps r).run P Γ.w=.ok vc Γ.w∧RepA D Γ vc v:=by
 cases r with
 | tmp t =>
  cases h
  exact ⟨_,rfl,hS.rho (.tmp t)⟩
 | cell x t =>
  simp only [x9t] at h
  have hx:=hS.rho (.tmp x)
  simp only [rho] at hx
  generalize st.slots.getD x .undef=xv at h hx
  cases xv with
  | ptr l off =>
   simp only at h
   cases hl:lk st.objs l with
   | none=>rw [hl] at h;cases h
   | some ob =>
    rw [hl] at h
    cases ob with
    | cells cs =>
     simp only at h
     generalize he:a.eval (.tmp x)=vx at hx
     cases hx with
     | ptr _ _ b cs' g1 g2 =>
      rw [hΓ,hl] at g1;cases g1
      obtain ⟨b',arr,ty,k1,k2,k3,k4⟩:=hG.ob l _ (by rw [hΓ];exact hl)
      rw [g2] at k1;cases k1
      have he':a.tmps.getD x undef=.pointer (some ⟨b,off,none⟩):=he
      have fin:(∃ vc,(loadVar t ⟨b,off,none⟩).run P Γ.w=.ok vc Γ.w∧RepA D Γ vc v)→∃ vc,(k1z a.tmps (.cell x t)).run P Γ.w=.ok vc Γ.w∧RepA D Γ vc v:=fun ⟨vc,e1,e2⟩=>by
       refine ⟨vc,?_,e2⟩
       simp only [k1z,he',asAddr]
       rw [Sem.run_bind,Sem.run_pure]
       exact e1
      refine fin ?_
      cases hp:x4z D t cs off with
      | some w=>rw [hp] at h;cases h;exact k0o hT hp k2 k3 k4
      | none =>
       rw [hp] at h
       simp only at h
       cases hn:D.size t with
       | none=>rw [hn] at h;cases h
       | some n =>
        rw [hn] at h
        simp only at h
        split at h
        · rename_i hc
          cases h
          simp only [List.all_eq_true,Bool.and_eq_true] at hc
          exact j2j hT hn hc.1 hc.2.1 (by rw [hΓ];exact hc.2.2) k2 k3 k4
        · cases h
    | _=>cases h
  | _=>cases h
theorem k2o (hT:TabOk P D) {Γ:Ctx} (hG:Good D B0 Gd Γ) {st:St} (hΓ:Γ.objs=st.objs) {a:Act} (hS:Slots D Γ st.slots a):∀ {rs:List ResultVar} {vs:List AV},z7h D st rs=some vs →
    ∃ vcs:List Value,(rs.mapM (k1z a.tmps)).run P Γ.w=.ok vcs Γ.w∧vcs.length=vs.length∧∀ (i:Nat) u v,vcs[i]?=some u→vs[i]?=some v→RepA D Γ u v
 | [],vs,h=>by cases h;exact ⟨[],rfl,rfl,fun i u v h=>by simp at h⟩
 | r::rs,vs,h=>by
  simp only [z7h] at h
  cases h1:x9t D st r with
  | none=>rw [h1] at h;cases h
  | some v =>
   cases h2:z7h D st rs with
   | none=>rw [h1,h2] at h;cases h
   | some vs' =>
    rw [h1,h2] at h
    cases h
    obtain ⟨vc,e1,e2⟩:=j6u hT hG hΓ hS h1
    obtain ⟨vcs,e3,e4,e5⟩:=k2o hT hG hΓ hS h2
    refine ⟨vc::vcs,?_,by simp [e4],fun i u v' hu hv=>?_⟩
    · rw [List.mapM_cons,Sem.run_bind,e1]
      simp only [Result.andThen_ok]
      rw [Sem.run_bind,e3]
      rfl
    · cases i with
      | zero=>simp at hu hv;subst hu;subst hv;exact e2
      | succ i=>exact e5 i u v' (by simpa using hu) (by simpa using hv)
def oneC:List Value→Value
 | [v]=>v
 | vs=>.tuple vs.toArray
theorem j9r {fn:Func} {tmps:Array Value} {w:World} {vcs:List Value} (h:(fn.results.toList.mapM (k1z tmps)).run P w=.ok vcs w) :
    (results fn tmps).run P w=.ok (oneC vcs) w:=by
 have e:results fn tmps=(do let vs ← fn.results.mapM (k1z tmps);pure (if h:vs.size=1 then vs[0] else .tuple vs)):=by
  unfold results
  congr 1
 rw [e,Array.mapM_eq_mapM_toList,Sem.run_bind,Sem.run_map,h]
 simp only [Result.andThen_ok]
 cases vcs with
 | nil=>rfl
 | cons v vs =>
  cases vs with
  | nil=>rfl
  | cons u us =>
   simp [oneC]
theorem j8k {Γ:Ctx} {vcs:List Value} {vs:List AV} (hl:vcs.length=vs.length) (h:∀ (i:Nat) u v,vcs[i]?=some u→vs[i]?=some v→RepA D Γ u v):RepA D Γ (oneC vcs) (one vs):=by
 cases vcs with
 | nil =>
  cases vs with
  | nil=>exact .tup [] [] rfl fun i v a h=>by simp at h
  | cons _ _=>simp at hl
 | cons u us =>
  cases vs with
  | nil=>simp at hl
  | cons v vs =>
   cases us with
   | nil =>
    cases vs with
    | nil=>exact h 0 u v rfl rfl
    | cons _ _=>simp at hl
   | cons u2 us =>
    cases vs with
    | nil=>simp at hl
    | cons v2 vs=>exact .tup _ _ hl h
theorem q4i {Γ:Ctx} {args:List AV} {cargs:Array Value} {n:Nat} (hl:cargs.size=args.length) (h:∀ (i:Nat) v a,cargs[i]?=some v→args[i]?=some a→RepA D Γ v a) :
    Slots D Γ (args++List.replicate (n-args.length) .undef) { tmps:=cargs++Array.replicate (n-cargs.size) undef,defers:=[] }:=by
 refine ⟨by simp [hl],fun i v u hv hu=>?_⟩
 rw [List.getElem?_append] at hv
 simp only at hu
 rw [Array.getElem?_append,hl] at hu
 by_cases c:i<args.length
 · rw [if_pos c] at hv hu
   exact h i u v hu hv
 · rw [if_neg c] at hv
   rw [List.getElem?_replicate] at hv
   split at hv
   · cases hv;exact .undef u
   · cases hv
theorem q1n {nw:Bool} {C:Sem3} {f:Nat} {args:List AV} {objs:Objs} {os os':List Orc} {ps:List Prop} {r:AV × Objs} (h:x8n D C P nw f args objs os=some (r,os',ps)) :
    ∃ fn body o st vs,P.funcs[f]?=some fn∧fn.body=some body∧path D C body ⟨args++List.replicate (fn.ntmps-args.length) .undef,objs⟩ os=some ((o,st),os',ps)∧(o=.norm∨o=.ret)∧z7h D st fn.results.toList=some vs∧j4b nw objs.length st vs=some r:=by
 unfold x8n at h
 cases hf:P.funcs[f]? with
 | none=>rw [hf] at h;cases h
 | some fn =>
  rw [hf] at h
  simp only at h
  cases hb:fn.body with
  | none=>rw [hb] at h;cases h
  | some body =>
   rw [hb] at h
   obtain ⟨x,os1,p1,b1,os2,q1,h1,h2,e⟩:=bind_some h
   cases e
   obtain ⟨o,st⟩:=x
   cases o with
   | exit id=>cases h2
   | norm =>
    simp only at h2
    cases hr:z7h D st fn.results.toList with
    | none=>rw [hr] at h2;cases h2
    | some vs =>
     rw [hr] at h2
     obtain ⟨_,h3,e⟩:=G6 h2
     cases e
     rw [List.append_nil]
     exact ⟨fn,body,_,st,vs,rfl,hb,h1,.inl rfl,hr,h3⟩
   | ret =>
    simp only at h2
    cases hr:z7h D st fn.results.toList with
    | none=>rw [hr] at h2;cases h2
    | some vs =>
     rw [hr] at h2
     obtain ⟨_,h3,e⟩:=G6 h2
     cases e
     rw [List.append_nil]
     exact ⟨fn,body,_,st,vs,rfl,hb,h1,.inr rfl,hr,h3⟩
theorem k2j:∀ (u:Ups) (objs:Objs),(∀ p∈u,∃ xs,p.2=.fro xs)→x4y objs=true→x4y (B6 objs u)=true
 | [],_,_,h=>h
 | (l,o)::u,objs,hu,h=>by
  obtain ⟨xs,e⟩:=hu (l,o) (by simp)
  simp only at e
  subst e
  refine k2j u _ (fun p hp=>hu p (by simp [hp])) ?_
  unfold x4y at h ⊢
  rw [List.all_eq_true] at h ⊢
  intro x hx
  rcases List.mem_or_eq_of_mem_set hx with hx | rfl
  · exact h x hx
  · rfl
theorem j2a {n0:Nat} {st:St} {Γ:Ctx} {vs:List AV} {thr:Bool} {r:AV} {objs':Objs} (h:j4b thr n0 st vs=some (r,objs')) (hn:n0≤st.objs.length) (hΓ:Γ.objs=st.objs) (hG:Good D B0 Gd Γ)
    {vcs:List Value} (hl:vcs.length=vs.length) (hr:∀ (i:Nat) u v,vcs[i]?=some u→vs[i]?=some v→RepA D Γ u v) :
    ∃ Γ',Γ'.objs=objs'∧Γ'.w=Γ.w∧Good D B0 Gd Γ'∧RepA D Γ' (oneC vcs) r∧TrB D n0 Γ Γ'∧Γ'.S.ext=Γ.S.ext:=by
 unfold j4b at h
 cases hhm:x4y st.objs with
 | false=>rw [hhm] at h;cases h
 | true =>
 rw [hhm] at h
 simp only [Bool.not_true,cond_false] at h
 have data:(match P1 (lk st.objs) vs with
     | some (ds,u,_)=>match K6 n0 (z2a n0 [] (cellsOf ((B6 st.objs u).take n0))) ((B6 st.objs u).take n0) with
      | some objs=>some (one ds,objs++(z2a n0 [] (cellsOf ((B6 st.objs u).take n0))).map (X2 (B6 st.objs u)))
      | none=>none
     | none=>none)=some (r,objs')→∃ Γ',Γ'.objs=objs'∧Γ'.w=Γ.w∧Good D B0 Gd Γ'∧RepA D Γ' (oneC vcs) r∧TrB D n0 Γ Γ'∧Γ'.S.ext=Γ.S.ext:=by
  intro h
  cases hd:P1 (lk st.objs) vs with
  | none=>rw [hd] at h;cases h
  | some x =>
   obtain ⟨ds,u,rr⟩:=x
   rw [hd] at h
   simp only at h
   obtain ⟨lv1,lv2⟩:=x8g n0 (cellsOf ((B6 st.objs u).take n0)) [] List.nodup_nil (fun _ h=>by cases h)
   generalize z2a n0 [] (cellsOf ((B6 st.objs u).take n0))=live at h lv1 lv2
   cases hk:K6 n0 live ((B6 st.objs u).take n0) with
   | none=>rw [hk] at h;cases h
   | some objs =>
    rw [hk] at h
    cases h
    obtain ⟨k1,k2,k3⟩:=z8p hd
    obtain ⟨m1,m2⟩:=z5f u hG (hΓ ▸ k1)
    obtain ⟨Γ0,g1,g2,g3,g4,g5,g6,g7⟩:=k0m (n0:=n0) (st:=⟨st.slots,B6 st.objs u⟩) (Γ:=⟨Γ.S,B6 Γ.objs u,Γ.w⟩) (live:=live) (k2j u _ (fun p hp=>(k1 p hp).imp fun _ h=>h.1) hhm) lv1 lv2 hk (by simp only;rw [k8u];exact hn) (by simp only [hΓ]) m1
    refine ⟨Γ0,g1,g2,g3,j8k (by rw [hl,k2]) fun i cv v hu hv=>?_,(m2.toB n0).trans g5 (Nat.le_refl _),g7⟩
    have hi:i<vs.length:=by rw [← k2];exact (List.getElem?_eq_some_iff.1 hv).1
    obtain ⟨u',r',e1,e2⟩:=k3 i _ v (List.getElem?_eq_getElem hi) hv
    have hd1:=y8x (Γ:=Γ) (Γ':=⟨Γ.S,B6 Γ.objs u,Γ.w⟩) m2 (hΓ ▸ e1) (fun p hp=>x5o (hΓ ▸ k1) (e2 p hp)) (hr i cv _ hu (List.getElem?_eq_getElem hi))
    refine y0d (Γ:=⟨Γ.S,B6 Γ.objs u,Γ.w⟩) (Γ':=Γ0) g2 (fun b hb=>?_) (k2x (fun f es e=>by have:=hr i cv _ hu (List.getElem?_eq_getElem hi);rw [e] at this;rw [e];exact this.mv_data) e1) hd1
    rcases hb with hb | hb
    · exact .inl (g7 ▸ hb)
    · rcases g5.mine b hb with h4 | h4
      · exact .inr h4
      · -- nothing has been made
        obtain ⟨l,o,b1,b2,b3⟩:=hb
        have:=z2z g3 b (.inr ⟨l,o,b1,b2,b3⟩)
        rw [g2] at this
        simp only at this h4
        omega
 cases hc:thr && (y8z vs).any isVec with
 | false=>rw [hc] at h;exact data h
 | true =>
  rw [hc] at h
  simp only [cond_true] at h
  obtain ⟨lv1,lv2⟩:=x8g n0 (y8z vs) [] List.nodup_nil (fun _ h=>by cases h)
  generalize z2a n0 [] (y8z vs)=live at h lv1 lv2
  cases h1:z1q n0 live vs with
  | none=>rw [h1] at h;cases h
  | some vs' =>
   cases h2:K6 n0 live (st.objs.take n0) with
   | none=>rw [h1,h2] at h;cases h
   | some objs =>
    rw [h1,h2] at h
    cases h
    obtain ⟨Γ0,g1,g2,g3,g4,g5,g6,g7⟩:=k0m (n0:=n0) (st:=st) (Γ:=Γ) (live:=live) hhm lv1 lv2 h2 hn hΓ hG
    obtain ⟨k1,k2⟩:=y0i h1
    refine ⟨Γ0,g1,g2,g3,j8k (by rw [hl,k1]) fun i cv v hu hv=>?_,g5,g7⟩
    obtain ⟨v0,e1,e2⟩:=k2 i v hv
    exact g4 cv v0 v (hr i cv v0 hu e1) e2
theorem TrB.full {n:Nat} {Γ Γ':Ctx} (h:TrB D n Γ Γ') (hn:Γ.objs.length≤n):Tr D Γ Γ':=by
 have hlt:∀ l o,lk Γ.objs l=some o→l<n:=fun l o ho=>Nat.lt_of_lt_of_le (O2 ho) hn
 refine ⟨h.kept,h.ext,h.mine,fun l cs hl=>h.ptr l cs (hlt l _ hl) hl,fun v l len hv=>h.vec v l len ?_ hv,fun v l i off hv=>h.vptr v l i off ?_ hv⟩
 · obtain ⟨o,h1,_⟩:=x2q hv
   exact hlt _ _ h1
 · obtain ⟨o,h1,_⟩:=y4s hv
   exact hlt _ _ h1
section
variable (hT:TabOk P D) (hs:Stable B0 Gd) (hm:P.follows .mixedOrders=true)
include hT hs hm
theorem j3b {nw:Bool} {f:Nat} {args:List AV} {objs objs':Objs} {os os':List Orc} {ps:List Prop} {r:AV} (h:x8n D (sem P D B0 Gd) P nw f args objs os=some ((r,objs'),os',ps)) (hp:All ps)
    {Γ:Ctx} {cargs:Array Value} (hΓ:Γ.objs=objs) (hG:Good D B0 Gd Γ) (hl:cargs.size=args.length) (ha:∀ (i:Nat) v a,cargs[i]?=some v→args[i]?=some a→RepA D Γ v a) :
    Calls P f cargs Γ.w fun e w'=>∃ v Γ',e=.returned v∧Γ'.objs=objs'∧Γ'.w=w'∧Good D B0 Gd Γ'∧Tr D Γ Γ'∧RepA D Γ' v r:=by
 obtain ⟨fn,body,o,st,vs,h1,h2,h3,h4,h5,h6⟩:=q1n h
 refine calls_of_wp h1 h2 (wpIn_wide (n:=0).1 ?_)
 obtain ⟨hn,hwp⟩:=z8b hT hs hm body _ os o st os' ps Γ _ objs.length none 0 h3 hp (by simp only;exact hΓ) hG (q4i (n:=fn.ntmps) hl ha) (by simp)
 refine wpIn_mono hwp fun e a' w' hb=>?_
 obtain ⟨hf,Γ1,k1,rfl,k2,k3,k4,k5⟩:=hb
 obtain ⟨vcs,e1,e2,e3⟩:=k2o hT k2 k1 k3 h5
 obtain ⟨Γ',g1,g2,g3,g4,g5,g6⟩:=j2a h6 hn k1 k2 e2 e3
 have hR:a'.defers=[]∧∃ v,(results fn a'.tmps).run P Γ1.w=.ok v Γ1.w∧∃ v' Γ'',Ending.returned v=.returned v'∧Γ''.objs=objs'∧Γ''.w=Γ1.w∧Good D B0 Gd Γ''∧Tr D Γ Γ''∧RepA D Γ'' v' r :=
  ⟨k5,_,j9r e1,_,Γ',rfl,g1,g2,g3,(k4.trans g5 (Nat.le_refl _)).full (by rw [hΓ];exact Nat.le_refl _),g4⟩
 rcases h4 with rfl | rfl
 · have he:e=.normal:=hf
   subst he
   exact hR
 · have he:e=.ret:=hf
   subst he
   exact hR
theorem run_mk {nw:Bool} {f:Nat} {args:List AV} {objs objs':Objs} {r:AV} (os:List Orc) {ps:List Prop} (he:∀ cargs w,(callFunc f cargs).run P w=.ok (.enter f cargs) w) (hp:All ps) (h:x8n D (sem P D B0 Gd) P nw f args objs os=some ((r,objs'),[],ps)):RunOk P D B0 Gd f args objs r objs' :=
 ⟨he,fun _ _ hΓ hG hl ha=>j3b hT hs hm h hp hΓ hG hl ha⟩
theorem fn_mk {nw:Bool} {f:Nat} {args:List AV} {objs':Objs} {r:AV} (os:List Orc) {ps:List Prop} (he:∀ cargs w,(callFunc f cargs).run P w=.ok (.enter f cargs) w) (hr:r.Data) (hp:All ps) (h:x8n D (sem P D B0 Gd) P nw f args [] os=some ((r,objs'),[],ps)):FnOk P D B0 Gd f args r:=by
 refine ⟨he,hr,fun w ext cargs hgd hB hx hl ha=>?_⟩
 have hG:Good D B0 Gd ⟨⟨fun _=>none,fun _ _=>none,ext⟩,[],w⟩ :=
  ⟨fun l o h=>by simp [lk] at h,fun l l' o o' b h=>by simp [lk] at h,fun b hb=>(hx b (x1q.1 hb)).1,fun b hb=>⟨(hx b hb).2,x3i⟩,hB,hgd⟩
 refine Calls.mono (j3b hT hs hm h hp (Γ:=⟨⟨fun _=>none,fun _ _=>none,ext⟩,[],w⟩) rfl hG hl ha) ?_
 rintro e w' ⟨v,Γ',rfl,k1,rfl,k2,k3,k4⟩
 refine ⟨v,rfl,k2.gd,k3.kept.mono fun b hb=>x3i hb,y0d (Γ:=Γ') (Γ':=⟨⟨fun _=>none,fun _ _=>none,ext⟩,[],Γ'.w⟩) rfl (fun b hb=>?_) hr k4⟩
 have hb':=x1q.1 hb
 exact .inl (by rw [k3.ext];exact hb')
theorem RunOk.toFn {f:Nat} {args:List AV} {n t:Nat} {xs:List (List DV)} (h:RunOk P D B0 Gd f args [] (.vec 0 n) [some (.vec t xs)]):FnOk P D B0 Gd f args (.c (.list (xs.take n))):=by
 have:=hT
 have:=hs
 have:=hm
 refine ⟨h.enters,.c _,fun w ext cargs hgd hB hx hl ha=>?_⟩
 have hG:Good D B0 Gd ⟨⟨fun _=>none,fun _ _=>none,ext⟩,[],w⟩ :=
  ⟨fun l o h=>by simp [lk] at h,fun l l' o o' b h=>by simp [lk] at h,fun b hb=>(hx b (x1q.1 hb)).1,fun b hb=>⟨(hx b hb).2,x3i⟩,hB,hgd⟩
 refine Calls.mono (h.calls ⟨⟨fun _=>none,fun _ _=>none,ext⟩,[],w⟩ cargs rfl hG hl ha) ?_
 rintro e w' ⟨v,Γ',rfl,k1,rfl,k2,k3,k4⟩
 obtain ⟨Γ2,g1,g2,g3,g4,g5,g6⟩:=j2a (thr:=false) (n0:=0) (st:=⟨[],[some (.vec t xs)]⟩) (vs:=[.vec 0 n]) (r:=.c (.list (xs.take n))) (objs':=[]) rfl (Nat.zero_le _) k1 k2 (vcs:=[v]) rfl (fun i u x hu hx=>by
  cases i with
  | zero=>simp at hu hx;subst hu;subst hx;exact k4
  | succ i=>simp at hu)
 refine ⟨v,rfl,k2.gd,k3.kept.mono fun b hb=>x3i hb,y0d (Γ:=Γ2) (Γ':=⟨⟨fun _=>none,fun _ _=>none,ext⟩,[],Γ'.w⟩) g2.symm (fun b hb=>?_) (.c _) g4⟩
 have hb':=x1q.1 hb
 exact .inl (by rw [g6,k3.ext];exact hb')
theorem q4y {n:Nat} {b:Code} {st st1 st2 st':St} {o:Out} (os:List Orc) (keep:List Nat) {ps:List Prop} (hp:All ps) (h:path D (sem P D B0 Gd) b st os=some ((.norm,st1),[],ps)) (hno:norm keep n st1=some st2) (hr:y4x P D B0 Gd n b st2 o st'):y4x P D B0 Gd n b st o st':=by
 obtain ⟨k,hk⟩:=hr
 refine ⟨k+1,fun ro m Γ a hn hΓ hG hS=>?_⟩
 obtain ⟨hn1,hwp⟩:=z8b hT hs hm b st os .norm st1 [] ps Γ a n ro m h hp hΓ hG hS hn
 refine wpIn_mono hwp fun e a' w' hb=>?_
 obtain ⟨hf,Γ1,k1,rfl,k2,k3,k4,k5⟩:=hb
 obtain ⟨Γ0,g1,g2,g3,g4,g5,g6⟩:=j5i hno hn1 k1 k2 k3
 exact .inl ⟨hf,st2,Γ0,g6,g1,g2,g3,g4,k4.trans g5 (Nat.le_refl _),k5,hk⟩
theorem q4x {n:Nat} {b:Code} {st st1 st':St} {o:Out} (os:List Orc) (keep:List Nat) {ps:List Prop} (hp:All ps) (h:path D (sem P D B0 Gd) b st os=some ((o,st1),[],ps)) (ho:o≠.norm) (hno:norm keep n st1=some st'):y4x P D B0 Gd n b st o st':=by
 refine ⟨1,fun ro m Γ a hn hΓ hG hS=>?_⟩
 obtain ⟨hn1,hwp⟩:=z8b hT hs hm b st os o st1 [] ps Γ a n ro m h hp hΓ hG hS hn
 refine wpIn_mono hwp fun e a' w' hb=>?_
 obtain ⟨hf,Γ1,k1,rfl,k2,k3,k4,k5⟩:=hb
 obtain ⟨Γ0,g1,g2,g3,g4,g5,g6⟩:=j5i hno hn1 k1 k2 k3
 refine .inr ⟨?_,hf,Γ0,g1,g2,g3,g4,k4.trans g5 (Nat.le_refl _),k5⟩
 cases o with
 | norm=>exact absurd rfl ho
 | exit id=>have:e=.exit id:=hf;rw [this];simp
 | ret=>have:e=.ret:=hf;rw [this];simp
theorem k8o {C:Sem3} {b:Code} {n:Nat} {keep:List Nat} {st st2:St} {o:Out} {os:List Orc} {ps:List Prop} (h:round D C b n keep st os=some (o,st2,ps)):∃ st1,path D C b st os=some ((o,st1),[],ps)∧norm keep n st1=some st2:=by
 unfold round at h
 split at h
 · rename_i o1 st1 ps1 e
   cases hn:norm keep n st1 with
   | none=>rw [hn] at h;cases h
   | some st3=>rw [hn] at h;cases h;exact ⟨st1,e,hn⟩
 · cases h
theorem v1h {n:Nat} {b:Code} {st st':St} {o:Out} (st2:St) (keep:List Nat) (os:List Orc) (ps:List Prop) (h:round D (sem P D B0 Gd) b n keep st os=some (.norm,st2,ps)) (hp:All ps) (hr:y4x P D B0 Gd n b st2 o st'):y4x P D B0 Gd n b st o st':=by
 obtain ⟨st1,h1,h2⟩:=k8o hT hs hm h
 exact q4y hT hs hm os keep hp h1 h2 hr
theorem q7d {n:Nat} {b:Code} {st st':St} {o:Out} (keep:List Nat) (os:List Orc) (ps:List Prop) (h:round D (sem P D B0 Gd) b n keep st os=some (o,st',ps)) (ho:o≠.norm) (hp:All ps):y4x P D B0 Gd n b st o st':=by
 obtain ⟨st1,h1,h2⟩:=k8o hT hs hm h
 exact q4x hT hs hm os keep hp h1 ho h2
end
end Gev
namespace Gev
open Go
def szOf (P:Program) (t:Nat):Nat:=match P.info? t with | some i=>i.size | none=>0
def k5t (P:Program) (rec:Nat→List Field→Option (List U)):Nat→List Field→Option (List U)
 | _,[]=>some []
 | k,f::fs=>if f.offset == k && f.name != "_" then match P.underlying f.type with
  | some (.struct gs)=>match rec f.type gs.toList,k5t P rec (k+szOf P f.type) fs with
   | some us,some vs=>if us.length == szOf P f.type && (P.info? f.type).isSome then some (us++vs) else none
   | _,_=>none
  | some d=>match k5t P rec (k+1) fs with
   | some us=>some (uOf d::us)
   | none=>none
  | none=>none
  else none
def q2z (P:Program):Nat→Nat→List Field→Option (List U)
 | 0,_,_=>none
 | n+1,t,fs=>if !P.stoodInHeld t then k5t P (q2z P n) 0 fs else none
def q0x (P:Program) (t:Nat):Option (List U):=match P.underlying t with
 | some (.struct fs)=>if !P.eqGuardType P.depth t then q2z P 4 t fs.toList else none
 | _=>none
theorem x0p:∀ {us vs:List U} {ds:List DV},fitB (us++vs) ds=true→fitB us (ds.take us.length)=true∧fitB vs (ds.drop us.length)=true∧us.length≤ds.length
 | [],_,ds,h=>⟨by simp [fitB],h,Nat.zero_le _⟩
 | u::us,vs,[],h=>by cases u <;> simp [fitB] at h
 | u::us,vs,d::ds,h=>by
  have key:fitB (us++vs) ds=true→fitB us (ds.take us.length)=true∧fitB vs (ds.drop us.length)=true∧us.length≤ds.length:=x0p
  rw [List.cons_append] at h
  rw [List.length_cons,List.take_succ_cons,List.drop_succ_cons,List.length_cons]
  cases u with
  | int k =>
   cases d with
   | int k' a =>
    simp only [fitB,Bool.and_eq_true] at h ⊢
    obtain ⟨a1,a2,a3⟩:=key h.2
    exact ⟨⟨h.1,a1⟩,a2,by omega⟩
   | _=>cases h
  | bool =>
   cases d with
   | bool a =>
    obtain ⟨a1,a2,a3⟩:=key h
    exact ⟨a1,a2,by omega⟩
   | _=>cases h
  | str =>
   cases d with
   | str a =>
    obtain ⟨a1,a2,a3⟩:=key h
    exact ⟨a1,a2,by omega⟩
   | _=>cases h
  | _=>cases h
theorem x0n:∀ {m:Nat} {az bs:List DV} {b:Bool},z4f az bs=some b→m≤az.length→m≤bs.length→∃ c1 c2,z4f (az.take m) (bs.take m)=some c1∧z4f (az.drop m) (bs.drop m)=some c2∧b=(c1 && c2)
 | 0,az,bs,b,h,_,_=>⟨true,b,rfl,h,rfl⟩
 | m+1,[],bs,b,h,h1,_=>by simp at h1
 | m+1,_::_,[],b,h,_,h2=>by simp at h2
 | m+1,x::az,y::bs,b,h,h1,h2=>by
  simp only [z4f] at h
  cases e1:eqD x y with
  | none=>rw [e1] at h;cases h
  | some c =>
   cases e2:z4f az bs with
   | none=>rw [e1,e2] at h;cases h
   | some c2 =>
    rw [e1,e2] at h
    cases h
    obtain ⟨a1,a2,k1,k2,rfl⟩:=x0n (m:=m) e2 (by simpa using h1) (by simpa using h2)
    exact ⟨c && a1,a2,by simp only [List.take_succ_cons,z4f,e1,k1],by simpa using k2,by rw [Bool.and_assoc]⟩
theorem x2m {P:Program} {w:World} {t:Nat} {d:TypeDesc} (hu:P.underlying t=some d) (ht:(∃ k,d=.int k)∨d=.bool∨d=.string) {cs:Array Value} {off:Nat} {v:Value} (hv:cs[off]?=some v):(part t cs off).run P w=.ok v w:=by
 have ha:(isAgg t).run P w=.ok false w:=by
  unfold isAgg
  rw [Sem.run_bind,run_underlying hu]
  rcases ht with ⟨k,rfl⟩ | rfl | rfl <;> rfl
 unfold part
 rw [Sem.run_bind,ha]
 simp [hv]
theorem k2b {P:Program} {w:World} {own:Nat→Prop} {d:Nat} {rec:Nat→List Field→Option (List U)}
    (hrec:∀ T fs us,P.underlying T=some (.struct fs)→rec T fs.toList=some us→∀ (xs ys:Array Value) (avz bs:List DV) (b:Bool),fitB us avz=true→fitB us bs=true→xs.size=avz.length→ys.size=bs.length →
     (∀ (j:Nat) u e,xs[j]?=some u→avz[j]?=some e→RepD w own u e)→(∀ (j:Nat) u e,ys[j]?=some u→bs[j]?=some e→RepD w own u e)→z4f avz bs=some b→(Op.equalIn (d+1) T (.agg xs) (.agg ys)).run P w=.ok b w):∀ (fs:List Field) (k:Nat) (us:List U),k5t P rec k fs=some us→∀ (xs ys:Array Value) (avz bs:List DV) (b:Bool),fitB us avz=true→fitB us bs=true→xs.size=k+avz.length→ys.size=k+bs.length →
    (∀ (j:Nat) u e,xs[k+j]?=some u→avz[j]?=some e→RepD w own u e)→(∀ (j:Nat) u e,ys[k+j]?=some u→bs[j]?=some e→RepD w own u e)→z4f avz bs=some b →
    (Op.eqFields (d+1) xs ys fs).run P w=.ok b w
 | [],k,us,hu,xs,ys,avz,bs,b,ha,hb,hx,hy,_,_,he=>by
  cases hu
  cases avz with
  | nil =>
   cases bs with
   | nil=>cases he;rfl
   | cons _ _=>cases he
  | cons _ _=>cases ha
 | f::fs,k,us,hu,xs,ys,avz,bs,b,ha,hb,hx,hy,hrx,hry,he=>by
  simp only [k5t] at hu
  split at hu
  · rename_i hc
    simp only [Bool.and_eq_true,beq_iff_eq,bne_iff_ne] at hc
    obtain ⟨h1,h2⟩:=hc
    cases hd:P.underlying f.type with
    | none=>rw [hd] at hu;cases hu
    | some de =>
    by_cases hst:∃ gs,de=.struct gs
    · obtain ⟨gs,rfl⟩:=hst
      rw [hd] at hu
      simp only at hu
      cases hr1:rec f.type gs.toList with
      | none=>rw [hr1] at hu;cases hu
      | some us1 =>
      cases hus:k5t P rec (k+szOf P f.type) fs with
      | none=>rw [hr1,hus] at hu;cases hu
      | some us2 =>
      rw [hr1,hus] at hu
      simp only at hu
      split at hu
      · rename_i hsz
        cases hu
        simp only [Bool.and_eq_true,beq_iff_eq] at hsz
        obtain ⟨hsz,hin⟩:=hsz
        obtain ⟨i,hi⟩:=Option.isSome_iff_exists.1 hin
        have hsi:szOf P f.type=i.size:=by unfold szOf;rw [hi]
        obtain ⟨fa1,fa2,fa3⟩:=x0p ha
        obtain ⟨fb1,fb2,fb3⟩:=x0p hb
        obtain ⟨c1,c2,k1,k2,rfl⟩:=x0n he fa3 fb3
        have hag:(isAgg f.type).run P w=.ok true w:=by
         unfold isAgg
         rw [Sem.run_bind,run_underlying hd]
         rfl
        have hpart:∀ zs:Array Value,(part f.type zs k).run P w=.ok (.agg (zs.extract k (k+us1.length))) w:=by
         intro zs
         unfold part
         rw [Sem.run_bind,hag]
         simp only [Result.andThen_ok,if_true]
         rw [Sem.run_bind,z4x hi]
         simp only [Result.andThen_ok,hsz,hsi]
         rfl
        have hex:∀ (zs:Array Value) (cs:List DV),zs.size=k+cs.length→us1.length≤cs.length→(∀ (j:Nat) u e,zs[k+j]?=some u→cs[j]?=some e→RepD w own u e)→(zs.extract k (k+us1.length)).size=(cs.take us1.length).length∧∀ (j:Nat) u e,(zs.extract k (k+us1.length))[j]?=some u→(cs.take us1.length)[j]?=some e→RepD w own u e:=by
         intro zs cs h1 h2 h3
         refine ⟨by simp;omega,fun j u e hu hj=>?_⟩
         rw [List.getElem?_take] at hj
         split at hj
         · refine h3 j u e ?_ hj
           have hlt:=(Array.getElem?_eq_some_iff.1 hu).1
           simp at hlt
           have hk:k+j<zs.size:=by omega
           rw [Array.getElem?_eq_getElem (by simp;omega),Array.getElem_extract] at hu
           rw [Array.getElem?_eq_getElem hk]
           exact hu
         · cases hj
        obtain ⟨x1,x2⟩:=hex xs avz hx fa3 hrx
        obtain ⟨y1,y2⟩:=hex ys bs hy fb3 hry
        have heq:=hrec f.type gs us1 hd hr1 _ _ _ _ c1 fa1 fb1 x1 y1 x2 y2 k1
        have ih:=k2b hrec fs (k+szOf P f.type) us2 hus xs ys (avz.drop us1.length) (bs.drop us1.length) c2 fa2 fb2 (by simp;omega) (by simp;omega) (fun j u e hu hj=>hrx (us1.length+j) u e (by rw [← hu];congr 1;omega) (by rw [List.getElem?_drop] at hj;exact hj)) (fun j u e hu hj=>hry (us1.length+j) u e (by rw [← hu];congr 1;omega) (by rw [List.getElem?_drop] at hj;exact hj)) k2
        simp only [Op.eqFields,h1]
        rw [if_pos h2,Sem.run_bind,hpart xs]
        simp only [Result.andThen_ok]
        rw [Sem.run_bind,hpart ys]
        simp only [Result.andThen_ok]
        rw [Sem.run_bind,heq]
        simp only [Result.andThen_ok]
        cases c1 with
        | true=>simpa using ih
        | false=>rfl
      · cases hu
    cases hus:k5t P rec (k+1) fs with
    | none=>rw [hd] at hu;cases de <;> simp only [hus] at hu <;> first | cases hu | exact absurd ⟨_,rfl⟩ hst
    | some us' =>
    have hu':us=uOf de::us':=by
     rw [hd] at hu
     cases de <;> simp only [hus] at hu <;> first | (cases hu;rfl) | exact absurd ⟨_,rfl⟩ hst
    subst hu'
    cases avz with
    | nil=>cases hud:uOf de <;> rw [hud] at ha <;> cases ha
    | cons x avz =>
     cases bs with
     | nil=>cases he
     | cons y bs =>
      simp only [List.length_cons] at hx hy
      simp only [z4f] at he
      cases e1:eqD x y with
      | none=>rw [e1] at he;cases he
      | some c =>
       cases e2:z4f avz bs with
       | none=>rw [e1,e2] at he;cases he
       | some c2 =>
        rw [e1,e2] at he
        cases he
        have kx:k<xs.size:=by omega
        have ky:k<ys.size:=by omega
        have rx:=hrx 0 xs[k] x (by simp [kx]) rfl
        have ry:=hry 0 ys[k] y (by simp [ky]) rfl
        have fits:fitB us' avz=true∧fitB us' bs=true∧((∃ k0,de=.int k0)∨de=.bool∨de=.string)∧(Op.equalIn (d+1) f.type xs[k] ys[k]).run P w=.ok c w:=by
         generalize xs[k]=u at rx
         generalize ys[k]=v at ry
         cases hud:uOf de with
         | int k0 =>
          rw [hud] at ha hb
          have hde:=v0d hud
          cases x with
          | int k1 a =>
           cases y with
           | int k2 b =>
            simp only [fitB,Bool.and_eq_true,beq_iff_eq] at ha hb
            obtain ⟨rfl,ha⟩:=ha
            obtain ⟨rfl,hb⟩:=hb
            cases rx
            cases ry
            cases e1
            exact ⟨ha,hb,.inl ⟨_,hde⟩,run_equalIn_int w d f.type _ _ _ _ (hde ▸ hd)⟩
           | _=>cases e1
          | _=>cases ha
         | bool =>
          rw [hud] at ha hb
          have hde:=v0c hud
          cases x with
          | bool a =>
           cases y with
           | bool b =>
            cases rx
            cases ry
            cases e1
            exact ⟨ha,hb,.inr (.inl hde),run_equalIn_bool' w d f.type _ _ (hde ▸ hd)⟩
           | _=>cases e1
          | _=>cases ha
         | str =>
          rw [hud] at ha hb
          have hde:=j3l hud
          cases x with
          | str a =>
           cases y with
           | str b =>
            cases rx
            cases ry
            cases e1
            refine ⟨ha,hb,.inr (.inr hde),?_⟩
            rw [run_equalIn_string w d f.type _ _ (hde ▸ hd),beq_toListBytes]
           | _=>cases e1
          | _=>cases ha
         | _=>rw [hud] at ha;cases ha
        obtain ⟨fa,fb,hty,heq⟩:=fits
        have p1:=x2m (w:=w) hd hty (Array.getElem?_eq_getElem kx)
        have p2:=x2m (w:=w) hd hty (Array.getElem?_eq_getElem ky)
        have ih:=k2b hrec fs (k+1) us' hus xs ys avz bs c2 fa fb (by omega) (by omega) (fun j u e hu hj=>hrx (j+1) u e (by rw [← hu];congr 1;omega) (by simpa using hj)) (fun j u e hu hj=>hry (j+1) u e (by rw [← hu];congr 1;omega) (by simpa using hj)) e2
        simp only [Op.eqFields,h1]
        rw [if_pos h2,Sem.run_bind,p1]
        simp only [Result.andThen_ok]
        rw [Sem.run_bind,p2]
        simp only [Result.andThen_ok]
        rw [Sem.run_bind,heq]
        simp only [Result.andThen_ok]
        cases c with
        | true=>simpa using ih
        | false=>rfl
  · cases hu
theorem j3c {P:Program} {w:World} {own:Nat→Prop}:∀ (n d:Nat),n≤d→∀ T fs us,P.underlying T=some (.struct fs)→q2z P n T fs.toList=some us→∀ (xs ys:Array Value) (avz bs:List DV) (b:Bool),fitB us avz=true→fitB us bs=true→xs.size=avz.length→ys.size=bs.length →
      (∀ (j:Nat) u e,xs[j]?=some u→avz[j]?=some e→RepD w own u e)→(∀ (j:Nat) u e,ys[j]?=some u→bs[j]?=some e→RepD w own u e)→z4f avz bs=some b→(Op.equalIn (d+1) T (.agg xs) (.agg ys)).run P w=.ok b w
 | 0,d,_,T,fs,us,hu,h=>by cases h
 | n+1,d,hd,T,fs,us,hu,h=>by
  intro xs ys avz bs b ha hb hx hy hrx hry he
  unfold q2z at h
  split at h
  · rename_i hc
    simp only [Bool.not_eq_true'] at hc
    obtain ⟨d',rfl⟩:∃ d',d=d'+1:=⟨d-1,by omega⟩
    have hfs:P.fieldsOf T=fs:=by simp [Program.fieldsOf,hu]
    rw [run_equalIn_struct w (d'+1) T xs ys (by rw [hfs];exact hu) hc,hfs]
    exact k2b (j3c n d' (by omega)) fs.toList 0 us h xs ys avz bs b ha hb (by omega) (by omega) (fun j u e hu hj=>hrx j u e (by simpa using hu) hj) (fun j u e hu hj=>hry j u e (by simpa using hu) hj) he
  · cases h
theorem tabOk (P:Program) (thr new:Nat→Bool):TabOk P ⟨tiOf P,q0x P,thr,new⟩:=by
 refine ⟨fun t ti h=>q5n h,fun t us h w own xs ys avz bs b ha hb hx hy hrx hry he=>?_⟩
 unfold q0x at h
 cases hu:P.underlying t with
 | none=>simp only [hu] at h;cases h
 | some de =>
  simp only [hu] at h
  cases de with
  | struct fs =>
   simp only at h
   split at h
   · rename_i hc
     simp only [Bool.not_eq_true'] at hc
     refine ⟨?_,hc⟩
     show (Op.equalIn (9999+1) t (.agg xs) (.agg ys)).run P w=_
     exact j3c 4 9999 (by omega) t fs us hu h xs ys avz bs b ha hb hx hy hrx hry he
   · cases h
  | _=>cases h
def y4j:Code→List Code
 | .loop b=>b::y4j b
 | .seq a b=>y4j a++y4j b
 | .cond _ a b=>y4j a++y4j b
 | .block _ b=>y4j b
 | .scope b=>y4j b
 | _=>[]
def j8c (P:Program) (f k:Nat):Code:=match P.funcs[f]? with
 | some fn=>match fn.body with
  | some c=>(y4j c).getD k .skip
  | none=>.skip
 | none=>.skip
def stOf (n:Nat) (vs:List (Nat × AV)) (objs:Objs):St:=⟨vs.foldl (fun s p=>s.set p.1 p.2) (List.replicate n .undef),objs⟩
theorem enters_of {P:Program} {f:Nat} {fn:Func} (hf:P.funcs[f]?=some fn) (hn:(fn.name == "runtime.NumGoroutine")=false) (hb:fn.body.isNone=false) (cargs:Array Value) (w:World):(callFunc f cargs).run P w=.ok (.enter f cargs) w:=by
 unfold callFunc
 rw [Sem.run_bind,run_program]
 simp only [Result.andThen_ok,hf]
 rw [if_neg (by rw [hn];simp),if_neg (by rw [hb];simp)]
 rfl
end Gev
namespace Gev
open Go
variable {P:Program} {D:Tab} {B0:Nat} {Gd:World→Prop}
def cval:DV→Option Value
 | .int k n=>some (.int k n)
 | .bool b=>some (.bool b)
 | .str s=>some (.string s)
 | _=>none
def j1q:List DV→Option (List Value)
 | []=>some []
 | d::ds=>match cval d,j1q ds with
  | some v,some vs=>some (v::vs)
  | _,_=>none
theorem q6j {d:DV} {v u:Value} {w:World} {own:Nat→Prop} (h:cval d=some v) (hr:RepD w own u d):u=v:=by
 cases hr <;> cases h <;> rfl
theorem j1r:∀ {ds:List DV} {vs:List Value},j1q ds=some vs→vs.length=ds.length∧∀ (i:Nat) d,ds[i]?=some d→∃ v,vs[i]?=some v∧cval d=some v
 | [],vs,h=>by cases h;exact ⟨rfl,fun i d h=>by simp at h⟩
 | d::ds,vs,h=>by
  simp only [j1q] at h
  cases h1:cval d with
  | none=>rw [h1] at h;cases h
  | some v =>
   cases h2:j1q ds with
   | none=>rw [h1,h2] at h;cases h
   | some vs' =>
    rw [h1,h2] at h
    cases h
    obtain ⟨l1,l2⟩:=j1r h2
    refine ⟨by simp [l1],fun i e he=>?_⟩
    cases i with
    | zero=>simp at he;subst he;exact ⟨v,by simp,h1⟩
    | succ i=>obtain ⟨u,a,b⟩:=l2 i e (by simpa using he);exact ⟨u,by simpa using a,b⟩
theorem q0u {Γ:Ctx} {ds:List DV} {vs:List Value} (h:j1q ds=some vs) {cargs:Array Value} (hl:cargs.size=(ds.map AV.c).length) (ha:∀ (i:Nat) v a,cargs[i]?=some v→(ds.map AV.c)[i]?=some a→RepA D Γ v a):cargs=vs.toArray:=by
 obtain ⟨l1,l2⟩:=j1r h
 apply Array.ext
 · simp at hl ⊢;omega
 · intro i h1 h2
   simp at hl
   have hd:i<ds.length:=by omega
   obtain ⟨v,e1,e2⟩:=l2 i ds[i] (List.getElem?_eq_getElem hd)
   have:=ha i cargs[i] (.c ds[i]) (Array.getElem?_eq_getElem h1) (by simp [hd])
   generalize cargs[i]=u at this
   cases this with
   | c hr =>
    rw [q6j e2 hr]
    have h3:i<vs.length:=by omega
    rw [List.getElem?_eq_getElem h3] at e1
    simp at e1 ⊢
    exact e1.symm
theorem Kept.of_below {w w':World} (h:RowKit.Below w.heap.size w w'):Kept (fun _=>False) w w':=⟨fun b hb _=>h.block b hb,h.size,h.os,h.tape,h.output⟩
theorem Kept.of_drewN (w:World) (n:Nat):Kept (fun _=>False) w (w.drewN n):=⟨fun _ _ _=>rfl,Nat.le_refl _,rfl,rfl,rfl⟩
theorem z2h (hs:Stable B0 Gd) {f:Nat} {ds:List DV} {vs:List Value} {r:AV} (he:∀ cargs w,(callFunc f cargs).run P w=.ok (.enter f cargs) w) (hr:r.Data) (hv:j1q ds=some vs)
    (h:∀ (w:World),Gd w→B0≤w.heap.size→Calls P f vs.toArray w fun e w'=>∃ v,e=.returned v∧Kept (fun _=>False) w w'∧∀ ext,RepA D ⟨⟨fun _=>none,fun _ _=>none,ext⟩,[],w'⟩ v r):FnOk P D B0 Gd f (ds.map AV.c) r:=by
 refine ⟨he,hr,fun w ext cargs hg hB hx hl ha=>?_⟩
 rw [q0u hv hl ha]
 refine Calls.mono (h w hg hB) ?_
 rintro e w' ⟨v,rfl,hk,k⟩
 exact ⟨v,rfl,hs w _ (fun b hb=>hk.heap b (Nat.lt_of_lt_of_le hb hB) id) hk.size hg,hk,k ext⟩
end Gev
namespace Gev
open Go Go.Proofs
noncomputable abbrev PP:Program:=Tryz.prog
abbrev z5l:Nat:=4
abbrev z5u:Nat:=10
abbrev K9:Nat:=11
abbrev N7:Nat:=12
abbrev z2j:Nat:=13
abbrev z2k:Nat:=15
abbrev B7:Nat:=17
abbrev C9:Nat:=18
abbrev U1:Nat:=19
abbrev z5c:Nat:=20
abbrev y4b:Nat:=21
abbrev z5v:Nat:=22
abbrev y1l:Nat:=23
abbrev G3:Nat:=24
abbrev U8:Nat:=25
abbrev z0b:Nat:=26
abbrev D7:Nat:=28
abbrev M5:Nat:=30
abbrev N2:Nat:=32
abbrev y2m:Nat:=33
abbrev J2:Nat:=34
abbrev y2n:Nat:=36
abbrev y2k:Nat:=37
abbrev P0:Nat:=38
abbrev D1:Nat:=42
abbrev z0w:Nat:=43
abbrev O1:Nat:=46
abbrev C6:Nat:=47
abbrev z1u:Nat:=49
abbrev F1:Nat:=50
abbrev X3:Nat:=51
abbrev A1:Nat:=52
abbrev F8:Nat:=53
abbrev z4k:Nat:=54
abbrev A4:Nat:=55
abbrev y2p:Nat:=56
abbrev z1i:Nat:=57
abbrev F0:Nat:=58
abbrev K0:Nat:=59
abbrev V0:Nat:=62
abbrev z5d:Nat:=63
abbrev Y5:Nat:=64
abbrev y1j:Nat:=65
abbrev z0v:Nat:=66
abbrev z7b:Nat:=68
abbrev y4a:Nat:=69
abbrev K8:Nat:=70
abbrev Z6:Nat:=71
abbrev F5:Nat:=72
abbrev F_rational_both:Nat:=73
abbrev Z2:Nat:=75
abbrev G8:Nat:=77
abbrev z8v:Nat:=78
abbrev N9:Nat:=79
abbrev y1k:Nat:=80
abbrev z7m:Nat:=81
abbrev y0c:Nat:=82
abbrev z7a:Nat:=83
abbrev y2o:Nat:=84
abbrev F7:Nat:=85
abbrev z9v:Nat:=86
abbrev Z3:Nat:=87
abbrev G5:Nat:=88
abbrev z0a:Nat:=89
abbrev z5e:Nat:=90
abbrev H1:Nat:=91
abbrev D5:Nat:=92
abbrev y4w:Nat:=93
abbrev F_rational_frac_text:Nat:=95
abbrev G9:Nat:=96
abbrev z1t:Nat:=98
abbrev z2i:Nat:=99
abbrev I1:Nat:=100
abbrev M1:Nat:=101
abbrev z0o:Nat:=102
abbrev J4:Nat:=104
abbrev P9:Nat:=105
abbrev D4:Nat:=106
abbrev z7l:Nat:=107
abbrev H0:Nat:=108
abbrev z1v:Nat:=109
abbrev D8:Nat:=110
abbrev y2l:Nat:=111
abbrev z8w:Nat:=112
abbrev G0:Nat:=113
abbrev D9:Nat:=114
abbrev J5:Nat:=115
abbrev F6:Nat:=116
abbrev z3r:Nat:=118
abbrev z3d:Nat:=119
abbrev C4:Nat:=120
abbrev z2m:Nat:=121
abbrev z9s:Nat:=122
abbrev U7:Nat:=123
abbrev y2j:Nat:=124
abbrev z1j:Nat:=125
abbrev G4:Nat:=126
abbrev z9t:Nat:=127
abbrev U6:Nat:=128
abbrev P6:Nat:=129
abbrev Y6:Nat:=130
abbrev y7k:Nat:=131
abbrev P8:Nat:=132
abbrev C8:Nat:=133
abbrev X4:Nat:=134
abbrev P3:Nat:=135
abbrev N0:Nat:=136
abbrev z5m:Nat:=137
abbrev N1:Nat:=138
abbrev z2n:Nat:=139
abbrev y4t:Nat:=141
abbrev y4v:Nat:=142
abbrev X8:Nat:=143
abbrev U9:Nat:=144
abbrev O9:Nat:=145
abbrev C1:Nat:=146
abbrev z9u:Nat:=147
abbrev z7k:Nat:=148
abbrev z5w:Nat:=149
abbrev B5:Nat:=150
abbrev P7:Nat:=151
abbrev z9r:Nat:=152
abbrev K7:Nat:=153
abbrev y4u:Nat:=154
abbrev C3:Nat:=156
abbrev N8:Nat:=158
abbrev J1:Nat:=159
abbrev B4:Nat:=160
abbrev Z9:Nat:=161
abbrev B8:Nat:=162
abbrev X7:Nat:=163
abbrev z2o:Nat:=164
abbrev z1p:Nat:=165
abbrev z8u:Nat:=166
abbrev Z5:Nat:=167
abbrev B9:Nat:=172
abbrev z2l:Nat:=173
abbrev A3:Nat:=174
abbrev z5n:Nat:=176
abbrev A9:Nat:=182
abbrev z0u:Nat:=183
abbrev U5:Nat:=184
abbrev M9:Nat:=188
abbrev K2:Nat:=191
abbrev y0u:Nat:=200
abbrev z6k:Nat:=201
abbrev x0d:Nat:=218
abbrev y4c:Nat:=5
abbrev y0w:Nat:=22
abbrev x2r:Nat:=32
abbrev A6:Nat:=37
abbrev A5:Nat:=60
abbrev I9:Nat:=70
abbrev A0:Nat:=103
def thrL:List Nat:=[A1,A4,G0,C8,B4]
def newL:List Nat:=[z0b,z0w,O1,F1,F8,C1]
end Gev
namespace Gev
open Go Go.Proofs
noncomputable def DD:Tab:=⟨tiOf PP,q0x PP,fun f=>thrL.contains f,fun f=>newL.contains f⟩
theorem hTT:TabOk PP DD:=tabOk PP _ _
theorem hmm:PP.follows .mixedOrders=true:=by kernel_rfl
abbrev DV.i64 (n:Int):DV:=.int .i64 n
abbrev DV.u64 (n:Int):DV:=.int .u64 n
abbrev DV.u32 (n:Int):DV:=.int .u32 n
abbrev DV.u8 (n:Int):DV:=.int .u8 n
structure Env where
 B0:Nat
 Gd:World→Prop
 hs:Stable B0 Gd
abbrev Fn (E:Env) (f:Nat) (args:List AV) (r:AV):Prop:=FnOk PP DD E.B0 E.Gd f args r
abbrev Rn (E:Env) (f:Nat) (args:List AV) (objs:Objs) (r:AV) (objs':Objs):Prop:=RunOk PP DD E.B0 E.Gd f args objs r objs'
abbrev Lp (E:Env) (n f k:Nat) (st:St) (o:Out) (st':St):Prop:=y4x PP DD E.B0 E.Gd n (j8c PP f k) st o st'
def known (P:Program) (f:Nat):Bool:=match P.funcs[f]? with | some fn=>!(fn.name == "runtime.NumGoroutine") && !fn.body.isNone | none=>false
theorem K4 {P:Program} {f:Nat} (h:known P f=true) (cargs:Array Value) (w:World):(callFunc f cargs).run P w=.ok (.enter f cargs) w:=by
 unfold known at h
 cases hf:P.funcs[f]? with
 | none=>rw [hf] at h;cases h
 | some fn =>
  rw [hf] at h
  simp only [Bool.and_eq_true,Bool.not_eq_true'] at h
  exact enters_of hf h.1 h.2 cargs w
mutual
def AV.isData:AV→Bool
 | .c _ | .undef | .agg _ | .fn _ []=>true
 | .mv _ ds=>AV.areData ds
 | .tup vs=>AV.areData vs
 | _=>false
def AV.areData:List AV→Bool
 | []=>true
 | v::vs=>v.isData && AV.areData vs
end
mutual
theorem AV.isData_ok:∀ {v:AV},v.isData=true→v.Data
 | .c _,_=>.c _
 | .undef,_=>.undef
 | .agg _,_=>.agg _
 | .fn _ [],_=>.fn _
 | .fn _ (_::_),h=>by simp [AV.isData] at h
 | .mv f ds,h=>.mv f ds (AV.areData_ok (by simpa [AV.isData] using h))
 | .tup vs,h=>.tup vs (AV.areData_ok (by simpa [AV.isData] using h))
 | .nils,h=>by simp [AV.isData] at h
 | .ptr _ _,h=>by simp [AV.isData] at h
 | .eptr _,h=>by simp [AV.isData] at h
 | .vptr _ _ _,h=>by simp [AV.isData] at h
 | .vec _ _,h=>by simp [AV.isData] at h
 | .frow _,h=>by simp [AV.isData] at h
 | .frp _,h=>by simp [AV.isData] at h
theorem AV.areData_ok:∀ {vs:List AV},AV.areData vs=true→∀ (i:Nat) v,vs[i]?=some v→v.Data
 | [],_,i,v,h=>by simp at h
 | x::xs,h,i,v,hv=>by
  simp only [AV.areData,Bool.and_eq_true] at h
  cases i with
  | zero=>simp at hv;subst hv;exact AV.isData_ok h.1
  | succ i=>exact AV.areData_ok h.2 i v (by simpa using hv)
end
theorem aO {p:Prop} (h:p):All [p]:=h
theorem beT {α:Type} [BEq α] [LawfulBEq α] {a b:α} (h:a=b):(a == b)=true:=by simp [h]
theorem beF {α:Type} [BEq α] [LawfulBEq α] {a b:α} (h:¬ a=b):(a == b)=false:=by simp [h]
theorem bnT {α:Type} [BEq α] [LawfulBEq α] {a b:α} (h:¬ a=b):(a != b)=true:=by simp [h]
theorem bnF {α:Type} [BEq α] [LawfulBEq α] {a b:α} (h:a=b):(a != b)=false:=by simp [h]
theorem bsize (a:ByteArray):a.data.toList.length=a.size:=Array.length_toList
theorem k2y (a:ByteArray):∀ (n i:Nat) (r:List UInt8),i+n=a.size→ByteArray.toList.loop a i r=r.reverse++a.data.toList.drop i
 | 0,i,r,h=>by
  unfold ByteArray.toList.loop
  rw [if_neg (by omega),List.drop_eq_nil_of_le (by rw [bsize];omega),List.append_nil]
 | n+1,i,r,h=>by
  unfold ByteArray.toList.loop
  have hi:i<a.data.toList.length:=by rw [bsize];omega
  have hj:i<a.data.size:=by rw [← Array.length_toList];exact hi
  rw [if_pos (by omega),k2y a n (i+1) _ (by omega),List.drop_eq_getElem_cons hi]
  have e:a.get! i=a.data.toList[i]:=by
   cases a with
   | mk d=>show d[i]! = d.toList[i];rw [getElem!_pos d i hj,Array.getElem_toList]
  rw [e];simp
theorem toList_eq (a:ByteArray):a.toList=a.data.toList:=by
 unfold ByteArray.toList
 rw [k2y a a.size 0 [] (by omega)];simp
theorem bytes_ext {a b:ByteArray} (h:a.toList=b.toList):a=b:=by
 rw [toList_eq,toList_eq] at h
 cases a;cases b;simp at h;simp [h]
theorem seT {a b:ByteArray} (h:a=b):(a.toList == b.toList)=true:=by simp [h]
theorem seF {a b:ByteArray} (h:¬ a=b):(a.toList == b.toList)=false:=by
 rw [beq_eq_false_iff_ne];exact fun e=>h (bytes_ext e)
theorem snT {a b:ByteArray} (h:¬ a=b):(!(a.toList == b.toList))=true:=by rw [seF h];rfl
theorem snF {a b:ByteArray} (h:a=b):(!(a.toList == b.toList))=false:=by rw [seT h];rfl
section
variable {E:Env}
theorem fnMk {f:Nat} {args:List AV} {r:AV} (os:List Orc) {ps:List Prop} (hk:known PP f=true) (hr:r.isData=true) (hp:All ps) (h:x8n DD (sem PP DD E.B0 E.Gd) PP false f args [] os=some ((r,[]),[],ps)):Fn E f args r :=
 fn_mk hTT E.hs hmm os (K4 hk) (AV.isData_ok hr) hp h
theorem rnMk {f:Nat} {args:List AV} {objs objs':Objs} {r:AV} (os:List Orc) {ps:List Prop} (hk:known PP f=true) (hp:All ps) (h:x8n DD (sem PP DD E.B0 E.Gd) PP (DD.thr f || (DD.new f && objs.isEmpty)) f args objs os=some ((r,objs'),[],ps)):Rn E f args objs r objs' :=
 run_mk hTT E.hs hmm os (K4 hk) hp h
theorem lpOn {n f k:Nat} {st st':St} {o:Out} (st2:St) (keep:List Nat) (os:List Orc) {ps:List Prop} (hp:All ps) (h:round DD (sem PP DD E.B0 E.Gd) (j8c PP f k) n keep st os=some (.norm,st2,ps)) (hr:Lp E n f k st2 o st'):Lp E n f k st o st' :=
 v1h hTT E.hs hmm st2 keep os ps h hp hr
theorem lpOff {n f k:Nat} {st st':St} {o:Out} (keep:List Nat) (os:List Orc) {ps:List Prop} (hp:All ps) (h:round DD (sem PP DD E.B0 E.Gd) (j8c PP f k) n keep st os=some (o,st',ps)) (ho:o≠.norm):Lp E n f k st o st' :=
 q7d hTT E.hs hmm keep os ps h ho hp
end
abbrev RW:=List (List DV)
abbrev BA:=ByteArray
abbrev DV.i (n:Int):DV:=.int .i64 n
abbrev DV.w (n:Int):DV:=.int .u32 n
abbrev DV.l (x:RW):DV:=.list x
abbrev DV.s (x:BA):DV:=.str x
abbrev DV.b (x:Bool):DV:=.bool x
abbrev AV.i (n:Int):AV:=.c (.int .i64 n)
abbrev AV.w (n:Int):AV:=.c (.int .u32 n)
abbrev AV.l (x:RW):AV:=.c (.list x)
abbrev AV.s (x:BA):AV:=.c (.str x)
abbrev AV.b (x:Bool):AV:=.c (.bool x)
abbrev AV.q (x:Bool) (y z:RW):AV:=.agg [.bool x,.list y,.list z]
abbrev AV.z (x:Bool) (y:RW):AV:=.agg [.bool x,.list y]
abbrev sC (l:List AV):Option Ob:=some (.cells l)
abbrev sF (l:RW):Option Ob:=some (.fro l)
abbrev sV (t:Nat) (l:RW):Option Ob:=some (.vec t l)
def k6l:Nat→List AV→List Nat
 | _,[]=>[]
 | i,.undef::vs=>k6l (i+1) vs
 | i,_::vs=>i::k6l (i+1) vs
def St.live (s:St):List Nat:=k6l 0 s.slots
def Owe (_:List Orc) (ps:List Prop):Prop:=All ps
theorem all_cons {p:Prop} {ps:List Prop} (h:p) (k:All ps):All (p::ps):=match ps,k with
 | [],_=>h
 | _::_,k=>⟨h,k⟩
section
variable {E:Env} {os:List Orc} {ps:List Prop}
theorem oZ:Owe [] []:=trivial
theorem oP {p:Prop} (h:p) (k:Owe os ps):Owe os (p::ps):=all_cons h k
theorem oK (k:Owe os ps):Owe (.keep::os) ps:=k
theorem oO (o:Orc) (k:Owe os ps):Owe (o::os) ps:=k
theorem oI (l:Nat) {xs:List RW} {i:Nat} {x:RW} (h:xs[i]?=some x) (k:Owe os ps):Owe (.ln l i x::os) ((xs[i]?=some x)::ps):=all_cons h k
theorem oQ {f n t:Nat} {a:List AV} {xs:List RW} (h:Rn E f a [] (.vec 0 n) [some (.mat t xs [])]) (k:Owe os ps):Owe (.nm n t xs::os) (Rn E f a [] (.vec 0 n) [some (.mat t xs [])]::ps):=all_cons h k
theorem oT {p:Prop} [Decidable p] (h:p) (k:Owe os ps):Owe (.t true::os) ((decide p=true)::ps):=all_cons (decide_eq_true h) k
theorem oU {p:Prop} [Decidable p] (h:¬ p) (k:Owe os ps):Owe (.t false::os) ((decide p=false)::ps):=all_cons (decide_eq_false h) k
theorem oB {b:Bool} (h:b=true) (k:Owe os ps):Owe (.t true::os) ((b=true)::ps):=all_cons h k
theorem oC {b:Bool} (h:b=false) (k:Owe os ps):Owe (.t false::os) ((b=false)::ps):=all_cons h k
theorem oD {xs:RW} {i:Nat} {cs:List DV} (h:xs[i]?=some cs) (k:Owe os ps):Owe (.d cs::os) ((xs[i]?=some cs)::ps):=all_cons h k
theorem oF {f:Nat} {a:List AV} {r:AV} (h:Fn E f a r) (k:Owe os ps):Owe (.v r::os) (Fn E f a r::ps):=all_cons h k
theorem oR {f:Nat} {a:List AV} {r:AV} {x:Objs} (h:Rn E f a x r x) (k:Owe os ps):Owe (.vr r::os) (Rn E f a x r x::ps):=all_cons h k
theorem oV {f:Nat} {a:List AV} {r:AV} {x y:Objs} (h:Rn E f a x r y) (k:Owe os ps):Owe (.vt r y::os) (Rn E f a x r y::ps):=all_cons h k
theorem oJ (l:Nat) {f:Nat} {a:List AV} {r:AV} {x:Option Ob} {y:Ob} (h:Rn E f a [x] r [some y]) (k:Owe os ps):Owe (.vl l r y::os) (Rn E f a [x] r [some y]::ps):=all_cons h k
theorem oN {f n t:Nat} {a:List AV} {xs:RW} (h:Rn E f a [] (.vec 0 n) [some (.vec t xs)]) (k:Owe os ps):Owe (.nw n t xs::os) (Rn E f a [] (.vec 0 n) [some (.vec t xs)]::ps):=all_cons h k
theorem oW {f t:Nat} {a:List AV} {w:AV} {xs:RW} (h:Rn E f a [] w [some (.vec t xs)]) (k:Owe os ps):Owe (.nv w t xs::os) (Rn E f a [] w [some (.vec t xs)]::ps):=all_cons h k
theorem oM (g:List (Nat × Nat)) {n f b:Nat} {s s':St} {o:Out} (h:Lp E n f b s o s') (k:Owe os ps):Owe (.loop s.live g o s'::os) (Lp E n f b s o s'::ps):=all_cons h k
theorem oL {n f b:Nat} {s s':St} {o:Out} (h:Lp E n f b s o s') (k:Owe os ps):Owe (.loop s.live [] o s'::os) (Lp E n f b s o s'::ps):=all_cons h k
theorem fnM {f:Nat} {args:List AV} {r:AV} (hp:Owe os ps) (h:x8n DD (sem PP DD E.B0 E.Gd) PP false f args [] os=some ((r,[]),[],ps):=by kernel_rfl) (hk:known PP f=true:=by kernel_rfl) (hr:r.isData=true:=by kernel_rfl):Fn E f args r:=fnMk os hk hr hp h
theorem rnM {f:Nat} {args:List AV} {objs objs':Objs} {r:AV} (hp:Owe os ps) (h:x8n DD (sem PP DD E.B0 E.Gd) PP (DD.thr f || (DD.new f && objs.isEmpty)) f args objs os=some ((r,objs'),[],ps):=by kernel_rfl) (hk:known PP f=true:=by kernel_rfl):Rn E f args objs r objs':=rnMk os hk hp h
theorem lpM {n f k:Nat} {st st2 st':St} {o:Out} (hp:Owe os ps) (hr:Lp E n f k st2 o st') (h:round DD (sem PP DD E.B0 E.Gd) (j8c PP f k) n st2.live st os=some (.norm,st2,ps):=by kernel_rfl):Lp E n f k st o st':=lpOn st2 st2.live os hp h hr
theorem lpX {n f k:Nat} {st st':St} {o:Out} (hp:Owe os ps) (h:round DD (sem PP DD E.B0 E.Gd) (j8c PP f k) n st'.live st os=some (o,st',ps):=by kernel_rfl) (ho:o≠.norm:=by simp):Lp E n f k st o st':=lpOff st'.live os hp h ho
end
end Gev
namespace Gev
open Go Go.Proofs
variable {E:Env}
variable {i0 i1:Int}
section
variable (h1:Fn E y0u [.i i0] (.b false))
include h1
section
variable (h2:Fn E y0u [.i i1] (.b false))
include h2
theorem x7r (h3:i0<i1):Fn E z0u [.i i0,.i i1] (.i (-1)):=fnM (oF h1 (oF h2 (oT h3 oZ)))
theorem x7s (h3:¬ i0<i1)(h4:i0>i1):Fn E z0u [.i i0,.i i1] (.i 1):=fnM (oF h1 (oF h2 (oU h3 (oT h4 oZ))))
theorem x7t (h3:¬ i0<i1)(h4:¬ i0>i1):Fn E z0u [.i i0,.i i1] (.i 0):=fnM (oF h1 (oF h2 (oU h3 (oU h4 oZ))))
end
end
section
variable (h1:Fn E z6k [.w i0] (.b false))
include h1
section
variable (h2:Fn E z6k [.w i1] (.b false))
include h2
theorem x0f (h3:i0<i1):Fn E U5 [.w i0,.w i1] (.i (-1)):=fnM (oF h1 (oF h2 (oT h3 oZ)))
theorem x0g (h3:¬ i0<i1)(h4:i0>i1):Fn E U5 [.w i0,.w i1] (.i 1):=fnM (oF h1 (oF h2 (oU h3 (oT h4 oZ))))
theorem x0h (h3:¬ i0<i1)(h4:¬ i0>i1):Fn E U5 [.w i0,.w i1] (.i 0):=fnM (oF h1 (oF h2 (oU h3 (oU h4 oZ))))
end
end
theorem y9a (h1:i0=i0):Fn E y0u [.i i0] (.b false):=fnM (oC (bnF h1) oZ)
theorem y2r (h1:i0=i0):Fn E z6k [.w i0] (.b false):=fnM (oC (bnF h1) oZ)
end Gev
namespace Gev
open Go Go.Proofs
variable {E:Env}
variable {o:Out} {t:St} {r0 r1 r2 r3 r4 r5 r6 r7 r8 r9 r10 r11 r13 r15 r17 r18 r19 r20:RW} {i0 i1 i2 i3 i4 i5 i6 i7 i8 i9 i10 i11 i12 i13 i14 i15 i16 i17 i18 i19 i20 i21 i22 i23 i24 i25 i26 i27 i28 i29 i30 i31:Int} {s0 s1 s2 s3:BA} {n0 n1 n2 n3 n4 n5 n6 n7 n8 n9 n10:Nat} {b0 b1 b2:Bool}
theorem k7j (h1:Fn E C4 [.s s0] (.b true))(h2:Fn E C4 [.s s1] (.b true))(h3:Fn E N8 [.s s0] (.l r0))(h4:Fn E N8 [.s s1] (.l r1)):Fn E U9 [.s s0,.s s1] (.tup [.l r0,.l r1,.i 0]):=fnM (oF h1 (oF h2 (oF h3 (oF h4 oZ))))
theorem j0e (h1:Fn E U9 [.s s0,.s s1] (.tup [.l r0,.l r1,.i i0]))(h2:i0=0)(h3:Fn E O9 [.mv C1 [.l r0],.l r1] (.tup [.s s2,.i i1])):Fn E z1j [.s s0,.s s1] (.tup [.s s2,.i i1]):=fnM (oF h1 (oC (bnF h2) (oF h3 oZ)))
def I8 (s0:BA) (i0 i1:Int):St:=stOf 32 [(0,.s s0),(17,.i i0),(18,.i i1)] []
def z0f:St:=stOf 32 [(2,.b false)] []
def z2w:St:=stOf 32 [] []
section
variable (e1:((s0.data.toList.getD (Int.toNat i1) 0).toNat:Int)=i2)
include e1
theorem y1i (e2:IntKind.i64.wrap (i1+1)=i3)(h1:i1<i0)(h2:0≤i1∧i1<s0.size)(h3:¬ i2<48)(h4:¬ i2>57)(ih:Lp E 0 C4 0 (I8 s0 i0 i3) o t):Lp E 0 C4 0 (I8 s0 i0 i1) o t:=by subst e1 e2;exact lpM (oT h1 (oP h2 (oU h3 (oP h2 (oU h4 oZ))))) ih
section
variable (h1:i1<i0)(h2:0≤i1∧i1<s0.size)
include h1 h2
theorem y9q (h3:i2<48):Lp E 0 C4 0 (I8 s0 i0 i1) .ret (z0f):=by subst e1;exact lpX (oT h1 (oP h2 (oT h3 oZ)))
theorem y9r (h3:¬ i2<48)(h4:i2>57):Lp E 0 C4 0 (I8 s0 i0 i1) .ret (z0f):=by subst e1;exact lpX (oT h1 (oP h2 (oU h3 (oP h2 (oT h4 oZ)))))
end
end
theorem y9s (h1:¬ i1<i0):Lp E 0 C4 0 (I8 s0 i0 i1) (.exit 0) (z2w):=lpX (oU h1 oZ)
theorem k3g (h1:s0=(⟨#[]⟩:BA)):Fn E C4 [.s s0] (.b false):=fnM (oB (seT h1) oZ)
section
variable (e1:((s0.data.toList.getD 0 0).toNat:Int)=i0)(h1:¬ s0=(⟨#[]⟩:BA))(h2:(s0.size:Int)>1)(h3:0≤(0:Int)∧(0:Int)<s0.size)
include e1 h1 h2 h3
theorem k3h (h4:i0=48):Fn E C4 [.s s0] (.b false):=by subst e1;exact fnM (oC (seF h1) (oT h2 (oP h3 (oB (beT h4) oZ))))
theorem k3i (h4:¬ i0=48)(h5:Lp E 0 C4 0 (I8 s0 (s0.size:Int) 0) .ret (z0f)):Fn E C4 [.s s0] (.b false):=by subst e1;exact fnM (oC (seF h1) (oT h2 (oP h3 (oC (beF h4) (oL h5 oZ)))))
theorem k3j (h4:¬ i0=48)(h5:Lp E 0 C4 0 (I8 s0 (s0.size:Int) 0) (.exit 0) (z2w)):Fn E C4 [.s s0] (.b true):=by subst e1;exact fnM (oC (seF h1) (oT h2 (oP h3 (oC (beF h4) (oL h5 oZ)))))
end
section
variable (h1:¬ s0=(⟨#[]⟩:BA))(h2:¬ (s0.size:Int)>1)
include h1 h2
theorem k3k (h3:Lp E 0 C4 0 (I8 s0 (s0.size:Int) 0) .ret (z0f)):Fn E C4 [.s s0] (.b false):=fnM (oC (seF h1) (oU h2 (oL h3 oZ)))
theorem k3l (h3:Lp E 0 C4 0 (I8 s0 (s0.size:Int) 0) (.exit 0) (z2w)):Fn E C4 [.s s0] (.b true):=fnM (oC (seF h1) (oU h2 (oL h3 oZ)))
end
def z3h (s0:BA) (n0:Nat) (r0:RW):St:=stOf 31 [(0,.s s0),(3,.vec 0 n0)] [sV A0 r0]
def z8a (n1:Nat) (r1:RW):St:=stOf 31 [(3,.vec 0 n1)] [sV A0 r1]
theorem x6e (e1:IntKind.i64.wrap ((s0.size:Int)-9)=i0)(e2:(if 0>i0 then 0 else i0)=i1)(e3:s0.extract (Int.toNat i1) (Int.toNat (s0.size:Int))=s1)(e4:IntKind.u32.wrap i2=i3)(e5:(r0.take n0)++[[.w i3]]=r2)(e6:n0+1=n2)(e7:s0.extract 0 (Int.toNat i1)=s2)(h1:(s0.size:Int)>0)(h2:0≤i1∧i1≤(s0.size:Int)∧(s0.size:Int)≤s0.size)(h3:Fn E z5n [.s s1,.i 10,.i 32] (.tup [.c (.u64 i2),.undef]))(h4:(n0+1)*4≤140737488355328∧n0+1≤140737488355328)(h5:0≤(0:Int)∧(0:Int)≤i1∧i1≤s0.size)(ih:Lp E 0 N8 0 (z3h s2 n2 r2) o t):Lp E 0 N8 0 (z3h s0 n0 r0) o t:=by subst e1 e2 e3 e4 e5 e6 e7;exact lpM (oT h1 (oP h2 (oF h3 (oP (show ∀ y∈([[.w (IntKind.u32.wrap i2)]]:RW),y.length=1 from by simp) (oP h4 (oP h5 oZ)))))) ih
theorem x1o (h1:¬ (s0.size:Int)>0):Lp E 0 N8 0 (z3h s0 n0 r0) (.exit 0) (z8a n0 r0):=lpX (oU h1 oZ)
theorem k7k (e1:(r0.take n1)=r1)(h1:Lp E 0 N8 0 (z3h s0 0 []) (.exit 0) (z8a n0 r0))(h2:Rn E B4 [.vec 0 n0] [sV A0 r0] (.vec 0 n1) [sV A0 r0]):Fn E N8 [.s s0] (.l r1):=by subst e1;exact fnM (oM [(3,A0)] h1 (oR h2 oZ))
theorem z6s (h1:Fn E C1 [.l r0,.l r1] (.l r2))(h2:Fn E J1 [.l r2] (.s s0)):Fn E O9 [.mv C1 [.l r0],.l r1] (.tup [.s s0,.i 0]):=fnM (oF h1 (oF h2 oZ))
theorem k0y (h1:Fn E U9 [.s s0,.s s1] (.tup [.l r0,.l r1,.i i0]))(h2:i0=0)(h3:¬ (r1.length:Int)=0)(h4:Fn E A3 [.l r0,.l r1] (.tup [.l r2,.l r3]))(h5:Fn E J1 [.l r2] (.s s2))(h6:Fn E J1 [.l r3] (.s s3)):Fn E Z5 [.s s0,.s s1] (.tup [.s s2,.s s3,.i 0]):=fnM (oF h1 (oC (bnF h2) (oC (beF h3) (oF h4 (oF h5 (oF h6 oZ))))))
def O8 (n0:Nat) (r0:RW):St:=stOf 21 [(0,.vec 0 n0)] [sV A0 r0]
def z0n (r0:RW) (n1:Nat):St:=stOf 21 [(0,.vec 0 n1)] [sV A0 r0]
section
variable (e1:IntKind.i64.wrap (((n0:Nat):Int)-1)=i0)
include e1
theorem y8l (e2:(Int.toNat i0)=n2)(h1:((n0:Nat):Int)>0)(h2:0≤i0∧i0<((n0:Nat):Int))(h3:r0[(Int.toNat i0)]?=some [.w i1])(h4:i1=0)(h5:0≤i0∧i0≤((n0:Nat):Int))(ih:Lp E 1 B4 0 (O8 n2 r0) o t):Lp E 1 B4 0 (O8 n0 r0) o t:=by subst e1 e2;exact lpM (oT h1 (oP h2 (oD h3 (oB (beT h4) (oP h5 oZ))))) ih
theorem y5l (h1:((n0:Nat):Int)>0)(h2:0≤i0∧i0<((n0:Nat):Int))(h3:r0[(Int.toNat i0)]?=some [.w i1])(h4:¬ i1=0):Lp E 1 B4 0 (O8 n0 r0) (.exit 0) (z0n r0 n0):=by subst e1;exact lpX (oT h1 (oP h2 (oD h3 (oC (beF h4) oZ))))
end
theorem y5m (h1:¬ ((n0:Nat):Int)>0):Lp E 1 B4 0 (O8 n0 r0) (.exit 0) (z0n r0 n0):=lpX (oU h1 oZ)
theorem x6d (h1:Lp E 1 B4 0 (O8 n0 r0) (.exit 0) (z0n r0 n1)):Rn E B4 [.vec 0 n0] [sV A0 r0] (.vec 0 n1) [sV A0 r0]:=rnM (oL h1 oZ)
def V5 (r0:RW) (n0:Nat) (i0 i1 i2:Int) (r1:RW) (i3 i4:Int) (r2:RW) (i5 i6:Int) (r3:RW):St:=stOf 68 [(1,.l r0),(5,.vec 0 n0),(6,.i i0),(7,.w i1),(8,.c (.u64 i2)),(17,.l r1),(18,.i i3),(19,.i i4),(24,.l r2),(25,.i i5),(26,.i i6)] [sV A0 r3]
def z2y (r0:RW) (n0:Nat) (i0:Int) (r1:RW) (i3 i4 i7:Int) (r4:RW):St:=stOf 68 [(1,.l r0),(5,.vec 0 n0),(6,.i i0),(8,.c (.u64 i7)),(17,.l r1),(18,.i i3),(19,.i i4)] [sV A0 r4]
theorem y6u (e1:IntKind.u64.wrap i1=i9)(e2:IntKind.u64.wrap i8=i10)(e3:IntKind.u64.wrap (i9*i10)=i11)(e4:IntKind.i64.wrap (i0+i6)=i12)(e5:IntKind.u64.wrap i13=i14)(e6:IntKind.u64.wrap (i11+i14)=i15)(e7:IntKind.u64.wrap (i2+i15)=i16)(e8:Int.tmod i16 1000000000=i17)(e9:IntKind.u32.wrap i17=i18)(e10:List.set r3 (Int.toNat i12) [.w i18]=r5)(e11:IntKind.u64.wrap (Int.tdiv i16 1000000000)=i19)(e12:IntKind.i64.wrap (i6+1)=i20)(h1:i6<i5)(h2:0≤i6)(h3:r2[(Int.toNat i6)]?=some [.w i8])(h4:0≤i12∧i12<((n0:Nat):Int))(h5:r3[(Int.toNat i12)]?=some [.w i13])(ih:Lp E 1 C1 1 (V5 r0 n0 i0 i1 i19 r1 i3 i4 r2 i5 i20 r5) o t):Lp E 1 C1 1 (V5 r0 n0 i0 i1 i2 r1 i3 i4 r2 i5 i6 r3) o t:=by subst e1 e2 e3 e4 e5 e6 e7 e8 e9 e10 e11 e12;exact lpM (oT h1 (oP h2 (oD h3 (oP h4 (oD h5 (oP (show (1000000000:Int)≠0 from by decide) (oP h4 (oD h5 (oP (show (1000000000:Int)≠0 from by decide) oZ))))))))) ih
theorem y3x (h1:¬ i6<i5):Lp E 1 C1 1 (V5 r0 n0 i0 i1 i2 r1 i3 i4 r2 i5 i6 r3) (.exit 2) (z2y r0 n0 i0 r1 i3 i4 i2 r3):=lpX (oU h1 oZ)
def V4 (r0:RW) (n0:Nat) (r1:RW) (i0 i1:Int) (r2:RW):St:=stOf 68 [(1,.l r0),(5,.vec 0 n0),(17,.l r1),(18,.i i0),(19,.i i1)] [sV A0 r2]
def z2x (n0:Nat) (r3:RW):St:=stOf 68 [(5,.vec 0 n0)] [sV A0 r3]
theorem y6t (e1:IntKind.i64.wrap (i1+(r0.length:Int))=i4)(e2:IntKind.u32.wrap i3=i5)(e3:List.set r4 (Int.toNat i4) [.w i5]=r5)(e4:IntKind.i64.wrap (i1+1)=i7)(h1:i1<i0)(h2:0≤i1)(h3:r1[(Int.toNat i1)]?=some [.w i2])(h4:Lp E 1 C1 1 (V5 r0 n0 i1 i2 0 r1 i0 i1 r0 (r0.length:Int) 0 r2) (.exit 2) (z2y r0 n0 i1 r1 i0 i1 i3 r4))(h5:0≤i4∧i4<((n0:Nat):Int))(h6:r4[(Int.toNat i4)]?=some [.w i6])(ih:Lp E 1 C1 0 (V4 r0 n0 r1 i0 i7 r5) o t):Lp E 1 C1 0 (V4 r0 n0 r1 i0 i1 r2) o t:=by subst e1 e2 e3 e4;exact lpM (oT h1 (oP h2 (oD h3 (oL h4 (oP h5 (oD h6 oZ)))))) ih
theorem y3w (h1:¬ i1<i0):Lp E 1 C1 0 (V4 r0 n0 r1 i0 i1 r2) (.exit 0) (z2x n0 r2):=lpX (oU h1 oZ)
theorem x4a (e1:IntKind.i64.wrap ((r0.length:Int)+(r1.length:Int))=i0)(e2:Int.toNat i0=n0)(e3:List.replicate n0 [.w 0]=r2)(h1:0≤i0∧i0≤i0∧(Int.toNat i0)*4≤140737488355328∧(Int.toNat i0)≤140737488355328)(h2:Lp E 1 C1 0 (V4 r1 n0 r0 (r0.length:Int) 0 r2) (.exit 0) (z2x n0 r3))(h3:Rn E B4 [.vec 0 n0] [sV A0 r3] (.vec 0 n1) [sV A0 r3]):Rn E C1 [.l r0,.l r1] [] (.vec 0 n1) [sV A0 r3]:=by subst e1 e2 e3;exact rnM (oP h1 (oL h2 (oR h3 oZ)))
theorem j0d (h1:Fn E U9 [.s s0,.s s1] (.tup [.l r0,.l r1,.i i0]))(h2:i0=0)(h3:Fn E O9 [.mv C3 [.l r0],.l r1] (.tup [.s s2,.i i1])):Fn E y4v [.s s0,.s s1] (.tup [.s s2,.i i1]):=fnM (oF h1 (oC (bnF h2) (oF h3 oZ)))
def F2 (r0:RW) (n0 n1:Nat) (i0:Int) (n2:Nat) (i1 i2 i3:Int) (r1 r2 r3 r4:RW):St:=stOf 299 [(10,.l r0),(11,.vec 2 n0),(12,.vec 3 n1),(13,.i i0),(14,.vec 4 n2),(15,.i i1),(17,.c (.u64 i2)),(18,.c (.u64 i3))] [some .dead,sV A0 r1,sV A0 r2,sV A0 r3,sV A0 r4]
def H8 (r0:RW) (n0 n1:Nat) (i0:Int) (n2:Nat) (i1:Int) (r1 r2 r3 r4:RW) (i4:Int):St:=stOf 299 [(10,.l r0),(11,.vec 2 n0),(12,.vec 3 n1),(13,.i i0),(14,.vec 4 n2),(15,.i i1),(17,.c (.u64 i4))] [some .dead,sV A0 r1,sV A0 r2,sV A0 r3,sV A0 r4]
theorem y3r (e1:IntKind.u64.wrap (i2-1)=i5)(e2:IntKind.i64.wrap (i0-1)=i6)(e3:IntKind.u64.wrap i7=i8)(e4:IntKind.u64.wrap (i3+i8)=i9)(h1:i2≥1000000000)(h2:0≤i6∧i6<((n1:Nat):Int))(h3:r3[(Int.toNat i6)]?=some [.w i7])(h4:¬ i9≥1000000000)(ih:Lp E 5 A3 1 (F2 r0 n0 n1 i0 n2 i1 i5 i9 r1 r2 r3 r4) o t):Lp E 5 A3 1 (F2 r0 n0 n1 i0 n2 i1 i2 i3 r1 r2 r3 r4) o t:=by subst e1 e2 e3 e4;exact lpM (oT h1 (oP h2 (oD h3 (oU h4 oZ)))) ih
theorem y3s (e1:IntKind.i64.wrap (i0-2)=i5)(e2:IntKind.u64.wrap i6=i7)(e3:IntKind.u64.wrap (i2*i7)=i8)(e4:IntKind.u64.wrap (i3*1000000000)=i9)(e5:IntKind.i64.wrap (i1+i0)=i10)(e6:IntKind.i64.wrap (i10-2)=i11)(e7:IntKind.u64.wrap i12=i13)(e8:IntKind.u64.wrap (i9+i13)=i14)(e9:IntKind.u64.wrap (i2-1)=i15)(e10:IntKind.i64.wrap (i0-1)=i16)(e11:IntKind.u64.wrap i17=i18)(e12:IntKind.u64.wrap (i3+i18)=i19)(h1:¬ i2≥1000000000)(h2:0≤i5∧i5<((n1:Nat):Int))(h3:r3[(Int.toNat i5)]?=some [.w i6])(h4:0≤i11∧i11<((n0:Nat):Int))(h5:r2[(Int.toNat i11)]?=some [.w i12])(h6:i8>i14)(h7:0≤i16∧i16<((n1:Nat):Int))(h8:r3[(Int.toNat i16)]?=some [.w i17])(h9:¬ i19≥1000000000)(ih:Lp E 5 A3 1 (F2 r0 n0 n1 i0 n2 i1 i15 i19 r1 r2 r3 r4) o t):Lp E 5 A3 1 (F2 r0 n0 n1 i0 n2 i1 i2 i3 r1 r2 r3 r4) o t:=by subst e1 e2 e3 e4 e5 e6 e7 e8 e9 e10 e11 e12;exact lpM (oU h1 (oP h2 (oD h3 (oP h4 (oD h5 (oT h6 (oP h7 (oD h8 (oU h9 oZ))))))))) ih
theorem y1s (e1:IntKind.u64.wrap (i2-1)=i5)(e2:IntKind.i64.wrap (i0-1)=i6)(e3:IntKind.u64.wrap i7=i8)(e4:IntKind.u64.wrap (i3+i8)=i9)(h1:i2≥1000000000)(h2:0≤i6∧i6<((n1:Nat):Int))(h3:r3[(Int.toNat i6)]?=some [.w i7])(h4:i9≥1000000000):Lp E 5 A3 1 (F2 r0 n0 n1 i0 n2 i1 i2 i3 r1 r2 r3 r4) (.exit 3) (H8 r0 n0 n1 i0 n2 i1 r1 r2 r3 r4 i5):=by subst e1 e2 e3 e4;exact lpX (oT h1 (oP h2 (oD h3 (oT h4 oZ))))
section
variable (e1:IntKind.i64.wrap (i0-2)=i5)(e2:IntKind.u64.wrap i6=i7)(e3:IntKind.u64.wrap (i2*i7)=i8)(e4:IntKind.u64.wrap (i3*1000000000)=i9)(e5:IntKind.i64.wrap (i1+i0)=i10)(e6:IntKind.i64.wrap (i10-2)=i11)(e7:IntKind.u64.wrap i12=i13)(e8:IntKind.u64.wrap (i9+i13)=i14)
include e1 e2 e3 e4 e5 e6 e7 e8
theorem y1t (e9:IntKind.u64.wrap (i2-1)=i15)(e10:IntKind.i64.wrap (i0-1)=i16)(e11:IntKind.u64.wrap i17=i18)(e12:IntKind.u64.wrap (i3+i18)=i19)(h1:¬ i2≥1000000000)(h2:0≤i5∧i5<((n1:Nat):Int))(h3:r3[(Int.toNat i5)]?=some [.w i6])(h4:0≤i11∧i11<((n0:Nat):Int))(h5:r2[(Int.toNat i11)]?=some [.w i12])(h6:i8>i14)(h7:0≤i16∧i16<((n1:Nat):Int))(h8:r3[(Int.toNat i16)]?=some [.w i17])(h9:i19≥1000000000):Lp E 5 A3 1 (F2 r0 n0 n1 i0 n2 i1 i2 i3 r1 r2 r3 r4) (.exit 3) (H8 r0 n0 n1 i0 n2 i1 r1 r2 r3 r4 i15):=by subst e1 e2 e3 e4 e5 e6 e7 e8 e9 e10 e11 e12;exact lpX (oU h1 (oP h2 (oD h3 (oP h4 (oD h5 (oT h6 (oP h7 (oD h8 (oT h9 oZ)))))))))
theorem y1u (h1:¬ i2≥1000000000)(h2:0≤i5∧i5<((n1:Nat):Int))(h3:r3[(Int.toNat i5)]?=some [.w i6])(h4:0≤i11∧i11<((n0:Nat):Int))(h5:r2[(Int.toNat i11)]?=some [.w i12])(h6:¬ i8>i14):Lp E 5 A3 1 (F2 r0 n0 n1 i0 n2 i1 i2 i3 r1 r2 r3 r4) (.exit 3) (H8 r0 n0 n1 i0 n2 i1 r1 r2 r3 r4 i2):=by subst e1 e2 e3 e4 e5 e6 e7 e8;exact lpX (oU h1 (oP h2 (oD h3 (oP h4 (oD h5 (oU h6 oZ))))))
end
def F3 (r0:RW) (n0 n1:Nat) (i0:Int) (n2:Nat) (i1 i2 i3 i4 i5 i6:Int) (r1 r2 r3 r4:RW):St:=stOf 299 [(10,.l r0),(11,.vec 2 n0),(12,.vec 3 n1),(13,.i i0),(14,.vec 4 n2),(15,.i i1),(17,.c (.u64 i2)),(19,.i i3),(20,.i i4),(180,.i i5),(181,.i i6)] [some .dead,sV A0 r1,sV A0 r2,sV A0 r3,sV A0 r4]
def M2 (r0:RW) (n0 n1:Nat) (i0:Int) (n2:Nat) (i1 i2:Int) (r1 r3 r4:RW) (i7 i8:Int) (r5:RW):St:=stOf 299 [(10,.l r0),(11,.vec 2 n0),(12,.vec 3 n1),(13,.i i0),(14,.vec 4 n2),(15,.i i1),(17,.c (.u64 i2)),(19,.i i7),(20,.i i8)] [some .dead,sV A0 r1,sV A0 r5,sV A0 r3,sV A0 r4]
section
variable (e1:IntKind.i64.wrap i2=i9)(e2:IntKind.i64.wrap i10=i11)(e3:IntKind.i64.wrap (i9*i11)=i12)(e4:IntKind.i64.wrap (i12+i3)=i13)(e5:IntKind.i64.wrap (Int.tdiv i13 1000000000)=i14)(e6:IntKind.i64.wrap (i6+i1)=i15)(e7:IntKind.i64.wrap i16=i17)(e8:Int.tmod i13 1000000000=i18)(e9:IntKind.i64.wrap (i17-i18)=i19)(e10:IntKind.i64.wrap (i19-i4)=i20)
include e1 e2 e3 e4 e5 e6 e7 e8 e9 e10
theorem y3t (e11:IntKind.i64.wrap (i20+1000000000)=i21)(e12:IntKind.u32.wrap i21=i22)(e13:List.set r2 (Int.toNat i15) [.w i22]=r6)(e14:IntKind.i64.wrap (i6+1)=i23)(h1:i6<i5)(h2:0≤i6∧i6<((n1:Nat):Int))(h3:r3[(Int.toNat i6)]?=some [.w i10])(h4:0≤i15∧i15<((n0:Nat):Int))(h5:r2[(Int.toNat i15)]?=some [.w i16])(h6:i20<0)(ih:Lp E 5 A3 2 (F3 r0 n0 n1 i0 n2 i1 i2 i14 1 i5 i23 r1 r6 r3 r4) o t):Lp E 5 A3 2 (F3 r0 n0 n1 i0 n2 i1 i2 i3 i4 i5 i6 r1 r2 r3 r4) o t:=by subst e1 e2 e3 e4 e5 e6 e7 e8 e9 e10 e11 e12 e13 e14;exact lpM (oT h1 (oP h2 (oD h3 (oP (show (1000000000:Int)≠0 from by decide) (oP h4 (oD h5 (oP (show (1000000000:Int)≠0 from by decide) (oT h6 (oP h4 (oD h5 oZ)))))))))) ih
theorem y3u (e11:IntKind.u32.wrap i20=i21)(e12:List.set r2 (Int.toNat i15) [.w i21]=r7)(e13:IntKind.i64.wrap (i6+1)=i24)(h1:i6<i5)(h2:0≤i6∧i6<((n1:Nat):Int))(h3:r3[(Int.toNat i6)]?=some [.w i10])(h4:0≤i15∧i15<((n0:Nat):Int))(h5:r2[(Int.toNat i15)]?=some [.w i16])(h6:¬ i20<0)(ih:Lp E 5 A3 2 (F3 r0 n0 n1 i0 n2 i1 i2 i14 0 i5 i24 r1 r7 r3 r4) o t):Lp E 5 A3 2 (F3 r0 n0 n1 i0 n2 i1 i2 i3 i4 i5 i6 r1 r2 r3 r4) o t:=by subst e1 e2 e3 e4 e5 e6 e7 e8 e9 e10 e11 e12 e13;exact lpM (oT h1 (oP h2 (oD h3 (oP (show (1000000000:Int)≠0 from by decide) (oP h4 (oD h5 (oP (show (1000000000:Int)≠0 from by decide) (oU h6 (oP h4 (oD h5 oZ)))))))))) ih
end
theorem y1v (h1:¬ i6<i5):Lp E 5 A3 2 (F3 r0 n0 n1 i0 n2 i1 i2 i3 i4 i5 i6 r1 r2 r3 r4) (.exit 5) (M2 r0 n0 n1 i0 n2 i1 i2 r1 r3 r4 i3 i4 r2):=lpX (oU h1 oZ)
def O5 (r0:RW) (n0 n1:Nat) (i0:Int) (n2:Nat) (i1 i2 i3 i4 i5 i6:Int) (r1 r2 r3 r4:RW):St:=stOf 299 [(10,.l r0),(11,.vec 2 n0),(12,.vec 3 n1),(13,.i i0),(14,.vec 4 n2),(15,.i i1),(17,.c (.u64 i2)),(24,.i i3),(25,.c (.u64 i4)),(235,.i i5),(236,.i i6)] [some .dead,sV A0 r1,sV A0 r2,sV A0 r3,sV A0 r4]
def z1o (r0:RW) (n0 n1:Nat) (i0:Int) (n2:Nat) (i1 i2 i3:Int) (r1 r3 r4:RW) (i7:Int) (r5:RW):St:=stOf 299 [(10,.l r0),(11,.vec 2 n0),(12,.vec 3 n1),(13,.i i0),(14,.vec 4 n2),(15,.i i1),(17,.c (.u64 i2)),(24,.i i3),(25,.c (.u64 i7))] [some .dead,sV A0 r1,sV A0 r5,sV A0 r3,sV A0 r4]
theorem y3v (e1:IntKind.i64.wrap (i6+i1)=i8)(e2:IntKind.u64.wrap i9=i10)(e3:IntKind.u64.wrap i11=i12)(e4:IntKind.u64.wrap (i10+i12)=i13)(e5:IntKind.u64.wrap (i4+i13)=i14)(e6:Int.tmod i14 1000000000=i15)(e7:IntKind.u32.wrap i15=i16)(e8:List.set r2 (Int.toNat i8) [.w i16]=r6)(e9:IntKind.u64.wrap (Int.tdiv i14 1000000000)=i17)(e10:IntKind.i64.wrap (i6+1)=i18)(h1:i6<i5)(h2:0≤i8∧i8<((n0:Nat):Int))(h3:r2[(Int.toNat i8)]?=some [.w i9])(h4:0≤i6∧i6<((n1:Nat):Int))(h5:r3[(Int.toNat i6)]?=some [.w i11])(ih:Lp E 5 A3 3 (O5 r0 n0 n1 i0 n2 i1 i2 i3 i17 i5 i18 r1 r6 r3 r4) o t):Lp E 5 A3 3 (O5 r0 n0 n1 i0 n2 i1 i2 i3 i4 i5 i6 r1 r2 r3 r4) o t:=by subst e1 e2 e3 e4 e5 e6 e7 e8 e9 e10;exact lpM (oT h1 (oP h2 (oD h3 (oP h4 (oD h5 (oP (show (1000000000:Int)≠0 from by decide) (oP h2 (oD h3 (oP (show (1000000000:Int)≠0 from by decide) oZ))))))))) ih
theorem y1w (h1:¬ i6<i5):Lp E 5 A3 3 (O5 r0 n0 n1 i0 n2 i1 i2 i3 i4 i5 i6 r1 r2 r3 r4) (.exit 7) (z1o r0 n0 n1 i0 n2 i1 i2 i3 r1 r3 r4 i4 r2):=lpX (oU h1 oZ)
def G1 (r0:RW) (n0 n1:Nat) (i0:Int) (n2:Nat) (i1:Int) (r1 r2 r3 r4:RW):St:=stOf 299 [(10,.l r0),(11,.vec 2 n0),(12,.vec 3 n1),(13,.i i0),(14,.vec 4 n2),(15,.i i1)] [some .dead,sV A0 r1,sV A0 r2,sV A0 r3,sV A0 r4]
def z1n (r0:RW) (n0:Nat) (i0:Int) (n2:Nat) (r1 r3 r5 r6:RW):St:=stOf 299 [(10,.l r0),(11,.vec 2 n0),(13,.i i0),(14,.vec 4 n2)] [some .dead,sV A0 r1,sV A0 r5,sV A0 r3,sV A0 r6]
section
variable (e1:IntKind.i64.wrap (i1+i0)=i2)(e2:IntKind.u64.wrap i3=i4)(e3:IntKind.u64.wrap (i4*1000000000)=i5)(e4:IntKind.i64.wrap (i2-1)=i6)(e5:IntKind.u64.wrap i7=i8)(e6:IntKind.u64.wrap (i5+i8)=i9)(e7:IntKind.i64.wrap (i0-1)=i10)(e8:IntKind.u64.wrap i11=i12)(e9:IntKind.u64.wrap (Int.tdiv i9 i12)=i13)(e10:Int.tmod i9 i12=i14)(e11:IntKind.i64.wrap i18=i19)(e12:IntKind.i64.wrap (i19-i16)=i20)(e13:IntKind.i64.wrap (i20-i17)=i21)
include e1 e2 e3 e4 e5 e6 e7 e8 e9 e10 e11 e12 e13
theorem y3p (e14:IntKind.u64.wrap (i15-1)=i22)(e15:IntKind.i64.wrap i23=i24)(e16:IntKind.i64.wrap (i21+i24)=i25)(e17:(if 0>i25 then 0 else i25)=i26)(e18:IntKind.u32.wrap i26=i27)(e19:List.set r8 (Int.toNat i2) [.w i27]=r9)(e20:IntKind.u32.wrap i22=i29)(e21:List.set r4 (Int.toNat i1) [.w i29]=r10)(e22:IntKind.i64.wrap (i1-1)=i31)(h1:i1≥0)(h2:0≤i2∧i2<((n0:Nat):Int))(h3:r2[(Int.toNat i2)]?=some [.w i3])(h4:0≤i6∧i6<((n0:Nat):Int))(h5:r2[(Int.toNat i6)]?=some [.w i7])(h6:0≤i10∧i10<((n1:Nat):Int))(h7:r3[(Int.toNat i10)]?=some [.w i11])(h8:i12≠0)(h9:Lp E 5 A3 1 (F2 r0 n0 n1 i0 n2 i1 i13 i14 r1 r2 r3 r4) (.exit 3) (H8 r0 n0 n1 i0 n2 i1 r1 r2 r3 r4 i15))(h10:Lp E 5 A3 2 (F3 r0 n0 n1 i0 n2 i1 i15 0 0 i0 0 r1 r2 r3 r4) (.exit 5) (M2 r0 n0 n1 i0 n2 i1 i15 r1 r3 r4 i16 i17 r7))(h11:r7[(Int.toNat i2)]?=some [.w i18])(h12:i21<0)(h13:Lp E 5 A3 3 (O5 r0 n0 n1 i0 n2 i1 i22 i21 0 i0 0 r1 r7 r3 r4) (.exit 7) (z1o r0 n0 n1 i0 n2 i1 i22 i21 r1 r3 r4 i23 r8))(h14:r8[(Int.toNat i2)]?=some [.w i28])(h15:0≤i1∧i1<((n2:Nat):Int))(h16:r4[(Int.toNat i1)]?=some [.w i30])(ih:Lp E 5 A3 0 (G1 r0 n0 n1 i0 n2 i31 r1 r9 r3 r10) o t):Lp E 5 A3 0 (G1 r0 n0 n1 i0 n2 i1 r1 r2 r3 r4) o t:=by subst e1 e2 e3 e4 e5 e6 e7 e8 e9 e10 e11 e12 e13 e14 e15 e16 e17 e18 e19 e20 e21 e22;exact lpM (oT h1 (oP h2 (oD h3 (oP h4 (oD h5 (oP h6 (oD h7 (oP h8 (oP h6 (oD h7 (oP h8 (oL h9 (oL h10 (oP h2 (oD h11 (oT h12 (oL h13 (oP h2 (oD h14 (oP h15 (oD h16 oZ))))))))))))))))))))) ih
theorem y3q (e14:(if 0>i21 then 0 else i21)=i22)(e15:IntKind.u32.wrap i22=i23)(e16:List.set r7 (Int.toNat i2) [.w i23]=r8)(e17:IntKind.u32.wrap i15=i24)(e18:List.set r4 (Int.toNat i1) [.w i24]=r11)(e19:IntKind.i64.wrap (i1-1)=i27)(h1:i1≥0)(h2:0≤i2∧i2<((n0:Nat):Int))(h3:r2[(Int.toNat i2)]?=some [.w i3])(h4:0≤i6∧i6<((n0:Nat):Int))(h5:r2[(Int.toNat i6)]?=some [.w i7])(h6:0≤i10∧i10<((n1:Nat):Int))(h7:r3[(Int.toNat i10)]?=some [.w i11])(h8:i12≠0)(h9:Lp E 5 A3 1 (F2 r0 n0 n1 i0 n2 i1 i13 i14 r1 r2 r3 r4) (.exit 3) (H8 r0 n0 n1 i0 n2 i1 r1 r2 r3 r4 i15))(h10:Lp E 5 A3 2 (F3 r0 n0 n1 i0 n2 i1 i15 0 0 i0 0 r1 r2 r3 r4) (.exit 5) (M2 r0 n0 n1 i0 n2 i1 i15 r1 r3 r4 i16 i17 r7))(h11:r7[(Int.toNat i2)]?=some [.w i18])(h12:¬ i21<0)(h13:0≤i1∧i1<((n2:Nat):Int))(h14:r4[(Int.toNat i1)]?=some [.w i25])(ih:Lp E 5 A3 0 (G1 r0 n0 n1 i0 n2 i27 r1 r8 r3 r11) o t):Lp E 5 A3 0 (G1 r0 n0 n1 i0 n2 i1 r1 r2 r3 r4) o t:=by subst e1 e2 e3 e4 e5 e6 e7 e8 e9 e10 e11 e12 e13 e14 e15 e16 e17 e18 e19;exact lpM (oT h1 (oP h2 (oD h3 (oP h4 (oD h5 (oP h6 (oD h7 (oP h8 (oP h6 (oD h7 (oP h8 (oL h9 (oL h10 (oP h2 (oD h11 (oU h12 (oP h2 (oD h11 (oP h13 (oD h14 oZ)))))))))))))))))))) ih
end
theorem y1r (h1:¬ i1≥0):Lp E 5 A3 0 (G1 r0 n0 n1 i0 n2 i1 r1 r2 r3 r4) (.exit 1) (z1n r0 n0 i0 n2 r1 r3 r2 r4):=lpX (oU h1 oZ)
theorem x1k (h1:Fn E B8 [.l r0,.l r1] (.i i0))(h2:i0<0):Fn E A3 [.l r0,.l r1] (.tup [.l [],.l r0]):=fnM (oF h1 (oT h2 oZ))
theorem x1l (e1:IntKind.u64.wrap (Int.tdiv i1 i2)=i3)(e2:Int.tmod i1 i2=i4)(h1:Fn E B8 [.l r0,.l r1] (.i i0))(h2:¬ i0<0)(h3:Fn E B9 [.l r0] (.tup [.c (.u64 i1),.b true]))(h4:Fn E B9 [.l r1] (.tup [.c (.u64 i2),.b true]))(h5:i2≠0)(h6:Fn E z2l [.c (.u64 i3)] (.l r2))(h7:Fn E z2l [.c (.u64 i4)] (.l r3)):Fn E A3 [.l r0,.l r1] (.tup [.l r2,.l r3]):=by subst e1 e2;exact fnM (oF h1 (oU h2 (oF h3 (oF h4 (oP h5 (oF h6 (oP h5 (oF h7 oZ))))))))
theorem x1m (e1:IntKind.u64.wrap i3=i5)(h1:Fn E B8 [.l r0,.l r1] (.i i0))(h2:¬ i0<0)(h3:Fn E B9 [.l r0] (.tup [.c (.u64 i1),.b false]))(h4:Fn E B9 [.l r1] (.tup [.c (.u64 i2),.b b2]))(h5:(r1.length:Int)=1)(h6:r1[0]?=some [.w i3])(h7:Fn E K2 [.l r0,.c (.u64 i5)] (.tup [.l r4,.l r3])):Fn E A3 [.l r0,.l r1] (.tup [.l r4,.l r3]):=by subst e1;exact fnM (oF h1 (oU h2 (oF h3 (oF h4 (oB (beT h5) (oP (show (0:Int)≤0 from by decide) (oD h6 (oF h7 oZ))))))))
theorem y0m (e1:IntKind.i64.wrap ((r1.length:Int)-1)=i3)(e2:IntKind.u64.wrap i5=i4)(e3:IntKind.u64.wrap (i4+1)=i6)(e4:IntKind.u64.wrap (Int.tdiv 1000000000 i6)=i7)(e5:(r6.take n0)++[[.w 0]]=r7)(e6:n0+1=n1)(e7:IntKind.i64.wrap (((n1:Nat):Int)-((n2:Nat):Int))=i11)(e8:Int.toNat i11=n3)(e9:List.replicate n3 [.w 0]=r17)(e10:IntKind.i64.wrap (((n3:Nat):Int)-1)=i12)(e11:(Int.toNat ((n2:Nat):Int))=n8)(e12:(r10.take n9)=r19)(e13:(r18.take n10)=r15)(h1:Fn E B8 [.l r0,.l r1] (.i i0))(h2:¬ i0<0)(h3:Fn E B9 [.l r0] (.tup [.c (.u64 i1),.b false]))(h4:Fn E B9 [.l r1] (.tup [.c (.u64 i2),.b b2]))(h5:¬ (r1.length:Int)=1)(h6:0≤i3)(h7:r1[(Int.toNat i3)]?=some [.w i5])(h8:i6≠0)(h9:Fn E z2l [.c (.u64 i7)] (.l r5))(h10:Rn E C1 [.l r0,.l r5] [] (.vec 0 n0) [sV A0 r6])(h11:(n0+1)*4≤140737488355328∧n0+1≤140737488355328)(h12:Rn E C1 [.l r1,.l r5] [] (.vec 0 n2) [sV A0 r8])(h13:¬ ((n1:Nat):Int)=(r0.length:Int))(h14:0≤i11∧i11≤i11∧(Int.toNat i11)*4≤140737488355328∧(Int.toNat i11)≤140737488355328)(h15:Lp E 5 A3 0 (G1 r5 n1 n2 ((n2:Nat):Int) n3 i12 [[.w 0]] r7 r8 r17) (.exit 1) (z1n r5 n1 ((n2:Nat):Int) n3 [[.w 0]] r8 r10 r18))(h16:Fn E B9 [.l r5] (.tup [.c (.u64 i13),.b b1]))(h17:0≤((n2:Nat):Int)∧((n2:Nat):Int)≤((n1:Nat):Int))(h18:Rn E B4 [.vec 2 n8] [some .dead,sV A0 [[.w 0]],sV A0 r10,sV A0 r8,sV A0 r18] (.vec 2 n9) [some .dead,sV A0 [[.w 0]],sV A0 r10,sV A0 r8,sV A0 r18])(h19:Fn E K2 [.l r19,.c (.u64 i13)] (.tup [.l r20,.l r13]))(h20:Rn E B4 [.vec 4 n3] [some .dead,sV A0 [[.w 0]],sF r10,sV A0 r8,sV A0 r18] (.vec 4 n10) [some .dead,sV A0 [[.w 0]],sF r10,sV A0 r8,sV A0 r18]):Fn E A3 [.l r0,.l r1] (.tup [.l r15,.l r20]):=by subst e1 e2 e3 e4 e5 e6 e7 e8 e9 e10 e11 e12 e13;exact fnM (oF h1 (oU h2 (oF h3 (oF h4 (oC (beF h5) (oP h6 (oD h7 (oP h8 (oF h9 (oN h10 (oP (show ∀ y∈([[.w 0]]:RW),y.length=1 from by simp) (oP h11 (oN h12 (oC (beF h13) (oP h14 (oL h15 (oF h16 (oP h17 (oR h18 (oF h19 (oR h20 oZ)))))))))))))))))))))
theorem j0c (h1:Fn E U9 [.s s0,.s s1] (.tup [.l r0,.l r1,.i i0]))(h2:i0=0)(h3:Fn E O9 [.mv Z9 [.l r0],.l r1] (.tup [.s s2,.i i1])):Fn E z9u [.s s0,.s s1] (.tup [.s s2,.i i1]):=fnM (oF h1 (oC (bnF h2) (oF h3 oZ)))
theorem x8k (h1:Fn E U9 [.s s0,.s s1] (.tup [.l r0,.l r1,.i i0]))(h2:i0=0)(h3:Fn E B8 [.l r0,.l r1] (.i i1)):Fn E z7k [.s s0,.s s1] (.tup [.i i1,.i 0]):=fnM (oF h1 (oC (bnF h2) (oF h3 oZ)))
theorem j0f (h1:Fn E U9 [.s s0,.s s1] (.tup [.l r0,.l r1,.i i0]))(h2:i0=0)(h3:Fn E B8 [.l r0,.l r1] (.i i1))(h4:¬ i1<0)(h5:Fn E O9 [.mv X7 [.l r0],.l r1] (.tup [.s s2,.i i2])):Fn E z5w [.s s0,.s s1] (.tup [.s s2,.i i2]):=fnM (oF h1 (oC (bnF h2) (oF h3 (oU h4 (oF h5 oZ)))))
theorem z7z (h1:Fn E C3 [.l r0,.l r1] (.l r2))(h2:Fn E J1 [.l r2] (.s s0)):Fn E O9 [.mv C3 [.l r0],.l r1] (.tup [.s s0,.i 0]):=fnM (oF h1 (oF h2 oZ))
def H6 (r0 r1:RW) (i0:Int):St:=stOf 41 [(0,.l r0),(1,.l r1),(5,.i i0)] []
def z1l (i1:Int):St:=stOf 41 [(4,.i i1)] []
def z1m:St:=stOf 41 [] []
theorem z5k (e1:IntKind.i64.wrap (i0-1)=i4)(h1:i0≥0)(h2:0≤i0)(h3:r0[(Int.toNat i0)]?=some [.w i2])(h4:r1[(Int.toNat i0)]?=some [.w i3])(h5:i2=i3)(ih:Lp E 0 B8 0 (H6 r0 r1 i4) o t):Lp E 0 B8 0 (H6 r0 r1 i0) o t:=by subst e1;exact lpM (oT h1 (oP h2 (oD h3 (oP h2 (oD h4 (oC (bnF h5) oZ)))))) ih
theorem y1p (h1:i0≥0)(h2:0≤i0)(h3:r0[(Int.toNat i0)]?=some [.w i2])(h4:r1[(Int.toNat i0)]?=some [.w i3])(h5:¬ i2=i3)(h6:Fn E U5 [.w i2,.w i3] (.i i4)):Lp E 0 B8 0 (H6 r0 r1 i0) .ret (z1l i4):=lpX (oT h1 (oP h2 (oD h3 (oP h2 (oD h4 (oB (bnT h5) (oP h2 (oD h3 (oP h2 (oD h4 (oF h6 oZ)))))))))))
theorem y1q (h1:¬ i0≥0):Lp E 0 B8 0 (H6 r0 r1 i0) (.exit 0) (z1m):=lpX (oU h1 oZ)
theorem y9t (h1:¬ (r0.length:Int)=(r1.length:Int))(h2:Fn E z0u [.i (r0.length:Int),.i (r1.length:Int)] (.i i0)):Fn E B8 [.l r0,.l r1] (.i i0):=fnM (oB (bnT h1) (oF h2 oZ))
section
variable (e1:IntKind.i64.wrap ((r0.length:Int)-1)=i0)(h1:(r0.length:Int)=(r1.length:Int))
include e1 h1
theorem y9u (h2:Lp E 0 B8 0 (H6 r0 r1 i0) .ret (z1l i1)):Fn E B8 [.l r0,.l r1] (.i i1):=by subst e1;exact fnM (oC (bnF h1) (oL h2 oZ))
theorem y9v (h2:Lp E 0 B8 0 (H6 r0 r1 i0) (.exit 0) (z1m)):Fn E B8 [.l r0,.l r1] (.i 0):=by subst e1;exact fnM (oC (bnF h1) (oL h2 oZ))
end
theorem x3w (h1:(r0.length:Int)=0):Fn E B9 [.l r0] (.tup [.c (.u64 0),.b true]):=fnM (oB (beT h1) oZ)
theorem x3x (e1:IntKind.u64.wrap i0=i1)(h1:¬ (r0.length:Int)=0)(h2:(r0.length:Int)=1)(h3:r0[0]?=some [.w i0]):Fn E B9 [.l r0] (.tup [.c (.u64 i1),.b true]):=by subst e1;exact fnM (oC (beF h1) (oB (beT h2) (oP (show (0:Int)≤0 from by decide) (oD h3 oZ))))
theorem x3y (e1:IntKind.u64.wrap i0=i1)(e2:IntKind.u64.wrap i2=i3)(e3:IntKind.u64.wrap (1000000000*i3)=i4)(e4:IntKind.u64.wrap (i1+i4)=i5)(h1:¬ (r0.length:Int)=0)(h2:¬ (r0.length:Int)=1)(h3:(r0.length:Int)=2)(h4:r0[0]?=some [.w i0])(h5:r0[1]?=some [.w i2]):Fn E B9 [.l r0] (.tup [.c (.u64 i5),.b true]):=by subst e1 e2 e3 e4;exact fnM (oC (beF h1) (oC (beF h2) (oB (beT h3) (oP (show (0:Int)≤0 from by decide) (oD h4 (oP (show (0:Int)≤1 from by decide) (oD h5 oZ)))))))
theorem x3z (h1:¬ (r0.length:Int)=0)(h2:¬ (r0.length:Int)=1)(h3:¬ (r0.length:Int)=2):Fn E B9 [.l r0] (.tup [.c (.u64 0),.b false]):=fnM (oC (beF h1) (oC (beF h2) (oC (beF h3) oZ)))
theorem j5g (e1:Int.tmod i0 1000000000=i1)(e2:IntKind.u32.wrap i1=i2)(e3:IntKind.u64.wrap (Int.tdiv i0 1000000000)=i3)(e4:IntKind.u32.wrap i3=i4)(e5:(([[.w i2],[.w i4]]:RW).take n0)=r0)(h1:Rn E B4 [.vec 0 2] [sV A0 [[.w i2],[.w i4]]] (.vec 0 n0) [sV A0 [[.w i2],[.w i4]]]):Fn E z2l [.c (.u64 i0)] (.l r0):=by subst e1 e2 e3 e4 e5;exact fnM (oP (show (1000000000:Int)≠0 from by decide) (oP (show (1000000000:Int)≠0 from by decide) (oR h1 oZ)))
def z1d (r0:RW) (i0:Int) (n0:Nat) (i1 i2:Int) (r1:RW):St:=stOf 41 [(0,.l r0),(1,.c (.u64 i0)),(6,.vec 0 n0),(7,.c (.u64 i1)),(8,.i i2)] [sV A0 r1]
def z5s (n0:Nat) (i3:Int) (r2:RW):St:=stOf 41 [(6,.vec 0 n0),(7,.c (.u64 i3))] [sV A0 r2]
theorem x1j (e1:IntKind.u64.wrap (i1*1000000000)=i4)(e2:IntKind.u64.wrap i5=i6)(e3:IntKind.u64.wrap (i4+i6)=i7)(e4:IntKind.u64.wrap (Int.tdiv i7 i0)=i8)(e5:IntKind.u32.wrap i8=i9)(e6:List.set r1 (Int.toNat i2) [.w i9]=r3)(e7:Int.tmod i7 i0=i11)(e8:IntKind.i64.wrap (i2-1)=i12)(h1:i2≥0)(h2:0≤i2)(h3:r0[(Int.toNat i2)]?=some [.w i5])(h4:i0≠0)(h5:0≤i2∧i2<((n0:Nat):Int))(h6:r1[(Int.toNat i2)]?=some [.w i10])(ih:Lp E 1 K2 0 (z1d r0 i0 n0 i11 i12 r3) o t):Lp E 1 K2 0 (z1d r0 i0 n0 i1 i2 r1) o t:=by subst e1 e2 e3 e4 e5 e6 e7 e8;exact lpM (oT h1 (oP h2 (oD h3 (oP h4 (oP h5 (oD h6 (oP h4 oZ))))))) ih
theorem y8k (h1:¬ i2≥0):Lp E 1 K2 0 (z1d r0 i0 n0 i1 i2 r1) (.exit 0) (z5s n0 i1 r1):=lpX (oU h1 oZ)
theorem k0z (e1:Int.toNat (r0.length:Int)=n0)(e2:List.replicate n0 [.w 0]=r1)(e3:IntKind.i64.wrap ((r0.length:Int)-1)=i1)(e4:(r2.take n1)=r4)(h1:0≤(r0.length:Int)∧(r0.length:Int)≤(r0.length:Int)∧(Int.toNat (r0.length:Int))*4≤140737488355328∧(Int.toNat (r0.length:Int))≤140737488355328)(h2:Lp E 1 K2 0 (z1d r0 i0 n0 0 i1 r1) (.exit 0) (z5s n0 i2 r2))(h3:Rn E B4 [.vec 0 n0] [sV A0 r2] (.vec 0 n1) [sV A0 r2])(h4:Fn E z2l [.c (.u64 i2)] (.l r3)):Fn E K2 [.l r0,.c (.u64 i0)] (.tup [.l r4,.l r3]):=by subst e1 e2 e3 e4;exact fnM (oP h1 (oL h2 (oR h3 (oF h4 oZ))))
theorem z7j (h1:Fn E Z9 [.l r0,.l r1] (.l r2))(h2:Fn E J1 [.l r2] (.s s0)):Fn E O9 [.mv Z9 [.l r0],.l r1] (.tup [.s s0,.i 0]):=fnM (oF h1 (oF h2 oZ))
theorem z6r (h1:Fn E X7 [.l r0,.l r1] (.l r2))(h2:Fn E J1 [.l r2] (.s s0)):Fn E O9 [.mv X7 [.l r0],.l r1] (.tup [.s s0,.i 0]):=fnM (oF h1 (oF h2 oZ))
def z0g (i0 i1:Int):St:=stOf 45 [(5,.c (.u64 i0)),(7,.c (.u64 i1))] []
def z4p (i2:Int):St:=stOf 45 [(5,.c (.u64 i2))] []
theorem y9w (e1:Int.tmod i0 i1=i3)(h1:i1>0)(h2:i1≠0)(ih:Lp E 0 C3 1 (z0g i1 i3) o t):Lp E 0 C3 1 (z0g i0 i1) o t:=by subst e1;exact lpM (oT h1 (oP h2 oZ)) ih
theorem y6s (h1:¬ i1>0):Lp E 0 C3 1 (z0g i0 i1) (.exit 2) (z4p i0):=lpX (oU h1 oZ)
def H9 (r0 r1:RW):St:=stOf 45 [(0,.l r0),(1,.l r1)] []
def z4n (r2:RW):St:=stOf 45 [(4,.l r2)] []
def z4o (r3:RW):St:=stOf 45 [(0,.l r3)] []
section
variable (h1:(r1.length:Int)>0)
include h1
theorem z8r (h2:Fn E B9 [.l r0] (.tup [.c (.u64 i0),.b true]))(h3:Fn E B9 [.l r1] (.tup [.c (.u64 i1),.b false]))(h4:Fn E A3 [.l r0,.l r1] (.tup [.l r4,.l r5]))(ih:Lp E 0 C3 0 (H9 r1 r5) o t):Lp E 0 C3 0 (H9 r0 r1) o t:=lpM (oT h1 (oF h2 (oF h3 (oF h4 oZ)))) ih
theorem z8s (h2:Fn E B9 [.l r0] (.tup [.c (.u64 i0),.b false]))(h3:Fn E B9 [.l r1] (.tup [.c (.u64 i1),.b b0]))(h4:Fn E A3 [.l r0,.l r1] (.tup [.l r4,.l r5]))(ih:Lp E 0 C3 0 (H9 r1 r5) o t):Lp E 0 C3 0 (H9 r0 r1) o t:=lpM (oT h1 (oF h2 (oF h3 (oF h4 oZ)))) ih
theorem y6q (h2:Fn E B9 [.l r0] (.tup [.c (.u64 i0),.b true]))(h3:Fn E B9 [.l r1] (.tup [.c (.u64 i1),.b true]))(h4:Lp E 0 C3 1 (z0g i0 i1) (.exit 2) (z4p i2))(h5:Fn E z2l [.c (.u64 i2)] (.l r5)):Lp E 0 C3 0 (H9 r0 r1) .ret (z4n r5):=lpX (oT h1 (oF h2 (oF h3 (oL h4 (oF h5 oZ)))))
end
theorem y6r (h1:¬ (r1.length:Int)>0):Lp E 0 C3 0 (H9 r0 r1) (.exit 0) (z4o r0):=lpX (oU h1 oZ)
theorem x8l (h1:Lp E 0 C3 0 (H9 r0 r1) .ret (z4n r2)):Fn E C3 [.l r0,.l r1] (.l r2):=fnM (oL h1 oZ)
theorem x8m (h1:Lp E 0 C3 0 (H9 r0 r1) (.exit 0) (z4o r2)):Fn E C3 [.l r0,.l r1] (.l r2):=fnM (oL h1 oZ)
theorem x6c (h1:Fn E A9 [.l r0,.l r1,.i 1] (.l r2)):Fn E Z9 [.l r0,.l r1] (.l r2):=fnM (oF h1 oZ)
theorem x3v (h1:Fn E A9 [.l r0,.l r1,.i (-1)] (.l r2))(h2:Rn E B4 [.l r2] [] (.l r3) []):Fn E X7 [.l r0,.l r1] (.l r3):=fnM (oF h1 (oR h2 oZ))
def B3 (r0 r1:RW) (i0:Int) (n0:Nat) (i1 i2 i3:Int) (r2:RW):St:=stOf 71 [(0,.l r0),(1,.l r1),(2,.i i0),(7,.vec 1 n0),(8,.i i1),(19,.i i2),(20,.i i3)] [some .dead,sV A0 r2]
def Y8 (n1:Nat) (i4:Int) (r3:RW):St:=stOf 71 [(7,.vec 1 n1),(8,.i i4)] [some .dead,sV A0 r3]
section
variable (e1:IntKind.i64.wrap i5=i6)
include e1
section
variable (e2:IntKind.i64.wrap (i1+i6)=i7)
include e2
section
variable (e3:IntKind.i64.wrap i8=i9)(e4:IntKind.i64.wrap (i0*i9)=i10)(e5:IntKind.i64.wrap (i7+i10)=i11)(e6:Int.tmod i11 1000000000=i12)(e7:IntKind.i64.wrap (Int.tdiv i11 1000000000)=i13)
include e3 e4 e5 e6 e7
theorem y6i (e8:IntKind.i64.wrap (i12+1000000000)=i14)(e9:IntKind.i64.wrap (i13-1)=i15)(e10:IntKind.u32.wrap i14=i16)(e11:(r2.take n0)++[[.w i16]]=r4)(e12:n0+1=n2)(e13:IntKind.i64.wrap (i3+1)=i17)(h1:i3<i2)(h2:i3<(r0.length:Int))(h3:0≤i3)(h4:r0[(Int.toNat i3)]?=some [.w i5])(h5:i3<(r1.length:Int))(h6:r1[(Int.toNat i3)]?=some [.w i8])(h7:i12<0)(h8:(n0+1)*4≤140737488355328∧n0+1≤140737488355328)(ih:Lp E 1 A9 0 (B3 r0 r1 i0 n2 i15 i2 i17 r4) o t):Lp E 1 A9 0 (B3 r0 r1 i0 n0 i1 i2 i3 r2) o t:=by subst e1 e2 e3 e4 e5 e6 e7 e8 e9 e10 e11 e12 e13;exact lpM (oT h1 (oT h2 (oP h3 (oD h4 (oT h5 (oP h3 (oD h6 (oP (show (1000000000:Int)≠0 from by decide) (oP (show (1000000000:Int)≠0 from by decide) (oT h7 (oP (show ∀ y∈([[.w (IntKind.u32.wrap (IntKind.i64.wrap ((Int.tmod (IntKind.i64.wrap ((IntKind.i64.wrap (i1+(IntKind.i64.wrap i5)))+(IntKind.i64.wrap (i0*(IntKind.i64.wrap i8))))) 1000000000)+1000000000)))]]:RW),y.length=1 from by simp) (oP h8 oZ)))))))))))) ih
theorem y6j (e8:IntKind.u32.wrap i12=i14)(e9:(r2.take n0)++[[.w i14]]=r5)(e10:n0+1=n3)(e11:IntKind.i64.wrap (i3+1)=i18)(h1:i3<i2)(h2:i3<(r0.length:Int))(h3:0≤i3)(h4:r0[(Int.toNat i3)]?=some [.w i5])(h5:i3<(r1.length:Int))(h6:r1[(Int.toNat i3)]?=some [.w i8])(h7:¬ i12<0)(h8:(n0+1)*4≤140737488355328∧n0+1≤140737488355328)(ih:Lp E 1 A9 0 (B3 r0 r1 i0 n3 i13 i2 i18 r5) o t):Lp E 1 A9 0 (B3 r0 r1 i0 n0 i1 i2 i3 r2) o t:=by subst e1 e2 e3 e4 e5 e6 e7 e8 e9 e10 e11;exact lpM (oT h1 (oT h2 (oP h3 (oD h4 (oT h5 (oP h3 (oD h6 (oP (show (1000000000:Int)≠0 from by decide) (oP (show (1000000000:Int)≠0 from by decide) (oU h7 (oP (show ∀ y∈([[.w (IntKind.u32.wrap (Int.tmod (IntKind.i64.wrap ((IntKind.i64.wrap (i1+(IntKind.i64.wrap i5)))+(IntKind.i64.wrap (i0*(IntKind.i64.wrap i8))))) 1000000000))]]:RW),y.length=1 from by simp) (oP h8 oZ)))))))))))) ih
end
section
variable (e3:Int.tmod i7 1000000000=i8)(e4:IntKind.i64.wrap (Int.tdiv i7 1000000000)=i9)
include e3 e4
theorem y6k (e5:IntKind.i64.wrap (i8+1000000000)=i10)(e6:IntKind.i64.wrap (i9-1)=i11)(e7:IntKind.u32.wrap i10=i12)(e8:(r2.take n0)++[[.w i12]]=r6)(e9:n0+1=n4)(e10:IntKind.i64.wrap (i3+1)=i15)(h1:i3<i2)(h2:i3<(r0.length:Int))(h3:0≤i3)(h4:r0[(Int.toNat i3)]?=some [.w i5])(h5:¬ i3<(r1.length:Int))(h6:i8<0)(h7:(n0+1)*4≤140737488355328∧n0+1≤140737488355328)(ih:Lp E 1 A9 0 (B3 r0 r1 i0 n4 i11 i2 i15 r6) o t):Lp E 1 A9 0 (B3 r0 r1 i0 n0 i1 i2 i3 r2) o t:=by subst e1 e2 e3 e4 e5 e6 e7 e8 e9 e10;exact lpM (oT h1 (oT h2 (oP h3 (oD h4 (oU h5 (oP (show (1000000000:Int)≠0 from by decide) (oP (show (1000000000:Int)≠0 from by decide) (oT h6 (oP (show ∀ y∈([[.w (IntKind.u32.wrap (IntKind.i64.wrap ((Int.tmod (IntKind.i64.wrap (i1+(IntKind.i64.wrap i5))) 1000000000)+1000000000)))]]:RW),y.length=1 from by simp) (oP h7 oZ)))))))))) ih
theorem y6l (e5:IntKind.u32.wrap i8=i10)(e6:(r2.take n0)++[[.w i10]]=r7)(e7:n0+1=n5)(e8:IntKind.i64.wrap (i3+1)=i13)(h1:i3<i2)(h2:i3<(r0.length:Int))(h3:0≤i3)(h4:r0[(Int.toNat i3)]?=some [.w i5])(h5:¬ i3<(r1.length:Int))(h6:¬ i8<0)(h7:(n0+1)*4≤140737488355328∧n0+1≤140737488355328)(ih:Lp E 1 A9 0 (B3 r0 r1 i0 n5 i9 i2 i13 r7) o t):Lp E 1 A9 0 (B3 r0 r1 i0 n0 i1 i2 i3 r2) o t:=by subst e1 e2 e3 e4 e5 e6 e7 e8;exact lpM (oT h1 (oT h2 (oP h3 (oD h4 (oU h5 (oP (show (1000000000:Int)≠0 from by decide) (oP (show (1000000000:Int)≠0 from by decide) (oU h6 (oP (show ∀ y∈([[.w (IntKind.u32.wrap (Int.tmod (IntKind.i64.wrap (i1+(IntKind.i64.wrap i5))) 1000000000))]]:RW),y.length=1 from by simp) (oP h7 oZ)))))))))) ih
end
end
section
variable (e2:IntKind.i64.wrap (i0*i6)=i7)(e3:IntKind.i64.wrap (i1+i7)=i8)(e4:Int.tmod i8 1000000000=i9)(e5:IntKind.i64.wrap (Int.tdiv i8 1000000000)=i10)
include e2 e3 e4 e5
theorem y6m (e6:IntKind.i64.wrap (i9+1000000000)=i11)(e7:IntKind.i64.wrap (i10-1)=i12)(e8:IntKind.u32.wrap i11=i13)(e9:(r2.take n0)++[[.w i13]]=r8)(e10:n0+1=n6)(e11:IntKind.i64.wrap (i3+1)=i16)(h1:i3<i2)(h2:¬ i3<(r0.length:Int))(h3:i3<(r1.length:Int))(h4:0≤i3)(h5:r1[(Int.toNat i3)]?=some [.w i5])(h6:i9<0)(h7:(n0+1)*4≤140737488355328∧n0+1≤140737488355328)(ih:Lp E 1 A9 0 (B3 r0 r1 i0 n6 i12 i2 i16 r8) o t):Lp E 1 A9 0 (B3 r0 r1 i0 n0 i1 i2 i3 r2) o t:=by subst e1 e2 e3 e4 e5 e6 e7 e8 e9 e10 e11;exact lpM (oT h1 (oU h2 (oT h3 (oP h4 (oD h5 (oP (show (1000000000:Int)≠0 from by decide) (oP (show (1000000000:Int)≠0 from by decide) (oT h6 (oP (show ∀ y∈([[.w (IntKind.u32.wrap (IntKind.i64.wrap ((Int.tmod (IntKind.i64.wrap (i1+(IntKind.i64.wrap (i0*(IntKind.i64.wrap i5))))) 1000000000)+1000000000)))]]:RW),y.length=1 from by simp) (oP h7 oZ)))))))))) ih
theorem y6n (e6:IntKind.u32.wrap i9=i11)(e7:(r2.take n0)++[[.w i11]]=r9)(e8:n0+1=n7)(e9:IntKind.i64.wrap (i3+1)=i14)(h1:i3<i2)(h2:¬ i3<(r0.length:Int))(h3:i3<(r1.length:Int))(h4:0≤i3)(h5:r1[(Int.toNat i3)]?=some [.w i5])(h6:¬ i9<0)(h7:(n0+1)*4≤140737488355328∧n0+1≤140737488355328)(ih:Lp E 1 A9 0 (B3 r0 r1 i0 n7 i10 i2 i14 r9) o t):Lp E 1 A9 0 (B3 r0 r1 i0 n0 i1 i2 i3 r2) o t:=by subst e1 e2 e3 e4 e5 e6 e7 e8 e9;exact lpM (oT h1 (oU h2 (oT h3 (oP h4 (oD h5 (oP (show (1000000000:Int)≠0 from by decide) (oP (show (1000000000:Int)≠0 from by decide) (oU h6 (oP (show ∀ y∈([[.w (IntKind.u32.wrap (Int.tmod (IntKind.i64.wrap (i1+(IntKind.i64.wrap (i0*(IntKind.i64.wrap i5))))) 1000000000))]]:RW),y.length=1 from by simp) (oP h7 oZ)))))))))) ih
end
end
section
variable (e1:Int.tmod i1 1000000000=i5)(e2:IntKind.i64.wrap (Int.tdiv i1 1000000000)=i6)
include e1 e2
theorem y6o (e3:IntKind.i64.wrap (i5+1000000000)=i7)(e4:IntKind.i64.wrap (i6-1)=i8)(e5:IntKind.u32.wrap i7=i9)(e6:(r2.take n0)++[[.w i9]]=r10)(e7:n0+1=n8)(e8:IntKind.i64.wrap (i3+1)=i12)(h1:i3<i2)(h2:¬ i3<(r0.length:Int))(h3:¬ i3<(r1.length:Int))(h4:i5<0)(h5:(n0+1)*4≤140737488355328∧n0+1≤140737488355328)(ih:Lp E 1 A9 0 (B3 r0 r1 i0 n8 i8 i2 i12 r10) o t):Lp E 1 A9 0 (B3 r0 r1 i0 n0 i1 i2 i3 r2) o t:=by subst e1 e2 e3 e4 e5 e6 e7 e8;exact lpM (oT h1 (oU h2 (oU h3 (oP (show (1000000000:Int)≠0 from by decide) (oP (show (1000000000:Int)≠0 from by decide) (oT h4 (oP (show ∀ y∈([[.w (IntKind.u32.wrap (IntKind.i64.wrap ((Int.tmod i1 1000000000)+1000000000)))]]:RW),y.length=1 from by simp) (oP h5 oZ)))))))) ih
theorem y6p (e3:IntKind.u32.wrap i5=i7)(e4:(r2.take n0)++[[.w i7]]=r11)(e5:n0+1=n9)(e6:IntKind.i64.wrap (i3+1)=i10)(h1:i3<i2)(h2:¬ i3<(r0.length:Int))(h3:¬ i3<(r1.length:Int))(h4:¬ i5<0)(h5:(n0+1)*4≤140737488355328∧n0+1≤140737488355328)(ih:Lp E 1 A9 0 (B3 r0 r1 i0 n9 i6 i2 i10 r11) o t):Lp E 1 A9 0 (B3 r0 r1 i0 n0 i1 i2 i3 r2) o t:=by subst e1 e2 e3 e4 e5 e6;exact lpM (oT h1 (oU h2 (oU h3 (oP (show (1000000000:Int)≠0 from by decide) (oP (show (1000000000:Int)≠0 from by decide) (oU h4 (oP (show ∀ y∈([[.w (IntKind.u32.wrap (Int.tmod i1 1000000000))]]:RW),y.length=1 from by simp) (oP h5 oZ)))))))) ih
end
theorem y3o (h1:¬ i3<i2):Lp E 1 A9 0 (B3 r0 r1 i0 n0 i1 i2 i3 r2) (.exit 0) (Y8 n0 i1 r2):=lpX (oU h1 oZ)
section
variable (e1:IntKind.i64.wrap ((r0.length:Int)+1)=i1)(e2:(if (r1.length:Int)>(r0.length:Int) then (r1.length:Int) else (r0.length:Int))=i2)
include e1 e2
theorem x3t (e3:IntKind.u32.wrap i3=i4)(e4:(r2.take n0)++[[.w i4]]=r3)(e5:n0+1=n1)(e6:(r3.take n1)=r4)(h1:0≤(0:Int)∧(0:Int)≤i1∧(Int.toNat i1)*4≤140737488355328∧(Int.toNat i1)≤140737488355328)(h2:Lp E 1 A9 0 (B3 r0 r1 i0 0 0 i2 0 []) (.exit 0) (Y8 n0 i3 r2))(h3:i3>0)(h4:(n0+1)*4≤140737488355328∧n0+1≤140737488355328):Fn E A9 [.l r0,.l r1,.i i0] (.l r4):=by subst e1 e2 e3 e4 e5 e6;exact fnM (oP h1 (oM [(7,A0)] h2 (oT h3 (oP (show ∀ y∈([[.w (IntKind.u32.wrap i3)]]:RW),y.length=1 from by simp) (oP h4 oZ)))))
theorem x3u (e3:(r2.take n0)=r5)(h1:0≤(0:Int)∧(0:Int)≤i1∧(Int.toNat i1)*4≤140737488355328∧(Int.toNat i1)≤140737488355328)(h2:Lp E 1 A9 0 (B3 r0 r1 i0 0 0 i2 0 []) (.exit 0) (Y8 n0 i3 r2))(h3:¬ i3>0):Fn E A9 [.l r0,.l r1,.i i0] (.l r5):=by subst e1 e2 e3;exact fnM (oP h1 (oM [(7,A0)] h2 (oU h3 oZ)))
end
def N3 (r0:RW):St:=stOf 21 [(0,.l r0)] []
def Y9 (r1:RW):St:=stOf 21 [(0,.l r1)] []
section
variable (e1:IntKind.i64.wrap ((r0.length:Int)-1)=i0)
include e1
theorem y6v (e2:List.drop 0 (r0.take (Int.toNat i0))=r2)(h1:(r0.length:Int)>0)(h2:0≤i0)(h3:r0[(Int.toNat i0)]?=some [.w i1])(h4:i1=0)(h5:0≤(0:Int)∧(0:Int)≤i0∧i0≤r0.length∧∀ x∈r0,x.length=1)(ih:Lp E 0 B4 0 (N3 r2) o t):Lp E 0 B4 0 (N3 r0) o t:=by subst e1 e2;exact lpM (oT h1 (oP h2 (oD h3 (oB (beT h4) (oP h5 oZ))))) ih
theorem y3y (h1:(r0.length:Int)>0)(h2:0≤i0)(h3:r0[(Int.toNat i0)]?=some [.w i1])(h4:¬ i1=0):Lp E 0 B4 0 (N3 r0) (.exit 0) (Y9 r0):=by subst e1;exact lpX (oT h1 (oP h2 (oD h3 (oC (beF h4) oZ))))
end
theorem y3z (h1:¬ (r0.length:Int)>0):Lp E 0 B4 0 (N3 r0) (.exit 0) (Y9 r0):=lpX (oU h1 oZ)
theorem x1n (h1:Lp E 0 B4 0 (N3 r0) (.exit 0) (Y9 r1)):Rn E B4 [.l r0] [] (.l r1) []:=rnM (oL h1 oZ)
end Gev
namespace Gev
open Go Go.Proofs
variable {E:Env}
variable {i0 i1 i2:Int} {s0 s1 s2 s3 s4 s5 s6 s7 s8:BA} {b0 b1 b2 b3 b4 b5 b6:Bool}
theorem k9n (h1:Fn E z9s [.s s0] (.tup [.agg [.b b0,.s s1],.i i0]))(h2:i0=0)(h3:Fn E z0o [.agg [.b b0,.s s1]] (.agg [.b b1,.s s2]))(h4:Fn E I1 [.agg [.b b1,.s s2]] (.s s3)):Fn E y4u [.s s0] (.tup [.s s3,.i 0]):=fnM (oF h1 (oC (bnF h2) (oF h3 (oF h4 oZ))))
theorem k9m (h1:Fn E z1t [.s s0,.s s1] (.tup [.agg [.b b0,.s s2],.agg [.b b1,.s s3],.i i0]))(h2:i0=0)(h3:Fn E z2i [.agg [.b b0,.s s2],.agg [.b b1,.s s3]] (.agg [.b b2,.s s4]))(h4:Fn E I1 [.agg [.b b2,.s s4]] (.s s5)):Fn E Z2 [.s s0,.s s1] (.tup [.s s5,.i 0]):=fnM (oF h1 (oC (bnF h2) (oF h3 (oF h4 oZ))))
theorem k9l (h1:Fn E z1t [.s s0,.s s1] (.tup [.agg [.b b0,.s s2],.agg [.b b1,.s s3],.i i0]))(h2:i0=0)(h3:Fn E M1 [.agg [.b b0,.s s2],.agg [.b b1,.s s3]] (.agg [.b b2,.s s4]))(h4:Fn E I1 [.agg [.b b2,.s s4]] (.s s5)):Fn E z9r [.s s0,.s s1] (.tup [.s s5,.i 0]):=fnM (oF h1 (oC (bnF h2) (oF h3 (oF h4 oZ))))
theorem k9q (h1:Fn E z1t [.s s0,.s ⟨#[48]⟩] (.tup [.agg [.b b0,.s s1],.agg [.b b1,.s s2],.i i0])):Fn E z9s [.s s0] (.tup [.agg [.b b0,.s s1],.i i0]):=fnM (oF h1 oZ)
theorem y3j (h1:Fn E G4 [.b (!b0),.s s0] (.agg [.b b1,.s s1])):Fn E z0o [.agg [.b b0,.s s0]] (.agg [.b b1,.s s1]):=fnM (oF h1 oZ)
theorem y9m (e1:(⟨#[45]⟩:BA)++s0=s1)(h1:(⟨#[45]⟩:BA).size+s0.size≤9223372036854775807):Fn E I1 [.agg [.b true,.s s0]] (.s s1):=by subst e1;exact fnM (oP h1 oZ)
theorem y9n:Fn E I1 [.agg [.b false,.s s0]] (.s s0):=fnM oZ
theorem k6e (h1:Fn E U7 [.s s0] (.tup [.agg [.b b0,.s s2],.b true]))(h2:Fn E U7 [.s s1] (.tup [.agg [.b b1,.s s3],.b true])):Fn E z1t [.s s0,.s s1] (.tup [.agg [.b b0,.s s2],.agg [.b b1,.s s3],.i 0]):=fnM (oF h1 (oF h2 oZ))
theorem y7u (e1:(!(b0 == b1))=b2)(h1:Fn E z1j [.s s0,.s s1] (.tup [.s s2,.i i0]))(h2:Fn E G4 [.b b2,.s s2] (.agg [.b b3,.s s3])):Fn E z2i [.agg [.b b0,.s s0],.agg [.b b1,.s s1]] (.agg [.b b3,.s s3]):=by subst e1;exact fnM (oF h1 (oK (oF h2 oZ)))
section
variable (h1:Fn E P6 [.b b0] (.i 0))
include h1
theorem y9i (h2:Fn E P6 [.b b1] (.i 0))(h3:Fn E z9t [.agg [.b b0,.s s0],.agg [.b b1,.s s1]] (.agg [.b b2,.s s2])):Fn E M1 [.agg [.b b0,.s s0],.agg [.b b1,.s s1]] (.agg [.b b2,.s s2]):=fnM (oF h1 (oF h2 (oP (show (0:Int)≤0∧(0:Int)<2 from by decide) (oP (show (0:Int)≤0∧(0:Int)<2 from by decide) (oF h3 oZ)))))
theorem y9j (h2:Fn E P6 [.b b1] (.i 1))(h3:Fn E U6 [.agg [.b b0,.s s0],.agg [.b b1,.s s1]] (.agg [.b b2,.s s2])):Fn E M1 [.agg [.b b0,.s s0],.agg [.b b1,.s s1]] (.agg [.b b2,.s s2]):=fnM (oF h1 (oF h2 (oP (show (0:Int)≤0∧(0:Int)<2 from by decide) (oP (show (0:Int)≤1∧(1:Int)<2 from by decide) (oF h3 oZ)))))
end
section
variable (h1:Fn E P6 [.b b0] (.i 1))
include h1
theorem y9k (h2:Fn E P6 [.b b1] (.i 0))(h3:Fn E U6 [.agg [.b b0,.s s0],.agg [.b b1,.s s1]] (.agg [.b b2,.s s2])):Fn E M1 [.agg [.b b0,.s s0],.agg [.b b1,.s s1]] (.agg [.b b2,.s s2]):=fnM (oF h1 (oF h2 (oP (show (0:Int)≤1∧(1:Int)<2 from by decide) (oP (show (0:Int)≤0∧(0:Int)<2 from by decide) (oF h3 oZ)))))
theorem y9l (h2:Fn E P6 [.b b1] (.i 1))(h3:Fn E z9t [.agg [.b b0,.s s0],.agg [.b b1,.s s1]] (.agg [.b b2,.s s2])):Fn E M1 [.agg [.b b0,.s s0],.agg [.b b1,.s s1]] (.agg [.b b2,.s s2]):=fnM (oF h1 (oF h2 (oP (show (0:Int)≤1∧(1:Int)<2 from by decide) (oP (show (0:Int)≤1∧(1:Int)<2 from by decide) (oF h3 oZ)))))
end
theorem k0k (h1:Fn E z1t [.s s0,.s s1] (.tup [.agg [.b b0,.s s2],.agg [.b b1,.s s3],.i i0]))(h2:i0=0)(h3:Fn E y2j [] (.agg [.b b2,.s s4]))(h4:((b1 == b2) && ((s3 == s4) && true))=false)(h5:Fn E M9 [.agg [.b b0,.s s2],.agg [.b b1,.s s3]] (.tup [.agg [.b b3,.s s5],.agg [.b b4,.s s6]]))(h6:Fn E I1 [.agg [.b b3,.s s5]] (.s s7))(h7:Fn E I1 [.agg [.b b4,.s s6]] (.s s8)):Fn E z8u [.s s0,.s s1] (.tup [.s s7,.s s8,.i 0]):=fnM (oF h1 (oC (bnF h2) (oF h3 (oC (id h4) (oF h5 (oF h6 (oF h7 oZ)))))))
theorem k3b (h1:Fn E U7 [.s s0] (.tup [.agg [.b b0,.s s1],.b b1])):Fn E z3d [.s s0] (.b b1):=fnM (oF h1 oZ)
theorem k6g (h1:¬ s0=(⟨#[48]⟩:BA)):Fn E G4 [.b true,.s s0] (.agg [.b true,.s s0]):=fnM (oB (snT h1) oZ)
theorem k6h (h1:s0=(⟨#[48]⟩:BA)):Fn E G4 [.b true,.s s0] (.agg [.b false,.s s0]):=fnM (oC (snF h1) oZ)
theorem k6i:Fn E G4 [.b false,.s s0] (.agg [.b false,.s s0]):=fnM oZ
section
variable (h1:Fn E X8 [.s s0,.s ⟨#[45]⟩] (.tup [.s s1,.b b0]))
include h1
section
variable (h2:Fn E C4 [.s s1] (.b true))
include h2
theorem x0v (h3:(!((b0 == true) && ((s1 == (⟨#[48]⟩:BA)) && true)))=true):Fn E U7 [.s s0] (.tup [.agg [.b b0,.s s1],.b true]):=fnM (oF h1 (oF h2 (oB (id h3) oZ)))
theorem k6f (h3:(!((b0 == true) && ((s1 == (⟨#[48]⟩:BA)) && true)))=false):Fn E U7 [.s s0] (.tup [.agg [.b b0,.s s1],.b false]):=fnM (oF h1 (oF h2 (oC (id h3) oZ)))
end
theorem x0w (h2:Fn E C4 [.s s1] (.b false)):Fn E U7 [.s s0] (.tup [.agg [.b b0,.s s1],.b false]):=fnM (oF h1 (oF h2 oZ))
end
theorem k6j:Fn E y2j [] (.agg [.b false,.s ⟨#[48]⟩]):=fnM oZ
theorem k9o:Fn E P6 [.b true] (.i 1):=fnM oZ
theorem k9p:Fn E P6 [.b false] (.i 0):=fnM oZ
theorem k9r (h1:Fn E z9u [.s s0,.s s1] (.tup [.s s2,.i i0]))(h2:Fn E G4 [.b b0,.s s2] (.agg [.b b2,.s s3])):Fn E z9t [.agg [.b b0,.s s0],.agg [.b b1,.s s1]] (.agg [.b b2,.s s3]):=fnM (oF h1 (oF h2 oZ))
section
variable (h1:Fn E z7k [.s s0,.s s1] (.tup [.i i0,.i i1]))
include h1
theorem x0t (h2:i0<0)(h3:Fn E z5w [.s s1,.s s0] (.tup [.s s2,.i i2]))(h4:Fn E G4 [.b b1,.s s2] (.agg [.b b2,.s s3])):Fn E U6 [.agg [.b b0,.s s0],.agg [.b b1,.s s1]] (.agg [.b b2,.s s3]):=fnM (oF h1 (oT h2 (oF h3 (oF h4 oZ))))
theorem x0u (h2:¬ i0<0)(h3:Fn E z5w [.s s0,.s s1] (.tup [.s s2,.i i2]))(h4:Fn E G4 [.b b0,.s s2] (.agg [.b b2,.s s3])):Fn E U6 [.agg [.b b0,.s s0],.agg [.b b1,.s s1]] (.agg [.b b2,.s s3]):=fnM (oF h1 (oU h2 (oF h3 (oF h4 oZ))))
end
theorem k9k (h1:Fn E z9s [.s s0] (.tup [.agg [.b b0,.s s1],.i i0]))(h2:i0=0):Fn E y4t [.s s0] (.tup [.s s1,.i 0]):=fnM (oF h1 (oC (bnF h2) oZ))
theorem y5x (e1:(!(true == b0))=b1)(h1:Fn E Z5 [.s s0,.s s1] (.tup [.s s2,.s s3,.i i0]))(h2:¬ s3=(⟨#[48]⟩:BA))(h3:Fn E z9u [.s s2,.s ⟨#[49]⟩] (.tup [.s s4,.i i1]))(h4:Fn E z5w [.s s1,.s s3] (.tup [.s s5,.i i2]))(h5:Fn E G4 [.b b1,.s s4] (.agg [.b b2,.s s6]))(h6:Fn E G4 [.b false,.s s5] (.agg [.b b3,.s s7])):Fn E M9 [.agg [.b true,.s s0],.agg [.b b0,.s s1]] (.tup [.agg [.b b2,.s s6],.agg [.b b3,.s s7]]):=by subst e1;exact fnM (oF h1 (oB (snT h2) (oF h3 (oF h4 (oK (oF h5 (oF h6 oZ)))))))
theorem y5y (e1:(!(true == b0))=b4)(h1:Fn E Z5 [.s s0,.s s1] (.tup [.s s2,.s s3,.i i0]))(h2:s3=(⟨#[48]⟩:BA))(h3:Fn E G4 [.b b4,.s s2] (.agg [.b b5,.s s5]))(h4:Fn E G4 [.b false,.s s3] (.agg [.b b6,.s s8])):Fn E M9 [.agg [.b true,.s s0],.agg [.b b0,.s s1]] (.tup [.agg [.b b5,.s s5],.agg [.b b6,.s s8]]):=by subst e1;exact fnM (oF h1 (oC (snF h2) (oK (oF h3 (oF h4 oZ)))))
theorem y5z (e1:(!(false == b0))=b4)(h1:Fn E Z5 [.s s0,.s s1] (.tup [.s s2,.s s3,.i i0]))(h2:Fn E G4 [.b b4,.s s2] (.agg [.b b5,.s s5]))(h3:Fn E G4 [.b false,.s s3] (.agg [.b b6,.s s8])):Fn E M9 [.agg [.b false,.s s0],.agg [.b b0,.s s1]] (.tup [.agg [.b b5,.s s5],.agg [.b b6,.s s8]]):=by subst e1;exact fnM (oF h1 (oK (oF h2 (oF h3 oZ))))
end Gev
namespace Gev
open Go Go.Proofs
variable {E:Env}
variable {o:Out} {t:St} {i0 i1 i2 i3 i4 i5 i6 i7 i8 i9:Int} {s0 s1 s2 s3 s4 s5 s6 s7 s8 s9 s10:BA} {b0:Bool}
theorem k3r (e1:IntKind.i64.wrap (i0*i3)=i4)(e2:IntKind.i64.wrap (i2*i1)=i5)(e3:IntKind.i64.wrap (i4+i5)=i6)(e4:IntKind.i64.wrap (i1*i3)=i7)(h1:Fn E B5 [.agg [.s s0,.s s1]] (.tup [.i i0,.i i1,.b true]))(h2:Fn E B5 [.agg [.s s2,.s s3]] (.tup [.i i2,.i i3,.b true]))(h3:Fn E P7 [.i i6,.i i7] (.agg [.s s4,.s s5])):Fn E X4 [.agg [.s s0,.s s1],.agg [.s s2,.s s3]] (.agg [.s s4,.s s5]):=by subst e1 e2 e3 e4;exact fnM (oF h1 (oF h2 (oF h3 oZ)))
theorem k3s (h1:Fn E B5 [.agg [.s s0,.s s1]] (.tup [.i i0,.i i1,.b true]))(h2:Fn E B5 [.agg [.s s2,.s s3]] (.tup [.i i2,.i i3,.b false]))(h3:Fn E Z2 [.s s0,.s s3] (.tup [.s s6,.i i5]))(h4:Fn E Z2 [.s s2,.s s1] (.tup [.s s7,.i i7]))(h5:Fn E z9r [.s s6,.s s7] (.tup [.s s4,.i i8]))(h6:Fn E z1j [.s s1,.s s3] (.tup [.s s8,.i i9]))(h7:Fn E K7 [.s s4,.s s8] (.agg [.s s9,.s s10])):Fn E X4 [.agg [.s s0,.s s1],.agg [.s s2,.s s3]] (.agg [.s s9,.s s10]):=fnM (oF h1 (oF h2 (oF h3 (oF h4 (oF h5 (oF h6 (oF h7 oZ)))))))
theorem k3t (h1:Fn E B5 [.agg [.s s0,.s s1]] (.tup [.i i0,.i i1,.b false]))(h2:Fn E B5 [.agg [.s s2,.s s3]] (.tup [.i i2,.i i3,.b b0]))(h3:Fn E Z2 [.s s0,.s s3] (.tup [.s s6,.i i5]))(h4:Fn E Z2 [.s s2,.s s1] (.tup [.s s7,.i i7]))(h5:Fn E z9r [.s s6,.s s7] (.tup [.s s4,.i i8]))(h6:Fn E z1j [.s s1,.s s3] (.tup [.s s8,.i i9]))(h7:Fn E K7 [.s s4,.s s8] (.agg [.s s9,.s s10])):Fn E X4 [.agg [.s s0,.s s1],.agg [.s s2,.s s3]] (.agg [.s s9,.s s10]):=fnM (oF h1 (oF h2 (oF h3 (oF h4 (oF h5 (oF h6 (oF h7 oZ)))))))
theorem k1g (e1:IntKind.i64.wrap (i0*i2)=i4)(e2:IntKind.i64.wrap (i1*i3)=i5)(h1:Fn E B5 [.agg [.s s0,.s s1]] (.tup [.i i0,.i i1,.b true]))(h2:Fn E B5 [.agg [.s s2,.s s3]] (.tup [.i i2,.i i3,.b true]))(h3:Fn E P7 [.i i4,.i i5] (.agg [.s s4,.s s5])):Fn E P3 [.agg [.s s0,.s s1],.agg [.s s2,.s s3]] (.agg [.s s4,.s s5]):=by subst e1 e2;exact fnM (oF h1 (oF h2 (oF h3 oZ)))
theorem k1h (h1:Fn E B5 [.agg [.s s0,.s s1]] (.tup [.i i0,.i i1,.b true]))(h2:Fn E B5 [.agg [.s s2,.s s3]] (.tup [.i i2,.i i3,.b false]))(h3:Fn E Z2 [.s s0,.s s2] (.tup [.s s6,.i i5]))(h4:Fn E z1j [.s s1,.s s3] (.tup [.s s4,.i i6]))(h5:Fn E K7 [.s s6,.s s4] (.agg [.s s7,.s s8])):Fn E P3 [.agg [.s s0,.s s1],.agg [.s s2,.s s3]] (.agg [.s s7,.s s8]):=fnM (oF h1 (oF h2 (oF h3 (oF h4 (oF h5 oZ)))))
theorem k1i (h1:Fn E B5 [.agg [.s s0,.s s1]] (.tup [.i i0,.i i1,.b false]))(h2:Fn E B5 [.agg [.s s2,.s s3]] (.tup [.i i2,.i i3,.b b0]))(h3:Fn E Z2 [.s s0,.s s2] (.tup [.s s6,.i i5]))(h4:Fn E z1j [.s s1,.s s3] (.tup [.s s4,.i i6]))(h5:Fn E K7 [.s s6,.s s4] (.agg [.s s7,.s s8])):Fn E P3 [.agg [.s s0,.s s1],.agg [.s s2,.s s3]] (.agg [.s s7,.s s8]):=fnM (oF h1 (oF h2 (oF h3 (oF h4 (oF h5 oZ)))))
theorem y7a (h1:Fn E z5m [.agg [.s s2,.s s3]] (.agg [.s s4,.s s5]))(h2:Fn E X4 [.agg [.s s0,.s s1],.agg [.s s4,.s s5]] (.agg [.s s6,.s s7])):Fn E N0 [.agg [.s s0,.s s1],.agg [.s s2,.s s3]] (.agg [.s s6,.s s7]):=fnM (oF h1 (oF h2 oZ))
theorem y7b (h1:Fn E z2n [.agg [.s s2,.s s3]] (.agg [.s s4,.s s5]))(h2:Fn E P3 [.agg [.s s0,.s s1],.agg [.s s4,.s s5]] (.agg [.s s6,.s s7])):Fn E N1 [.agg [.s s0,.s s1],.agg [.s s2,.s s3]] (.agg [.s s6,.s s7]):=fnM (oF h1 (oF h2 oZ))
theorem x1w (h1:s1=(⟨#[49]⟩:BA)):Fn E F_rational_frac_text [.agg [.s s0,.s s1]] (.s s0):=fnM (oB (seT h1) oZ)
theorem x1x (e1:s0++(⟨#[47]⟩:BA)=s2)(e2:s2++s1=s3)(h1:¬ s1=(⟨#[49]⟩:BA))(h2:s0.size+(⟨#[47]⟩:BA).size≤9223372036854775807)(h3:s2.size+s1.size≤9223372036854775807):Fn E F_rational_frac_text [.agg [.s s0,.s s1]] (.s s3):=by subst e1 e2;exact fnM (oC (seF h1) (oP h2 (oP h3 oZ)))
theorem k3q (h1:Fn E G9 [.s s0] (.tup [.agg [.s s2,.s s3],.b true]))(h2:Fn E G9 [.s s1] (.tup [.agg [.s s4,.s s5],.b true])):Fn E F_rational_both [.s s0,.s s1] (.tup [.agg [.s s2,.s s3],.agg [.s s4,.s s5],.i 0]):=fnM (oF h1 (oF h2 oZ))
theorem k7t (h1:Fn E Z6 [.c (.u8 42),.s s0,.s s1] (.tup [.s s2,.i i0])):Fn E y2m [.s s0,.s s1] (.tup [.s s2,.i i0]):=fnM (oF h1 oZ)
theorem k7u (h1:Fn E Z6 [.c (.u8 45),.s s0,.s s1] (.tup [.s s2,.i i0])):Fn E y2n [.s s0,.s s1] (.tup [.s s2,.i i0]):=fnM (oF h1 oZ)
theorem k7r (h1:Fn E Z6 [.c (.u8 43),.s s0,.s s1] (.tup [.s s2,.i i0])):Fn E y2k [.s s0,.s s1] (.tup [.s s2,.i i0]):=fnM (oF h1 oZ)
theorem y8p (h1:(s0.size:Int)>9):Fn E B5 [.agg [.s s0,.s s1]] (.tup [.i 0,.i 0,.b false]):=fnM (oT h1 oZ)
theorem y8q (h1:¬ (s0.size:Int)>9)(h2:(s1.size:Int)>9):Fn E B5 [.agg [.s s0,.s s1]] (.tup [.i 0,.i 0,.b false]):=fnM (oU h1 (oT h2 oZ))
theorem y8r (h1:¬ (s0.size:Int)>9)(h2:¬ (s1.size:Int)>9)(h3:Fn E z2o [.s s0,.i 10,.i 64] (.tup [.i i0,.undef]))(h4:Fn E z2o [.s s1,.i 10,.i 64] (.tup [.i i1,.undef])):Fn E B5 [.agg [.s s0,.s s1]] (.tup [.i i0,.i i1,.b true]):=fnM (oU h1 (oU h2 (oF h3 (oF h4 oZ))))
def z4r (i0 i1 i2 i3:Int) (s0 s1:BA):St:=stOf 28 [(0,.i i0),(1,.i i1),(4,.ptr 0 0),(5,.i i2),(6,.i i3)] [sC [.s s0,.s s1]]
def z9e (i0 i1:Int) (s0 s1:BA) (i4:Int):St:=stOf 28 [(0,.i i0),(1,.i i1),(4,.ptr 0 0),(5,.i i4)] [sC [.s s0,.s s1]]
theorem x8y (e1:Int.tmod i2 i3=i5)(h1:¬ i3=0)(h2:i3≠0)(ih:Lp E 1 P7 0 (z4r i0 i1 i3 i5 s0 s1) o t):Lp E 1 P7 0 (z4r i0 i1 i2 i3 s0 s1) o t:=by subst e1;exact lpM (oB (bnT h1) (oP h2 oZ)) ih
theorem x4b (h1:i3=0):Lp E 1 P7 0 (z4r i0 i1 i2 i3 s0 s1) (.exit 0) (z9e i0 i1 s0 s1 i2):=lpX (oC (bnF h1) oZ)
theorem j0j (e1:IntKind.i64.wrap (0-i2)=i3)(e2:(if i3>i2 then i3 else i2)=i4)(e3:IntKind.i64.wrap (Int.tdiv i0 i4)=i5)(e4:IntKind.i64.wrap (Int.tdiv i1 i4)=i6)(h1:Lp E 1 P7 0 (z4r i0 i1 i0 i1 ⟨#[]⟩ ⟨#[]⟩) (.exit 0) (z9e i0 i1 ⟨#[]⟩ ⟨#[]⟩ i2))(h2:i4≠0)(h3:Fn E z1p [.i i5,.i 10] (.s s0))(h4:Fn E z1p [.i i6,.i 10] (.s s1)):Fn E P7 [.i i0,.i i1] (.agg [.s s0,.s s1]):=by subst e1 e2 e3 e4;exact fnM (oL h1 (oP h2 (oF h3 (oP h2 (oF h4 oZ)))))
section
variable (h1:Fn E z2m [.s s0,.s s1] (.s s2))
include h1
theorem x8w (h2:¬ s2=(⟨#[49]⟩:BA))(h3:Fn E z8u [.s s0,.s s2] (.tup [.s s3,.s s4,.i i0]))(h4:Fn E Z5 [.s s1,.s s2] (.tup [.s s5,.s s6,.i i1])):Fn E K7 [.s s0,.s s1] (.agg [.s s3,.s s5]):=fnM (oF h1 (oB (snT h2) (oF h3 (oF h4 oZ))))
theorem x8x (h2:s2=(⟨#[49]⟩:BA)):Fn E K7 [.s s0,.s s1] (.agg [.s s0,.s s1]):=fnM (oF h1 (oC (snF h2) oZ))
end
theorem x4c (h1:Fn E y4u [.s s0] (.tup [.s s2,.i i0])):Fn E z5m [.agg [.s s0,.s s1]] (.agg [.s s2,.s s1]):=fnM (oF h1 oZ)
theorem x6g (e1:(⟨#[45]⟩:BA)++s1=s3)(h1:Fn E X8 [.s s0,.s ⟨#[45]⟩] (.tup [.s s2,.b true]))(h2:(⟨#[45]⟩:BA).size+s1.size≤9223372036854775807):Fn E z2n [.agg [.s s0,.s s1]] (.agg [.s s3,.s s2]):=by subst e1;exact fnM (oF h1 (oP h2 oZ))
theorem x6h (h1:Fn E X8 [.s s0,.s ⟨#[45]⟩] (.tup [.s s2,.b false])):Fn E z2n [.agg [.s s0,.s s1]] (.agg [.s s1,.s s0]):=fnM (oF h1 oZ)
section
variable (h1:Fn E z3r [.s s0,.s ⟨#[47]⟩] (.tup [.s s1,.s s2,.b true]))
include h1
section
variable (h2:Fn E z3d [.s s1] (.b true))
include h2
section
variable (h3:¬ s1=(⟨#[48]⟩:BA))
include h3
section
variable (h4:Fn E C4 [.s s2] (.b true))
include h4
section
variable (h5:¬ s2=(⟨#[48]⟩:BA))
include h5
section
variable (h6:¬ s2=(⟨#[49]⟩:BA))(h7:Fn E z2m [.s s1,.s s2] (.s s3))
include h6 h7
theorem k3u (h8:s3=(⟨#[49]⟩:BA)):Fn E G9 [.s s0] (.tup [.agg [.s s1,.s s2],.b true]):=fnM (oF h1 (oF h2 (oB (snT h3) (oF h4 (oB (snT h5) (oB (snT h6) (oF h7 (oB (seT h8) oZ))))))))
theorem k3v (h8:¬ s3=(⟨#[49]⟩:BA)):Fn E G9 [.s s0] (.tup [.agg [.s s1,.s s2],.b false]):=fnM (oF h1 (oF h2 (oB (snT h3) (oF h4 (oB (snT h5) (oB (snT h6) (oF h7 (oC (seF h8) oZ))))))))
end
theorem k3w (h6:s2=(⟨#[49]⟩:BA)):Fn E G9 [.s s0] (.tup [.agg [.s s1,.s s2],.b false]):=fnM (oF h1 (oF h2 (oB (snT h3) (oF h4 (oB (snT h5) (oC (snF h6) oZ))))))
end
theorem k3x (h5:s2=(⟨#[48]⟩:BA)):Fn E G9 [.s s0] (.tup [.agg [.s s1,.s s2],.b false]):=fnM (oF h1 (oF h2 (oB (snT h3) (oF h4 (oC (snF h5) oZ)))))
end
theorem k3y (h4:Fn E C4 [.s s2] (.b false)):Fn E G9 [.s s0] (.tup [.agg [.s s1,.s s2],.b false]):=fnM (oF h1 (oF h2 (oB (snT h3) (oF h4 oZ))))
end
theorem k3z (h3:s1=(⟨#[48]⟩:BA)):Fn E G9 [.s s0] (.tup [.agg [.s s1,.s s2],.b false]):=fnM (oF h1 (oF h2 (oC (snF h3) oZ)))
end
theorem k4a (h2:Fn E z3d [.s s1] (.b false)):Fn E G9 [.s s0] (.tup [.agg [.s s1,.s s2],.b false]):=fnM (oF h1 (oF h2 oZ))
end
theorem y9f (h1:Fn E z3r [.s s0,.s ⟨#[47]⟩] (.tup [.s s1,.s s2,.b false]))(h2:Fn E z3d [.s s1] (.b b0)):Fn E G9 [.s s0] (.tup [.agg [.s s1,.s ⟨#[49]⟩],.b b0]):=fnM (oF h1 (oF h2 oZ))
theorem x6f (h1:Fn E y4t [.s s0] (.tup [.s s2,.i i0]))(h2:Fn E y4v [.s s2,.s s1] (.tup [.s s3,.i i1])):Fn E z2m [.s s0,.s s1] (.s s3):=fnM (oF h1 (oF h2 oZ))
theorem k7s (h1:Fn E Z6 [.c (.u8 47),.s s0,.s s1] (.tup [.s s2,.i i0])):Fn E y2l [.s s0,.s s1] (.tup [.s s2,.i i0]):=fnM (oF h1 oZ)
theorem y6z (h1:Fn E G9 [.s s0] (.tup [.agg [.s s1,.s s2],.b b0])):Fn E z8v [.s s0] (.b b0):=fnM (oF h1 oZ)
end Gev
namespace Gev
open Go Go.Proofs
variable {E:Env}
variable {o:Out} {t:St} {r0 r1 r2 r3 r4 r5 r6 r7 r8 r9 r10 r11 r12 r13 r14:RW} {i0 i1 i2 i3 i4 i5 i6 i7 i8 i9 i10 i11 i12 i13 i14 i15 i16 i17 i18 i19 i20 i21 i22 i23:Int} {s0:BA} {n0 n1 n2 n3 n4 n5 n6 n7:Nat}
def z1f (r0:RW) (n0:Nat) (i0 i1 i2:Int) (r1:RW):St:=stOf 72 [(0,.l r0),(3,.vec 1 n0),(4,.i i0),(5,.w i1),(6,.i i2)] [some .dead,sV y4c r1]
def z8h (r0:RW) (i0:Int) (n1:Nat) (r2:RW):St:=stOf 72 [(0,.l r0),(3,.vec 1 n1),(4,.i i0)] [some .dead,sV y4c r2]
section
variable (e1:IntKind.i64.wrap (i0+1)=i3)
include e1
section
variable (e2:Int.tmod i1 10=i4)(e3:IntKind.u32.wrap (48+i4)=i5)(e4:IntKind.u8.wrap i5=i6)(e5:(r1.take n0)++[[.u8 i6]]=r3)(e6:n0+1=n2)(e7:IntKind.u32.wrap (Int.tdiv i1 10)=i7)(e8:IntKind.i64.wrap (i2+1)=i8)(h1:i2<9)
include e2 e3 e4 e5 e6 e7 e8 h1
theorem k4b (h2:i3<(r0.length:Int))(h3:(n0+1)*1≤140737488355328∧n0+1≤140737488355328)(ih:Lp E 1 F7 1 (z1f r0 n2 i0 i7 i8 r3) o t):Lp E 1 F7 1 (z1f r0 n0 i0 i1 i2 r1) o t:=by subst e1 e2 e3 e4 e5 e6 e7 e8;exact lpM (oT h1 (oT h2 (oP (show (10:Int)≠0 from by decide) (oP (show ∀ y∈([[.u8 (IntKind.u8.wrap (IntKind.u32.wrap (48+(Int.tmod i1 10))))]]:RW),y.length=1 from by simp) (oP h3 (oP (show (10:Int)≠0 from by decide) oZ)))))) ih
theorem k4c (h2:¬ i3<(r0.length:Int))(h3:i1>0)(h4:(n0+1)*1≤140737488355328∧n0+1≤140737488355328)(ih:Lp E 1 F7 1 (z1f r0 n2 i0 i7 i8 r3) o t):Lp E 1 F7 1 (z1f r0 n0 i0 i1 i2 r1) o t:=by subst e1 e2 e3 e4 e5 e6 e7 e8;exact lpM (oT h1 (oU h2 (oT h3 (oP (show (10:Int)≠0 from by decide) (oP (show ∀ y∈([[.u8 (IntKind.u8.wrap (IntKind.u32.wrap (48+(Int.tmod i1 10))))]]:RW),y.length=1 from by simp) (oP h4 (oP (show (10:Int)≠0 from by decide) oZ))))))) ih
end
theorem x9j (h1:i2<9)(h2:¬ i3<(r0.length:Int))(h3:¬ i1>0):Lp E 1 F7 1 (z1f r0 n0 i0 i1 i2 r1) (.exit 2) (z8h r0 i0 n0 r1):=by subst e1;exact lpX (oT h1 (oU h2 (oU h3 oZ)))
end
theorem x9k (h1:¬ i2<9):Lp E 1 F7 1 (z1f r0 n0 i0 i1 i2 r1) (.exit 2) (z8h r0 i0 n0 r1):=lpX (oU h1 oZ)
def y0n (r0:RW) (n0:Nat) (i0:Int) (r1:RW):St:=stOf 72 [(0,.l r0),(3,.vec 0 n0),(4,.i i0)] [sV y4c r1]
def y5o (n1:Nat) (r2:RW):St:=stOf 72 [(3,.vec 0 n1)] [sV y4c r2]
theorem k7y (e1:IntKind.i64.wrap (i0+1)=i2)(h1:i0<(r0.length:Int))(h2:0≤i0)(h3:r0[(Int.toNat i0)]?=some [.w i1])(h4:Lp E 1 F7 1 (z1f r0 n0 i0 i1 0 r1) (.exit 2) (z8h r0 i0 n2 r3))(ih:Lp E 0 F7 0 (y0n r0 n2 i2 r3) o t):Lp E 0 F7 0 (y0n r0 n0 i0 r1) o t:=by subst e1;exact lpM (oT h1 (oP h2 (oD h3 (oM [(3,y4c)] h4 oZ)))) ih
theorem k1s (h1:¬ i0<(r0.length:Int)):Lp E 0 F7 0 (y0n r0 n0 i0 r1) (.exit 0) (y5o n0 r1):=lpX (oU h1 oZ)
def y0o (n0:Nat) (i0 i1:Int) (r0:RW):St:=stOf 72 [(3,.vec 0 n0),(7,.i i0),(8,.i i1)] [sV y4c r0]
def y5p (n0:Nat) (r1:RW):St:=stOf 72 [(3,.vec 0 n0)] [sV y4c r1]
theorem k7z (e1:List.set r0 (Int.toNat i0) [.u8 i2]=r2)(e2:List.set r2 (Int.toNat i1) [.u8 i3]=r3)(e3:IntKind.i64.wrap (i0+1)=i5)(e4:IntKind.i64.wrap (i1-1)=i6)(h1:i0<i1)(h2:0≤i1∧i1<((n0:Nat):Int))(h3:r0[(Int.toNat i1)]?=some [.u8 i2])(h4:0≤i0∧i0<((n0:Nat):Int))(h5:r0[(Int.toNat i0)]?=some [.u8 i3])(h6:r2[(Int.toNat i1)]?=some [.u8 i4])(ih:Lp E 1 F7 2 (y0o n0 i5 i6 r3) o t):Lp E 1 F7 2 (y0o n0 i0 i1 r0) o t:=by subst e1 e2 e3 e4;exact lpM (oT h1 (oP h2 (oD h3 (oP h4 (oD h5 (oP h4 (oD h5 (oP h2 (oD h6 oZ))))))))) ih
theorem k1t (h1:¬ i0<i1):Lp E 1 F7 2 (y0o n0 i0 i1 r0) (.exit 4) (y5p n0 r0):=lpX (oU h1 oZ)
theorem q1q (h1:(r0.length:Int)=0):Fn E F7 [.l r0] (.s ⟨#[48]⟩):=fnM (oB (beT h1) oZ)
theorem q1r (e1:IntKind.i64.wrap (((n0:Nat):Int)-1)=i0)(e2:ByteArray.mk (((r2.take n0).map y7n).toArray)=s0)(h1:¬ (r0.length:Int)=0)(h2:Lp E 0 F7 0 (y0n r0 0 0 []) (.exit 0) (y5o n0 r1))(h3:Lp E 1 F7 2 (y0o n0 0 i0 r1) (.exit 4) (y5p n0 r2))(h4:∀ x∈(r2.take n0),x0e x):Fn E F7 [.l r0] (.s s0):=by subst e1 e2;exact fnM (oC (beF h1) (oM [(3,y4c)] h2 (oL h3 (oP h4 oZ))))
theorem j0l (e1:Int.tmod i0 1000000000=i1)(e2:IntKind.u32.wrap (Int.tdiv i0 1000000000)=i2)(e3:(([[.w i1],[.w i2]]:RW).take n0)=r0)(h1:Rn E G0 [.vec 0 2] [sV A0 [[.w i1],[.w i2]]] (.vec 0 n0) [sV A0 [[.w i1],[.w i2]]]):Fn E Z3 [.w i0] (.l r0):=by subst e1 e2 e3;exact fnM (oP (show (1000000000:Int)≠0 from by decide) (oP (show (1000000000:Int)≠0 from by decide) (oR h1 oZ)))
def z4u (r0 r1:RW) (n0:Nat) (i0 i1 i2:Int) (r2:RW):St:=stOf 77 [(0,.l r0),(1,.l r1),(5,.vec 0 n0),(6,.i i0),(7,.c (.u64 i1)),(8,.i i2)] [sV A0 r2]
def z9h (r0 r1:RW) (n0:Nat) (i0 i3:Int) (r3:RW):St:=stOf 77 [(0,.l r0),(1,.l r1),(5,.vec 0 n0),(6,.i i0),(7,.c (.u64 i3))] [sV A0 r3]
theorem x9i (e1:IntKind.i64.wrap (i0+i2)=i4)(e2:IntKind.u64.wrap i5=i6)(e3:IntKind.u64.wrap i7=i8)(e4:IntKind.u64.wrap i9=i10)(e5:IntKind.u64.wrap (i8*i10)=i11)(e6:IntKind.u64.wrap (i6+i11)=i12)(e7:IntKind.u64.wrap (i12+i1)=i13)(e8:Int.tmod i13 1000000000=i14)(e9:IntKind.u32.wrap i14=i15)(e10:List.set r2 (Int.toNat i4) [.w i15]=r4)(e11:IntKind.u64.wrap (Int.tdiv i13 1000000000)=i16)(e12:IntKind.i64.wrap (i2+1)=i17)(h1:i2<(r1.length:Int))(h2:0≤i4∧i4<((n0:Nat):Int))(h3:r2[(Int.toNat i4)]?=some [.w i5])(h4:0≤i0)(h5:r0[(Int.toNat i0)]?=some [.w i7])(h6:0≤i2)(h7:r1[(Int.toNat i2)]?=some [.w i9])(ih:Lp E 1 D5 1 (z4u r0 r1 n0 i0 i16 i17 r4) o t):Lp E 1 D5 1 (z4u r0 r1 n0 i0 i1 i2 r2) o t:=by subst e1 e2 e3 e4 e5 e6 e7 e8 e9 e10 e11 e12;exact lpM (oT h1 (oP h2 (oD h3 (oP h4 (oD h5 (oP h6 (oD h7 (oP (show (1000000000:Int)≠0 from by decide) (oP h2 (oD h3 (oP (show (1000000000:Int)≠0 from by decide) oZ))))))))))) ih
theorem x4g (h1:¬ i2<(r1.length:Int)):Lp E 1 D5 1 (z4u r0 r1 n0 i0 i1 i2 r2) (.exit 2) (z9h r0 r1 n0 i0 i1 r2):=lpX (oU h1 oZ)
def z4t (r0 r1:RW) (n0:Nat) (i0:Int) (r2:RW):St:=stOf 77 [(0,.l r0),(1,.l r1),(5,.vec 0 n0),(6,.i i0)] [sV A0 r2]
def z9g (n0:Nat) (r3:RW):St:=stOf 77 [(5,.vec 0 n0)] [sV A0 r3]
theorem x9h (e1:IntKind.i64.wrap (i0+(r1.length:Int))=i2)(e2:IntKind.u32.wrap i1=i3)(e3:List.set r4 (Int.toNat i2) [.w i3]=r5)(e4:IntKind.i64.wrap (i0+1)=i5)(h1:i0<(r0.length:Int))(h2:Lp E 1 D5 1 (z4u r0 r1 n0 i0 0 0 r2) (.exit 2) (z9h r0 r1 n0 i0 i1 r4))(h3:0≤i2∧i2<((n0:Nat):Int))(h4:r4[(Int.toNat i2)]?=some [.w i4])(ih:Lp E 1 D5 0 (z4t r0 r1 n0 i5 r5) o t):Lp E 1 D5 0 (z4t r0 r1 n0 i0 r2) o t:=by subst e1 e2 e3 e4;exact lpM (oT h1 (oL h2 (oP h3 (oD h4 oZ)))) ih
theorem x4f (h1:¬ i0<(r0.length:Int)):Lp E 1 D5 0 (z4t r0 r1 n0 i0 r2) (.exit 0) (z9g n0 r2):=lpX (oU h1 oZ)
theorem j0m (h1:(r0.length:Int)=0):Fn E D5 [.l r0,.l r1] (.l []):=fnM (oB (beT h1) oZ)
theorem j0n (h1:¬ (r0.length:Int)=0)(h2:(r1.length:Int)=0):Fn E D5 [.l r0,.l r1] (.l []):=fnM (oC (beF h1) (oB (beT h2) oZ))
theorem j0o (e1:IntKind.i64.wrap ((r0.length:Int)+(r1.length:Int))=i0)(e2:Int.toNat i0=n0)(e3:List.replicate n0 [.w 0]=r2)(e4:(r3.take n1)=r4)(h1:¬ (r0.length:Int)=0)(h2:¬ (r1.length:Int)=0)(h3:0≤i0∧i0≤i0∧(Int.toNat i0)*4≤140737488355328∧(Int.toNat i0)≤140737488355328)(h4:Lp E 1 D5 0 (z4t r0 r1 n0 0 r2) (.exit 0) (z9g n0 r3))(h5:Rn E G0 [.vec 0 n0] [sV A0 r3] (.vec 0 n1) [sV A0 r3]):Fn E D5 [.l r0,.l r1] (.l r4):=by subst e1 e2 e3 e4;exact fnM (oC (beF h1) (oC (beF h2) (oP h3 (oL h4 (oR h5 oZ)))))
def Z0 (r0 r1:RW) (i0:Int):St:=stOf 41 [(0,.l r0),(1,.l r1),(5,.i i0)] []
def z8d (i1:Int):St:=stOf 41 [(4,.i i1)] []
def y3b:St:=stOf 41 [] []
theorem y9g (e1:IntKind.i64.wrap (i0-1)=i4)(h1:i0≥0)(h2:0≤i0)(h3:r0[(Int.toNat i0)]?=some [.w i2])(h4:r1[(Int.toNat i0)]?=some [.w i3])(h5:¬ i2<i3)(h6:¬ i2>i3)(ih:Lp E 0 G5 0 (Z0 r0 r1 i4) o t):Lp E 0 G5 0 (Z0 r0 r1 i0) o t:=by subst e1;exact lpM (oT h1 (oP h2 (oD h3 (oP h2 (oD h4 (oU h5 (oP h2 (oD h3 (oP h2 (oD h4 (oU h6 oZ))))))))))) ih
section
variable (h1:i0≥0)(h2:0≤i0)(h3:r0[(Int.toNat i0)]?=some [.w i2])(h4:r1[(Int.toNat i0)]?=some [.w i3])
include h1 h2 h3 h4
theorem x8z (h5:i2<i3):Lp E 0 G5 0 (Z0 r0 r1 i0) .ret (z8d (-1)):=lpX (oT h1 (oP h2 (oD h3 (oP h2 (oD h4 (oT h5 oZ))))))
theorem x9a (h5:¬ i2<i3)(h6:i2>i3):Lp E 0 G5 0 (Z0 r0 r1 i0) .ret (z8d 1):=lpX (oT h1 (oP h2 (oD h3 (oP h2 (oD h4 (oU h5 (oP h2 (oD h3 (oP h2 (oD h4 (oT h6 oZ)))))))))))
end
theorem x9b (h1:¬ i0≥0):Lp E 0 G5 0 (Z0 r0 r1 i0) (.exit 0) (y3b):=lpX (oU h1 oZ)
section
variable (h1:¬ (r0.length:Int)=(r1.length:Int))
include h1
theorem j9a (h2:(r0.length:Int)<(r1.length:Int)):Fn E G5 [.l r0,.l r1] (.i (-1)):=fnM (oB (bnT h1) (oT h2 oZ))
theorem j9b (h2:¬ (r0.length:Int)<(r1.length:Int)):Fn E G5 [.l r0,.l r1] (.i 1):=fnM (oB (bnT h1) (oU h2 oZ))
end
section
variable (e1:IntKind.i64.wrap ((r0.length:Int)-1)=i0)(h1:(r0.length:Int)=(r1.length:Int))
include e1 h1
theorem j9c (h2:Lp E 0 G5 0 (Z0 r0 r1 i0) .ret (z8d i1)):Fn E G5 [.l r0,.l r1] (.i i1):=by subst e1;exact fnM (oC (bnF h1) (oL h2 oZ))
theorem j9d (h2:Lp E 0 G5 0 (Z0 r0 r1 i0) (.exit 0) (y3b)):Fn E G5 [.l r0,.l r1] (.i 0):=by subst e1;exact fnM (oC (bnF h1) (oL h2 oZ))
end
def J8 (s0:BA) (i0:Int):St:=stOf 33 [(0,.s s0),(3,.i i0)] []
def z5j:St:=stOf 33 [(2,.b false)] []
def z2c (s0:BA):St:=stOf 33 [(0,.s s0)] []
section
variable (e1:((s0.data.toList.getD (Int.toNat i0) 0).toNat:Int)=i1)
include e1
theorem y4m (e2:IntKind.i64.wrap (i0+1)=i2)(h1:i0<(s0.size:Int))(h2:0≤i0∧i0<s0.size)(h3:¬ i1<48)(h4:¬ i1>57)(ih:Lp E 0 D4 0 (J8 s0 i2) o t):Lp E 0 D4 0 (J8 s0 i0) o t:=by subst e1 e2;exact lpM (oT h1 (oP h2 (oU h3 (oP h2 (oU h4 oZ))))) ih
section
variable (h1:i0<(s0.size:Int))(h2:0≤i0∧i0<s0.size)
include h1 h2
theorem x4h (h3:i1<48):Lp E 0 D4 0 (J8 s0 i0) .ret (z5j):=by subst e1;exact lpX (oT h1 (oP h2 (oT h3 oZ)))
theorem x4i (h3:¬ i1<48)(h4:i1>57):Lp E 0 D4 0 (J8 s0 i0) .ret (z5j):=by subst e1;exact lpX (oT h1 (oP h2 (oU h3 (oP h2 (oT h4 oZ)))))
end
end
theorem x4j (h1:¬ i0<(s0.size:Int)):Lp E 0 D4 0 (J8 s0 i0) (.exit 0) (z2c s0):=lpX (oU h1 oZ)
theorem j0p (h1:Lp E 0 D4 0 (J8 s0 0) .ret (z5j)):Fn E D4 [.s s0] (.b false):=fnM (oL h1 oZ)
theorem j0q (h1:Lp E 0 D4 0 (J8 s0 0) (.exit 0) (z2c s0))(h2:(s0.size:Int)=1):Fn E D4 [.s s0] (.b true):=fnM (oL h1 (oB (beT h2) oZ))
section
variable (e1:((s0.data.toList.getD 0 0).toNat:Int)=i0)(h1:Lp E 0 D4 0 (J8 s0 0) (.exit 0) (z2c s0))(h2:¬ (s0.size:Int)=1)(h3:(s0.size:Int)>1)(h4:0≤(0:Int)∧(0:Int)<s0.size)
include e1 h1 h2 h3 h4
theorem j0r (h5:¬ i0=48):Fn E D4 [.s s0] (.b true):=by subst e1;exact fnM (oL h1 (oC (beF h2) (oT h3 (oP h4 (oB (bnT h5) oZ)))))
theorem j0s (h5:i0=48):Fn E D4 [.s s0] (.b false):=by subst e1;exact fnM (oL h1 (oC (beF h2) (oT h3 (oP h4 (oC (bnF h5) oZ)))))
end
theorem j0t (h1:Lp E 0 D4 0 (J8 s0 0) (.exit 0) (z2c s0))(h2:¬ (s0.size:Int)=1)(h3:¬ (s0.size:Int)>1):Fn E D4 [.s s0] (.b false):=fnM (oL h1 (oC (beF h2) (oU h3 oZ)))
def z4s (s0:BA) (n0:Nat) (i0 i1 i2:Int) (r0:RW):St:=stOf 35 [(0,.s s0),(3,.vec 0 n0),(4,.i i0),(5,.w i1),(6,.i i2)] [sV A0 r0]
def z9f (s0:BA) (n0:Nat) (i0:Int) (r0:RW) (i3:Int):St:=stOf 35 [(0,.s s0),(3,.vec 0 n0),(4,.i i0),(5,.w i3)] [sV A0 r0]
theorem x9c (e1:IntKind.u32.wrap (10*i1)=i4)(e2:((s0.data.toList.getD (Int.toNat i2) 0).toNat:Int)=i5)(e3:IntKind.u8.wrap (i5-48)=i6)(e4:IntKind.u32.wrap i6=i7)(e5:IntKind.u32.wrap (i4+i7)=i8)(e6:IntKind.i64.wrap (i2+1)=i9)(h1:i2<i0)(h2:0≤i2∧i2<s0.size)(ih:Lp E 1 H0 1 (z4s s0 n0 i0 i8 i9 r0) o t):Lp E 1 H0 1 (z4s s0 n0 i0 i1 i2 r0) o t:=by subst e1 e2 e3 e4 e5 e6;exact lpM (oT h1 (oP h2 oZ)) ih
theorem x4d (h1:¬ i2<i0):Lp E 1 H0 1 (z4s s0 n0 i0 i1 i2 r0) (.exit 2) (z9f s0 n0 i0 r0 i1):=lpX (oU h1 oZ)
def z6a (s0:BA) (n0:Nat) (i0:Int) (r0:RW):St:=stOf 35 [(0,.s s0),(3,.vec 0 n0),(4,.i i0)] [sV A0 r0]
def y1a (n1:Nat) (r1:RW):St:=stOf 35 [(3,.vec 0 n1)] [sV A0 r1]
theorem k1k (e1:IntKind.i64.wrap (i0-9)=i1)(e2:(if i1>0 then i1 else 0)=i2)(e3:(r0.take n0)++[[.w i3]]=r2)(e4:n0+1=n2)(h1:i0>0)(h2:Lp E 1 H0 1 (z4s s0 n0 i0 0 i2 r0) (.exit 2) (z9f s0 n0 i0 r0 i3))(h3:(n0+1)*4≤140737488355328∧n0+1≤140737488355328)(ih:Lp E 0 H0 0 (z6a s0 n2 i1 r2) o t):Lp E 0 H0 0 (z6a s0 n0 i0 r0) o t:=by subst e1 e2 e3 e4;exact lpM (oT h1 (oL h2 (oP (show ∀ y∈([[.w i3]]:RW),y.length=1 from by simp) (oP h3 oZ)))) ih
theorem x6j (h1:¬ i0>0):Lp E 0 H0 0 (z6a s0 n0 i0 r0) (.exit 0) (y1a n0 r0):=lpX (oU h1 oZ)
theorem j5p (e1:(r0.take n1)=r1)(h1:Lp E 0 H0 0 (z6a s0 0 (s0.size:Int) []) (.exit 0) (y1a n0 r0))(h2:Rn E G0 [.vec 0 n0] [sV A0 r0] (.vec 0 n1) [sV A0 r0]):Fn E H0 [.s s0] (.l r1):=by subst e1;exact fnM (oM [(3,A0)] h1 (oR h2 oZ))
def z3j (i0 i1:Int):St:=stOf 41 [(5,.c (.u64 i0)),(6,.c (.u64 i1))] []
def z8g (i2:Int):St:=stOf 41 [(5,.c (.u64 i2))] []
theorem x6i (e1:Int.tmod i0 i1=i3)(h1:¬ i1=0)(h2:i1≠0)(ih:Lp E 0 D8 1 (z3j i1 i3) o t):Lp E 0 D8 1 (z3j i0 i1) o t:=by subst e1;exact lpM (oB (bnT h1) (oP h2 oZ)) ih
theorem x2a (h1:i1=0):Lp E 0 D8 1 (z3j i0 i1) (.exit 2) (z8g i0):=lpX (oC (bnF h1) oZ)
def K1 (r0 r1:RW):St:=stOf 41 [(0,.l r0),(1,.l r1)] []
def z8e (r2:RW):St:=stOf 41 [(4,.l r2)] []
def z8f (r3:RW):St:=stOf 41 [(0,.l r3)] []
section
variable (h1:(r1.length:Int)>0)
include h1
theorem y3c (h2:(r0.length:Int)≤2)(h3:¬ (r1.length:Int)≤2)(h4:Fn E D9 [.l r0,.l r1] (.tup [.l r4,.l r5]))(ih:Lp E 0 D8 0 (K1 r1 r5) o t):Lp E 0 D8 0 (K1 r0 r1) o t:=lpM (oT h1 (oT h2 (oU h3 (oF h4 oZ)))) ih
theorem y3d (h2:¬ (r0.length:Int)≤2)(h3:Fn E D9 [.l r0,.l r1] (.tup [.l r4,.l r5]))(ih:Lp E 0 D8 0 (K1 r1 r5) o t):Lp E 0 D8 0 (K1 r0 r1) o t:=lpM (oT h1 (oU h2 (oF h3 oZ))) ih
theorem x1y (h2:(r0.length:Int)≤2)(h3:(r1.length:Int)≤2)(h4:Fn E Y6 [.l r0] (.c (.u64 i0)))(h5:Fn E Y6 [.l r1] (.c (.u64 i1)))(h6:Lp E 0 D8 1 (z3j i0 i1) (.exit 2) (z8g i2))(h7:Fn E y7k [.c (.u64 i2)] (.l r6)):Lp E 0 D8 0 (K1 r0 r1) .ret (z8e r6):=lpX (oT h1 (oT h2 (oT h3 (oF h4 (oF h5 (oL h6 (oF h7 oZ)))))))
end
theorem x1z (h1:¬ (r1.length:Int)>0):Lp E 0 D8 0 (K1 r0 r1) (.exit 0) (z8f r0):=lpX (oU h1 oZ)
theorem k7w (h1:Lp E 0 D8 0 (K1 r0 r1) .ret (z8e r2)):Fn E D8 [.l r0,.l r1] (.l r2):=fnM (oL h1 oZ)
theorem k7x (h1:Lp E 0 D8 0 (K1 r0 r1) (.exit 0) (z8f r2)):Fn E D8 [.l r0,.l r1] (.l r2):=fnM (oL h1 oZ)
def z3u (n0:Nat) (r0:RW):St:=stOf 21 [(0,.vec 0 n0)] [sV A0 r0]
def z6h (r0:RW) (n1:Nat):St:=stOf 21 [(0,.vec 0 n1)] [sV A0 r0]
section
variable (e1:IntKind.i64.wrap (((n0:Nat):Int)-1)=i0)
include e1
theorem k1u (e2:(Int.toNat i0)=n2)(h1:((n0:Nat):Int)>0)(h2:0≤i0∧i0<((n0:Nat):Int))(h3:r0[(Int.toNat i0)]?=some [.w i1])(h4:i1=0)(h5:0≤i0∧i0≤((n0:Nat):Int))(ih:Lp E 1 G0 0 (z3u n2 r0) o t):Lp E 1 G0 0 (z3u n0 r0) o t:=by subst e1 e2;exact lpM (oT h1 (oP h2 (oD h3 (oB (beT h4) (oP h5 oZ))))) ih
theorem x6r (h1:((n0:Nat):Int)>0)(h2:0≤i0∧i0<((n0:Nat):Int))(h3:r0[(Int.toNat i0)]?=some [.w i1])(h4:¬ i1=0):Lp E 1 G0 0 (z3u n0 r0) (.exit 0) (z6h r0 n0):=by subst e1;exact lpX (oT h1 (oP h2 (oD h3 (oC (beF h4) oZ))))
end
theorem x6s (h1:¬ ((n0:Nat):Int)>0):Lp E 1 G0 0 (z3u n0 r0) (.exit 0) (z6h r0 n0):=lpX (oU h1 oZ)
theorem j5u (h1:Lp E 1 G0 0 (z3u n0 r0) (.exit 0) (z6h r0 n1)):Rn E G0 [.vec 0 n0] [sV A0 r0] (.vec 0 n1) [sV A0 r0]:=rnM (oL h1 oZ)
def U3 (i0:Int) (r0 r1:RW) (n0 n1:Nat) (i1 i2 i3:Int) (r2 r3 r4:RW):St:=stOf 176 [(8,.i i0),(9,.l r0),(10,.l r1),(11,.vec 3 n0),(12,.vec 4 n1),(13,.i i1),(15,.c (.u64 i2)),(16,.c (.u64 i3))] [some .dead,some .dead,sV A0 r2,sV A0 r3,sV A0 r4]
def z3k (i0:Int) (r0 r1:RW) (n0 n1:Nat) (i1:Int) (r2 r3 r4:RW) (i4:Int):St:=stOf 176 [(8,.i i0),(9,.l r0),(10,.l r1),(11,.vec 3 n0),(12,.vec 4 n1),(13,.i i1),(15,.c (.u64 i4))] [some .dead,some .dead,sV A0 r2,sV A0 r3,sV A0 r4]
theorem k1m (e1:IntKind.u64.wrap (i2-1)=i5)(e2:IntKind.i64.wrap (i0-1)=i6)(e3:IntKind.u64.wrap i7=i8)(e4:IntKind.u64.wrap (i3+i8)=i9)(h1:i3<1000000000)(h2:i2≥1000000000)(h3:0≤i6)(h4:r1[(Int.toNat i6)]?=some [.w i7])(ih:Lp E 5 D9 1 (U3 i0 r0 r1 n0 n1 i1 i5 i9 r2 r3 r4) o t):Lp E 5 D9 1 (U3 i0 r0 r1 n0 n1 i1 i2 i3 r2 r3 r4) o t:=by subst e1 e2 e3 e4;exact lpM (oT h1 (oT h2 (oP h3 (oD h4 oZ)))) ih
section
variable (e1:IntKind.i64.wrap (i0-2)=i5)(e2:IntKind.u64.wrap i6=i7)(e3:IntKind.u64.wrap (i2*i7)=i8)(e4:IntKind.u64.wrap (i3*1000000000)=i9)(e5:IntKind.i64.wrap (i1+i0)=i10)(e6:IntKind.i64.wrap (i10-2)=i11)(e7:IntKind.u64.wrap i12=i13)(e8:IntKind.u64.wrap (i9+i13)=i14)
include e1 e2 e3 e4 e5 e6 e7 e8
theorem k1n (e9:IntKind.u64.wrap (i2-1)=i15)(e10:IntKind.i64.wrap (i0-1)=i16)(e11:IntKind.u64.wrap i17=i18)(e12:IntKind.u64.wrap (i3+i18)=i19)(h1:i3<1000000000)(h2:¬ i2≥1000000000)(h3:0≤i5)(h4:r1[(Int.toNat i5)]?=some [.w i6])(h5:0≤i11∧i11<((n0:Nat):Int))(h6:r3[(Int.toNat i11)]?=some [.w i12])(h7:i8>i14)(h8:0≤i16)(h9:r1[(Int.toNat i16)]?=some [.w i17])(ih:Lp E 5 D9 1 (U3 i0 r0 r1 n0 n1 i1 i15 i19 r2 r3 r4) o t):Lp E 5 D9 1 (U3 i0 r0 r1 n0 n1 i1 i2 i3 r2 r3 r4) o t:=by subst e1 e2 e3 e4 e5 e6 e7 e8 e9 e10 e11 e12;exact lpM (oT h1 (oU h2 (oP h3 (oD h4 (oP h5 (oD h6 (oT h7 (oP h8 (oD h9 oZ))))))))) ih
theorem x6l (h1:i3<1000000000)(h2:¬ i2≥1000000000)(h3:0≤i5)(h4:r1[(Int.toNat i5)]?=some [.w i6])(h5:0≤i11∧i11<((n0:Nat):Int))(h6:r3[(Int.toNat i11)]?=some [.w i12])(h7:¬ i8>i14):Lp E 5 D9 1 (U3 i0 r0 r1 n0 n1 i1 i2 i3 r2 r3 r4) (.exit 2) (z3k i0 r0 r1 n0 n1 i1 r2 r3 r4 i2):=by subst e1 e2 e3 e4 e5 e6 e7 e8;exact lpX (oT h1 (oU h2 (oP h3 (oD h4 (oP h5 (oD h6 (oU h7 oZ)))))))
end
theorem x6m (h1:¬ i3<1000000000):Lp E 5 D9 1 (U3 i0 r0 r1 n0 n1 i1 i2 i3 r2 r3 r4) (.exit 2) (z3k i0 r0 r1 n0 n1 i1 r2 r3 r4 i2):=lpX (oU h1 oZ)
def z6b (i0:Int) (r0 r1:RW) (n0 n1:Nat) (i1:Int) (r2 r3 r4:RW):St:=stOf 176 [(8,.i i0),(9,.l r0),(10,.l r1),(11,.vec 3 n0),(12,.vec 4 n1),(13,.i i1)] [some .dead,some .dead,sV A0 r2,sV A0 r3,sV A0 r4]
def y1b (i0:Int) (r0:RW) (n0 n1:Nat) (r2 r5 r6:RW):St:=stOf 176 [(8,.i i0),(9,.l r0),(11,.vec 3 n0),(12,.vec 4 n1)] [some .dead,some .dead,sV A0 r2,sV A0 r5,sV A0 r6]
theorem k1l (e1:IntKind.i64.wrap (i1+i0)=i2)(e2:IntKind.u64.wrap i3=i4)(e3:IntKind.u64.wrap (i4*1000000000)=i5)(e4:IntKind.i64.wrap (i2-1)=i6)(e5:IntKind.u64.wrap i7=i8)(e6:IntKind.u64.wrap (i5+i8)=i9)(e7:IntKind.i64.wrap (i0-1)=i10)(e8:IntKind.u64.wrap i11=i12)(e9:IntKind.u64.wrap (Int.tdiv i9 i12)=i13)(e10:Int.tmod i9 i12=i14)(e11:List.set r4 (Int.toNat i1) [.w i16]=r8)(e12:IntKind.i64.wrap (i1-1)=i18)(h1:i1≥0)(h2:0≤i2∧i2<((n0:Nat):Int))(h3:r3[(Int.toNat i2)]?=some [.w i3])(h4:0≤i6∧i6<((n0:Nat):Int))(h5:r3[(Int.toNat i6)]?=some [.w i7])(h6:0≤i10)(h7:r1[(Int.toNat i10)]?=some [.w i11])(h8:i12≠0)(h9:Lp E 5 D9 1 (U3 i0 r0 r1 n0 n1 i1 i13 i14 r2 r3 r4) (.exit 2) (z3k i0 r0 r1 n0 n1 i1 r2 r3 r4 i15))(h10:Rn E C8 [.vec 3 n0,.l r1,.i i1,.c (.u64 i15)] [some .dead,some .dead,sV A0 r2,sV A0 r3,sV A0 r4] (.w i16) [some .dead,some .dead,sV A0 r2,sV A0 r7,sV A0 r4])(h11:0≤i1∧i1<((n1:Nat):Int))(h12:r4[(Int.toNat i1)]?=some [.w i17])(ih:Lp E 5 D9 0 (z6b i0 r0 r1 n0 n1 i18 r2 r7 r8) o t):Lp E 5 D9 0 (z6b i0 r0 r1 n0 n1 i1 r2 r3 r4) o t:=by subst e1 e2 e3 e4 e5 e6 e7 e8 e9 e10 e11 e12;exact lpM (oT h1 (oP h2 (oD h3 (oP h4 (oD h5 (oP h6 (oD h7 (oP h8 (oP h6 (oD h7 (oP h8 (oL h9 (oV h10 (oP h11 (oD h12 oZ))))))))))))))) ih
theorem x6k (h1:¬ i1≥0):Lp E 5 D9 0 (z6b i0 r0 r1 n0 n1 i1 r2 r3 r4) (.exit 0) (y1b i0 r0 n0 n1 r2 r3 r4):=lpX (oU h1 oZ)
section
variable (h1:Fn E G5 [.l r0,.l r1] (.i i0))
include h1
theorem j5q (h2:i0<0):Fn E D9 [.l r0,.l r1] (.tup [.l [],.l r0]):=fnM (oF h1 (oT h2 oZ))
theorem j5r (h2:¬ i0<0)(h3:(r1.length:Int)=1)(h4:r1[0]?=some [.w i1])(h5:Fn E P8 [.l r0,.w i1] (.tup [.l r2,.w i2]))(h6:Fn E Z3 [.w i2] (.l r3)):Fn E D9 [.l r0,.l r1] (.tup [.l r2,.l r3]):=fnM (oF h1 (oU h2 (oB (beT h3) (oP (show (0:Int)≤0 from by decide) (oD h4 (oF h5 (oF h6 oZ)))))))
end
theorem j5s (e1:IntKind.i64.wrap ((r1.length:Int)-1)=i1)(e2:IntKind.i64.wrap i3=i2)(e3:IntKind.i64.wrap (i2+1)=i4)(e4:IntKind.i64.wrap (Int.tdiv 1000000000 i4)=i5)(e5:IntKind.u32.wrap i5=i6)(e6:(([]:RW).take 0)++r6=r7)(e7:0+r6.length=n0)(e8:(r7.take n0)++[[.w 0],[.w 0]]=r8)(e9:n0+2=n1)(e10:IntKind.i64.wrap ((r0.length:Int)+1)=i7)(e11:(if ((n2:Nat):Int)>i7 then ((n2:Nat):Int) else i7)=i8)(e12:(Int.toNat i8)=n3)(e13:IntKind.i64.wrap (((n3:Nat):Int)-(r1.length:Int))=i9)(e14:Int.toNat i9=n4)(e15:List.replicate n4 [.w 0]=r9)(e16:IntKind.i64.wrap (i9-1)=i10)(e17:(Int.toNat (r1.length:Int))=n5)(e18:(r10.take n6)=r12)(e19:(r11.take n7)=r14)(h1:Fn E G5 [.l r0,.l r1] (.i i0))(h2:¬ i0<0)(h3:¬ (r1.length:Int)=1)(h4:0≤i1)(h5:r1[(Int.toNat i1)]?=some [.w i3])(h6:i4≠0)(h7:Fn E Z3 [.w i6] (.l r4))(h8:Fn E D5 [.l r1,.l r4] (.l r5))(h9:Fn E D5 [.l r0,.l r4] (.l r6))(h10:∀ y∈r6,y.length=1)(h11:(0+r6.length)*4≤140737488355328∧0+r6.length≤140737488355328)(h12:(n0+2)*4≤140737488355328∧n0+2≤140737488355328)(h13:Rn E G0 [.vec 3 n1] [some .dead,some .dead,sV A0 [[.w 0],[.w 0]],sV A0 r8] (.vec 3 n2) [some .dead,some .dead,sV A0 [[.w 0],[.w 0]],sV A0 r8])(h14:0≤i8∧i8≤((n1:Nat):Int))(h15:0≤i9∧i9≤i9∧(Int.toNat i9)*4≤140737488355328∧(Int.toNat i9)≤140737488355328)(h16:Lp E 5 D9 0 (z6b (r1.length:Int) r4 r5 n3 n4 i10 [[.w 0],[.w 0]] r8 r9) (.exit 0) (y1b (r1.length:Int) r4 n3 n4 [[.w 0],[.w 0]] r10 r11))(h17:0≤(r1.length:Int)∧(r1.length:Int)≤((n3:Nat):Int))(h18:Rn E G0 [.vec 3 n5] [some .dead,some .dead,sV A0 [[.w 0],[.w 0]],sV A0 r10,sV A0 r11] (.vec 3 n6) [some .dead,some .dead,sV A0 [[.w 0],[.w 0]],sV A0 r10,sV A0 r11])(h19:r4[0]?=some [.w i11])(h20:Fn E P8 [.l r12,.w i11] (.tup [.l r13,.w i12]))(h21:Rn E G0 [.vec 4 n4] [some .dead,some .dead,sV A0 [[.w 0],[.w 0]],sF r10,sV A0 r11] (.vec 4 n7) [some .dead,some .dead,sV A0 [[.w 0],[.w 0]],sF r10,sV A0 r11]):Fn E D9 [.l r0,.l r1] (.tup [.l r14,.l r13]):=by subst e1 e2 e3 e4 e5 e6 e7 e8 e9 e10 e11 e12 e13 e14 e15 e16 e17 e18 e19;exact fnM (oF h1 (oU h2 (oC (beF h3) (oP h4 (oD h5 (oP h6 (oF h7 (oF h8 (oF h9 (oP h10 (oP h11 (oP (show ∀ y∈([[.w 0],[.w 0]]:RW),y.length=1 from by simp) (oP h12 (oR h13 (oP h14 (oP h15 (oL h16 (oP h17 (oR h18 (oP (show (0:Int)≤0 from by decide) (oD h19 (oF h20 (oR h21 oZ)))))))))))))))))))))))
def M4 (r0 r1:RW) (n0:Nat) (i0 i1:Int) (r2:RW):St:=stOf 55 [(0,.l r0),(1,.l r1),(5,.vec 0 n0),(6,.w i0),(7,.i i1)] [sV A0 r2]
def y1c (n1:Nat) (r3:RW):St:=stOf 55 [(5,.vec 0 n1)] [sV A0 r3]
section
variable (e1:IntKind.u32.wrap (i0+i2)=i3)
include e1
theorem k1o (e2:IntKind.u32.wrap (i3+i4)=i5)(e3:Int.tmod i5 1000000000=i6)(e4:(r2.take n0)++[[.w i6]]=r4)(e5:n0+1=n2)(e6:IntKind.u32.wrap (Int.tdiv i5 1000000000)=i7)(e7:IntKind.i64.wrap (i1+1)=i8)(h1:i1<(r0.length:Int))(h2:0≤i1)(h3:r0[(Int.toNat i1)]?=some [.w i2])(h4:i1<(r1.length:Int))(h5:r1[(Int.toNat i1)]?=some [.w i4])(h6:(n0+1)*4≤140737488355328∧n0+1≤140737488355328)(ih:Lp E 0 J5 0 (M4 r0 r1 n2 i7 i8 r4) o t):Lp E 0 J5 0 (M4 r0 r1 n0 i0 i1 r2) o t:=by subst e1 e2 e3 e4 e5 e6 e7;exact lpM (oT h1 (oT h1 (oP h2 (oD h3 (oT h4 (oP h2 (oD h5 (oP (show (1000000000:Int)≠0 from by decide) (oP (show ∀ y∈([[.w (Int.tmod (IntKind.u32.wrap ((IntKind.u32.wrap (i0+i2))+i4)) 1000000000)]]:RW),y.length=1 from by simp) (oP h6 (oP (show (1000000000:Int)≠0 from by decide) oZ))))))))))) ih
section
variable (e2:Int.tmod i3 1000000000=i4)(e3:(r2.take n0)++[[.w i4]]=r5)(e4:n0+1=n3)(e5:IntKind.u32.wrap (Int.tdiv i3 1000000000)=i9)(e6:IntKind.i64.wrap (i1+1)=i10)
include e2 e3 e4 e5 e6
theorem k1p (h1:i1<(r0.length:Int))(h2:0≤i1)(h3:r0[(Int.toNat i1)]?=some [.w i2])(h4:¬ i1<(r1.length:Int))(h5:(n0+1)*4≤140737488355328∧n0+1≤140737488355328)(ih:Lp E 0 J5 0 (M4 r0 r1 n3 i9 i10 r5) o t):Lp E 0 J5 0 (M4 r0 r1 n0 i0 i1 r2) o t:=by subst e1 e2 e3 e4 e5 e6;exact lpM (oT h1 (oT h1 (oP h2 (oD h3 (oU h4 (oP (show (1000000000:Int)≠0 from by decide) (oP (show ∀ y∈([[.w (Int.tmod (IntKind.u32.wrap (i0+i2)) 1000000000)]]:RW),y.length=1 from by simp) (oP h5 (oP (show (1000000000:Int)≠0 from by decide) oZ))))))))) ih
theorem k1q (h1:¬ i1<(r0.length:Int))(h2:i1<(r1.length:Int))(h3:0≤i1)(h4:r1[(Int.toNat i1)]?=some [.w i2])(h5:(n0+1)*4≤140737488355328∧n0+1≤140737488355328)(ih:Lp E 0 J5 0 (M4 r0 r1 n3 i9 i10 r5) o t):Lp E 0 J5 0 (M4 r0 r1 n0 i0 i1 r2) o t:=by subst e1 e2 e3 e4 e5 e6;exact lpM (oU h1 (oT h2 (oU h1 (oT h2 (oP h3 (oD h4 (oP (show (1000000000:Int)≠0 from by decide) (oP (show ∀ y∈([[.w (Int.tmod (IntKind.u32.wrap (i0+i2)) 1000000000)]]:RW),y.length=1 from by simp) (oP h5 (oP (show (1000000000:Int)≠0 from by decide) oZ)))))))))) ih
end
end
theorem k1r (e1:Int.tmod i0 1000000000=i2)(e2:(r2.take n0)++[[.w i2]]=r6)(e3:n0+1=n4)(e4:IntKind.u32.wrap (Int.tdiv i0 1000000000)=i5)(e5:IntKind.i64.wrap (i1+1)=i6)(h1:¬ i1<(r0.length:Int))(h2:¬ i1<(r1.length:Int))(h3:i0>0)(h4:(n0+1)*4≤140737488355328∧n0+1≤140737488355328)(ih:Lp E 0 J5 0 (M4 r0 r1 n4 i5 i6 r6) o t):Lp E 0 J5 0 (M4 r0 r1 n0 i0 i1 r2) o t:=by subst e1 e2 e3 e4 e5;exact lpM (oU h1 (oU h2 (oT h3 (oU h1 (oU h2 (oP (show (1000000000:Int)≠0 from by decide) (oP (show ∀ y∈([[.w (Int.tmod i0 1000000000)]]:RW),y.length=1 from by simp) (oP h4 (oP (show (1000000000:Int)≠0 from by decide) oZ))))))))) ih
theorem x6n (h1:¬ i1<(r0.length:Int))(h2:¬ i1<(r1.length:Int))(h3:¬ i0>0):Lp E 0 J5 0 (M4 r0 r1 n0 i0 i1 r2) (.exit 0) (y1c n0 r2):=lpX (oU h1 (oU h2 (oU h3 oZ)))
theorem j5t (e1:(r2.take n1)=r3)(h1:Lp E 0 J5 0 (M4 r0 r1 0 0 0 []) (.exit 0) (y1c n0 r2))(h2:Rn E G0 [.vec 0 n0] [sV A0 r2] (.vec 0 n1) [sV A0 r2]):Fn E J5 [.l r0,.l r1] (.l r3):=by subst e1;exact fnM (oM [(5,A0)] h1 (oR h2 oZ))
def H7 (r0 r1:RW) (n0:Nat) (i0 i1:Int) (r2:RW):St:=stOf 44 [(0,.l r0),(1,.l r1),(5,.vec 0 n0),(6,.i i0),(7,.i i1)] [sV A0 r2]
def z5i (n1:Nat) (r3:RW):St:=stOf 44 [(5,.vec 0 n1)] [sV A0 r3]
section
variable (e1:IntKind.i64.wrap i2=i3)(e2:IntKind.i64.wrap (i3-i0)=i4)
include e1 e2
section
variable (e3:IntKind.i64.wrap i5=i6)(e4:IntKind.i64.wrap (i4-i6)=i7)
include e3 e4
theorem x9d (e5:IntKind.i64.wrap (i7+1000000000)=i8)(e6:IntKind.u32.wrap i8=i9)(e7:(r2.take n0)++[[.w i9]]=r4)(e8:n0+1=n2)(e9:IntKind.i64.wrap (i1+1)=i10)(h1:i1<(r0.length:Int))(h2:0≤i1)(h3:r0[(Int.toNat i1)]?=some [.w i2])(h4:i1<(r1.length:Int))(h5:r1[(Int.toNat i1)]?=some [.w i5])(h6:i7<0)(h7:(n0+1)*4≤140737488355328∧n0+1≤140737488355328)(ih:Lp E 0 F6 0 (H7 r0 r1 n2 1 i10 r4) o t):Lp E 0 F6 0 (H7 r0 r1 n0 i0 i1 r2) o t:=by subst e1 e2 e3 e4 e5 e6 e7 e8 e9;exact lpM (oT h1 (oP h2 (oD h3 (oT h4 (oP h2 (oD h5 (oT h6 (oP (show ∀ y∈([[.w (IntKind.u32.wrap (IntKind.i64.wrap ((IntKind.i64.wrap ((IntKind.i64.wrap ((IntKind.i64.wrap i2)-i0))-(IntKind.i64.wrap i5)))+1000000000)))]]:RW),y.length=1 from by simp) (oP h7 oZ))))))))) ih
theorem x9e (e5:IntKind.u32.wrap i7=i8)(e6:(r2.take n0)++[[.w i8]]=r5)(e7:n0+1=n3)(e8:IntKind.i64.wrap (i1+1)=i11)(h1:i1<(r0.length:Int))(h2:0≤i1)(h3:r0[(Int.toNat i1)]?=some [.w i2])(h4:i1<(r1.length:Int))(h5:r1[(Int.toNat i1)]?=some [.w i5])(h6:¬ i7<0)(h7:(n0+1)*4≤140737488355328∧n0+1≤140737488355328)(ih:Lp E 0 F6 0 (H7 r0 r1 n3 0 i11 r5) o t):Lp E 0 F6 0 (H7 r0 r1 n0 i0 i1 r2) o t:=by subst e1 e2 e3 e4 e5 e6 e7 e8;exact lpM (oT h1 (oP h2 (oD h3 (oT h4 (oP h2 (oD h5 (oU h6 (oP (show ∀ y∈([[.w (IntKind.u32.wrap (IntKind.i64.wrap ((IntKind.i64.wrap ((IntKind.i64.wrap i2)-i0))-(IntKind.i64.wrap i5))))]]:RW),y.length=1 from by simp) (oP h7 oZ))))))))) ih
end
theorem x9f (e3:IntKind.i64.wrap (i4+1000000000)=i5)(e4:IntKind.u32.wrap i5=i6)(e5:(r2.take n0)++[[.w i6]]=r6)(e6:n0+1=n4)(e7:IntKind.i64.wrap (i1+1)=i9)(h1:i1<(r0.length:Int))(h2:0≤i1)(h3:r0[(Int.toNat i1)]?=some [.w i2])(h4:¬ i1<(r1.length:Int))(h5:i4<0)(h6:(n0+1)*4≤140737488355328∧n0+1≤140737488355328)(ih:Lp E 0 F6 0 (H7 r0 r1 n4 1 i9 r6) o t):Lp E 0 F6 0 (H7 r0 r1 n0 i0 i1 r2) o t:=by subst e1 e2 e3 e4 e5 e6 e7;exact lpM (oT h1 (oP h2 (oD h3 (oU h4 (oT h5 (oP (show ∀ y∈([[.w (IntKind.u32.wrap (IntKind.i64.wrap ((IntKind.i64.wrap ((IntKind.i64.wrap i2)-i0))+1000000000)))]]:RW),y.length=1 from by simp) (oP h6 oZ))))))) ih
theorem x9g (e3:IntKind.u32.wrap i4=i5)(e4:(r2.take n0)++[[.w i5]]=r7)(e5:n0+1=n5)(e6:IntKind.i64.wrap (i1+1)=i8)(h1:i1<(r0.length:Int))(h2:0≤i1)(h3:r0[(Int.toNat i1)]?=some [.w i2])(h4:¬ i1<(r1.length:Int))(h5:¬ i4<0)(h6:(n0+1)*4≤140737488355328∧n0+1≤140737488355328)(ih:Lp E 0 F6 0 (H7 r0 r1 n5 0 i8 r7) o t):Lp E 0 F6 0 (H7 r0 r1 n0 i0 i1 r2) o t:=by subst e1 e2 e3 e4 e5 e6;exact lpM (oT h1 (oP h2 (oD h3 (oU h4 (oU h5 (oP (show ∀ y∈([[.w (IntKind.u32.wrap (IntKind.i64.wrap ((IntKind.i64.wrap i2)-i0)))]]:RW),y.length=1 from by simp) (oP h6 oZ))))))) ih
end
theorem x4e (h1:¬ i1<(r0.length:Int)):Lp E 0 F6 0 (H7 r0 r1 n0 i0 i1 r2) (.exit 0) (z5i n0 r2):=lpX (oU h1 oZ)
theorem j0k (e1:(r2.take n1)=r3)(h1:Lp E 0 F6 0 (H7 r0 r1 0 0 0 []) (.exit 0) (z5i n0 r2))(h2:Rn E G0 [.vec 0 n0] [sV A0 r2] (.vec 0 n1) [sV A0 r2]):Fn E F6 [.l r0,.l r1] (.l r3):=by subst e1;exact fnM (oM [(5,A0)] h1 (oR h2 oZ))
def z6c (r0:RW) (i0 i1:Int):St:=stOf 21 [(0,.l r0),(3,.c (.u64 i0)),(4,.i i1)] []
def y1d (i2:Int):St:=stOf 21 [(3,.c (.u64 i2))] []
theorem k1v (e1:IntKind.u64.wrap (i0*1000000000)=i3)(e2:IntKind.u64.wrap i4=i5)(e3:IntKind.u64.wrap (i3+i5)=i6)(e4:IntKind.i64.wrap (i1-1)=i7)(h1:i1≥0)(h2:0≤i1)(h3:r0[(Int.toNat i1)]?=some [.w i4])(ih:Lp E 0 Y6 0 (z6c r0 i6 i7) o t):Lp E 0 Y6 0 (z6c r0 i0 i1) o t:=by subst e1 e2 e3 e4;exact lpM (oT h1 (oP h2 (oD h3 oZ))) ih
theorem x6t (h1:¬ i1≥0):Lp E 0 Y6 0 (z6c r0 i0 i1) (.exit 0) (y1d i0):=lpX (oU h1 oZ)
theorem j5w (e1:IntKind.i64.wrap ((r0.length:Int)-1)=i0)(h1:Lp E 0 Y6 0 (z6c r0 0 i0) (.exit 0) (y1d i1)):Fn E Y6 [.l r0] (.c (.u64 i1)):=by subst e1;exact fnM (oL h1 oZ)
theorem j5v (e1:Int.tmod i0 1000000000=i1)(e2:IntKind.u32.wrap i1=i2)(e3:IntKind.u64.wrap (Int.tdiv i0 1000000000)=i3)(e4:Int.tmod i3 1000000000=i4)(e5:IntKind.u32.wrap i4=i5)(e6:IntKind.u64.wrap (Int.tdiv i3 1000000000)=i6)(e7:IntKind.u32.wrap i6=i7)(e8:(([[.w i2],[.w i5],[.w i7]]:RW).take n0)=r0)(h1:Rn E G0 [.vec 0 3] [sV A0 [[.w i2],[.w i5],[.w i7]]] (.vec 0 n0) [sV A0 [[.w i2],[.w i5],[.w i7]]]):Fn E y7k [.c (.u64 i0)] (.l r0):=by subst e1 e2 e3 e4 e5 e6 e7 e8;exact fnM (oP (show (1000000000:Int)≠0 from by decide) (oP (show (1000000000:Int)≠0 from by decide) (oP (show (1000000000:Int)≠0 from by decide) (oP (show (1000000000:Int)≠0 from by decide) (oP (show (1000000000:Int)≠0 from by decide) (oR h1 oZ))))))
def z4v (r0:RW) (i0:Int) (n0:Nat) (i1 i2:Int) (r1:RW):St:=stOf 44 [(0,.l r0),(1,.w i0),(6,.vec 0 n0),(7,.c (.u64 i1)),(8,.i i2)] [sV A0 r1]
def z9i (n0:Nat) (i3:Int) (r2:RW):St:=stOf 44 [(6,.vec 0 n0),(7,.c (.u64 i3))] [sV A0 r2]
theorem x9l (e1:IntKind.u64.wrap (i1*1000000000)=i4)(e2:IntKind.u64.wrap i5=i6)(e3:IntKind.u64.wrap (i4+i6)=i7)(e4:IntKind.u64.wrap i0=i8)(e5:IntKind.u64.wrap (Int.tdiv i7 i8)=i9)(e6:IntKind.u32.wrap i9=i10)(e7:List.set r1 (Int.toNat i2) [.w i10]=r3)(e8:Int.tmod i7 i8=i12)(e9:IntKind.i64.wrap (i2-1)=i13)(h1:i2≥0)(h2:0≤i2)(h3:r0[(Int.toNat i2)]?=some [.w i5])(h4:i8≠0)(h5:0≤i2∧i2<((n0:Nat):Int))(h6:r1[(Int.toNat i2)]?=some [.w i11])(ih:Lp E 1 P8 0 (z4v r0 i0 n0 i12 i13 r3) o t):Lp E 1 P8 0 (z4v r0 i0 n0 i1 i2 r1) o t:=by subst e1 e2 e3 e4 e5 e6 e7 e8 e9;exact lpM (oT h1 (oP h2 (oD h3 (oP h4 (oP h5 (oD h6 (oP h4 oZ))))))) ih
theorem x4k (h1:¬ i2≥0):Lp E 1 P8 0 (z4v r0 i0 n0 i1 i2 r1) (.exit 0) (z9i n0 i1 r1):=lpX (oU h1 oZ)
theorem j0u (e1:Int.toNat (r0.length:Int)=n0)(e2:List.replicate n0 [.w 0]=r1)(e3:IntKind.i64.wrap ((r0.length:Int)-1)=i1)(e4:IntKind.u32.wrap i2=i3)(e5:(r2.take n1)=r3)(h1:0≤(r0.length:Int)∧(r0.length:Int)≤(r0.length:Int)∧(Int.toNat (r0.length:Int))*4≤140737488355328∧(Int.toNat (r0.length:Int))≤140737488355328)(h2:Lp E 1 P8 0 (z4v r0 i0 n0 0 i1 r1) (.exit 0) (z9i n0 i2 r2))(h3:Rn E G0 [.vec 0 n0] [sV A0 r2] (.vec 0 n1) [sV A0 r2]):Fn E P8 [.l r0,.w i0] (.tup [.l r3,.w i3]):=by subst e1 e2 e3 e4 e5;exact fnM (oP h1 (oL h2 (oR h3 oZ)))
def I6 (n0:Nat) (r0:RW) (i0 i1 i2 i3 i4 i5:Int) (r1:RW):St:=stOf 136 [(0,.vec 0 n0),(1,.l r0),(2,.i i0),(3,.c (.u64 i1)),(9,.i i2),(10,.i i3),(11,.c (.u64 i4)),(12,.i i5)] [sV A0 r1]
def X1 (n0:Nat) (r0:RW) (i0 i1 i2 i6 i7:Int) (r2:RW):St:=stOf 136 [(0,.vec 0 n0),(1,.l r0),(2,.i i0),(3,.c (.u64 i1)),(9,.i i2),(10,.i i6),(11,.c (.u64 i7))] [sV A0 r2]
section
variable (e1:IntKind.u64.wrap i8=i9)(e2:IntKind.u64.wrap (i1*i9)=i10)(e3:IntKind.u64.wrap (i10+i4)=i11)(e4:IntKind.u64.wrap (Int.tdiv i11 1000000000)=i12)(e5:IntKind.i64.wrap (i0+i5)=i13)(e6:IntKind.i64.wrap i14=i15)(e7:Int.tmod i11 1000000000=i16)(e8:IntKind.i64.wrap i16=i17)(e9:IntKind.i64.wrap (i15-i17)=i18)(e10:IntKind.i64.wrap (i18-i3)=i19)
include e1 e2 e3 e4 e5 e6 e7 e8 e9 e10
theorem x6o (e11:IntKind.i64.wrap (i19+1000000000)=i20)(e12:IntKind.u32.wrap i20=i21)(e13:List.set r1 (Int.toNat i13) [.w i21]=r3)(e14:IntKind.i64.wrap (i5+1)=i22)(h1:i5<i2)(h2:0≤i5)(h3:r0[(Int.toNat i5)]?=some [.w i8])(h4:0≤i13∧i13<((n0:Nat):Int))(h5:r1[(Int.toNat i13)]?=some [.w i14])(h6:i19<0)(ih:Lp E 1 C8 0 (I6 n0 r0 i0 i1 i2 1 i12 i22 r3) o t):Lp E 1 C8 0 (I6 n0 r0 i0 i1 i2 i3 i4 i5 r1) o t:=by subst e1 e2 e3 e4 e5 e6 e7 e8 e9 e10 e11 e12 e13 e14;exact lpM (oT h1 (oP h2 (oD h3 (oP (show (1000000000:Int)≠0 from by decide) (oP h4 (oD h5 (oP (show (1000000000:Int)≠0 from by decide) (oT h6 (oP h4 (oD h5 oZ)))))))))) ih
theorem x6p (e11:IntKind.u32.wrap i19=i20)(e12:List.set r1 (Int.toNat i13) [.w i20]=r4)(e13:IntKind.i64.wrap (i5+1)=i23)(h1:i5<i2)(h2:0≤i5)(h3:r0[(Int.toNat i5)]?=some [.w i8])(h4:0≤i13∧i13<((n0:Nat):Int))(h5:r1[(Int.toNat i13)]?=some [.w i14])(h6:¬ i19<0)(ih:Lp E 1 C8 0 (I6 n0 r0 i0 i1 i2 0 i12 i23 r4) o t):Lp E 1 C8 0 (I6 n0 r0 i0 i1 i2 i3 i4 i5 r1) o t:=by subst e1 e2 e3 e4 e5 e6 e7 e8 e9 e10 e11 e12 e13;exact lpM (oT h1 (oP h2 (oD h3 (oP (show (1000000000:Int)≠0 from by decide) (oP h4 (oD h5 (oP (show (1000000000:Int)≠0 from by decide) (oU h6 (oP h4 (oD h5 oZ)))))))))) ih
end
theorem x2b (h1:¬ i5<i2):Lp E 1 C8 0 (I6 n0 r0 i0 i1 i2 i3 i4 i5 r1) (.exit 0) (X1 n0 r0 i0 i1 i2 i3 i4 r1):=lpX (oU h1 oZ)
def z0r (n0:Nat) (r0:RW) (i0 i1 i2 i3 i4:Int) (r1:RW):St:=stOf 136 [(0,.vec 0 n0),(1,.l r0),(2,.i i0),(3,.c (.u64 i1)),(9,.i i2),(16,.w i3),(17,.i i4)] [sV A0 r1]
def z4g (n0:Nat) (i0 i1 i2 i5:Int) (r2:RW):St:=stOf 136 [(0,.vec 0 n0),(2,.i i0),(3,.c (.u64 i1)),(9,.i i2),(16,.w i5)] [sV A0 r2]
theorem x6q (e1:IntKind.i64.wrap (i0+i4)=i6)(e2:IntKind.u32.wrap (i7+i8)=i9)(e3:IntKind.u32.wrap (i9+i3)=i10)(e4:Int.tmod i10 1000000000=i11)(e5:List.set r1 (Int.toNat i6) [.w i11]=r3)(e6:IntKind.u32.wrap (Int.tdiv i10 1000000000)=i12)(e7:IntKind.i64.wrap (i4+1)=i13)(h1:i4<i2)(h2:0≤i6∧i6<((n0:Nat):Int))(h3:r1[(Int.toNat i6)]?=some [.w i7])(h4:0≤i4)(h5:r0[(Int.toNat i4)]?=some [.w i8])(ih:Lp E 1 C8 1 (z0r n0 r0 i0 i1 i2 i12 i13 r3) o t):Lp E 1 C8 1 (z0r n0 r0 i0 i1 i2 i3 i4 r1) o t:=by subst e1 e2 e3 e4 e5 e6 e7;exact lpM (oT h1 (oP h2 (oD h3 (oP h4 (oD h5 (oP (show (1000000000:Int)≠0 from by decide) (oP h2 (oD h3 (oP (show (1000000000:Int)≠0 from by decide) oZ))))))))) ih
theorem x2c (h1:¬ i4<i2):Lp E 1 C8 1 (z0r n0 r0 i0 i1 i2 i3 i4 r1) (.exit 2) (z4g n0 i0 i1 i2 i3 r1):=lpX (oU h1 oZ)
section
variable (e1:IntKind.i64.wrap (i0+(r1.length:Int))=i4)(e2:IntKind.i64.wrap i5=i6)(e3:IntKind.i64.wrap i3=i7)(e4:IntKind.i64.wrap (i6-i7)=i8)(e5:IntKind.i64.wrap (i8-i2)=i9)
include e1 e2 e3 e4 e5
theorem k8a (e6:IntKind.u32.wrap i9=i10)(e7:List.set r2 (Int.toNat i4) [.w i10]=r3)(e8:IntKind.u32.wrap i1=i11)(h1:Lp E 1 C8 0 (I6 n0 r1 i0 i1 (r1.length:Int) 0 0 0 r0) (.exit 0) (X1 n0 r1 i0 i1 (r1.length:Int) i2 i3 r2))(h2:0≤i4∧i4<((n0:Nat):Int))(h3:r2[(Int.toNat i4)]?=some [.w i5])(h4:i9≥0):Rn E C8 [.vec 0 n0,.l r1,.i i0,.c (.u64 i1)] [sV A0 r0] (.w i11) [sV A0 r3]:=by subst e1 e2 e3 e4 e5 e6 e7 e8;exact rnM (oL h1 (oP h2 (oD h3 (oT h4 (oP h2 (oD h3 oZ))))))
theorem k8b (e6:IntKind.i64.wrap (i9+1000000000)=i10)(e7:IntKind.u32.wrap i10=i12)(e8:List.set r2 (Int.toNat i4) [.w i12]=r4)(e9:IntKind.u32.wrap (i14+i13)=i15)(e10:Int.tmod i15 1000000000=i16)(e11:List.set r5 (Int.toNat i4) [.w i16]=r6)(e12:IntKind.u64.wrap (i1-1)=i17)(e13:IntKind.u32.wrap i17=i18)(h1:Lp E 1 C8 0 (I6 n0 r1 i0 i1 (r1.length:Int) 0 0 0 r0) (.exit 0) (X1 n0 r1 i0 i1 (r1.length:Int) i2 i3 r2))(h2:0≤i4∧i4<((n0:Nat):Int))(h3:r2[(Int.toNat i4)]?=some [.w i5])(h4:¬ i9≥0)(h5:Lp E 1 C8 1 (z0r n0 r1 i0 i1 (r1.length:Int) 0 0 r4) (.exit 2) (z4g n0 i0 i1 (r1.length:Int) i13 r5))(h6:r5[(Int.toNat i4)]?=some [.w i14]):Rn E C8 [.vec 0 n0,.l r1,.i i0,.c (.u64 i1)] [sV A0 r0] (.w i18) [sV A0 r6]:=by subst e1 e2 e3 e4 e5 e6 e7 e8 e9 e10 e11 e12 e13;exact rnM (oL h1 (oP h2 (oD h3 (oU h4 (oP h2 (oD h3 (oL h5 (oP h2 (oD h6 (oP (show (1000000000:Int)≠0 from by decide) (oP h2 (oD h6 oZ))))))))))))
end
end Gev
namespace Gev
open Go Go.Proofs
variable {E:Env}
variable {r0 r1 r2 r3 r4 r5:RW} {i0 i1 i2:Int} {s0 s1:BA} {b0 b1 b2 b3:Bool}
theorem q1s (e1:(⟨#[45]⟩:BA)++s0=s1)(h1:Fn E F7 [.l r0] (.s s0))(h2:(⟨#[45]⟩:BA).size+s0.size≤9223372036854775807):Fn E y2o [.z true r0] (.s s1):=by subst e1;exact fnM (oF h1 (oP h2 oZ))
theorem q1t (h1:Fn E F7 [.l r0] (.s s0)):Fn E y2o [.z false r0] (.s s0):=fnM (oF h1 oZ)
theorem j0v (e1:IntKind.i64.wrap (0-i0)=i1)(e2:IntKind.u32.wrap i1=i2)(h1:i0<0)(h2:Fn E Z3 [.w i2] (.l r0))(h3:Fn E H1 [.b true,.l r0] (.z b0 r1)):Fn E z9v [.i i0] (.z b0 r1):=by subst e1 e2;exact fnM (oT h1 (oF h2 (oF h3 oZ)))
theorem j0w (e1:IntKind.u32.wrap i0=i1)(h1:¬ i0<0)(h2:Fn E Z3 [.w i1] (.l r2))(h3:Fn E H1 [.b false,.l r2] (.z b1 r3)):Fn E z9v [.i i0] (.z b1 r3):=by subst e1;exact fnM (oU h1 (oF h2 (oF h3 oZ)))
theorem j0x (e1:(!(b0 == b1))=b2)(h1:Fn E D5 [.l r0,.l r1] (.l r2))(h2:Fn E H1 [.b b2,.l r2] (.z b3 r3)):Fn E y4w [.z b0 r0,.z b1 r1] (.z b3 r3):=by subst e1;exact fnM (oK (oF h1 (oF h2 oZ)))
theorem j6a (h1:b0=b1)(h2:Fn E J5 [.l r0,.l r1] (.l r2))(h3:Fn E H1 [.b b0,.l r2] (.z b2 r3)):Fn E z5e [.z b0 r0,.z b1 r1] (.z b2 r3):=fnM (oB (beT h1) (oF h2 (oF h3 oZ)))
section
variable (h1:¬ b0=b1)(h2:Fn E G5 [.l r0,.l r1] (.i i0))
include h1 h2
theorem j6b (h3:i0≥0)(h4:Fn E F6 [.l r0,.l r1] (.l r4))(h5:Fn E H1 [.b b0,.l r4] (.z b3 r5)):Fn E z5e [.z b0 r0,.z b1 r1] (.z b3 r5):=fnM (oC (beF h1) (oF h2 (oT h3 (oF h4 (oF h5 oZ)))))
theorem j6c (h3:¬ i0≥0)(h4:Fn E F6 [.l r1,.l r0] (.l r4))(h5:Fn E H1 [.b b1,.l r4] (.z b3 r5)):Fn E z5e [.z b0 r0,.z b1 r1] (.z b3 r5):=fnM (oC (beF h1) (oF h2 (oU h3 (oF h4 (oF h5 oZ)))))
end
theorem j5x (h1:(r0.length:Int)>0):Fn E H1 [.b true,.l r0] (.z true r0):=fnM (oT h1 oZ)
theorem j5y (h1:¬ (r0.length:Int)>0):Fn E H1 [.b true,.l r0] (.z false r0):=fnM (oU h1 oZ)
theorem j5z:Fn E H1 [.b false,.l r0] (.z false r0):=fnM oZ
section
variable (e1:((s0.data.toList.getD 0 0).toNat:Int)=i0)
include e1
theorem j0y (e2:s0.extract 1 (Int.toNat (s0.size:Int))=s1)(h1:(s0.size:Int)>1)(h2:0≤(0:Int)∧(0:Int)<s0.size)(h3:i0=45)(h4:¬ s0=(⟨#[45,48]⟩:BA))(h5:0≤(1:Int)∧(1:Int)≤(s0.size:Int)∧(s0.size:Int)≤s0.size)(h6:Fn E D4 [.s s1] (.b b0)):Fn E P9 [.s s0] (.b b0):=by subst e1 e2;exact fnM (oT h1 (oP h2 (oB (beT h3) (oB (snT h4) (oP h5 (oF h6 oZ))))))
section
variable (h1:(s0.size:Int)>1)(h2:0≤(0:Int)∧(0:Int)<s0.size)
include h1 h2
theorem j0z (h3:i0=45)(h4:s0=(⟨#[45,48]⟩:BA)):Fn E P9 [.s s0] (.b false):=by subst e1;exact fnM (oT h1 (oP h2 (oB (beT h3) (oC (snF h4) oZ))))
theorem j1a (h3:¬ i0=45)(h4:Fn E D4 [.s s0] (.b b1)):Fn E P9 [.s s0] (.b b1):=by subst e1;exact fnM (oT h1 (oP h2 (oC (beF h3) (oF h4 oZ))))
end
end
theorem x5e (h1:¬ (s0.size:Int)>1)(h2:Fn E D4 [.s s0] (.b b2)):Fn E P9 [.s s0] (.b b2):=fnM (oU h1 (oF h2 oZ))
section
variable (e1:((s0.data.toList.getD 0 0).toNat:Int)=i0)
include e1
theorem j6d (e2:s0.extract 1 (Int.toNat (s0.size:Int))=s1)(h1:0≤(0:Int)∧(0:Int)<s0.size)(h2:i0=45)(h3:0≤(1:Int)∧(1:Int)≤(s0.size:Int)∧(s0.size:Int)≤s0.size)(h4:Fn E H0 [.s s1] (.l r0)):Fn E z7l [.s s0] (.z true r0):=by subst e1 e2;exact fnM (oP h1 (oB (beT h2) (oP h3 (oF h4 oZ))))
theorem j6e (h1:0≤(0:Int)∧(0:Int)<s0.size)(h2:¬ i0=45)(h3:Fn E H0 [.s s0] (.l r1)):Fn E z7l [.s s0] (.z false r1):=by subst e1;exact fnM (oP h1 (oC (beF h2) (oF h3 oZ)))
end
theorem k8c:Fn E z1v [.z true r0] (.i (-1)):=fnM oZ
theorem k8d (h1:(r0.length:Int)>0):Fn E z1v [.z false r0] (.i 1):=fnM (oT h1 oZ)
theorem k8e (h1:¬ (r0.length:Int)>0):Fn E z1v [.z false r0] (.i 0):=fnM (oU h1 oZ)
theorem k1w (h1:Fn E H1 [.b (!b0),.l r0] (.z b1 r1)):Fn E z8w [.z b0 r0] (.z b1 r1):=fnM (oF h1 oZ)
end Gev
namespace Gev
open Go Go.Proofs
variable {E:Env}
variable {o:Out} {t:St} {r0 r1 r2 r3 r4 r5 r6 r7 r8 r9 r10 r11 r12 r13:RW} {i0 i1 i2 i3:Int} {s0 s1 s2 s3 s4:BA} {b0 b1 b2 b3 b4 b5 b6 b7:Bool}
theorem q1u (e1:(⟨#[47]⟩:BA)++s1=s2)(e2:s0++s2=s3)(h1:Fn E y2o [.z b0 r0] (.s s0))(h2:Fn E F7 [.l r1] (.s s1))(h3:¬ s1=(⟨#[49]⟩:BA))(h4:(⟨#[47]⟩:BA).size+s1.size≤9223372036854775807)(h5:s0.size+s2.size≤9223372036854775807):Fn E y2p [.q b0 r0 r1] (.s s3):=by subst e1 e2;exact fnM (oF h1 (oF h2 (oB (snT h3) (oP h4 (oP h5 oZ)))))
theorem q1v (h1:Fn E y2o [.z b0 r0] (.s s0))(h2:Fn E F7 [.l r1] (.s s1))(h3:s1=(⟨#[49]⟩:BA)):Fn E y2p [.q b0 r0 r1] (.s s0):=fnM (oF h1 (oF h2 (oC (snF h3) oZ)))
theorem j9g (h1:Fn E z9v [.i i0] (.z b0 r0))(h2:Fn E Z3 [.w 1] (.l r1)):Fn E V0 [.i i0] (.q b0 r0 r1):=fnM (oF h1 (oF h2 oZ))
theorem j9k (h1:Fn E y0c [.q b1 r2 r3] (.q b2 r4 r5))(h2:Fn E y4a [.q b0 r0 r1,.q b2 r4 r5] (.q b3 r6 r7)):Fn E z7b [.q b0 r0 r1,.q b1 r2 r3] (.q b3 r6 r7):=fnM (oF h1 (oF h2 oZ))
theorem j9i (h1:Fn E y4w [.z b0 r0,.z b1 r2] (.z b2 r4))(h2:Fn E D5 [.l r1,.l r3] (.l r5))(h3:Fn E z0a [.z b2 r4,.l r5] (.q b3 r6 r7)):Fn E K8 [.q b0 r0 r1,.q b1 r2 r3] (.q b3 r6 r7):=fnM (oF h1 (oF h2 (oF h3 oZ)))
section
variable (h1:Fn E G5 [.l r1,.l r3] (.i i0))
include h1
theorem j9e (h2:i0=0)(h3:Fn E z5e [.z b0 r0,.z b1 r2] (.z b2 r4))(h4:Fn E z0a [.z b2 r4,.l r1] (.q b3 r5 r6)):Fn E y4a [.q b0 r0 r1,.q b1 r2 r3] (.q b3 r5 r6):=fnM (oF h1 (oB (beT h2) (oF h3 (oF h4 oZ))))
theorem j9f (h2:¬ i0=0)(h3:Fn E D5 [.l r0,.l r3] (.l r7))(h4:Fn E H1 [.b b0,.l r7] (.z b4 r8))(h5:Fn E D5 [.l r2,.l r1] (.l r5))(h6:Fn E H1 [.b b1,.l r5] (.z b5 r9))(h7:Fn E z5e [.z b4 r8,.z b5 r9] (.z b6 r10))(h8:Fn E D5 [.l r1,.l r3] (.l r11))(h9:Fn E z0a [.z b6 r10,.l r11] (.q b7 r12 r13)):Fn E y4a [.q b0 r0 r1,.q b1 r2 r3] (.q b7 r12 r13):=fnM (oF h1 (oC (beF h2) (oF h3 (oF h4 (oF h5 (oF h6 (oF h7 (oF h8 (oF h9 oZ)))))))))
end
section
variable (h1:Fn E J4 [.s s0] (.tup [.s s1,.s s2,.b true]))(h2:Fn E P9 [.s s1] (.b true))(h3:Fn E D4 [.s s2] (.b true))(h4:Fn E z7l [.s s1] (.z b0 r0))(h5:Fn E H0 [.s s2] (.l r1))(h6:Fn E Z3 [.w 1] (.l r2))(h7:Fn E G5 [.l r1,.l r2] (.i i0))
include h1 h2 h3 h4 h5 h6 h7
section
variable (h8:i0>0)(h9:Fn E z1v [.z b0 r0] (.i i1))
include h8 h9
section
variable (h10:¬ i1=0)(h11:Fn E D8 [.l r0,.l r1] (.l r3))(h12:Fn E G5 [.l r3,.l r2] (.i i2))
include h10 h11 h12
theorem j6f (h13:i2=0):Fn E N9 [.s s0] (.tup [.q b0 r0 r1,.b true]):=fnM (oF h1 (oF h2 (oF h3 (oF h4 (oF h5 (oF h6 (oF h7 (oT h8 (oF h9 (oB (bnT h10) (oF h11 (oF h12 (oB (beT h13) oZ)))))))))))))
theorem j6g (h13:¬ i2=0)(h14:Fn E V0 [.i 0] (.q b1 r4 r5)):Fn E N9 [.s s0] (.tup [.q b1 r4 r5,.b false]):=fnM (oF h1 (oF h2 (oF h3 (oF h4 (oF h5 (oF h6 (oF h7 (oT h8 (oF h9 (oB (bnT h10) (oF h11 (oF h12 (oC (beF h13) (oF h14 oZ))))))))))))))
end
theorem j6h (h10:i1=0)(h11:Fn E V0 [.i 0] (.q b2 r6 r7)):Fn E N9 [.s s0] (.tup [.q b2 r6 r7,.b false]):=fnM (oF h1 (oF h2 (oF h3 (oF h4 (oF h5 (oF h6 (oF h7 (oT h8 (oF h9 (oC (bnF h10) (oF h11 oZ)))))))))))
end
theorem j6i (h8:¬ i0>0)(h9:Fn E V0 [.i 0] (.q b3 r3 r6)):Fn E N9 [.s s0] (.tup [.q b3 r3 r6,.b false]):=fnM (oF h1 (oF h2 (oF h3 (oF h4 (oF h5 (oF h6 (oF h7 (oU h8 (oF h9 oZ)))))))))
end
theorem j6j (h1:Fn E J4 [.s s0] (.tup [.s s1,.s s2,.b false]))(h2:Fn E P9 [.s s1] (.b true))(h3:Fn E D4 [.s s2] (.b true))(h4:Fn E z7l [.s s1] (.z b0 r0))(h5:Fn E H0 [.s s2] (.l r1)):Fn E N9 [.s s0] (.tup [.q b0 r0 r1,.b true]):=fnM (oF h1 (oF h2 (oF h3 (oF h4 (oF h5 oZ)))))
section
variable (h1:Fn E J4 [.s s0] (.tup [.s s1,.s s2,.b b4]))
include h1
theorem j6k (h2:Fn E P9 [.s s1] (.b true))(h3:Fn E D4 [.s s2] (.b false))(h4:Fn E V0 [.i 0] (.q b0 r0 r1)):Fn E N9 [.s s0] (.tup [.q b0 r0 r1,.b false]):=fnM (oF h1 (oF h2 (oF h3 (oF h4 oZ))))
theorem x9m (h2:Fn E P9 [.s s1] (.b false))(h3:Fn E V0 [.i 0] (.q b5 r8 r0)):Fn E N9 [.s s0] (.tup [.q b5 r8 r0,.b false]):=fnM (oF h1 (oF h2 (oF h3 oZ)))
end
theorem j6l (h1:Fn E z1v [.z b0 r0] (.i i0)):Fn E z7m [.q b0 r0 r1] (.i i0):=fnM (oF h1 oZ)
theorem j9j (h1:Fn E z8w [.z b0 r0] (.z b1 r2)):Fn E y0c [.q b0 r0 r1] (.q b1 r2 r1):=fnM (oF h1 oZ)
theorem j9h (h1:Fn E H1 [.b b0,.l r1] (.z b1 r2)):Fn E z7a [.q b0 r0 r1] (.q b1 r2 r0):=fnM (oF h1 oZ)
section
variable (h1:Fn E D8 [.l r0,.l r1] (.l r2))
include h1
section
variable (h2:(r2.length:Int)=1)(h3:r2[0]?=some [.w i0])
include h2 h3
theorem k8f (h4:i0=1):Fn E z0a [.z b0 r0,.l r1] (.q b0 r0 r1):=fnM (oF h1 (oB (beT h2) (oP (show (0:Int)≤0 from by decide) (oD h3 (oB (beT h4) oZ)))))
theorem k8g (h4:¬ i0=1)(h5:Fn E D9 [.l r0,.l r2] (.tup [.l r3,.l r4]))(h6:Fn E D9 [.l r1,.l r2] (.tup [.l r5,.l r6]))(h7:Fn E H1 [.b b0,.l r3] (.z b1 r7)):Fn E z0a [.z b0 r0,.l r1] (.q b1 r7 r5):=fnM (oF h1 (oB (beT h2) (oP (show (0:Int)≤0 from by decide) (oD h3 (oC (beF h4) (oF h5 (oF h6 (oF h7 oZ))))))))
end
theorem k8h (h2:¬ (r2.length:Int)=1)(h3:Fn E D9 [.l r0,.l r2] (.tup [.l r8,.l r3]))(h4:Fn E D9 [.l r1,.l r2] (.tup [.l r4,.l r5]))(h5:Fn E H1 [.b b0,.l r8] (.z b2 r9)):Fn E z0a [.z b0 r0,.l r1] (.q b2 r9 r4):=fnM (oF h1 (oC (beF h2) (oF h3 (oF h4 (oF h5 oZ)))))
end
def V8 (s0:BA) (i0:Int):St:=stOf 24 [(0,.s s0),(5,.i i0)] []
def z9j (s1 s2:BA):St:=stOf 24 [(2,.s s1),(3,.s s2),(4,.b true)] []
def z9k (s0:BA):St:=stOf 24 [(0,.s s0)] []
section
variable (e1:((s0.data.toList.getD (Int.toNat i0) 0).toNat:Int)=i1)
include e1
theorem y4n (e2:IntKind.i64.wrap (i0+1)=i2)(h1:i0<(s0.size:Int))(h2:0≤i0∧i0<s0.size)(h3:¬ i1=47)(ih:Lp E 0 J4 0 (V8 s0 i2) o t):Lp E 0 J4 0 (V8 s0 i0) o t:=by subst e1 e2;exact lpM (oT h1 (oP h2 (oC (beF h3) oZ))) ih
theorem x4l (e2:s0.extract 0 (Int.toNat i0)=s3)(e3:IntKind.i64.wrap (i0+1)=i3)(e4:s0.extract (Int.toNat i3) (Int.toNat (s0.size:Int))=s4)(h1:i0<(s0.size:Int))(h2:0≤i0∧i0<s0.size)(h3:i1=47)(h4:0≤(0:Int)∧(0:Int)≤i0∧i0≤s0.size)(h5:0≤i3∧i3≤(s0.size:Int)∧(s0.size:Int)≤s0.size):Lp E 0 J4 0 (V8 s0 i0) .ret (z9j s3 s4):=by subst e1 e2 e3 e4;exact lpX (oT h1 (oP h2 (oB (beT h3) (oP h4 (oP h5 oZ)))))
end
theorem x4m (h1:¬ i0<(s0.size:Int)):Lp E 0 J4 0 (V8 s0 i0) (.exit 0) (z9k s0):=lpX (oU h1 oZ)
theorem j1b (h1:Lp E 0 J4 0 (V8 s0 0) .ret (z9j s1 s2)):Fn E J4 [.s s0] (.tup [.s s1,.s s2,.b true]):=fnM (oL h1 oZ)
theorem j1c (h1:Lp E 0 J4 0 (V8 s0 0) (.exit 0) (z9k s0)):Fn E J4 [.s s0] (.tup [.s s0,.s ⟨#[49]⟩,.b false]):=fnM (oL h1 oZ)
end Gev
namespace Gev
open Go Go.Proofs
variable {E:Env}
variable {o:Out} {t:St} {r0 r1 r2 r3 r4 r5 r6 r7 r8:RW} {i0 i1 i2 i3 i4 i5 i6 i7 i8 i9:Int} {s0 s1 s2 s3 s4 s5 s6:BA} {n0 n1 n2 n3 n4 n5:Nat} {b0:Bool} {m0 m1 m2 m3 m4 m5 m6 m7 m8 m9 m10 m11 m12 m13:List (RW)}
def z3t (r0 r1:RW) (n0:Nat) (i0 i1:Int) (r2:RW):St:=stOf 33 [(0,.l r0),(1,.l r1),(11,.vec 0 n0),(12,.i i0),(13,.i i1)] [sV y0w r2]
def y9c (r2:RW) (i2:Int):St:=stOf 33 [(4,.nils),(5,.i i2)] [sV y0w r2]
def y9d (r0 r1 r2:RW):St:=stOf 33 [(0,.l r0),(1,.l r1)] [sV y0w r2]
section
variable (h1:i1<i0)(h2:0≤i1∧i1<((n0:Nat):Int))(h3:r2[(Int.toNat i1)]?=some [.l r3])(h4:Fn E B7 [.l r3] (.i i3))
include h1 h2 h3 h4
theorem z9d (h5:i3=0)(e1:IntKind.i64.wrap (i1+1)=i4)(ih:Lp E 1 N7 0 (z3t r0 r1 n0 i0 i4 r2) o t):Lp E 1 N7 0 (z3t r0 r1 n0 i0 i1 r2) o t:=by subst e1;exact lpM (oT h1 (oP h2 (oD h3 (oF h4 (oC (bnF h5) oZ))))) ih
theorem y2w (h5:¬ i3=0):Lp E 1 N7 0 (z3t r0 r1 n0 i0 i1 r2) .ret (y9c r2 i3):=lpX (oT h1 (oP h2 (oD h3 (oF h4 (oB (bnT h5) oZ)))))
end
theorem x5t (h1:¬ i1<i0):Lp E 1 N7 0 (z3t r0 r1 n0 i0 i1 r2) (.exit 0) (y9d r0 r1 r2):=lpX (oU h1 oZ)
theorem x8j (h1:Lp E 1 N7 0 (z3t r0 r1 2 2 0 [[.l r0],[.l r1]]) .ret (y9c [[.l r0],[.l r1]] i0)):Fn E N7 [.l r0,.l r1] (.tup [.l [],.i i0]):=fnM (oL h1 oZ)
section
variable (h1:Lp E 1 N7 0 (z3t r0 r1 2 2 0 [[.l r0],[.l r1]]) (.exit 0) (y9d r0 r1 [[.l r0],[.l r1]]))(h2:r0[0]?=some [.l r2])
include h1 h2
theorem j4w (h3:¬ (r2.length:Int)=(r1.length:Int)):Fn E N7 [.l r0,.l r1] (.tup [.l [],.i 10]):=fnM (oL h1 (oP (show (0:Int)≤0 from by decide) (oD h2 (oB (bnT h3) oZ))))
theorem j4x (h3:(r2.length:Int)=(r1.length:Int))(h4:Fn E D1 [.l r0,.l r1] (.l r3)):Fn E N7 [.l r0,.l r1] (.tup [.l r3,.i 0]):=fnM (oL h1 (oP (show (0:Int)≤0 from by decide) (oD h2 (oC (bnF h3) (oF h4 oZ)))))
end
section
variable (h1:Fn E B7 [.l r0] (.i i0))
include h1
theorem x5u (h2:¬ i0=0):Fn E z2k [.l r0] (.tup [.l [],.i i0]):=fnM (oF h1 (oB (bnT h2) oZ))
theorem x5v (h2:i0=0)(h3:Fn E C6 [.l r0] (.l r1)):Fn E z2k [.l r0] (.tup [.l r1,.i 0]):=fnM (oF h1 (oC (bnF h2) (oF h3 oZ)))
end
def X5 (r0 r1:RW) (i0 i1:Int):St:=stOf 53 [(0,.l r0),(29,.l r1),(30,.i i0),(31,.i i1)] []
def z7s:St:=stOf 53 [(2,.i 10)] []
def z7t (r0:RW):St:=stOf 53 [(0,.l r0)] []
section
variable (h1:i1<i0)(h2:0≤i1)(h3:r1[(Int.toNat i1)]?=some [.l r2])(h4:r0[0]?=some [.l r3])
include h1 h2 h3 h4
theorem x5q (h5:(r2.length:Int)=(r3.length:Int))(e1:IntKind.i64.wrap (i1+1)=i2)(ih:Lp E 0 B7 0 (X5 r0 r1 i0 i2) o t):Lp E 0 B7 0 (X5 r0 r1 i0 i1) o t:=by subst e1;exact lpM (oT h1 (oP h2 (oD h3 (oP (show (0:Int)≤0 from by decide) (oD h4 (oC (bnF h5) oZ)))))) ih
theorem x0x (h5:¬ (r2.length:Int)=(r3.length:Int)):Lp E 0 B7 0 (X5 r0 r1 i0 i1) .ret (z7s):=lpX (oT h1 (oP h2 (oD h3 (oP (show (0:Int)≤0 from by decide) (oD h4 (oB (bnT h5) oZ))))))
end
theorem x0y (h1:¬ i1<i0):Lp E 0 B7 0 (X5 r0 r1 i0 i1) (.exit 1) (z7t r0):=lpX (oU h1 oZ)
def X6 (r0:RW) (i0 i1:Int):St:=stOf 53 [(43,.l r0),(44,.i i0),(45,.i i1)] []
def z7u:St:=stOf 53 [(2,.i 1)] []
def z7v:St:=stOf 53 [] []
section
variable (h1:i1<i0)(h2:0≤i1)(h3:r0[(Int.toNat i1)]?=some [.l r1])
include h1 h2 h3
theorem x5r (h4:Fn E z1u [.l r1] (.b true))(e1:IntKind.i64.wrap (i1+1)=i2)(ih:Lp E 0 B7 1 (X6 r0 i0 i2) o t):Lp E 0 B7 1 (X6 r0 i0 i1) o t:=by subst e1;exact lpM (oT h1 (oP h2 (oD h3 (oF h4 oZ)))) ih
theorem x0z (h4:Fn E z1u [.l r1] (.b false)):Lp E 0 B7 1 (X6 r0 i0 i1) .ret (z7u):=lpX (oT h1 (oP h2 (oD h3 (oF h4 oZ))))
end
theorem x1a (h1:¬ i1<i0):Lp E 0 B7 1 (X6 r0 i0 i1) (.exit 3) (z7v):=lpX (oU h1 oZ)
theorem k6q (h1:(r0.length:Int)=0):Fn E B7 [.l r0] (.i 9):=fnM (oB (beT h1) oZ)
section
variable (h1:¬ (r0.length:Int)=0)(h2:r0[0]?=some [.l r1])
include h1 h2
theorem k6r (h3:(r1.length:Int)=0):Fn E B7 [.l r0] (.i 9):=fnM (oC (beF h1) (oP (show (0:Int)≤0 from by decide) (oD h2 (oB (beT h3) oZ))))
section
variable (h3:¬ (r1.length:Int)=0)
include h3
theorem k6s (h4:(r0.length:Int)>12):Fn E B7 [.l r0] (.i 8):=fnM (oC (beF h1) (oP (show (0:Int)≤0 from by decide) (oD h2 (oC (beF h3) (oT h4 oZ)))))
section
variable (h4:¬ (r0.length:Int)>12)
include h4
theorem k6t (h5:(r1.length:Int)>12):Fn E B7 [.l r0] (.i 8):=fnM (oC (beF h1) (oP (show (0:Int)≤0 from by decide) (oD h2 (oC (beF h3) (oU h4 (oP (show (0:Int)≤0 from by decide) (oD h2 (oT h5 oZ))))))))
section
variable (h5:¬ (r1.length:Int)>12)
include h5
theorem k6u (h6:Lp E 0 B7 0 (X5 r0 r0 (r0.length:Int) 0) .ret (z7s)):Fn E B7 [.l r0] (.i 10):=fnM (oC (beF h1) (oP (show (0:Int)≤0 from by decide) (oD h2 (oC (beF h3) (oU h4 (oP (show (0:Int)≤0 from by decide) (oD h2 (oU h5 (oL h6 oZ)))))))))
section
variable (h6:Lp E 0 B7 0 (X5 r0 r0 (r0.length:Int) 0) (.exit 1) (z7t r0))
include h6
theorem k6v (h7:Lp E 0 B7 1 (X6 r0 (r0.length:Int) 0) .ret (z7u)):Fn E B7 [.l r0] (.i 1):=fnM (oC (beF h1) (oP (show (0:Int)≤0 from by decide) (oD h2 (oC (beF h3) (oU h4 (oP (show (0:Int)≤0 from by decide) (oD h2 (oU h5 (oL h6 (oL h7 oZ))))))))))
theorem k6w (h7:Lp E 0 B7 1 (X6 r0 (r0.length:Int) 0) (.exit 3) (z7v)):Fn E B7 [.l r0] (.i 0):=fnM (oC (beF h1) (oP (show (0:Int)≤0 from by decide) (oD h2 (oC (beF h3) (oU h4 (oP (show (0:Int)≤0 from by decide) (oD h2 (oU h5 (oL h6 (oL h7 oZ))))))))))
end
end
end
end
end
section
variable (h1:Fn E X3 [.l r0] (.i i0))
include h1
theorem j4o (h2:¬ i0=0):Fn E z5c [.l r0] (.tup [.s ⟨#[]⟩,.i i0]):=fnM (oF h1 (oB (bnT h2) oZ))
section
variable (h2:i0=0)(h3:Rn E F8 [.l r0] [] (.vec 0 n0) [some (.mat A6 m0 [])])(h4:Rn E A1 [.vec 0 n0,.i (r0.length:Int)] [some (.mat A6 m0 [])] (.tup [.i i1,.s s0]) [some (.mat A6 m1 [])])
include h2 h3 h4
theorem j4p (h5:i1<(r0.length:Int)):Fn E z5c [.l r0] (.tup [.s ⟨#[48]⟩,.i 0]):=fnM (oF h1 (oC (bnF h2) (oQ h3 (oV h4 (oT h5 oZ)))))
theorem j4q (h5:¬ i1<(r0.length:Int)):Fn E z5c [.l r0] (.tup [.s s0,.i 0]):=fnM (oF h1 (oC (bnF h2) (oQ h3 (oV h4 (oU h5 oZ)))))
end
end
section
variable (h1:Fn E B7 [.l r0] (.i i0))
include h1
theorem k9w (h2:¬ i0=0):Fn E z5v [.l r0] (.tup [.i 0,.i i0]):=fnM (oF h1 (oB (bnT h2) oZ))
theorem k9x (h2:i0=0)(h3:Rn E F8 [.l r0] [] (.vec 0 n0) [some (.mat A6 m0 [])])(h4:r0[0]?=some [.l r1])(h5:Rn E A1 [.vec 0 n0,.i (r1.length:Int)] [some (.mat A6 m0 [])] (.tup [.i i1,.s s0]) [some (.mat A6 m1 [])]):Fn E z5v [.l r0] (.tup [.i i1,.i 0]):=fnM (oF h1 (oC (bnF h2) (oQ h3 (oP (show (0:Int)≤0 from by decide) (oD h4 (oV h5 oZ))))))
end
section
variable (h1:Fn E B7 [.l r0] (.i i0))
include h1
theorem k6x (h2:¬ i0=0):Fn E U8 [.l r0,.l r1] (.tup [.l [],.i i0]):=fnM (oF h1 (oB (bnT h2) oZ))
section
variable (h2:i0=0)(h3:Fn E z1i [.l r1] (.i i1))
include h2 h3
theorem k6y (h4:¬ i1=0):Fn E U8 [.l r0,.l r1] (.tup [.l [],.i i1]):=fnM (oF h1 (oC (bnF h2) (oF h3 (oB (bnT h4) oZ))))
section
variable (h4:i1=0)(h5:r0[0]?=some [.l r2])
include h4 h5
theorem k6z (h6:¬ (r0.length:Int)=(r2.length:Int)):Fn E U8 [.l r0,.l r1] (.tup [.l [],.i 10]):=fnM (oF h1 (oC (bnF h2) (oF h3 (oC (bnF h4) (oP (show (0:Int)≤0 from by decide) (oD h5 (oB (bnT h6) oZ)))))))
section
variable (h6:(r0.length:Int)=(r2.length:Int))
include h6
theorem k7a (h7:¬ (r1.length:Int)=(r0.length:Int)):Fn E U8 [.l r0,.l r1] (.tup [.l [],.i 10]):=fnM (oF h1 (oC (bnF h2) (oF h3 (oC (bnF h4) (oP (show (0:Int)≤0 from by decide) (oD h5 (oC (bnF h6) (oB (bnT h7) oZ))))))))
section
variable (h7:(r1.length:Int)=(r0.length:Int))(h8:Fn E K0 [.l r1] (.l r3))
include h7 h8
theorem k7b (h9:Fn E F0 [.l r0,.l r3] (.tup [.l r4,.b true]))(h10:Fn E C6 [.l r4] (.l r5))(h11:r5[0]?=some [.l r6]):Fn E U8 [.l r0,.l r1] (.tup [.l r6,.i 0]):=fnM (oF h1 (oC (bnF h2) (oF h3 (oC (bnF h4) (oP (show (0:Int)≤0 from by decide) (oD h5 (oC (bnF h6) (oC (bnF h7) (oF h8 (oF h9 (oF h10 (oP (show (0:Int)≤0 from by decide) (oD h11 oZ)))))))))))))
theorem k7c (h9:Fn E F0 [.l r0,.l r3] (.tup [.l r4,.b false])):Fn E U8 [.l r0,.l r1] (.tup [.l [],.i 18]):=fnM (oF h1 (oC (bnF h2) (oF h3 (oC (bnF h4) (oP (show (0:Int)≤0 from by decide) (oD h5 (oC (bnF h6) (oC (bnF h7) (oF h8 (oF h9 oZ))))))))))
end
end
end
end
end
def O3 (r0:RW) (n0:Nat) (i0 i1 i2 i3 i4:Int) (m0:List (RW)):St:=stOf 53 [(0,.l r0),(5,.vec 0 n0),(6,.i i0),(20,.i i1),(21,.i i2),(25,.i i3),(26,.i i4)] [some (.mat A6 m0 [])]
def z5p (r0:RW) (n0:Nat) (i1 i2:Int) (m1:List (RW)):St:=stOf 53 [(0,.l r0),(5,.vec 0 n0),(20,.i i1),(21,.i i2)] [some (.mat A6 m1 [])]
theorem x1c (h1:i4<i3)(h2:i0=i4)(h3:m0[(Int.toNat i0)]?=some r1)(h4:0≤i0∧i0<((n0:Nat):Int))(h5:(n1+1)*16≤140737488355328∧n1+1≤140737488355328)(e1:r1.length=n1)(e2:(r1.take n1)++[[.s ⟨#[49]⟩]]=r2)(e3:n1+1=n2)(e4:List.set m0 (Int.toNat i0) (r2.take n2)=m2)(e5:IntKind.i64.wrap (i4+1)=i5)(ih:Lp E 1 D7 1 (O3 r0 n0 i0 i1 i2 i3 i5 m2) o t):Lp E 1 D7 1 (O3 r0 n0 i0 i1 i2 i3 i4 m0) o t:=by subst e1 e2 e3 e4 e5;exact lpM (oT h1 (oB (beT h2) (oI 0 h3 (oP h4 (oO (.sm 0) (oP (show (Int.toNat i0)=(Int.toNat i0) from rfl) (oP (show ∀ y∈([[.s ⟨#[49]⟩]]:RW),y.length=1 from by simp) (oP h5 (oP h4 (oO (.sm 0) (oP (show (Int.toNat i0)=(Int.toNat i0) from rfl) (oO (.gt 0) oZ)))))))))))) ih
theorem x1d (h1:i4<i3)(h2:¬ i0=i4)(h3:m0[(Int.toNat i0)]?=some r1)(h4:0≤i0∧i0<((n0:Nat):Int))(h5:(n1+1)*16≤140737488355328∧n1+1≤140737488355328)(e1:r1.length=n1)(e2:(r1.take n1)++[[.s ⟨#[48]⟩]]=r2)(e3:n1+1=n2)(e4:List.set m0 (Int.toNat i0) (r2.take n2)=m2)(e5:IntKind.i64.wrap (i4+1)=i5)(ih:Lp E 1 D7 1 (O3 r0 n0 i0 i1 i2 i3 i5 m2) o t):Lp E 1 D7 1 (O3 r0 n0 i0 i1 i2 i3 i4 m0) o t:=by subst e1 e2 e3 e4 e5;exact lpM (oT h1 (oC (beF h2) (oI 0 h3 (oP h4 (oO (.sm 0) (oP (show (Int.toNat i0)=(Int.toNat i0) from rfl) (oP (show ∀ y∈([[.s ⟨#[48]⟩]]:RW),y.length=1 from by simp) (oP h5 (oP h4 (oO (.sm 0) (oP (show (Int.toNat i0)=(Int.toNat i0) from rfl) (oO (.gt 0) oZ)))))))))))) ih
theorem y7x (h1:¬ i4<i3):Lp E 1 D7 1 (O3 r0 n0 i0 i1 i2 i3 i4 m0) (.exit 2) (z5p r0 n0 i1 i2 m0):=lpX (oU h1 oZ)
def z0z (r0:RW) (n0:Nat) (i0 i1:Int) (m0:List (RW)):St:=stOf 53 [(0,.l r0),(5,.vec 0 n0),(20,.i i0),(21,.i i1)] [some (.mat A6 m0 [])]
def z5o (r0:RW) (n0:Nat) (m1:List (RW)):St:=stOf 53 [(0,.l r0),(5,.vec 0 n0)] [some (.mat A6 m1 [])]
theorem x1b (h1:i1<i0)(h2:Lp E 1 D7 1 (O3 r0 n0 i1 i0 i1 ((n0:Nat):Int) 0 m0) (.exit 2) (z5p r0 n0 i0 i1 m2))(e1:IntKind.i64.wrap (i1+1)=i2)(ih:Lp E 1 D7 0 (z0z r0 n0 i0 i2 m2) o t):Lp E 1 D7 0 (z0z r0 n0 i0 i1 m0) o t:=by subst e1;exact lpM (oT h1 (oL h2 oZ)) ih
theorem y7w (h1:¬ i1<i0):Lp E 1 D7 0 (z0z r0 n0 i0 i1 m0) (.exit 0) (z5o r0 n0 m0):=lpX (oU h1 oZ)
section
variable (h1:Fn E X3 [.l r0] (.i i0))
include h1
theorem k0s (h2:¬ i0=0):Fn E D7 [.l r0] (.tup [.l [],.i i0]):=fnM (oF h1 (oB (bnT h2) oZ))
section
variable (h2:i0=0)(h3:0≤(r0.length:Int)∧(r0.length:Int)≤(r0.length:Int)∧(Int.toNat (r0.length:Int))*24≤140737488355328∧(Int.toNat (r0.length:Int))≤140737488355328)(h4:Lp E 1 D7 0 (z0z r0 n0 ((n0:Nat):Int) 0 m0) (.exit 0) (z5o r0 n0 m1))
include h2 h3 h4
theorem k0t (h5:Fn E F0 [.l r0,.l r2] (.tup [.l r3,.b true]))(e1:Int.toNat (r0.length:Int)=n0)(e2:(List.replicate n0 []:List (RW))=m0)(e3:List.map (fun x=>[DV.list x]) m1=r1)(e4:(r1.take n0)=r2):Fn E D7 [.l r0] (.tup [.l r3,.i 0]):=by subst e1 e2 e3 e4;exact fnM (oF h1 (oC (bnF h2) (oP h3 (oO .mk (oL h4 (oO (.dm 0) (oF h5 oZ)))))))
theorem k0u (h5:Fn E F0 [.l r0,.l r2] (.tup [.l r3,.b false]))(e1:Int.toNat (r0.length:Int)=n0)(e2:(List.replicate n0 []:List (RW))=m0)(e3:List.map (fun x=>[DV.list x]) m1=r1)(e4:(r1.take n0)=r2):Fn E D7 [.l r0] (.tup [.l [],.i 18]):=by subst e1 e2 e3 e4;exact fnM (oF h1 (oC (bnF h2) (oP h3 (oO .mk (oL h4 (oO (.dm 0) (oF h5 oZ)))))))
end
end
def z5y (r0 r1:RW) (s0:BA) (r2:RW) (i0 i1:Int):St:=stOf 74 [(1,.l r0),(12,.l r1),(13,.s s0),(51,.l r2),(52,.i i0),(53,.i i1)] []
def y0y (r1:RW) (s1:BA):St:=stOf 74 [(12,.l r1),(13,.s s1)] []
theorem k0r (h1:i1<i0)(h2:0≤i1)(h3:r2[(Int.toNat i1)]?=some [.l r3])(h4:Fn E Y5 [.l r3,.l r1] (.s s2))(h5:r0[(Int.toNat i1)]?=some [.s s3])(h6:Fn E z5d [.s s2,.s s3] (.s s4))(h7:Fn E z0v [.s s4,.s s4] (.s s5))(h8:Fn E y1j [.s s0,.s s5] (.s s6))(e1:IntKind.i64.wrap (i1+1)=i2)(ih:Lp E 0 M5 0 (z5y r0 r1 s6 r2 i0 i2) o t):Lp E 0 M5 0 (z5y r0 r1 s0 r2 i0 i1) o t:=by subst e1;exact lpM (oT h1 (oP h2 (oD h3 (oF h4 (oP h2 (oD h5 (oF h6 (oF h7 (oF h8 oZ))))))))) ih
theorem x5s (h1:¬ i1<i0):Lp E 0 M5 0 (z5y r0 r1 s0 r2 i0 i1) (.exit 0) (y0y r1 s0):=lpX (oU h1 oZ)
section
variable (h1:Fn E B7 [.l r0] (.i i0))
include h1
theorem j4r (h2:¬ i0=0):Fn E M5 [.l r0,.l r1] (.tup [.l [],.s ⟨#[]⟩,.i i0]):=fnM (oF h1 (oB (bnT h2) oZ))
section
variable (h2:i0=0)(h3:Fn E z1i [.l r1] (.i i1))
include h2 h3
theorem j4s (h4:¬ i1=0):Fn E M5 [.l r0,.l r1] (.tup [.l [],.s ⟨#[]⟩,.i i1]):=fnM (oF h1 (oC (bnF h2) (oF h3 (oB (bnT h4) oZ))))
theorem j4t (h4:i1=0)(h5:¬ (r1.length:Int)=(r0.length:Int)):Fn E M5 [.l r0,.l r1] (.tup [.l [],.s ⟨#[]⟩,.i 10]):=fnM (oF h1 (oC (bnF h2) (oF h3 (oC (bnF h4) (oB (bnT h5) oZ)))))
theorem j4u (h4:i1=0)(h5:(r1.length:Int)=(r0.length:Int))(h6:Fn E C6 [.l r0] (.l r2))(h7:Fn E D1 [.l r2,.l r0] (.l r3))(h8:Fn E K0 [.l r1] (.l r4))(h9:Fn E D1 [.l r2,.l r4] (.l r5))(h10:Fn E F0 [.l r3,.l r5] (.tup [.l r6,.b true]))(h11:Fn E C6 [.l r6] (.l r7))(h12:r7[0]?=some [.l r8])(h13:Lp E 0 M5 0 (z5y r1 r8 ⟨#[48]⟩ r0 (r0.length:Int) 0) (.exit 0) (y0y r8 s0)):Fn E M5 [.l r0,.l r1] (.tup [.l r8,.s s0,.i 0]):=fnM (oF h1 (oC (bnF h2) (oF h3 (oC (bnF h4) (oC (bnF h5) (oF h6 (oF h7 (oF h8 (oF h9 (oF h10 (oF h11 (oP (show (0:Int)≤0 from by decide) (oD h12 (oL h13 oZ))))))))))))))
theorem j4v (h4:i1=0)(h5:(r1.length:Int)=(r0.length:Int))(h6:Fn E C6 [.l r0] (.l r2))(h7:Fn E D1 [.l r2,.l r0] (.l r3))(h8:Fn E K0 [.l r1] (.l r4))(h9:Fn E D1 [.l r2,.l r4] (.l r5))(h10:Fn E F0 [.l r3,.l r5] (.tup [.l r6,.b false])):Fn E M5 [.l r0,.l r1] (.tup [.l [],.s ⟨#[]⟩,.i 18]):=fnM (oF h1 (oC (bnF h2) (oF h3 (oC (bnF h4) (oC (bnF h5) (oF h6 (oF h7 (oF h8 (oF h9 (oF h10 oZ))))))))))
end
end
def z1b (r0:RW) (n0:Nat) (i0:Int) (r1 r2:RW) (i1 i2:Int) (r3:RW) (i3 i4:Int) (m0:List (RW)):St:=stOf 44 [(5,.l r0),(6,.vec 0 n0),(7,.i i0),(8,.l r1),(16,.l r2),(17,.i i1),(18,.i i2),(23,.l r3),(24,.i i3),(25,.i i4)] [some (.mat A6 m0 [])]
def z5r (r0:RW) (n0:Nat) (r2:RW) (i1 i2:Int) (m1:List (RW)):St:=stOf 44 [(5,.l r0),(6,.vec 0 n0),(16,.l r2),(17,.i i1),(18,.i i2)] [some (.mat A6 m1 [])]
theorem x1f (h1:i4<i3)(h2:0≤i4)(h3:r3[(Int.toNat i4)]?=some [.l r4])(h4:m0[(Int.toNat i0)]?=some r5)(h5:0≤i0∧i0<((n0:Nat):Int))(h6:Fn E Y5 [.l r1,.l r4] (.s s0))(h7:(n1+1)*16≤140737488355328∧n1+1≤140737488355328)(e1:r5.length=n1)(e2:(r5.take n1)++[[.s s0]]=r6)(e3:n1+1=n2)(e4:List.set m0 (Int.toNat i0) (r6.take n2)=m2)(e5:IntKind.i64.wrap (i4+1)=i5)(ih:Lp E 1 D1 1 (z1b r0 n0 i0 r1 r2 i1 i2 r3 i3 i5 m2) o t):Lp E 1 D1 1 (z1b r0 n0 i0 r1 r2 i1 i2 r3 i3 i4 m0) o t:=by subst e1 e2 e3 e4 e5;exact lpM (oT h1 (oP h2 (oD h3 (oI 0 h4 (oP h5 (oO (.sm 0) (oP (show (Int.toNat i0)=(Int.toNat i0) from rfl) (oF h6 (oP (show ∀ y∈([[.s s0]]:RW),y.length=1 from by simp) (oP h7 (oP h5 (oO (.sm 0) (oP (show (Int.toNat i0)=(Int.toNat i0) from rfl) (oO (.gt 0) oZ)))))))))))))) ih
theorem y8h (h1:¬ i4<i3):Lp E 1 D1 1 (z1b r0 n0 i0 r1 r2 i1 i2 r3 i3 i4 m0) (.exit 2) (z5r r0 n0 r2 i1 i2 m0):=lpX (oU h1 oZ)
def z1a (r0:RW) (n0:Nat) (r1:RW) (i0 i1:Int) (m0:List (RW)):St:=stOf 44 [(5,.l r0),(6,.vec 0 n0),(16,.l r1),(17,.i i0),(18,.i i1)] [some (.mat A6 m0 [])]
def z5q (n0:Nat) (m1:List (RW)):St:=stOf 44 [(6,.vec 0 n0)] [some (.mat A6 m1 [])]
theorem x1e (h1:i1<i0)(h2:0≤i1)(h3:r1[(Int.toNat i1)]?=some [.l r2])(h4:Lp E 1 D1 1 (z1b r0 n0 i1 r2 r1 i0 i1 r0 (r0.length:Int) 0 m0) (.exit 2) (z5r r0 n0 r1 i0 i1 m2))(e1:IntKind.i64.wrap (i1+1)=i2)(ih:Lp E 1 D1 0 (z1a r0 n0 r1 i0 i2 m2) o t):Lp E 1 D1 0 (z1a r0 n0 r1 i0 i1 m0) o t:=by subst e1;exact lpM (oT h1 (oP h2 (oD h3 (oL h4 oZ)))) ih
theorem y8g (h1:¬ i1<i0):Lp E 1 D1 0 (z1a r0 n0 r1 i0 i1 m0) (.exit 0) (z5q n0 m0):=lpX (oU h1 oZ)
theorem k0w (h1:Fn E C6 [.l r1] (.l r2))(h2:0≤(r0.length:Int)∧(r0.length:Int)≤(r0.length:Int)∧(Int.toNat (r0.length:Int))*24≤140737488355328∧(Int.toNat (r0.length:Int))≤140737488355328)(h3:Lp E 1 D1 0 (z1a r2 n0 r0 (r0.length:Int) 0 m0) (.exit 0) (z5q n0 m1))(e1:Int.toNat (r0.length:Int)=n0)(e2:(List.replicate n0 []:List (RW))=m0)(e3:List.map (fun x=>[DV.list x]) m1=r3)(e4:(r3.take n0)=r4):Fn E D1 [.l r0,.l r1] (.l r4):=by subst e1 e2 e3 e4;exact fnM (oF h1 (oP h2 (oO .mk (oL h3 (oO (.dm 0) oZ)))))
def Y3 (r0:RW) (n0:Nat) (i0 i1 i2:Int) (r1:RW) (i3 i4:Int) (m0:List (RW)):St:=stOf 39 [(0,.l r0),(3,.vec 0 n0),(4,.i i0),(13,.i i1),(14,.i i2),(17,.l r1),(18,.i i3),(19,.i i4)] [some (.mat A6 m0 [])]
def z4b (r0:RW) (n0:Nat) (i1 i2:Int) (m1:List (RW)):St:=stOf 39 [(0,.l r0),(3,.vec 0 n0),(13,.i i1),(14,.i i2)] [some (.mat A6 m1 [])]
theorem y8j (h1:i4<i3)(h2:0≤i4)(h3:r1[(Int.toNat i4)]?=some [.l r2])(h4:m0[(Int.toNat i0)]?=some r3)(h5:0≤i0∧i0<((n0:Nat):Int))(h6:0≤i0)(h7:r2[(Int.toNat i0)]?=some [.s s0])(h8:(n1+1)*16≤140737488355328∧n1+1≤140737488355328)(e1:r3.length=n1)(e2:(r3.take n1)++[[.s s0]]=r4)(e3:n1+1=n2)(e4:List.set m0 (Int.toNat i0) (r4.take n2)=m2)(e5:IntKind.i64.wrap (i4+1)=i5)(ih:Lp E 1 C6 1 (Y3 r0 n0 i0 i1 i2 r1 i3 i5 m2) o t):Lp E 1 C6 1 (Y3 r0 n0 i0 i1 i2 r1 i3 i4 m0) o t:=by subst e1 e2 e3 e4 e5;exact lpM (oT h1 (oP h2 (oD h3 (oI 0 h4 (oP h5 (oO (.sm 0) (oP (show (Int.toNat i0)=(Int.toNat i0) from rfl) (oP h6 (oD h7 (oP (show ∀ y∈([[.s s0]]:RW),y.length=1 from by simp) (oP h8 (oP h5 (oO (.sm 0) (oP (show (Int.toNat i0)=(Int.toNat i0) from rfl) (oO (.gt 0) oZ))))))))))))))) ih
theorem y5k (h1:¬ i4<i3):Lp E 1 C6 1 (Y3 r0 n0 i0 i1 i2 r1 i3 i4 m0) (.exit 2) (z4b r0 n0 i1 i2 m0):=lpX (oU h1 oZ)
def Y2 (r0:RW) (n0:Nat) (i0 i1:Int) (m0:List (RW)):St:=stOf 39 [(0,.l r0),(3,.vec 0 n0),(13,.i i0),(14,.i i1)] [some (.mat A6 m0 [])]
def z4a (n0:Nat) (m1:List (RW)):St:=stOf 39 [(3,.vec 0 n0)] [some (.mat A6 m1 [])]
theorem y8i (h1:i1<i0)(h2:Lp E 1 C6 1 (Y3 r0 n0 i1 i0 i1 r0 (r0.length:Int) 0 m0) (.exit 2) (z4b r0 n0 i0 i1 m2))(e1:IntKind.i64.wrap (i1+1)=i2)(ih:Lp E 1 C6 0 (Y2 r0 n0 i0 i2 m2) o t):Lp E 1 C6 0 (Y2 r0 n0 i0 i1 m0) o t:=by subst e1;exact lpM (oT h1 (oL h2 oZ)) ih
theorem y5j (h1:¬ i1<i0):Lp E 1 C6 0 (Y2 r0 n0 i0 i1 m0) (.exit 0) (z4a n0 m0):=lpX (oU h1 oZ)
theorem x6a (h1:r0[0]?=some [.l r1])(h2:0≤(r1.length:Int)∧(r1.length:Int)≤(r1.length:Int)∧(Int.toNat (r1.length:Int))*24≤140737488355328∧(Int.toNat (r1.length:Int))≤140737488355328)(h3:Lp E 1 C6 0 (Y2 r0 n0 ((n0:Nat):Int) 0 m0) (.exit 0) (z4a n0 m1))(e1:Int.toNat (r1.length:Int)=n0)(e2:(List.replicate n0 []:List (RW))=m0)(e3:List.map (fun x=>[DV.list x]) m1=r2)(e4:(r2.take n0)=r3):Fn E C6 [.l r0] (.l r3):=by subst e1 e2 e3 e4;exact fnM (oP (show (0:Int)≤0 from by decide) (oD h1 (oP h2 (oO .mk (oL h3 (oO (.dm 0) oZ))))))
theorem k7f (h1:Fn E P0 [.l r0,.fn G8 []] (.b b0)):Fn E z1u [.l r0] (.b (!b0)):=fnM (oF h1 oZ)
section
variable (h1:Fn E B7 [.l r0] (.i i0))
include h1
theorem k3d (h2:¬ i0=0):Fn E X3 [.l r0] (.i i0):=fnM (oF h1 (oB (bnT h2) oZ))
section
variable (h2:i0=0)(h3:r0[0]?=some [.l r1])
include h2 h3
theorem k3e (h4:¬ (r0.length:Int)=(r1.length:Int)):Fn E X3 [.l r0] (.i 10):=fnM (oF h1 (oC (bnF h2) (oP (show (0:Int)≤0 from by decide) (oD h3 (oB (bnT h4) oZ)))))
theorem k3f (h4:(r0.length:Int)=(r1.length:Int)):Fn E X3 [.l r0] (.i 0):=fnM (oF h1 (oC (bnF h2) (oP (show (0:Int)≤0 from by decide) (oD h3 (oC (bnF h4) oZ)))))
end
end
def V1 (n0:Nat) (r0:RW) (i0 i1:Int) (m0:List (RW)):St:=stOf 23 [(3,.vec 0 n0),(9,.l r0),(10,.i i0),(11,.i i1)] [some (.mat A6 m0 [])]
def z2s (n0:Nat) (m1:List (RW)):St:=stOf 23 [(3,.vec 0 n0)] [some (.mat A6 m1 [])]
theorem y6b (h1:i1<i0)(h2:0≤i1)(h3:r0[(Int.toNat i1)]?=some [.l r1])(h4:Rn E z0b [.l r1] [] (.vec 0 n1) [sV x2r r2])(h5:0≤i1∧i1<((n0:Nat):Int))(e1:List.set m0 (Int.toNat i1) (r2.take n1)=m2)(e2:IntKind.i64.wrap (i1+1)=i2)(ih:Lp E 1 F8 0 (V1 n0 r0 i0 i2 m2) o t):Lp E 1 F8 0 (V1 n0 r0 i0 i1 m0) o t:=by subst e1 e2;exact lpM (oT h1 (oP h2 (oD h3 (oN h4 (oP h5 (oO .sn (oO (.gt 0) oZ))))))) ih
theorem y3k (h1:¬ i1<i0):Lp E 1 F8 0 (V1 n0 r0 i0 i1 m0) (.exit 0) (z2s n0 m0):=lpX (oU h1 oZ)
theorem y9p (h1:0≤(r0.length:Int)∧(r0.length:Int)≤(r0.length:Int)∧(Int.toNat (r0.length:Int))*24≤140737488355328∧(Int.toNat (r0.length:Int))≤140737488355328)(h2:Lp E 1 F8 0 (V1 n0 r0 (r0.length:Int) 0 m0) (.exit 0) (z2s n0 m1))(e1:Int.toNat (r0.length:Int)=n0)(e2:(List.replicate n0 []:List (RW))=m0):Rn E F8 [.l r0] [] (.vec 0 n0) [some (.mat A6 m1 [])]:=by subst e1 e2;exact rnM (oP h1 (oO .mk (oL h2 oZ)))
def I3 (n0:Nat) (i0:Int) (s0:BA) (i1 i2 i3 i4:Int) (m0:List (RW)):St:=stOf 144 [(0,.vec 0 n0),(6,.i i0),(7,.s s0),(8,.i i1),(9,.i i2),(15,.i i3),(16,.i i4)] [some (.mat A6 m0 [])]
def z3w (n0:Nat) (i0:Int) (s0:BA) (i3 i4:Int) (m1:List (RW)):St:=stOf 144 [(0,.vec 0 n0),(6,.i i0),(7,.s s0),(15,.i i3),(16,.i i4)] [some (.mat A6 m1 [])]
def z0m (n0:Nat) (i0:Int) (s0:BA) (i1 i3 i4 i5:Int) (m1:List (RW)):St:=stOf 144 [(0,.vec 0 n0),(6,.i i0),(7,.s s0),(8,.i i1),(9,.i i5),(15,.i i3),(16,.i i4)] [some (.mat A6 m1 [])]
theorem z7w (h1:¬ i2≥((n0:Nat):Int))(h2:m0[(Int.toNat i2)]?=some r0)(h3:0≤i2∧i2<((n0:Nat):Int))(h4:0≤i1∧i1<((n1:Nat):Int))(h5:r0[(Int.toNat i1)]?=some [.s s1])(h6:s1=(⟨#[48]⟩:BA))(e1:r0.length=n1)(e2:List.set m0 (Int.toNat i2) (r0.take n1)=m2)(e3:IntKind.i64.wrap (i2+1)=i6)(ih:Lp E 1 A1 1 (I3 n0 i0 s0 i1 i6 i3 i4 m2) o t):Lp E 1 A1 1 (I3 n0 i0 s0 i1 i2 i3 i4 m0) o t:=by subst e1 e2 e3;exact lpM (oU h1 (oI 0 h2 (oP h3 (oO (.sm 0) (oP (show (Int.toNat i2)=(Int.toNat i2) from rfl) (oP h4 (oD h5 (oC (snF h6) (oO (.gt 0) oZ))))))))) ih
theorem y5e (h1:i2≥((n0:Nat):Int)):Lp E 1 A1 1 (I3 n0 i0 s0 i1 i2 i3 i4 m0) (.exit 1) (z3w n0 i0 s0 i3 i4 m0):=lpX (oT h1 oZ)
theorem y5f (h1:¬ i2≥((n0:Nat):Int))(h2:m0[(Int.toNat i2)]?=some r0)(h3:0≤i2∧i2<((n0:Nat):Int))(h4:0≤i1∧i1<((n1:Nat):Int))(h5:r0[(Int.toNat i1)]?=some [.s s1])(h6:¬ s1=(⟨#[48]⟩:BA))(e1:r0.length=n1)(e2:List.set m0 (Int.toNat i2) (r0.take n1)=m2):Lp E 1 A1 1 (I3 n0 i0 s0 i1 i2 i3 i4 m0) (.exit 2) (z0m n0 i0 s0 i1 i3 i4 i2 m2):=by subst e1 e2;exact lpX (oU h1 (oI 0 h2 (oP h3 (oO (.sm 0) (oP (show (Int.toNat i2)=(Int.toNat i2) from rfl) (oP h4 (oD h5 (oB (snT h6) (oO (.gt 0) oZ)))))))))
def Y0 (n0:Nat) (i0:Int) (s0:BA) (i1:Int) (s1:BA) (i2 i3 i4 i5:Int) (m0:List (RW)):St:=stOf 144 [(0,.vec 0 n0),(6,.i i0),(7,.s s0),(8,.i i1),(10,.s s1),(15,.i i2),(16,.i i3),(67,.i i4),(68,.i i5)] [some (.mat A6 m0 []),some .dead,some .dead,some .dead,some .dead]
def z3x (n0:Nat) (i0:Int) (s0:BA) (i1 i2 i3:Int) (m1:List (RW)):St:=stOf 144 [(0,.vec 0 n0),(6,.i i0),(7,.s s0),(8,.i i1),(15,.i i2),(16,.i i3)] [some (.mat A6 m1 []),some .dead,some .dead,some .dead,some .dead]
theorem y8b (h1:i5<i4)(h2:m0[(Int.toNat i0)]?=some r0)(h3:0≤i0∧i0<((n0:Nat):Int))(h4:0≤i5∧i5<((n1:Nat):Int))(h5:r0[(Int.toNat i5)]?=some [.s s2])(h6:Fn E y1k [.s s2,.s s1] (.s s3))(e1:r0.length=n1)(e2:List.set r0 (Int.toNat i5) [.s s3]=r1)(e3:List.set m0 (Int.toNat i0) (r1.take n1)=m2)(e4:IntKind.i64.wrap (i5+1)=i6)(ih:Lp E 5 A1 2 (Y0 n0 i0 s0 i1 s1 i2 i3 i4 i6 m2) o t):Lp E 5 A1 2 (Y0 n0 i0 s0 i1 s1 i2 i3 i4 i5 m0) o t:=by subst e1 e2 e3 e4;exact lpM (oT h1 (oI 0 h2 (oP h3 (oO (.sm 0) (oP (show (Int.toNat i0)=(Int.toNat i0) from rfl) (oP h3 (oO (.sm 0) (oP (show (Int.toNat i0)=(Int.toNat i0) from rfl) (oP h4 (oD h5 (oF h6 (oP h4 (oD h5 (oO (.gt 0) oZ)))))))))))))) ih
theorem y5g (h1:¬ i5<i4):Lp E 5 A1 2 (Y0 n0 i0 s0 i1 s1 i2 i3 i4 i5 m0) (.exit 4) (z3x n0 i0 s0 i1 i2 i3 m0):=lpX (oU h1 oZ)
def Y1 (n0:Nat) (i0:Int) (s0:BA) (i1 i2:Int) (s1:BA) (i3 i4 i5 i6 i7 i8:Int) (m0:List (RW)):St:=stOf 144 [(0,.vec 0 n0),(6,.i i0),(7,.s s0),(8,.i i1),(12,.i i2),(13,.s s1),(15,.i i3),(16,.i i4),(88,.i i5),(89,.i i6),(110,.i i7),(111,.i i8)] [some (.mat A6 m0 []),some .dead,some .dead,some .dead,some .dead,some .dead,some .dead]
def z3z (n0:Nat) (i0:Int) (s0:BA) (i1 i3 i4 i5 i6:Int) (m1:List (RW)):St:=stOf 144 [(0,.vec 0 n0),(6,.i i0),(7,.s s0),(8,.i i1),(15,.i i3),(16,.i i4),(88,.i i5),(89,.i i6)] [some (.mat A6 m1 []),some .dead,some .dead,some .dead,some .dead,some .dead,some .dead]
theorem y8f (h1:i8<i7)(h2:m0[(Int.toNat i2)]?=some r0)(h3:m0[(Int.toNat i0)]?=some r1)(h4:(Int.toNat i0)≠(Int.toNat i2))(h5:0≤i2∧i2<((n0:Nat):Int))(h6:0≤i8∧i8<((n1:Nat):Int))(h7:r0[(Int.toNat i8)]?=some [.s s2])(h8:0≤i0∧i0<((n0:Nat):Int))(h9:0≤i8∧i8<((n2:Nat):Int))(h10:r1[(Int.toNat i8)]?=some [.s s3])(h11:Fn E z0v [.s s1,.s s3] (.s s4))(h12:Fn E z5d [.s s2,.s s4] (.s s5))(e1:r0.length=n1)(e2:r1.length=n2)(e3:List.set r0 (Int.toNat i8) [.s s5]=r2)(e4:List.set m0 (Int.toNat i2) (r2.take n1)=m2)(e5:List.set m2 (Int.toNat i0) (r1.take n2)=m3)(e6:IntKind.i64.wrap (i8+1)=i9)(ih:Lp E 7 A1 4 (Y1 n0 i0 s0 i1 i2 s1 i3 i4 i5 i6 i7 i9 m3) o t):Lp E 7 A1 4 (Y1 n0 i0 s0 i1 i2 s1 i3 i4 i5 i6 i7 i8 m0) o t:=by subst e1 e2 e3 e4 e5 e6;exact lpM (oT h1 (oI 0 h2 (oI 0 h3 (oP h4 (oP h5 (oO (.sm 0) (oP (show (Int.toNat i2)=(Int.toNat i2) from rfl) (oP h5 (oO (.sm 0) (oP (show (Int.toNat i2)=(Int.toNat i2) from rfl) (oP h6 (oD h7 (oP h8 (oO (.sm 1) (oP (show (Int.toNat i0)=(Int.toNat i0) from rfl) (oP h9 (oD h10 (oF h11 (oF h12 (oP h6 (oD h7 (oO (.gt 0) oZ)))))))))))))))))))))) ih
theorem y5i (h1:¬ i8<i7):Lp E 7 A1 4 (Y1 n0 i0 s0 i1 i2 s1 i3 i4 i5 i6 i7 i8 m0) (.exit 8) (z3z n0 i0 s0 i1 i3 i4 i5 i6 m0):=lpX (oU h1 oZ)
def I4 (n0:Nat) (i0:Int) (s0:BA) (i1 i2 i3 i4 i5:Int) (m0:List (RW)):St:=stOf 144 [(0,.vec 0 n0),(6,.i i0),(7,.s s0),(8,.i i1),(15,.i i2),(16,.i i3),(88,.i i4),(89,.i i5)] [some (.mat A6 m0 []),some .dead,some .dead,some .dead,some .dead]
def z3y (n0:Nat) (i0:Int) (s0:BA) (i2 i3:Int) (m1:List (RW)):St:=stOf 144 [(0,.vec 0 n0),(6,.i i0),(7,.s s0),(15,.i i2),(16,.i i3)] [some (.mat A6 m1 []),some .dead,some .dead,some .dead,some .dead]
section
variable (h1:i5<i4)(h2:m0[(Int.toNat i5)]?=some r0)(h3:0≤i5∧i5<((n0:Nat):Int))(h4:0≤i1∧i1<((n1:Nat):Int))(h5:r0[(Int.toNat i1)]?=some [.s s1])
include h1 h2 h3 h4 h5
theorem y8c (h6:¬ i5=i0)(h7:¬ s1=(⟨#[48]⟩:BA))(h8:m2[(Int.toNat i5)]?=some r1)(h9:Lp E 7 A1 4 (Y1 n0 i0 s0 i1 i5 s1 i2 i3 i4 i5 ((n2:Nat):Int) 0 m3) (.exit 8) (z3z n0 i0 s0 i1 i2 i3 i4 i5 m4))(e1:r0.length=n1)(e2:List.set m0 (Int.toNat i5) (r0.take n1)=m2)(e3:r1.length=n2)(e4:List.set m2 (Int.toNat i5) (r1.take n2)=m3)(e5:IntKind.i64.wrap (i5+1)=i6)(ih:Lp E 5 A1 3 (I4 n0 i0 s0 i1 i2 i3 i4 i6 m4) o t):Lp E 5 A1 3 (I4 n0 i0 s0 i1 i2 i3 i4 i5 m0) o t:=by subst e1 e2 e3 e4 e5;exact lpM (oT h1 (oI 0 h2 (oP h3 (oO (.sm 0) (oP (show (Int.toNat i5)=(Int.toNat i5) from rfl) (oP h4 (oD h5 (oO (.gt 0) (oB (bnT h6) (oB (snT h7) (oI 0 h8 (oP h3 (oO (.sm 0) (oP (show (Int.toNat i5)=(Int.toNat i5) from rfl) (oO (.gt 0) (oL h9 oZ)))))))))))))))) ih
theorem y8d (h6:¬ i5=i0)(h7:s1=(⟨#[48]⟩:BA))(e1:r0.length=n1)(e2:List.set m0 (Int.toNat i5) (r0.take n1)=m2)(e3:IntKind.i64.wrap (i5+1)=i7)(ih:Lp E 5 A1 3 (I4 n0 i0 s0 i1 i2 i3 i4 i7 m2) o t):Lp E 5 A1 3 (I4 n0 i0 s0 i1 i2 i3 i4 i5 m0) o t:=by subst e1 e2 e3;exact lpM (oT h1 (oI 0 h2 (oP h3 (oO (.sm 0) (oP (show (Int.toNat i5)=(Int.toNat i5) from rfl) (oP h4 (oD h5 (oO (.gt 0) (oB (bnT h6) (oC (snF h7) oZ)))))))))) ih
theorem y8e (h6:i5=i0)(e1:r0.length=n1)(e2:List.set m0 (Int.toNat i5) (r0.take n1)=m2)(e3:IntKind.i64.wrap (i5+1)=i7)(ih:Lp E 5 A1 3 (I4 n0 i0 s0 i1 i2 i3 i4 i7 m2) o t):Lp E 5 A1 3 (I4 n0 i0 s0 i1 i2 i3 i4 i5 m0) o t:=by subst e1 e2 e3;exact lpM (oT h1 (oI 0 h2 (oP h3 (oO (.sm 0) (oP (show (Int.toNat i5)=(Int.toNat i5) from rfl) (oP h4 (oD h5 (oO (.gt 0) (oC (bnF h6) oZ))))))))) ih
end
theorem y5h (h1:¬ i5<i4):Lp E 5 A1 3 (I4 n0 i0 s0 i1 i2 i3 i4 i5 m0) (.exit 6) (z3y n0 i0 s0 i2 i3 m0):=lpX (oU h1 oZ)
def V2 (n0:Nat) (i0:Int) (s0:BA) (i1:Int) (s1:BA) (i2 i3 i4 i5:Int) (m0:List (RW)):St:=stOf 144 [(0,.vec 0 n0),(6,.i i0),(7,.s s0),(8,.i i1),(10,.s s1),(15,.i i2),(16,.i i3),(67,.i i4),(68,.i i5)] [some (.mat A6 m0 []),some .dead,some .dead]
def z2t (n0:Nat) (i0:Int) (s0:BA) (i1 i2 i3:Int) (m1:List (RW)):St:=stOf 144 [(0,.vec 0 n0),(6,.i i0),(7,.s s0),(8,.i i1),(15,.i i2),(16,.i i3)] [some (.mat A6 m1 []),some .dead,some .dead]
theorem y6c (h1:i5<i4)(h2:m0[(Int.toNat i0)]?=some r0)(h3:0≤i0∧i0<((n0:Nat):Int))(h4:0≤i5∧i5<((n1:Nat):Int))(h5:r0[(Int.toNat i5)]?=some [.s s2])(h6:Fn E y1k [.s s2,.s s1] (.s s3))(e1:r0.length=n1)(e2:List.set r0 (Int.toNat i5) [.s s3]=r1)(e3:List.set m0 (Int.toNat i0) (r1.take n1)=m2)(e4:IntKind.i64.wrap (i5+1)=i6)(ih:Lp E 3 A1 2 (V2 n0 i0 s0 i1 s1 i2 i3 i4 i6 m2) o t):Lp E 3 A1 2 (V2 n0 i0 s0 i1 s1 i2 i3 i4 i5 m0) o t:=by subst e1 e2 e3 e4;exact lpM (oT h1 (oI 0 h2 (oP h3 (oO (.sm 0) (oP (show (Int.toNat i0)=(Int.toNat i0) from rfl) (oP h3 (oO (.sm 0) (oP (show (Int.toNat i0)=(Int.toNat i0) from rfl) (oP h4 (oD h5 (oF h6 (oP h4 (oD h5 (oO (.gt 0) oZ)))))))))))))) ih
theorem y3l (h1:¬ i5<i4):Lp E 3 A1 2 (V2 n0 i0 s0 i1 s1 i2 i3 i4 i5 m0) (.exit 4) (z2t n0 i0 s0 i1 i2 i3 m0):=lpX (oU h1 oZ)
def V3 (n0:Nat) (i0:Int) (s0:BA) (i1 i2:Int) (s1:BA) (i3 i4 i5 i6 i7 i8:Int) (m0:List (RW)):St:=stOf 144 [(0,.vec 0 n0),(6,.i i0),(7,.s s0),(8,.i i1),(12,.i i2),(13,.s s1),(15,.i i3),(16,.i i4),(88,.i i5),(89,.i i6),(110,.i i7),(111,.i i8)] [some (.mat A6 m0 []),some .dead,some .dead,some .dead,some .dead]
def z2v (n0:Nat) (i0:Int) (s0:BA) (i1 i3 i4 i5 i6:Int) (m1:List (RW)):St:=stOf 144 [(0,.vec 0 n0),(6,.i i0),(7,.s s0),(8,.i i1),(15,.i i3),(16,.i i4),(88,.i i5),(89,.i i6)] [some (.mat A6 m1 []),some .dead,some .dead,some .dead,some .dead]
theorem y6g (h1:i8<i7)(h2:m0[(Int.toNat i2)]?=some r0)(h3:m0[(Int.toNat i0)]?=some r1)(h4:(Int.toNat i0)≠(Int.toNat i2))(h5:0≤i2∧i2<((n0:Nat):Int))(h6:0≤i8∧i8<((n1:Nat):Int))(h7:r0[(Int.toNat i8)]?=some [.s s2])(h8:0≤i0∧i0<((n0:Nat):Int))(h9:0≤i8∧i8<((n2:Nat):Int))(h10:r1[(Int.toNat i8)]?=some [.s s3])(h11:Fn E z0v [.s s1,.s s3] (.s s4))(h12:Fn E z5d [.s s2,.s s4] (.s s5))(e1:r0.length=n1)(e2:r1.length=n2)(e3:List.set r0 (Int.toNat i8) [.s s5]=r2)(e4:List.set m0 (Int.toNat i2) (r2.take n1)=m2)(e5:List.set m2 (Int.toNat i0) (r1.take n2)=m3)(e6:IntKind.i64.wrap (i8+1)=i9)(ih:Lp E 5 A1 4 (V3 n0 i0 s0 i1 i2 s1 i3 i4 i5 i6 i7 i9 m3) o t):Lp E 5 A1 4 (V3 n0 i0 s0 i1 i2 s1 i3 i4 i5 i6 i7 i8 m0) o t:=by subst e1 e2 e3 e4 e5 e6;exact lpM (oT h1 (oI 0 h2 (oI 0 h3 (oP h4 (oP h5 (oO (.sm 0) (oP (show (Int.toNat i2)=(Int.toNat i2) from rfl) (oP h5 (oO (.sm 0) (oP (show (Int.toNat i2)=(Int.toNat i2) from rfl) (oP h6 (oD h7 (oP h8 (oO (.sm 1) (oP (show (Int.toNat i0)=(Int.toNat i0) from rfl) (oP h9 (oD h10 (oF h11 (oF h12 (oP h6 (oD h7 (oO (.gt 0) oZ)))))))))))))))))))))) ih
theorem y3n (h1:¬ i8<i7):Lp E 5 A1 4 (V3 n0 i0 s0 i1 i2 s1 i3 i4 i5 i6 i7 i8 m0) (.exit 8) (z2v n0 i0 s0 i1 i3 i4 i5 i6 m0):=lpX (oU h1 oZ)
def H3 (n0:Nat) (i0:Int) (s0:BA) (i1 i2 i3 i4 i5:Int) (m0:List (RW)):St:=stOf 144 [(0,.vec 0 n0),(6,.i i0),(7,.s s0),(8,.i i1),(15,.i i2),(16,.i i3),(88,.i i4),(89,.i i5)] [some (.mat A6 m0 []),some .dead,some .dead]
def z2u (n0:Nat) (i0:Int) (s0:BA) (i2 i3:Int) (m1:List (RW)):St:=stOf 144 [(0,.vec 0 n0),(6,.i i0),(7,.s s0),(15,.i i2),(16,.i i3)] [some (.mat A6 m1 []),some .dead,some .dead]
section
variable (h1:i5<i4)(h2:m0[(Int.toNat i5)]?=some r0)(h3:0≤i5∧i5<((n0:Nat):Int))(h4:0≤i1∧i1<((n1:Nat):Int))(h5:r0[(Int.toNat i1)]?=some [.s s1])
include h1 h2 h3 h4 h5
theorem y6d (h6:¬ i5=i0)(h7:¬ s1=(⟨#[48]⟩:BA))(h8:m2[(Int.toNat i5)]?=some r1)(h9:Lp E 5 A1 4 (V3 n0 i0 s0 i1 i5 s1 i2 i3 i4 i5 ((n2:Nat):Int) 0 m3) (.exit 8) (z2v n0 i0 s0 i1 i2 i3 i4 i5 m4))(e1:r0.length=n1)(e2:List.set m0 (Int.toNat i5) (r0.take n1)=m2)(e3:r1.length=n2)(e4:List.set m2 (Int.toNat i5) (r1.take n2)=m3)(e5:IntKind.i64.wrap (i5+1)=i6)(ih:Lp E 3 A1 3 (H3 n0 i0 s0 i1 i2 i3 i4 i6 m4) o t):Lp E 3 A1 3 (H3 n0 i0 s0 i1 i2 i3 i4 i5 m0) o t:=by subst e1 e2 e3 e4 e5;exact lpM (oT h1 (oI 0 h2 (oP h3 (oO (.sm 0) (oP (show (Int.toNat i5)=(Int.toNat i5) from rfl) (oP h4 (oD h5 (oO (.gt 0) (oB (bnT h6) (oB (snT h7) (oI 0 h8 (oP h3 (oO (.sm 0) (oP (show (Int.toNat i5)=(Int.toNat i5) from rfl) (oO (.gt 0) (oL h9 oZ)))))))))))))))) ih
theorem y6e (h6:¬ i5=i0)(h7:s1=(⟨#[48]⟩:BA))(e1:r0.length=n1)(e2:List.set m0 (Int.toNat i5) (r0.take n1)=m2)(e3:IntKind.i64.wrap (i5+1)=i7)(ih:Lp E 3 A1 3 (H3 n0 i0 s0 i1 i2 i3 i4 i7 m2) o t):Lp E 3 A1 3 (H3 n0 i0 s0 i1 i2 i3 i4 i5 m0) o t:=by subst e1 e2 e3;exact lpM (oT h1 (oI 0 h2 (oP h3 (oO (.sm 0) (oP (show (Int.toNat i5)=(Int.toNat i5) from rfl) (oP h4 (oD h5 (oO (.gt 0) (oB (bnT h6) (oC (snF h7) oZ)))))))))) ih
theorem y6f (h6:i5=i0)(e1:r0.length=n1)(e2:List.set m0 (Int.toNat i5) (r0.take n1)=m2)(e3:IntKind.i64.wrap (i5+1)=i7)(ih:Lp E 3 A1 3 (H3 n0 i0 s0 i1 i2 i3 i4 i7 m2) o t):Lp E 3 A1 3 (H3 n0 i0 s0 i1 i2 i3 i4 i5 m0) o t:=by subst e1 e2 e3;exact lpM (oT h1 (oI 0 h2 (oP h3 (oO (.sm 0) (oP (show (Int.toNat i5)=(Int.toNat i5) from rfl) (oP h4 (oD h5 (oO (.gt 0) (oC (bnF h6) oZ))))))))) ih
end
theorem y3m (h1:¬ i5<i4):Lp E 3 A1 3 (H3 n0 i0 s0 i1 i2 i3 i4 i5 m0) (.exit 6) (z2u n0 i0 s0 i2 i3 m0):=lpX (oU h1 oZ)
def I2 (n0:Nat) (i0:Int) (s0:BA) (i1 i2:Int) (m0:List (RW)):St:=stOf 144 [(0,.vec 0 n0),(6,.i i0),(7,.s s0),(15,.i i1),(16,.i i2)] [some (.mat A6 m0 [])]
def z3v (i3:Int) (s1:BA) (m1:List (RW)):St:=stOf 144 [(6,.i i3),(7,.s s1)] [some (.mat A6 m1 [])]
theorem y7y (h1:i2<i1)(h2:Lp E 1 A1 1 (I3 n0 i0 s0 i2 i0 i1 i2 m0) (.exit 1) (z3w n0 i0 s0 i1 i2 m2))(e1:IntKind.i64.wrap (i2+1)=i4)(ih:Lp E 1 A1 0 (I2 n0 i0 s0 i1 i4 m2) o t):Lp E 1 A1 0 (I2 n0 i0 s0 i1 i2 m0) o t:=by subst e1;exact lpM (oT h1 (oL h2 oZ)) ih
theorem y7z (h1:i2<i1)(h2:Lp E 1 A1 1 (I3 n0 i0 s0 i2 i0 i1 i2 m0) (.exit 2) (z0m n0 i0 s0 i2 i1 i2 i5 m3))(h3:¬ i5=i0)(h4:m3[(Int.toNat i0)]?=some r0)(h5:m3[(Int.toNat i5)]?=some r1)(h6:(Int.toNat i5)≠(Int.toNat i0))(h7:0≤i0∧i0<((n0:Nat):Int))(h8:0≤i5∧i5<((n0:Nat):Int))(h9:Fn E z5d [.s ⟨#[48]⟩,.s s0] (.s s2))(h10:m5[(Int.toNat i0)]?=some r2)(h11:0≤i2∧i2<((n3:Nat):Int))(h12:r2[(Int.toNat i2)]?=some [.s s3])(h13:Fn E z0v [.s s2,.s s3] (.s s4))(h14:m6[(Int.toNat i0)]?=some r3)(h15:Lp E 5 A1 2 (Y0 n0 i0 s4 i2 s3 i1 i2 ((n4:Nat):Int) 0 m7) (.exit 4) (z3x n0 i0 s4 i2 i1 i2 m8))(h16:Lp E 5 A1 3 (I4 n0 i0 s4 i2 i1 i2 ((n0:Nat):Int) 0 m8) (.exit 6) (z3y n0 i0 s4 i1 i2 m9))(e1:r0.length=n1)(e2:r1.length=n2)(e3:List.set m3 (Int.toNat i0) (r1.take n2)=m4)(e4:List.set m4 (Int.toNat i5) (r0.take n1)=m5)(e5:r2.length=n3)(e6:List.set m5 (Int.toNat i0) (r2.take n3)=m6)(e7:r3.length=n4)(e8:List.set m6 (Int.toNat i0) (r3.take n4)=m7)(e9:IntKind.i64.wrap (i0+1)=i6)(e10:IntKind.i64.wrap (i2+1)=i7)(ih:Lp E 1 A1 0 (I2 n0 i6 s4 i1 i7 m9) o t):Lp E 1 A1 0 (I2 n0 i0 s0 i1 i2 m0) o t:=by subst e1 e2 e3 e4 e5 e6 e7 e8 e9 e10;exact lpM (oT h1 (oL h2 (oB (bnT h3) (oI 0 h4 (oI 0 h5 (oP h6 (oP h7 (oO (.sm 0) (oP (show (Int.toNat i0)=(Int.toNat i0) from rfl) (oP h8 (oO (.sm 1) (oP (show (Int.toNat i5)=(Int.toNat i5) from rfl) (oP h8 (oO (.sm 1) (oP (show (Int.toNat i5)=(Int.toNat i5) from rfl) (oP h7 (oO (.sm 0) (oP (show (Int.toNat i0)=(Int.toNat i0) from rfl) (oO (.gt 0) (oF h9 (oI 0 h10 (oP h7 (oO (.sm 0) (oP (show (Int.toNat i0)=(Int.toNat i0) from rfl) (oP h11 (oD h12 (oO (.gt 0) (oF h13 (oI 0 h14 (oP h7 (oO (.sm 0) (oP (show (Int.toNat i0)=(Int.toNat i0) from rfl) (oO (.gt 0) (oL h15 (oL h16 oZ))))))))))))))))))))))))))))))))))) ih
theorem y8a (h1:i2<i1)(h2:Lp E 1 A1 1 (I3 n0 i0 s0 i2 i0 i1 i2 m0) (.exit 2) (z0m n0 i0 s0 i2 i1 i2 i5 m3))(h3:i5=i0)(h4:m3[(Int.toNat i0)]?=some r0)(h5:0≤i0∧i0<((n0:Nat):Int))(h6:0≤i2∧i2<((n1:Nat):Int))(h7:r0[(Int.toNat i2)]?=some [.s s5])(h8:Fn E z0v [.s s0,.s s5] (.s s6))(h9:m10[(Int.toNat i0)]?=some r4)(h10:Lp E 3 A1 2 (V2 n0 i0 s6 i2 s5 i1 i2 ((n5:Nat):Int) 0 m11) (.exit 4) (z2t n0 i0 s6 i2 i1 i2 m12))(h11:Lp E 3 A1 3 (H3 n0 i0 s6 i2 i1 i2 ((n0:Nat):Int) 0 m12) (.exit 6) (z2u n0 i0 s6 i1 i2 m13))(e1:r0.length=n1)(e2:List.set m3 (Int.toNat i0) (r0.take n1)=m10)(e3:r4.length=n5)(e4:List.set m10 (Int.toNat i0) (r4.take n5)=m11)(e5:IntKind.i64.wrap (i0+1)=i8)(e6:IntKind.i64.wrap (i2+1)=i9)(ih:Lp E 1 A1 0 (I2 n0 i8 s6 i1 i9 m13) o t):Lp E 1 A1 0 (I2 n0 i0 s0 i1 i2 m0) o t:=by subst e1 e2 e3 e4 e5 e6;exact lpM (oT h1 (oL h2 (oC (bnF h3) (oI 0 h4 (oP h5 (oO (.sm 0) (oP (show (Int.toNat i0)=(Int.toNat i0) from rfl) (oP h6 (oD h7 (oO (.gt 0) (oF h8 (oI 0 h9 (oP h5 (oO (.sm 0) (oP (show (Int.toNat i0)=(Int.toNat i0) from rfl) (oO (.gt 0) (oL h10 (oL h11 oZ)))))))))))))))))) ih
theorem y5d (h1:¬ i2<i1):Lp E 1 A1 0 (I2 n0 i0 s0 i1 i2 m0) (.exit 0) (z3v i0 s0 m0):=lpX (oU h1 oZ)
theorem x5x (h1:Lp E 1 A1 0 (I2 n0 0 ⟨#[49]⟩ i0 0 m0) (.exit 0) (z3v i1 s0 m1)):Rn E A1 [.vec 0 n0,.i i0] [some (.mat A6 m0 [])] (.tup [.i i1,.s s0]) [some (.mat A6 m1 [])]:=rnM (oL h1 oZ)
theorem k9y (h1:(r0.length:Int)=0):Fn E z1i [.l r0] (.i 1):=fnM (oB (beT h1) oZ)
section
variable (h1:¬ (r0.length:Int)=0)
include h1
theorem k9z (h2:(r0.length:Int)>12):Fn E z1i [.l r0] (.i 1):=fnM (oC (beF h1) (oT h2 oZ))
theorem j0a (h2:¬ (r0.length:Int)>12)(h3:Fn E z1u [.l r0] (.b true)):Fn E z1i [.l r0] (.i 0):=fnM (oC (beF h1) (oU h2 (oF h3 oZ)))
theorem j0b (h2:¬ (r0.length:Int)>12)(h3:Fn E z1u [.l r0] (.b false)):Fn E z1i [.l r0] (.i 1):=fnM (oC (beF h1) (oU h2 (oF h3 oZ)))
end
def z2b (n0:Nat) (r0:RW) (i0 i1:Int) (r1:RW):St:=stOf 19 [(3,.vec 0 n0),(6,.l r0),(7,.i i0),(8,.i i1)] [sV A6 r1]
def z6q (n1:Nat) (r2:RW):St:=stOf 19 [(3,.vec 0 n1)] [sV A6 r2]
theorem x3s (h1:i1<i0)(h2:0≤i1)(h3:r0[(Int.toNat i1)]?=some [.s s0])(h4:(n0+1)*24≤140737488355328∧n0+1≤140737488355328)(e1:(([[.s s0]]:RW).take 1)=r3)(e2:(r1.take n0)++[[.l r3]]=r4)(e3:n0+1=n2)(e4:IntKind.i64.wrap (i1+1)=i2)(ih:Lp E 0 K0 0 (z2b n2 r0 i0 i2 r4) o t):Lp E 0 K0 0 (z2b n0 r0 i0 i1 r1) o t:=by subst e1 e2 e3 e4;exact lpM (oT h1 (oP h2 (oD h3 (oP (show ∀ y∈([[.l (([[.s s0]]:RW).take 1)]]:RW),y.length=1 from by simp) (oP h4 oZ))))) ih
theorem y9o (h1:¬ i1<i0):Lp E 0 K0 0 (z2b n0 r0 i0 i1 r1) (.exit 0) (z6q n0 r1):=lpX (oU h1 oZ)
theorem k3c (h1:Lp E 0 K0 0 (z2b 0 r0 (r0.length:Int) 0 []) (.exit 0) (z6q n0 r1))(e1:(r1.take n0)=r2):Fn E K0 [.l r0] (.l r2):=by subst e1;exact fnM (oM [(3,A6)] h1 oZ)
def z3f (r0:RW) (i0:Int) (n0:Nat) (i1 i2:Int) (m0:List (RW)):St:=stOf 59 [(1,.l r0),(6,.i i0),(7,.vec 0 n0),(17,.i i1),(18,.i i2)] [some (.mat A6 m0 [])]
def z7x (i0:Int) (n0:Nat) (m1:List (RW)):St:=stOf 59 [(6,.i i0),(7,.vec 0 n0)] [some (.mat A6 m1 [])]
theorem x5y (h1:i2<i1)(h2:m0[(Int.toNat i2)]?=some r1)(h3:0≤i2∧i2<((n0:Nat):Int))(h4:0≤i2)(h5:r0[(Int.toNat i2)]?=some [.l r2])(h6:∀ y∈r2,y.length=1)(h7:(n1+r2.length)*16≤140737488355328∧n1+r2.length≤140737488355328)(e1:r1.length=n1)(e2:(r1.take n1)++r2=r3)(e3:n1+r2.length=n2)(e4:List.set m0 (Int.toNat i2) (r3.take n2)=m2)(e5:IntKind.i64.wrap (i2+1)=i3)(ih:Lp E 1 F0 0 (z3f r0 i0 n0 i1 i3 m2) o t):Lp E 1 F0 0 (z3f r0 i0 n0 i1 i2 m0) o t:=by subst e1 e2 e3 e4 e5;exact lpM (oT h1 (oI 0 h2 (oP h3 (oO (.sm 0) (oP (show (Int.toNat i2)=(Int.toNat i2) from rfl) (oP h4 (oD h5 (oP h6 (oP h7 (oP h3 (oO (.sm 0) (oP (show (Int.toNat i2)=(Int.toNat i2) from rfl) (oO (.gt 0) oZ))))))))))))) ih
theorem x1g (h1:¬ i2<i1):Lp E 1 F0 0 (z3f r0 i0 n0 i1 i2 m0) (.exit 0) (z7x i0 n0 m0):=lpX (oU h1 oZ)
def z3g (i0:Int) (n0:Nat) (i1 i2:Int) (r0:RW):St:=stOf 59 [(6,.i i0),(7,.vec 0 n0),(44,.i i1),(45,.i i2)] [sV A6 r0]
def z7y (n0:Nat) (r1:RW):St:=stOf 59 [(7,.vec 0 n0)] [sV A6 r1]
theorem x5z (h1:i2<i1)(h2:0≤i2∧i2<((n0:Nat):Int))(h3:r0[(Int.toNat i2)]?=some [.l r2])(h4:0≤i0∧i0≤(r2.length:Int)∧(r2.length:Int)≤r2.length∧∀ x∈r2,x.length=1)(e1:List.drop (Int.toNat i0) (r2.take (Int.toNat (r2.length:Int)))=r3)(e2:List.set r0 (Int.toNat i2) [.l r3]=r4)(e3:IntKind.i64.wrap (i2+1)=i3)(ih:Lp E 1 F0 1 (z3g i0 n0 i1 i3 r4) o t):Lp E 1 F0 1 (z3g i0 n0 i1 i2 r0) o t:=by subst e1 e2 e3;exact lpM (oT h1 (oP h2 (oD h3 (oP h4 (oP h2 (oD h3 oZ)))))) ih
theorem x1h (h1:¬ i2<i1):Lp E 1 F0 1 (z3g i0 n0 i1 i2 r0) (.exit 2) (z7y n0 r0):=lpX (oU h1 oZ)
section
variable (h1:Rn E F8 [.l r0] [] (.vec 0 n0) [some (.mat A6 m0 [])])(h2:Lp E 1 F0 0 (z3f r1 (r0.length:Int) n0 ((n0:Nat):Int) 0 m0) (.exit 0) (z7x (r0.length:Int) n0 m1))(h3:Rn E A1 [.vec 0 n0,.i (r0.length:Int)] [some (.mat A6 m1 [])] (.tup [.i i0,.s s0]) [some (.mat A6 m2 [])])
include h1 h2 h3
theorem k7d (h4:i0<(r0.length:Int))(e1:List.map (fun x=>[DV.list x]) m2=r2):Fn E F0 [.l r0,.l r1] (.tup [.l [],.b false]):=by subst e1;exact fnM (oQ h1 (oL h2 (oV h3 (oO (.dm 0) (oT h4 oZ)))))
theorem k7e (h4:¬ i0<(r0.length:Int))(h5:Lp E 1 F0 1 (z3g (r0.length:Int) n0 ((n0:Nat):Int) 0 r2) (.exit 2) (z7y n0 r3))(e1:List.map (fun x=>[DV.list x]) m2=r2)(e2:(r3.take n0)=r4):Fn E F0 [.l r0,.l r1] (.tup [.l r4,.b true]):=by subst e1 e2;exact fnM (oQ h1 (oL h2 (oV h3 (oO (.dm 0) (oU h4 (oL h5 oZ))))))
end
def z5z (r0 r1:RW) (s0:BA) (i0 i1:Int):St:=stOf 25 [(0,.l r0),(1,.l r1),(5,.s s0),(8,.i i0),(9,.i i1)] []
def y0z (s1:BA):St:=stOf 25 [(5,.s s1)] []
theorem k0v (h1:i1<i0)(h2:0≤i1)(h3:r0[(Int.toNat i1)]?=some [.s s2])(h4:r1[(Int.toNat i1)]?=some [.s s3])(h5:Fn E z0v [.s s2,.s s3] (.s s4))(h6:Fn E y1j [.s s0,.s s4] (.s s5))(e1:IntKind.i64.wrap (i1+1)=i2)(ih:Lp E 0 Y5 0 (z5z r0 r1 s5 i0 i2) o t):Lp E 0 Y5 0 (z5z r0 r1 s0 i0 i1) o t:=by subst e1;exact lpM (oT h1 (oP h2 (oD h3 (oP h2 (oD h4 (oF h5 (oF h6 oZ))))))) ih
theorem x5w (h1:¬ i1<i0):Lp E 0 Y5 0 (z5z r0 r1 s0 i0 i1) (.exit 0) (y0z s0):=lpX (oU h1 oZ)
theorem j5a (h1:Lp E 0 Y5 0 (z5z r0 r1 ⟨#[48]⟩ (r0.length:Int) 0) (.exit 0) (y0z s0)):Fn E Y5 [.l r0,.l r1] (.s s0):=fnM (oL h1 oZ)
theorem j5c (h1:Fn E y2n [.s s0,.s s1] (.tup [.s s2,.i i0])):Fn E z5d [.s s0,.s s1] (.s s2):=fnM (oF h1 oZ)
theorem j5b (h1:Fn E y2m [.s s0,.s s1] (.tup [.s s2,.i i0])):Fn E z0v [.s s0,.s s1] (.s s2):=fnM (oF h1 oZ)
theorem j4y (h1:Fn E y2k [.s s0,.s s1] (.tup [.s s2,.i i0])):Fn E y1j [.s s0,.s s1] (.s s2):=fnM (oF h1 oZ)
theorem j4z (h1:Fn E y2l [.s s0,.s s1] (.tup [.s s2,.i i0])):Fn E y1k [.s s0,.s s1] (.s s2):=fnM (oF h1 oZ)
theorem k0x (h1:Fn E z8v [.s s0] (.b b0)):Fn E G8 [.s s0] (.b (!b0)):=fnM (oF h1 oZ)
end Gev
namespace Gev
open Go Go.Proofs
variable {E:Env}
variable {o:Out} {t:St} {r0 r1:RW} {i0 i1 i2 i3:Int} {s0 s1:BA}
def Y4 (r0 r1:RW) (i0 i1:Int):St:=stOf 26 [(0,.l r0),(1,.l r1),(12,.i i0),(13,.i i1)] []
def z4d:St:=stOf 26 [] []
theorem y8v (h1:i1<i0)(h2:0≤i1)(h3:r0[(Int.toNat i1)]?=some [.s s0])(h4:r1[(Int.toNat i1)]?=some [.s s1])(h5:s0=s1)(e1:IntKind.i64.wrap (i1+1)=i2)(ih:Lp E 0 J2 0 (Y4 r0 r1 i0 i2) o t):Lp E 0 J2 0 (Y4 r0 r1 i0 i1) o t:=by subst e1;exact lpM (oT h1 (oP h2 (oD h3 (oP h2 (oD h4 (oC (snF h5) oZ)))))) ih
theorem y5q (h1:¬ i1<i0):Lp E 0 J2 0 (Y4 r0 r1 i0 i1) (.exit 0) (z4d):=lpX (oU h1 oZ)
theorem x7g (h1:(r0.length:Int)=(r1.length:Int))(h2:Lp E 0 J2 0 (Y4 r0 r1 (r0.length:Int) 0) (.exit 0) (z4d)):Fn E J2 [.l r0,.l r1] (.b true):=fnM (oC (bnF h1) (oL h2 oZ))
section
variable (h1:Fn E F5 [.l r0,.fn G8 []] (.i i0))
include h1
theorem z3o (h2:i0≥0):Fn E P0 [.l r0,.fn G8 []] (.b true):=fnM (oF h1 (oT h2 oZ))
theorem z3p (h2:¬ i0≥0):Fn E P0 [.l r0,.fn G8 []] (.b false):=fnM (oF h1 (oU h2 oZ))
end
def I0 (r0:RW) (i0 i1:Int):St:=stOf 19 [(0,.l r0),(1,.fn G8 []),(7,.i i0),(8,.i i1)] []
def z0k (i2:Int):St:=stOf 19 [(4,.i i2)] []
def z0l:St:=stOf 19 [] []
section
variable (h1:i1<i0)(h2:0≤i1)(h3:r0[(Int.toNat i1)]?=some [.s s0])
include h1 h2 h3
theorem y1y (h4:Fn E G8 [.s s0] (.b false))(e1:IntKind.i64.wrap (i1+1)=i3)(ih:Lp E 0 F5 0 (I0 r0 i0 i3) o t):Lp E 0 F5 0 (I0 r0 i0 i1) o t:=by subst e1;exact lpM (oT h1 (oP h2 (oD h3 (oF h4 oZ)))) ih
theorem y0r (h4:Fn E G8 [.s s0] (.b true)):Lp E 0 F5 0 (I0 r0 i0 i1) .ret (z0k i1):=lpX (oT h1 (oP h2 (oD h3 (oF h4 oZ))))
end
theorem y0s (h1:¬ i1<i0):Lp E 0 F5 0 (I0 r0 i0 i1) (.exit 0) (z0l):=lpX (oU h1 oZ)
theorem z4y (h1:Lp E 0 F5 0 (I0 r0 (r0.length:Int) 0) .ret (z0k i0)):Fn E F5 [.l r0,.fn G8 []] (.i i0):=fnM (oL h1 oZ)
theorem z4z (h1:Lp E 0 F5 0 (I0 r0 (r0.length:Int) 0) (.exit 0) (z0l)):Fn E F5 [.l r0,.fn G8 []] (.i (-1)):=fnM (oL h1 oZ)
end Gev
namespace Gev
open Go Go.Proofs
variable {E:Env}
variable {o:Out} {t:St} {r0 r1 r2 r3 r4 r5 r6 r7 r8 r9 r10 r11 r12 r13 r14 r15 r16 r17 r18 r19 r20 r21:RW} {i0 i1 i2 i3 i4 i5 i6 i7 i8 i9:Int} {s0 s1:BA} {n0 n1 n2 n3 n4:Nat} {b0 b1 b2 b3 b4 b5 b6 b7 b8 b9 b10:Bool} {m0 m1 m2 m3 m4 m5 m6 m7 m8 m9 m10 m11:List (RW)}
def z3b (r0:RW) (i0:Int):St:=stOf 24 [(0,.l r0),(3,.i i0)] []
def y3e:St:=stOf 24 [(2,.b false)] []
def y3f (r0:RW):St:=stOf 24 [(0,.l r0)] []
section
variable (h1:i0<(r0.length:Int))(h2:0≤i0)(h3:r0[(Int.toNat i0)]?=some [.l r1])
include h1 h2 h3
theorem k4h (h4:Fn E G3 [.l r1,.i 4] (.b true))(e1:IntKind.i64.wrap (i0+1)=i1)(ih:Lp E 0 K9 0 (z3b r0 i1) o t):Lp E 0 K9 0 (z3b r0 i0) o t:=by subst e1;exact lpM (oT h1 (oP h2 (oD h3 (oF h4 oZ)))) ih
theorem x9p (h4:Fn E G3 [.l r1,.i 4] (.b false)):Lp E 0 K9 0 (z3b r0 i0) .ret (y3e):=lpX (oT h1 (oP h2 (oD h3 (oF h4 oZ))))
end
theorem x9q (h1:¬ i0<(r0.length:Int)):Lp E 0 K9 0 (z3b r0 i0) (.exit 0) (y3f r0):=lpX (oU h1 oZ)
theorem j9n (h1:Lp E 0 K9 0 (z3b r0 0) .ret (y3e)):Fn E K9 [.l r0] (.b false):=fnM (oL h1 oZ)
section
variable (h1:Lp E 0 K9 0 (z3b r0 0) (.exit 0) (y3f r0))
include h1
theorem j9o (h2:(r0.length:Int)≤5):Fn E K9 [.l r0] (.b true):=fnM (oL h1 (oT h2 oZ))
theorem j9p (h2:¬ (r0.length:Int)≤5)(h3:(r0.length:Int)=13):Fn E K9 [.l r0] (.b true):=fnM (oL h1 (oU h2 (oB (beT h3) oZ)))
theorem j9q (h2:¬ (r0.length:Int)≤5)(h3:¬ (r0.length:Int)=13):Fn E K9 [.l r0] (.b false):=fnM (oL h1 (oU h2 (oC (beF h3) oZ)))
end
def z0h (r0:RW) (i0:Int):St:=stOf 59 [(0,.l r0),(3,.i i0)] []
def z9l:St:=stOf 59 [(2,.i 10)] []
def z9m (r0:RW):St:=stOf 59 [(0,.l r0)] []
section
variable (h1:i0<(r0.length:Int))(h2:0≤i0)(h3:r0[(Int.toNat i0)]?=some [.l r1])(h4:r0[0]?=some [.l r2])
include h1 h2 h3 h4
theorem x9n (h5:(r1.length:Int)=(r2.length:Int))(e1:IntKind.i64.wrap (i0+1)=i1)(ih:Lp E 0 C9 0 (z0h r0 i1) o t):Lp E 0 C9 0 (z0h r0 i0) o t:=by subst e1;exact lpM (oT h1 (oP h2 (oD h3 (oP (show (0:Int)≤0 from by decide) (oD h4 (oC (bnF h5) oZ)))))) ih
theorem x4n (h5:¬ (r1.length:Int)=(r2.length:Int)):Lp E 0 C9 0 (z0h r0 i0) .ret (z9l):=lpX (oT h1 (oP h2 (oD h3 (oP (show (0:Int)≤0 from by decide) (oD h4 (oB (bnT h5) oZ))))))
end
theorem x4o (h1:¬ i0<(r0.length:Int)):Lp E 0 C9 0 (z0h r0 i0) (.exit 0) (z9m r0):=lpX (oU h1 oZ)
def z0i (r0:RW) (i0:Int):St:=stOf 59 [(0,.l r0),(4,.i i0)] []
def z9n:St:=stOf 59 [(2,.i 1)] []
def z9o:St:=stOf 59 [] []
section
variable (h1:i0<(r0.length:Int))(h2:0≤i0)(h3:r0[(Int.toNat i0)]?=some [.l r1])
include h1 h2 h3
theorem x9o (h4:Fn E F1 [.l r1] (.tup [.l r2,.b true]))(e1:IntKind.i64.wrap (i0+1)=i1)(ih:Lp E 0 C9 1 (z0i r0 i1) o t):Lp E 0 C9 1 (z0i r0 i0) o t:=by subst e1;exact lpM (oT h1 (oP h2 (oD h3 (oF h4 oZ)))) ih
theorem x4p (h4:Fn E F1 [.l r1] (.tup [.l r2,.b false])):Lp E 0 C9 1 (z0i r0 i0) .ret (z9n):=lpX (oT h1 (oP h2 (oD h3 (oF h4 oZ))))
end
theorem x4q (h1:¬ i0<(r0.length:Int)):Lp E 0 C9 1 (z0i r0 i0) (.exit 2) (z9o):=lpX (oU h1 oZ)
theorem j1d (h1:(r0.length:Int)=0):Fn E C9 [.l r0] (.i 9):=fnM (oB (beT h1) oZ)
section
variable (h1:¬ (r0.length:Int)=0)(h2:r0[0]?=some [.l r1])
include h1 h2
theorem j1e (h3:(r1.length:Int)=0):Fn E C9 [.l r0] (.i 9):=fnM (oC (beF h1) (oP (show (0:Int)≤0 from by decide) (oD h2 (oB (beT h3) oZ))))
section
variable (h3:¬ (r1.length:Int)=0)
include h3
theorem j1f (h4:(r0.length:Int)>12):Fn E C9 [.l r0] (.i 8):=fnM (oC (beF h1) (oP (show (0:Int)≤0 from by decide) (oD h2 (oC (beF h3) (oT h4 oZ)))))
section
variable (h4:¬ (r0.length:Int)>12)
include h4
theorem j1g (h5:(r1.length:Int)>12):Fn E C9 [.l r0] (.i 8):=fnM (oC (beF h1) (oP (show (0:Int)≤0 from by decide) (oD h2 (oC (beF h3) (oU h4 (oP (show (0:Int)≤0 from by decide) (oD h2 (oT h5 oZ))))))))
section
variable (h5:¬ (r1.length:Int)>12)
include h5
theorem j1h (h6:Lp E 0 C9 0 (z0h r0 0) .ret (z9l)):Fn E C9 [.l r0] (.i 10):=fnM (oC (beF h1) (oP (show (0:Int)≤0 from by decide) (oD h2 (oC (beF h3) (oU h4 (oP (show (0:Int)≤0 from by decide) (oD h2 (oU h5 (oL h6 oZ)))))))))
section
variable (h6:Lp E 0 C9 0 (z0h r0 0) (.exit 0) (z9m r0))
include h6
theorem j1i (h7:Lp E 0 C9 1 (z0i r0 0) .ret (z9n)):Fn E C9 [.l r0] (.i 1):=fnM (oC (beF h1) (oP (show (0:Int)≤0 from by decide) (oD h2 (oC (beF h3) (oU h4 (oP (show (0:Int)≤0 from by decide) (oD h2 (oU h5 (oL h6 (oL h7 oZ))))))))))
theorem j1j (h7:Lp E 0 C9 1 (z0i r0 0) (.exit 2) (z9o)):Fn E C9 [.l r0] (.i 0):=fnM (oC (beF h1) (oP (show (0:Int)≤0 from by decide) (oD h2 (oC (beF h3) (oU h4 (oP (show (0:Int)≤0 from by decide) (oD h2 (oU h5 (oL h6 (oL h7 oZ))))))))))
end
end
end
end
end
def z6d (r0 r1:RW) (i0:Int):St:=stOf 27 [(0,.l r0),(1,.l r1),(5,.i i0)] []
def y1f:St:=stOf 27 [] []
theorem k1y (h1:i0<(r0.length:Int))(h2:0≤i0)(h3:r0[(Int.toNat i0)]?=some [.l r2])(h4:r1[(Int.toNat i0)]?=some [.l r3])(h5:Fn E N2 [.l r2,.l r3] (.b true))(e1:IntKind.i64.wrap (i0+1)=i1)(ih:Lp E 0 U1 0 (z6d r0 r1 i1) o t):Lp E 0 U1 0 (z6d r0 r1 i0) o t:=by subst e1;exact lpM (oT h1 (oP h2 (oD h3 (oP h2 (oD h4 (oF h5 oZ)))))) ih
theorem x7e (h1:¬ i0<(r0.length:Int)):Lp E 0 U1 0 (z6d r0 r1 i0) (.exit 0) (y1f):=lpX (oU h1 oZ)
theorem j6s (h1:(r0.length:Int)=(r1.length:Int))(h2:Lp E 0 U1 0 (z6d r0 r1 0) (.exit 0) (y1f)):Fn E U1 [.l r0,.l r1] (.b true):=fnM (oC (bnF h1) (oL h2 oZ))
section
variable (h1:Fn E z4k [.l r0] (.i i0))
include h1
theorem j9l (h2:¬ i0=0):Fn E y4b [.l r0] (.tup [.s ⟨#[]⟩,.i i0]):=fnM (oF h1 (oB (bnT h2) oZ))
theorem j9m (h2:i0=0)(h3:Rn E O1 [.l r0] [] (.vec 0 n0) [some (.mat A5 m0 [])])(h4:Rn E A4 [.vec 0 n0,.i (r0.length:Int)] [some (.mat A5 m0 []),none] (.tup [.i i1,.q b0 r1 r2]) [some (.mat A5 m1 []),none])(h5:Fn E y2p [.q b0 r1 r2] (.s s0)):Fn E y4b [.l r0] (.tup [.s s0,.i 0]):=fnM (oF h1 (oC (bnF h2) (oQ h3 (oV h4 (oF h5 oZ)))))
end
section
variable (h1:Fn E C9 [.l r0] (.i i0))
include h1
theorem j6q (h2:¬ i0=0):Fn E y1l [.l r0] (.tup [.i 0,.i i0]):=fnM (oF h1 (oB (bnT h2) oZ))
theorem j6r (h2:i0=0)(h3:Rn E O1 [.l r0] [] (.vec 0 n0) [some (.mat A5 m0 [])])(h4:r0[0]?=some [.l r1])(h5:Rn E A4 [.vec 0 n0,.i (r1.length:Int)] [some (.mat A5 m0 [])] (.tup [.i i1,.q b0 r2 r3]) [some (.mat A5 m1 [])]):Fn E y1l [.l r0] (.tup [.i i1,.i 0]):=fnM (oF h1 (oC (bnF h2) (oQ h3 (oP (show (0:Int)≤0 from by decide) (oD h4 (oJ 0 h5 oZ))))))
end
def P5 (r0:RW) (i0 i1:Int):St:=stOf 27 [(0,.l r0),(1,.i i0),(5,.i i1)] []
def z6u:St:=stOf 27 [(4,.b false)] []
def z6v (r0:RW) (i0:Int):St:=stOf 27 [(0,.l r0),(1,.i i0)] []
section
variable (h1:i1<(r0.length:Int))(h2:0≤i1)(h3:r0[(Int.toNat i1)]?=some [.s s0])
include h1 h2 h3
theorem x4r (h4:¬ (s0.size:Int)>20)(e1:IntKind.i64.wrap (i1+1)=i2)(ih:Lp E 0 G3 0 (P5 r0 i0 i2) o t):Lp E 0 G3 0 (P5 r0 i0 i1) o t:=by subst e1;exact lpM (oT h1 (oP h2 (oD h3 (oU h4 oZ)))) ih
theorem y9x (h4:(s0.size:Int)>20):Lp E 0 G3 0 (P5 r0 i0 i1) .ret (z6u):=lpX (oT h1 (oP h2 (oD h3 (oT h4 oZ))))
end
theorem y9y (h1:¬ i1<(r0.length:Int)):Lp E 0 G3 0 (P5 r0 i0 i1) (.exit 0) (z6v r0 i0):=lpX (oU h1 oZ)
theorem k4d (h1:Lp E 0 G3 0 (P5 r0 i0 0) .ret (z6u)):Fn E G3 [.l r0,.i i0] (.b false):=fnM (oL h1 oZ)
section
variable (h1:Lp E 0 G3 0 (P5 r0 i0 0) (.exit 0) (z6v r0 i0))
include h1
theorem k4e (h2:(r0.length:Int)≤i0):Fn E G3 [.l r0,.i i0] (.b true):=fnM (oL h1 (oT h2 oZ))
theorem k4f (h2:¬ (r0.length:Int)≤i0)(h3:(r0.length:Int)=13):Fn E G3 [.l r0,.i i0] (.b true):=fnM (oL h1 (oU h2 (oB (beT h3) oZ)))
theorem k4g (h2:¬ (r0.length:Int)≤i0)(h3:¬ (r0.length:Int)=13):Fn E G3 [.l r0,.i i0] (.b false):=fnM (oL h1 (oU h2 (oC (beF h3) oZ)))
end
def z1g (r0 r1:RW) (i0:Int):St:=stOf 26 [(0,.l r0),(1,.l r1),(5,.i i0)] []
def z5t:St:=stOf 26 [] []
theorem x2j (h1:i0<(r0.length:Int))(h2:0≤i0)(h3:r0[(Int.toNat i0)]?=some [.s s0])(h4:r1[(Int.toNat i0)]?=some [.s s1])(h5:s0=s1)(e1:IntKind.i64.wrap (i0+1)=i1)(ih:Lp E 0 N2 0 (z1g r0 r1 i1) o t):Lp E 0 N2 0 (z1g r0 r1 i0) o t:=by subst e1;exact lpM (oT h1 (oP h2 (oD h3 (oP h2 (oD h4 (oC (snF h5) oZ)))))) ih
theorem y8s (h1:¬ i0<(r0.length:Int)):Lp E 0 N2 0 (z1g r0 r1 i0) (.exit 0) (z5t):=lpX (oU h1 oZ)
theorem k1x (h1:(r0.length:Int)=(r1.length:Int))(h2:Lp E 0 N2 0 (z1g r0 r1 0) (.exit 0) (z5t)):Fn E N2 [.l r0,.l r1] (.b true):=fnM (oC (bnF h1) (oL h2 oZ))
def N6 (r0:RW) (n0:Nat) (i0:Int) (r1:RW):St:=stOf 37 [(0,.l r0),(4,.vec 0 n0),(5,.i i0)] [sV I9 r1]
def y1e:St:=stOf 37 [(2,.nils),(3,.b false)] []
def z3l (r0:RW) (n1:Nat) (r2:RW):St:=stOf 37 [(0,.l r0),(4,.vec 0 n1)] [sV I9 r2]
section
variable (h1:i0<(r0.length:Int))(h2:0≤i0)(h3:r0[(Int.toNat i0)]?=some [.s s0])
include h1 h2 h3
theorem z9p (h4:Fn E N9 [.s s0] (.tup [.q b0 r3 r4,.b true]))(h5:(n0+1)*56≤140737488355328∧n0+1≤140737488355328)(e1:(r1.take n0)++[[.b b0,.l r3,.l r4]]=r5)(e2:n0+1=n2)(e3:IntKind.i64.wrap (i0+1)=i1)(ih:Lp E 0 F1 0 (N6 r0 n2 i1 r5) o t):Lp E 0 F1 0 (N6 r0 n0 i0 r1) o t:=by subst e1 e2 e3;exact lpM (oT h1 (oP h2 (oD h3 (oF h4 (oP (show ∀ y∈([[.b b0,.l r3,.l r4]]:RW),y.length=3 from by simp) (oP h5 oZ)))))) ih
theorem x6u (h4:Fn E N9 [.s s0] (.tup [.q b0 r3 r4,.b false])):Lp E 0 F1 0 (N6 r0 n0 i0 r1) .ret (y1e):=lpX (oT h1 (oP h2 (oD h3 (oF h4 oZ))))
end
theorem y3g (h1:¬ i0<(r0.length:Int)):Lp E 0 F1 0 (N6 r0 n0 i0 r1) (.exit 0) (z3l r0 n0 r1):=lpX (oU h1 oZ)
theorem j6m (h1:Lp E 0 F1 0 (N6 r0 0 0 []) .ret (y1e)):Fn E F1 [.l r0] (.tup [.l [],.b false]):=fnM (oM [(4,I9)] h1 oZ)
section
variable (h1:Lp E 0 F1 0 (N6 r0 0 0 []) (.exit 0) (z3l r0 n0 r1))
include h1
theorem j6n (h2:(r0.length:Int)≥1)(h3:(r0.length:Int)≤12)(e1:(r1.take n0)=r2):Fn E F1 [.l r0] (.tup [.l r2,.b true]):=by subst e1;exact fnM (oM [(4,I9)] h1 (oT h2 (oT h3 oZ)))
theorem j6o (h2:(r0.length:Int)≥1)(h3:¬ (r0.length:Int)≤12)(e1:(r1.take n0)=r2):Fn E F1 [.l r0] (.tup [.l r2,.b false]):=by subst e1;exact fnM (oM [(4,I9)] h1 (oT h2 (oU h3 oZ)))
theorem j6p (h2:¬ (r0.length:Int)≥1)(e1:(r1.take n0)=r2):Fn E F1 [.l r0] (.tup [.l r2,.b false]):=by subst e1;exact fnM (oM [(4,I9)] h1 (oU h2 oZ))
end
section
variable (h1:Fn E C9 [.l r0] (.i i0))
include h1
theorem k8l (h2:¬ i0=0):Fn E z4k [.l r0] (.i i0):=fnM (oF h1 (oB (bnT h2) oZ))
section
variable (h2:i0=0)(h3:r0[0]?=some [.l r1])
include h2 h3
theorem k8m (h4:¬ (r0.length:Int)=(r1.length:Int)):Fn E z4k [.l r0] (.i 10):=fnM (oF h1 (oC (bnF h2) (oP (show (0:Int)≤0 from by decide) (oD h3 (oB (bnT h4) oZ)))))
theorem k8n (h4:(r0.length:Int)=(r1.length:Int)):Fn E z4k [.l r0] (.i 0):=fnM (oF h1 (oC (bnF h2) (oP (show (0:Int)≤0 from by decide) (oD h3 (oC (bnF h4) oZ)))))
end
end
def z4w (r0:RW) (n0:Nat) (i0:Int) (m0:List (RW)):St:=stOf 26 [(0,.l r0),(3,.vec 0 n0),(4,.i i0)] [some (.mat A5 m0 [])]
def z9q (n1:Nat) (m1:List (RW)):St:=stOf 26 [(3,.vec 0 n1)] [some (.mat A5 m1 [])]
theorem x9r (h1:i0<(r0.length:Int))(h2:0≤i0)(h3:r0[(Int.toNat i0)]?=some [.l r1])(h4:Rn E F1 [.l r1] [] (.tup [.vec 0 n2,.b b0]) [sV I9 r2])(h5:n0=m0.length∧(n0+1)*24≤140737488355328∧n0+1≤140737488355328)(e1:m0++List.replicate 1 []=m2)(e2:n0+1=n3)(e3:List.set m2 m0.length (r2.take n2)=m3)(e4:IntKind.i64.wrap (i0+1)=i1)(ih:Lp E 0 O1 0 (z4w r0 n3 i1 m3) o t):Lp E 0 O1 0 (z4w r0 n0 i0 m0) o t:=by subst e1 e2 e3 e4;exact lpM (oT h1 (oP h2 (oD h3 (oW h4 (oO .bm (oO .am (oP h5 (oO (.gt 3) oZ)))))))) ih
theorem x4x (h1:¬ i0<(r0.length:Int)):Lp E 0 O1 0 (z4w r0 n0 i0 m0) (.exit 0) (z9q n0 m0):=lpX (oU h1 oZ)
theorem k8k (h1:Lp E 0 O1 0 (z4w r0 0 0 []) (.exit 0) (z9q n0 m0)):Rn E O1 [.l r0] [] (.vec 0 n0) [some (.mat A5 m0 [])]:=rnM (oM [(3,1000000000+A5)] h1 oZ)
def z0s (n0:Nat) (i0 i1 i2 i3:Int) (m0:List (RW)) (b0 b1:Bool) (r0 r1:RW):St:=stOf 161 [(0,.vec 0 n0),(1,.i i0),(5,.ptr 1 0),(6,.ptr 2 0),(7,.i i1),(8,.i i2),(9,.i i3)] [some (.mat A5 m0 []),sC [.b b0,.nils,.nils],sC [.b b1,.l r0,.l r1]]
def z4h (n0:Nat) (i0 i1 i2:Int) (b0 b1:Bool) (r0 r1:RW) (i4:Int) (m1:List (RW)):St:=stOf 161 [(0,.vec 0 n0),(1,.i i0),(5,.ptr 1 0),(6,.ptr 2 0),(7,.i i1),(8,.i i2),(9,.i i4)] [some (.mat A5 m1 []),sC [.b b0,.nils,.nils],sC [.b b1,.l r0,.l r1]]
section
variable (h1:m0[(Int.toNat i3)]?=some r2)(h2:i3<((n0:Nat):Int))(h3:0≤i3∧i3<((n0:Nat):Int))(h4:0≤i2∧i2<((n1:Nat):Int))(h5:r2[(Int.toNat i2)]?=some [.b b2,.l r3,.l r4])(h6:Fn E z7m [.q b2 r3 r4] (.i i5))
include h1 h2 h3 h4 h5 h6
theorem x6y (h7:i5=0)(e1:r2.length=n1)(e2:List.set m0 (Int.toNat i3) (r2.take n1)=m2)(e3:IntKind.i64.wrap (i3+1)=i6)(ih:Lp E 3 A4 1 (z0s n0 i0 i1 i2 i6 m2 b0 b1 r0 r1) o t):Lp E 3 A4 1 (z0s n0 i0 i1 i2 i3 m0 b0 b1 r0 r1) o t:=by subst e1 e2 e3;exact lpM (oI 0 h1 (oT h2 (oP h3 (oO (.sm 0) (oP (show (Int.toNat i3)=(Int.toNat i3) from rfl) (oP h4 (oD h5 (oF h6 (oB (beT h7) (oO (.gt 0) oZ)))))))))) ih
theorem x2e (h7:¬ i5=0)(e1:r2.length=n1)(e2:List.set m0 (Int.toNat i3) (r2.take n1)=m2):Lp E 3 A4 1 (z0s n0 i0 i1 i2 i3 m0 b0 b1 r0 r1) (.exit 2) (z4h n0 i0 i1 i2 b0 b1 r0 r1 i3 m2):=by subst e1 e2;exact lpX (oI 0 h1 (oT h2 (oP h3 (oO (.sm 0) (oP (show (Int.toNat i3)=(Int.toNat i3) from rfl) (oP h4 (oD h5 (oF h6 (oC (beF h7) (oO (.gt 0) oZ))))))))))
end
theorem x2f (h1:¬ i3<((n0:Nat):Int)):Lp E 3 A4 1 (z0s n0 i0 i1 i2 i3 m0 b0 b1 r0 r1) (.exit 2) (z4h n0 i0 i1 i2 b0 b1 r0 r1 i3 m0):=lpX (oU h1 oZ)
def z3m (n0:Nat) (i0 i1 i2 i3:Int) (m0:List (RW)) (b0 b1:Bool) (r0 r1:RW) (b2:Bool) (r2 r3:RW):St:=stOf 161 [(0,.vec 0 n0),(1,.i i0),(5,.ptr 1 0),(6,.ptr 2 0),(7,.i i1),(8,.i i2),(10,.ptr 7 0),(11,.i i3)] [some (.mat A5 m0 []),sC [.b b0,.nils,.nils],sC [.b b1,.l r0,.l r1],some .dead,some .dead,some .dead,some .dead,sC [.b b2,.l r2,.l r3]]
def z8j (n0:Nat) (i0 i1 i2:Int) (b0 b1:Bool) (r0 r1:RW) (b2:Bool) (r2 r3:RW) (m1:List (RW)):St:=stOf 161 [(0,.vec 0 n0),(1,.i i0),(5,.ptr 1 0),(6,.ptr 2 0),(7,.i i1),(8,.i i2)] [some (.mat A5 m1 []),sC [.b b0,.nils,.nils],sC [.b b1,.l r0,.l r1],some .dead,some .dead,some .dead,some .dead,sC [.b b2,.l r2,.l r3]]
section
variable (h1:m0[(Int.toNat i1)]?=some r4)(h2:0≤i1∧i1<((n0:Nat):Int))
include h1 h2
theorem x6z (h3:i3<((n1:Nat):Int))(h4:m2[(Int.toNat i1)]?=some r5)(h5:0≤i3∧i3<((n2:Nat):Int))(h6:r5[(Int.toNat i3)]?=some [.b b3,.l r6,.l r7])(h7:Fn E K8 [.q b3 r6 r7,.q b2 r2 r3] (.q b4 r8 r9))(e1:r4.length=n1)(e2:List.set m0 (Int.toNat i1) (r4.take n1)=m2)(e3:r5.length=n2)(e4:List.set r5 (Int.toNat i3) [.b b4,.l r8,.l r9]=r10)(e5:List.set m2 (Int.toNat i1) (r10.take n2)=m3)(e6:IntKind.i64.wrap (i3+1)=i4)(ih:Lp E 8 A4 2 (z3m n0 i0 i1 i2 i4 m3 b0 b1 r0 r1 b2 r2 r3) o t):Lp E 8 A4 2 (z3m n0 i0 i1 i2 i3 m0 b0 b1 r0 r1 b2 r2 r3) o t:=by subst e1 e2 e3 e4 e5 e6;exact lpM (oI 0 h1 (oP h2 (oO (.sm 0) (oP (show (Int.toNat i1)=(Int.toNat i1) from rfl) (oT h3 (oO (.gt 0) (oI 0 h4 (oP h2 (oO (.sm 0) (oP (show (Int.toNat i1)=(Int.toNat i1) from rfl) (oP h2 (oO (.sm 0) (oP (show (Int.toNat i1)=(Int.toNat i1) from rfl) (oP h5 (oD h6 (oF h7 (oP h5 (oD h6 (oO (.gt 0) oZ))))))))))))))))))) ih
theorem x2g (h3:¬ i3<((n1:Nat):Int))(e1:r4.length=n1)(e2:List.set m0 (Int.toNat i1) (r4.take n1)=m2):Lp E 8 A4 2 (z3m n0 i0 i1 i2 i3 m0 b0 b1 r0 r1 b2 r2 r3) (.exit 4) (z8j n0 i0 i1 i2 b0 b1 r0 r1 b2 r2 r3 m2):=by subst e1 e2;exact lpX (oI 0 h1 (oP h2 (oO (.sm 0) (oP (show (Int.toNat i1)=(Int.toNat i1) from rfl) (oU h3 (oO (.gt 0) oZ))))))
end
def z3n (n0:Nat) (i0 i1 i2 i3 i4:Int) (m0:List (RW)) (b0 b1:Bool) (r0 r1:RW) (b2:Bool) (r2 r3:RW) (b3:Bool) (r4 r5:RW):St:=stOf 161 [(0,.vec 0 n0),(1,.i i0),(5,.ptr 1 0),(6,.ptr 2 0),(7,.i i1),(8,.i i2),(12,.i i3),(13,.ptr 9 0),(14,.i i4)] [some (.mat A5 m0 []),sC [.b b0,.nils,.nils],sC [.b b1,.l r0,.l r1],some .dead,some .dead,some .dead,some .dead,sC [.b b2,.l r2,.l r3],some .dead,sC [.b b3,.l r4,.l r5]]
def z8l (n0:Nat) (i0 i1 i2 i3:Int) (b0 b1:Bool) (r0 r1:RW) (b2:Bool) (r2 r3:RW) (b3:Bool) (r4 r5:RW) (m1:List (RW)):St:=stOf 161 [(0,.vec 0 n0),(1,.i i0),(5,.ptr 1 0),(6,.ptr 2 0),(7,.i i1),(8,.i i2),(12,.i i3)] [some (.mat A5 m1 []),sC [.b b0,.nils,.nils],sC [.b b1,.l r0,.l r1],some .dead,some .dead,some .dead,some .dead,sC [.b b2,.l r2,.l r3],some .dead,sC [.b b3,.l r4,.l r5]]
section
variable (h1:m0[(Int.toNat i3)]?=some r6)(h2:0≤i3∧i3<((n0:Nat):Int))
include h1 h2
theorem x7d (h3:i4<((n1:Nat):Int))(h4:m2[(Int.toNat i3)]?=some r7)(h5:m2[(Int.toNat i1)]?=some r8)(h6:(Int.toNat i1)≠(Int.toNat i3))(h7:0≤i4∧i4<((n2:Nat):Int))(h8:r7[(Int.toNat i4)]?=some [.b b4,.l r9,.l r10])(h9:0≤i1∧i1<((n0:Nat):Int))(h10:0≤i4∧i4<((n3:Nat):Int))(h11:r8[(Int.toNat i4)]?=some [.b b5,.l r11,.l r12])(h12:Fn E K8 [.q b3 r4 r5,.q b5 r11 r12] (.q b6 r13 r14))(h13:Fn E z7b [.q b4 r9 r10,.q b6 r13 r14] (.q b7 r15 r16))(e1:r6.length=n1)(e2:List.set m0 (Int.toNat i3) (r6.take n1)=m2)(e3:r7.length=n2)(e4:r8.length=n3)(e5:List.set r7 (Int.toNat i4) [.b b7,.l r15,.l r16]=r17)(e6:List.set m2 (Int.toNat i3) (r17.take n2)=m3)(e7:List.set m3 (Int.toNat i1) (r8.take n3)=m4)(e8:IntKind.i64.wrap (i4+1)=i5)(ih:Lp E 10 A4 4 (z3n n0 i0 i1 i2 i3 i5 m4 b0 b1 r0 r1 b2 r2 r3 b3 r4 r5) o t):Lp E 10 A4 4 (z3n n0 i0 i1 i2 i3 i4 m0 b0 b1 r0 r1 b2 r2 r3 b3 r4 r5) o t:=by subst e1 e2 e3 e4 e5 e6 e7 e8;exact lpM (oI 0 h1 (oP h2 (oO (.sm 0) (oP (show (Int.toNat i3)=(Int.toNat i3) from rfl) (oT h3 (oO (.gt 0) (oI 0 h4 (oI 0 h5 (oP h6 (oP h2 (oO (.sm 0) (oP (show (Int.toNat i3)=(Int.toNat i3) from rfl) (oP h2 (oO (.sm 0) (oP (show (Int.toNat i3)=(Int.toNat i3) from rfl) (oP h7 (oD h8 (oP h9 (oO (.sm 1) (oP (show (Int.toNat i1)=(Int.toNat i1) from rfl) (oP h10 (oD h11 (oF h12 (oF h13 (oP h7 (oD h8 (oO (.gt 0) oZ))))))))))))))))))))))))))) ih
theorem x2i (h3:¬ i4<((n1:Nat):Int))(e1:r6.length=n1)(e2:List.set m0 (Int.toNat i3) (r6.take n1)=m2):Lp E 10 A4 4 (z3n n0 i0 i1 i2 i3 i4 m0 b0 b1 r0 r1 b2 r2 r3 b3 r4 r5) (.exit 8) (z8l n0 i0 i1 i2 i3 b0 b1 r0 r1 b2 r2 r3 b3 r4 r5 m2):=by subst e1 e2;exact lpX (oI 0 h1 (oP h2 (oO (.sm 0) (oP (show (Int.toNat i3)=(Int.toNat i3) from rfl) (oU h3 (oO (.gt 0) oZ))))))
end
def M7 (n0:Nat) (i0 i1 i2 i3:Int) (m0:List (RW)) (b0 b1:Bool) (r0 r1:RW) (b2:Bool) (r2 r3:RW):St:=stOf 161 [(0,.vec 0 n0),(1,.i i0),(5,.ptr 1 0),(6,.ptr 2 0),(7,.i i1),(8,.i i2),(12,.i i3)] [some (.mat A5 m0 []),sC [.b b0,.nils,.nils],sC [.b b1,.l r0,.l r1],some .dead,some .dead,some .dead,some .dead,sC [.b b2,.l r2,.l r3]]
def z8k (n0:Nat) (i0 i1 i2:Int) (b0 b1:Bool) (r0 r1:RW) (b2:Bool) (r2 r3:RW) (m1:List (RW)):St:=stOf 161 [(0,.vec 0 n0),(1,.i i0),(5,.ptr 1 0),(6,.ptr 2 0),(7,.i i1),(8,.i i2)] [some (.mat A5 m1 []),sC [.b b0,.nils,.nils],sC [.b b1,.l r0,.l r1],some .dead,some .dead,some .dead,some .dead,sC [.b b2,.l r2,.l r3]]
section
variable (h1:i3<((n0:Nat):Int))(h2:m0[(Int.toNat i3)]?=some r4)(h3:0≤i3∧i3<((n0:Nat):Int))(h4:0≤i2∧i2<((n1:Nat):Int))(h5:r4[(Int.toNat i2)]?=some [.b b3,.l r5,.l r6])
include h1 h2 h3 h4 h5
section
variable (h6:¬ i3=i1)(h7:Fn E z7m [.q b3 r5 r6] (.i i4))
include h6 h7
theorem x7a (h8:¬ i4=0)(h9:Lp E 10 A4 4 (z3n n0 i0 i1 i2 i3 0 m2 b0 b1 r0 r1 b2 r2 r3 b3 r5 r6) (.exit 8) (z8l n0 i0 i1 i2 i3 b0 b1 r0 r1 b2 r2 r3 b3 r5 r6 m3))(e1:r4.length=n1)(e2:List.set m0 (Int.toNat i3) (r4.take n1)=m2)(e3:IntKind.i64.wrap (i3+1)=i5)(ih:Lp E 8 A4 3 (M7 n0 i0 i1 i2 i5 m3 b0 b1 r0 r1 b2 r2 r3) o t):Lp E 8 A4 3 (M7 n0 i0 i1 i2 i3 m0 b0 b1 r0 r1 b2 r2 r3) o t:=by subst e1 e2 e3;exact lpM (oT h1 (oI 0 h2 (oP h3 (oO (.sm 0) (oP (show (Int.toNat i3)=(Int.toNat i3) from rfl) (oP h4 (oD h5 (oO (.gt 0) (oB (bnT h6) (oF h7 (oB (bnT h8) (oL h9 oZ)))))))))))) ih
theorem x7b (h8:i4=0)(e1:r4.length=n1)(e2:List.set m0 (Int.toNat i3) (r4.take n1)=m2)(e3:IntKind.i64.wrap (i3+1)=i6)(ih:Lp E 8 A4 3 (M7 n0 i0 i1 i2 i6 m2 b0 b1 r0 r1 b2 r2 r3) o t):Lp E 8 A4 3 (M7 n0 i0 i1 i2 i3 m0 b0 b1 r0 r1 b2 r2 r3) o t:=by subst e1 e2 e3;exact lpM (oT h1 (oI 0 h2 (oP h3 (oO (.sm 0) (oP (show (Int.toNat i3)=(Int.toNat i3) from rfl) (oP h4 (oD h5 (oO (.gt 0) (oB (bnT h6) (oF h7 (oC (bnF h8) oZ))))))))))) ih
end
theorem x7c (h6:i3=i1)(e1:r4.length=n1)(e2:List.set m0 (Int.toNat i3) (r4.take n1)=m2)(e3:IntKind.i64.wrap (i3+1)=i4)(ih:Lp E 8 A4 3 (M7 n0 i0 i1 i2 i4 m2 b0 b1 r0 r1 b2 r2 r3) o t):Lp E 8 A4 3 (M7 n0 i0 i1 i2 i3 m0 b0 b1 r0 r1 b2 r2 r3) o t:=by subst e1 e2 e3;exact lpM (oT h1 (oI 0 h2 (oP h3 (oO (.sm 0) (oP (show (Int.toNat i3)=(Int.toNat i3) from rfl) (oP h4 (oD h5 (oO (.gt 0) (oC (bnF h6) oZ))))))))) ih
end
theorem x2h (h1:¬ i3<((n0:Nat):Int)):Lp E 8 A4 3 (M7 n0 i0 i1 i2 i3 m0 b0 b1 r0 r1 b2 r2 r3) (.exit 6) (z8k n0 i0 i1 i2 b0 b1 r0 r1 b2 r2 r3 m0):=lpX (oU h1 oZ)
def z2d (n0:Nat) (i0 i1 i2 i3:Int) (m0:List (RW)) (b0 b1:Bool) (r0 r1:RW) (b2:Bool) (r2 r3:RW):St:=stOf 161 [(0,.vec 0 n0),(1,.i i0),(5,.ptr 1 0),(6,.ptr 2 0),(7,.i i1),(8,.i i2),(10,.ptr 5 0),(11,.i i3)] [some (.mat A5 m0 []),sC [.b b0,.nils,.nils],sC [.b b1,.l r0,.l r1],some .dead,some .dead,sC [.b b2,.l r2,.l r3]]
def z6w (n0:Nat) (i0 i1 i2:Int) (b0 b1:Bool) (r0 r1:RW) (b2:Bool) (r2 r3:RW) (m1:List (RW)):St:=stOf 161 [(0,.vec 0 n0),(1,.i i0),(5,.ptr 1 0),(6,.ptr 2 0),(7,.i i1),(8,.i i2)] [some (.mat A5 m1 []),sC [.b b0,.nils,.nils],sC [.b b1,.l r0,.l r1],some .dead,some .dead,sC [.b b2,.l r2,.l r3]]
section
variable (h1:m0[(Int.toNat i1)]?=some r4)(h2:0≤i1∧i1<((n0:Nat):Int))
include h1 h2
theorem x4s (h3:i3<((n1:Nat):Int))(h4:m2[(Int.toNat i1)]?=some r5)(h5:0≤i3∧i3<((n2:Nat):Int))(h6:r5[(Int.toNat i3)]?=some [.b b3,.l r6,.l r7])(h7:Fn E K8 [.q b3 r6 r7,.q b2 r2 r3] (.q b4 r8 r9))(e1:r4.length=n1)(e2:List.set m0 (Int.toNat i1) (r4.take n1)=m2)(e3:r5.length=n2)(e4:List.set r5 (Int.toNat i3) [.b b4,.l r8,.l r9]=r10)(e5:List.set m2 (Int.toNat i1) (r10.take n2)=m3)(e6:IntKind.i64.wrap (i3+1)=i4)(ih:Lp E 6 A4 2 (z2d n0 i0 i1 i2 i4 m3 b0 b1 r0 r1 b2 r2 r3) o t):Lp E 6 A4 2 (z2d n0 i0 i1 i2 i3 m0 b0 b1 r0 r1 b2 r2 r3) o t:=by subst e1 e2 e3 e4 e5 e6;exact lpM (oI 0 h1 (oP h2 (oO (.sm 0) (oP (show (Int.toNat i1)=(Int.toNat i1) from rfl) (oT h3 (oO (.gt 0) (oI 0 h4 (oP h2 (oO (.sm 0) (oP (show (Int.toNat i1)=(Int.toNat i1) from rfl) (oP h2 (oO (.sm 0) (oP (show (Int.toNat i1)=(Int.toNat i1) from rfl) (oP h5 (oD h6 (oF h7 (oP h5 (oD h6 (oO (.gt 0) oZ))))))))))))))))))) ih
theorem y9z (h3:¬ i3<((n1:Nat):Int))(e1:r4.length=n1)(e2:List.set m0 (Int.toNat i1) (r4.take n1)=m2):Lp E 6 A4 2 (z2d n0 i0 i1 i2 i3 m0 b0 b1 r0 r1 b2 r2 r3) (.exit 4) (z6w n0 i0 i1 i2 b0 b1 r0 r1 b2 r2 r3 m2):=by subst e1 e2;exact lpX (oI 0 h1 (oP h2 (oO (.sm 0) (oP (show (Int.toNat i1)=(Int.toNat i1) from rfl) (oU h3 (oO (.gt 0) oZ))))))
end
def z2e (n0:Nat) (i0 i1 i2 i3 i4:Int) (m0:List (RW)) (b0 b1:Bool) (r0 r1:RW) (b2:Bool) (r2 r3:RW) (b3:Bool) (r4 r5:RW):St:=stOf 161 [(0,.vec 0 n0),(1,.i i0),(5,.ptr 1 0),(6,.ptr 2 0),(7,.i i1),(8,.i i2),(12,.i i3),(13,.ptr 7 0),(14,.i i4)] [some (.mat A5 m0 []),sC [.b b0,.nils,.nils],sC [.b b1,.l r0,.l r1],some .dead,some .dead,sC [.b b2,.l r2,.l r3],some .dead,sC [.b b3,.l r4,.l r5]]
def z6y (n0:Nat) (i0 i1 i2 i3:Int) (b0 b1:Bool) (r0 r1:RW) (b2:Bool) (r2 r3:RW) (b3:Bool) (r4 r5:RW) (m1:List (RW)):St:=stOf 161 [(0,.vec 0 n0),(1,.i i0),(5,.ptr 1 0),(6,.ptr 2 0),(7,.i i1),(8,.i i2),(12,.i i3)] [some (.mat A5 m1 []),sC [.b b0,.nils,.nils],sC [.b b1,.l r0,.l r1],some .dead,some .dead,sC [.b b2,.l r2,.l r3],some .dead,sC [.b b3,.l r4,.l r5]]
section
variable (h1:m0[(Int.toNat i3)]?=some r6)(h2:0≤i3∧i3<((n0:Nat):Int))
include h1 h2
theorem x4w (h3:i4<((n1:Nat):Int))(h4:m2[(Int.toNat i3)]?=some r7)(h5:m2[(Int.toNat i1)]?=some r8)(h6:(Int.toNat i1)≠(Int.toNat i3))(h7:0≤i4∧i4<((n2:Nat):Int))(h8:r7[(Int.toNat i4)]?=some [.b b4,.l r9,.l r10])(h9:0≤i1∧i1<((n0:Nat):Int))(h10:0≤i4∧i4<((n3:Nat):Int))(h11:r8[(Int.toNat i4)]?=some [.b b5,.l r11,.l r12])(h12:Fn E K8 [.q b3 r4 r5,.q b5 r11 r12] (.q b6 r13 r14))(h13:Fn E z7b [.q b4 r9 r10,.q b6 r13 r14] (.q b7 r15 r16))(e1:r6.length=n1)(e2:List.set m0 (Int.toNat i3) (r6.take n1)=m2)(e3:r7.length=n2)(e4:r8.length=n3)(e5:List.set r7 (Int.toNat i4) [.b b7,.l r15,.l r16]=r17)(e6:List.set m2 (Int.toNat i3) (r17.take n2)=m3)(e7:List.set m3 (Int.toNat i1) (r8.take n3)=m4)(e8:IntKind.i64.wrap (i4+1)=i5)(ih:Lp E 8 A4 4 (z2e n0 i0 i1 i2 i3 i5 m4 b0 b1 r0 r1 b2 r2 r3 b3 r4 r5) o t):Lp E 8 A4 4 (z2e n0 i0 i1 i2 i3 i4 m0 b0 b1 r0 r1 b2 r2 r3 b3 r4 r5) o t:=by subst e1 e2 e3 e4 e5 e6 e7 e8;exact lpM (oI 0 h1 (oP h2 (oO (.sm 0) (oP (show (Int.toNat i3)=(Int.toNat i3) from rfl) (oT h3 (oO (.gt 0) (oI 0 h4 (oI 0 h5 (oP h6 (oP h2 (oO (.sm 0) (oP (show (Int.toNat i3)=(Int.toNat i3) from rfl) (oP h2 (oO (.sm 0) (oP (show (Int.toNat i3)=(Int.toNat i3) from rfl) (oP h7 (oD h8 (oP h9 (oO (.sm 1) (oP (show (Int.toNat i1)=(Int.toNat i1) from rfl) (oP h10 (oD h11 (oF h12 (oF h13 (oP h7 (oD h8 (oO (.gt 0) oZ))))))))))))))))))))))))))) ih
theorem x0b (h3:¬ i4<((n1:Nat):Int))(e1:r6.length=n1)(e2:List.set m0 (Int.toNat i3) (r6.take n1)=m2):Lp E 8 A4 4 (z2e n0 i0 i1 i2 i3 i4 m0 b0 b1 r0 r1 b2 r2 r3 b3 r4 r5) (.exit 8) (z6y n0 i0 i1 i2 i3 b0 b1 r0 r1 b2 r2 r3 b3 r4 r5 m2):=by subst e1 e2;exact lpX (oI 0 h1 (oP h2 (oO (.sm 0) (oP (show (Int.toNat i3)=(Int.toNat i3) from rfl) (oU h3 (oO (.gt 0) oZ))))))
end
def K5 (n0:Nat) (i0 i1 i2 i3:Int) (m0:List (RW)) (b0 b1:Bool) (r0 r1:RW) (b2:Bool) (r2 r3:RW):St:=stOf 161 [(0,.vec 0 n0),(1,.i i0),(5,.ptr 1 0),(6,.ptr 2 0),(7,.i i1),(8,.i i2),(12,.i i3)] [some (.mat A5 m0 []),sC [.b b0,.nils,.nils],sC [.b b1,.l r0,.l r1],some .dead,some .dead,sC [.b b2,.l r2,.l r3]]
def z6x (n0:Nat) (i0 i1 i2:Int) (b0 b1:Bool) (r0 r1:RW) (b2:Bool) (r2 r3:RW) (m1:List (RW)):St:=stOf 161 [(0,.vec 0 n0),(1,.i i0),(5,.ptr 1 0),(6,.ptr 2 0),(7,.i i1),(8,.i i2)] [some (.mat A5 m1 []),sC [.b b0,.nils,.nils],sC [.b b1,.l r0,.l r1],some .dead,some .dead,sC [.b b2,.l r2,.l r3]]
section
variable (h1:i3<((n0:Nat):Int))(h2:m0[(Int.toNat i3)]?=some r4)(h3:0≤i3∧i3<((n0:Nat):Int))(h4:0≤i2∧i2<((n1:Nat):Int))(h5:r4[(Int.toNat i2)]?=some [.b b3,.l r5,.l r6])
include h1 h2 h3 h4 h5
section
variable (h6:¬ i3=i1)(h7:Fn E z7m [.q b3 r5 r6] (.i i4))
include h6 h7
theorem x4t (h8:¬ i4=0)(h9:Lp E 8 A4 4 (z2e n0 i0 i1 i2 i3 0 m2 b0 b1 r0 r1 b2 r2 r3 b3 r5 r6) (.exit 8) (z6y n0 i0 i1 i2 i3 b0 b1 r0 r1 b2 r2 r3 b3 r5 r6 m3))(e1:r4.length=n1)(e2:List.set m0 (Int.toNat i3) (r4.take n1)=m2)(e3:IntKind.i64.wrap (i3+1)=i5)(ih:Lp E 6 A4 3 (K5 n0 i0 i1 i2 i5 m3 b0 b1 r0 r1 b2 r2 r3) o t):Lp E 6 A4 3 (K5 n0 i0 i1 i2 i3 m0 b0 b1 r0 r1 b2 r2 r3) o t:=by subst e1 e2 e3;exact lpM (oT h1 (oI 0 h2 (oP h3 (oO (.sm 0) (oP (show (Int.toNat i3)=(Int.toNat i3) from rfl) (oP h4 (oD h5 (oO (.gt 0) (oB (bnT h6) (oF h7 (oB (bnT h8) (oL h9 oZ)))))))))))) ih
theorem x4u (h8:i4=0)(e1:r4.length=n1)(e2:List.set m0 (Int.toNat i3) (r4.take n1)=m2)(e3:IntKind.i64.wrap (i3+1)=i6)(ih:Lp E 6 A4 3 (K5 n0 i0 i1 i2 i6 m2 b0 b1 r0 r1 b2 r2 r3) o t):Lp E 6 A4 3 (K5 n0 i0 i1 i2 i3 m0 b0 b1 r0 r1 b2 r2 r3) o t:=by subst e1 e2 e3;exact lpM (oT h1 (oI 0 h2 (oP h3 (oO (.sm 0) (oP (show (Int.toNat i3)=(Int.toNat i3) from rfl) (oP h4 (oD h5 (oO (.gt 0) (oB (bnT h6) (oF h7 (oC (bnF h8) oZ))))))))))) ih
end
theorem x4v (h6:i3=i1)(e1:r4.length=n1)(e2:List.set m0 (Int.toNat i3) (r4.take n1)=m2)(e3:IntKind.i64.wrap (i3+1)=i4)(ih:Lp E 6 A4 3 (K5 n0 i0 i1 i2 i4 m2 b0 b1 r0 r1 b2 r2 r3) o t):Lp E 6 A4 3 (K5 n0 i0 i1 i2 i3 m0 b0 b1 r0 r1 b2 r2 r3) o t:=by subst e1 e2 e3;exact lpM (oT h1 (oI 0 h2 (oP h3 (oO (.sm 0) (oP (show (Int.toNat i3)=(Int.toNat i3) from rfl) (oP h4 (oD h5 (oO (.gt 0) (oC (bnF h6) oZ))))))))) ih
end
theorem x0a (h1:¬ i3<((n0:Nat):Int)):Lp E 6 A4 3 (K5 n0 i0 i1 i2 i3 m0 b0 b1 r0 r1 b2 r2 r3) (.exit 6) (z6x n0 i0 i1 i2 b0 b1 r0 r1 b2 r2 r3 m0):=lpX (oU h1 oZ)
def M6 (n0:Nat) (i0 i1 i2:Int) (m0:List (RW)) (b0 b1:Bool) (r0 r1:RW):St:=stOf 161 [(0,.vec 0 n0),(1,.i i0),(5,.ptr 1 0),(6,.ptr 2 0),(7,.i i1),(8,.i i2)] [some (.mat A5 m0 []),sC [.b b0,.nils,.nils],sC [.b b1,.l r0,.l r1]]
def z8i (b0:Bool) (i3:Int) (m1:List (RW)) (b2:Bool) (r2 r3:RW):St:=stOf 161 [(5,.ptr 1 0),(6,.ptr 2 0),(7,.i i3)] [some (.mat A5 m1 []),sC [.b b0,.nils,.nils],sC [.b b2,.l r2,.l r3]]
section
variable (h1:i2<i0)(h2:Lp E 3 A4 1 (z0s n0 i0 i1 i2 i1 m0 b0 b1 r0 r1) (.exit 2) (z4h n0 i0 i1 i2 b0 b1 r0 r1 i4 m2))
include h1 h2
theorem x6v (h3:i4≥((n0:Nat):Int))(h4:Fn E V0 [.i 0] (.q b3 r4 r5))(e1:IntKind.i64.wrap (i2+1)=i5)(ih:Lp E 3 A4 0 (M6 n0 i0 i1 i5 m2 b0 b3 r4 r5) o t):Lp E 3 A4 0 (M6 n0 i0 i1 i2 m0 b0 b1 r0 r1) o t:=by subst e1;exact lpM (oT h1 (oL h2 (oT h3 (oF h4 oZ)))) ih
theorem x6w (h3:¬ i4≥((n0:Nat):Int))(h4:¬ i4=i1)(h5:m2[(Int.toNat i1)]?=some r6)(h6:m2[(Int.toNat i4)]?=some r5)(h7:(Int.toNat i4)≠(Int.toNat i1))(h8:0≤i1∧i1<((n0:Nat):Int))(h9:0≤i4∧i4<((n0:Nat):Int))(h10:Fn E y0c [.q b1 r0 r1] (.q b4 r7 r8))(h11:m4[(Int.toNat i1)]?=some r9)(h12:0≤i2∧i2<((n3:Nat):Int))(h13:r9[(Int.toNat i2)]?=some [.b b5,.l r10,.l r11])(h14:Fn E K8 [.q b4 r7 r8,.q b5 r10 r11] (.q b6 r12 r13))(h15:m5[(Int.toNat i1)]?=some r14)(h16:0≤i2∧i2<((n4:Nat):Int))(h17:r14[(Int.toNat i2)]?=some [.b b7,.l r15,.l r16])(h18:Fn E z7a [.q b7 r15 r16] (.q b8 r17 r18))(h19:Lp E 8 A4 2 (z3m n0 i0 i1 i2 0 m6 b0 b6 r12 r13 b8 r17 r18) (.exit 4) (z8j n0 i0 i1 i2 b0 b6 r12 r13 b8 r17 r18 m7))(h20:Lp E 8 A4 3 (M7 n0 i0 i1 i2 0 m7 b0 b6 r12 r13 b8 r17 r18) (.exit 6) (z8k n0 i0 i1 i2 b0 b6 r12 r13 b8 r17 r18 m8))(e1:r6.length=n1)(e2:r5.length=n2)(e3:List.set m2 (Int.toNat i1) (r5.take n2)=m3)(e4:List.set m3 (Int.toNat i4) (r6.take n1)=m4)(e5:r9.length=n3)(e6:List.set m4 (Int.toNat i1) (r9.take n3)=m5)(e7:r14.length=n4)(e8:List.set m5 (Int.toNat i1) (r14.take n4)=m6)(e9:IntKind.i64.wrap (i1+1)=i6)(e10:IntKind.i64.wrap (i2+1)=i7)(ih:Lp E 3 A4 0 (M6 n0 i0 i6 i7 m8 b0 b6 r12 r13) o t):Lp E 3 A4 0 (M6 n0 i0 i1 i2 m0 b0 b1 r0 r1) o t:=by subst e1 e2 e3 e4 e5 e6 e7 e8 e9 e10;exact lpM (oT h1 (oL h2 (oU h3 (oB (bnT h4) (oI 0 h5 (oI 0 h6 (oP h7 (oP h8 (oO (.sm 0) (oP (show (Int.toNat i1)=(Int.toNat i1) from rfl) (oP h9 (oO (.sm 1) (oP (show (Int.toNat i4)=(Int.toNat i4) from rfl) (oP h9 (oO (.sm 1) (oP (show (Int.toNat i4)=(Int.toNat i4) from rfl) (oP h8 (oO (.sm 0) (oP (show (Int.toNat i1)=(Int.toNat i1) from rfl) (oO (.gt 0) (oF h10 (oI 0 h11 (oP h8 (oO (.sm 0) (oP (show (Int.toNat i1)=(Int.toNat i1) from rfl) (oP h12 (oD h13 (oF h14 (oO (.gt 0) (oI 0 h15 (oP h8 (oO (.sm 0) (oP (show (Int.toNat i1)=(Int.toNat i1) from rfl) (oP h16 (oD h17 (oF h18 (oO (.gt 0) (oL h19 (oL h20 oZ))))))))))))))))))))))))))))))))))))))) ih
theorem x6x (h3:¬ i4≥((n0:Nat):Int))(h4:i4=i1)(h5:m2[(Int.toNat i1)]?=some r6)(h6:0≤i1∧i1<((n0:Nat):Int))(h7:0≤i2∧i2<((n1:Nat):Int))(h8:r6[(Int.toNat i2)]?=some [.b b9,.l r19,.l r20])(h9:Fn E K8 [.q b1 r0 r1,.q b9 r19 r20] (.q b10 r21 r7))(h10:m9[(Int.toNat i1)]?=some r9)(h11:0≤i2∧i2<((n3:Nat):Int))(h12:r9[(Int.toNat i2)]?=some [.b b5,.l r10,.l r11])(h13:Fn E z7a [.q b5 r10 r11] (.q b6 r12 r13))(h14:Lp E 6 A4 2 (z2d n0 i0 i1 i2 0 m5 b0 b10 r21 r7 b6 r12 r13) (.exit 4) (z6w n0 i0 i1 i2 b0 b10 r21 r7 b6 r12 r13 m10))(h15:Lp E 6 A4 3 (K5 n0 i0 i1 i2 0 m10 b0 b10 r21 r7 b6 r12 r13) (.exit 6) (z6x n0 i0 i1 i2 b0 b10 r21 r7 b6 r12 r13 m11))(e1:r6.length=n1)(e2:List.set m2 (Int.toNat i1) (r6.take n1)=m9)(e3:r9.length=n3)(e4:List.set m9 (Int.toNat i1) (r9.take n3)=m5)(e5:IntKind.i64.wrap (i1+1)=i8)(e6:IntKind.i64.wrap (i2+1)=i9)(ih:Lp E 3 A4 0 (M6 n0 i0 i8 i9 m11 b0 b10 r21 r7) o t):Lp E 3 A4 0 (M6 n0 i0 i1 i2 m0 b0 b1 r0 r1) o t:=by subst e1 e2 e3 e4 e5 e6;exact lpM (oT h1 (oL h2 (oU h3 (oC (bnF h4) (oI 0 h5 (oP h6 (oO (.sm 0) (oP (show (Int.toNat i1)=(Int.toNat i1) from rfl) (oP h7 (oD h8 (oF h9 (oO (.gt 0) (oI 0 h10 (oP h6 (oO (.sm 0) (oP (show (Int.toNat i1)=(Int.toNat i1) from rfl) (oP h11 (oD h12 (oF h13 (oO (.gt 0) (oL h14 (oL h15 oZ)))))))))))))))))))))) ih
end
theorem x2d (h1:¬ i2<i0):Lp E 3 A4 0 (M6 n0 i0 i1 i2 m0 b0 b1 r0 r1) (.exit 0) (z8i b0 i1 m0 b1 r0 r1):=lpX (oU h1 oZ)
theorem k8j (h1:Fn E V0 [.i 1] (.q b0 r0 r1))(h2:Lp E 3 A4 0 (M6 n0 i0 0 0 m0 false b0 r0 r1) (.exit 0) (z8i false i1 m1 b1 r2 r3)):Rn E A4 [.vec 0 n0,.i i0] [some (.mat A5 m0 [])] (.tup [.i i1,.q b1 r2 r3]) [some (.mat A5 m1 [])]:=rnM (oF h1 (oL h2 oZ))
theorem k8i (h1:Lp E 0 F1 0 (N6 r0 0 0 []) (.exit 0) (z3l r0 n0 r1))(h2:(r0.length:Int)≥1)(h3:(r0.length:Int)≤12):Rn E F1 [.l r0] [] (.tup [.vec 0 n0,.b true]) [sV I9 r1]:=rnM (oM [(4,I9)] h1 (oT h2 (oT h3 oZ)))
end Gev
namespace Gev
open Go
theorem wi {n m:Int} (h:n=m∧-9223372036854775808≤m∧m≤9223372036854775807):IntKind.i64.wrap n=m:=by rw [IntKind.wrap_i64];omega
theorem wu {n m:Int} (h:n=m∧0≤m∧m≤18446744073709551615):IntKind.u64.wrap n=m:=by simp [IntKind.wrap,IntKind.bits,IntKind.signed];omega
theorem w32 {n m:Int} (h:n=m∧0≤m∧m≤4294967295):IntKind.u32.wrap n=m:=by rw [IntKind.wrap_u32];omega
theorem w8 {n m:Int} (h:n=m∧0≤m∧m≤255):IntKind.u8.wrap n=m:=by rw [IntKind.wrap_u8];omega
theorem tdv {a b c:Int} (ha:0≤a) (h:a / b=c):Int.tdiv a b=c:=by rw [Int.tdiv_eq_ediv_of_nonneg ha];exact h
theorem tmd {a b c:Int} (ha:0≤a) (h:a % b=c):Int.tmod a b=c:=by rw [Int.tmod_eq_emod_of_nonneg ha];exact h
def Wr (ws:List Int):RW:=ws.map fun x=>[.u32 x]
theorem A7 (ws:List Int):(Wr ws).length=ws.length:=by simp [Wr]
theorem q0m {ws:List Int} {i:Nat} {x:Int} (h:ws[i]?=some x):(Wr ws)[i]?=some [.u32 x]:=by simp [Wr,h]
theorem U2 (ws:List Int) (n:Nat):(Wr ws).take n=Wr (ws.take n):=by simp [Wr,List.map_take]
theorem y4d (ws:List Int) (x:Int):Wr ws++[[.u32 x]]=Wr (ws++[x]):=by simp [Wr]
theorem q4h (ws xs:List Int):Wr ws++Wr xs=Wr (ws++xs):=by simp [Wr]
theorem z1w (ws:List Int) (n:Nat) (x:Int):(Wr ws).set n [.u32 x]=Wr (ws.set n x):=by simp [Wr,List.map_set]
theorem z2p (n:Nat) (x:Int):List.replicate n [DV.u32 x]=Wr (List.replicate n x):=by simp [Wr]
theorem q5x (ws:List Int):∀ x∈Wr ws,x.length=1:=by intro x hx;simp [Wr] at hx;obtain ⟨_,_,rfl⟩:=hx;rfl
theorem getD_some {ws:List Int} {i:Nat} (h:i<ws.length):ws[i]?=some (ws.getD i 0):=by
 rw [List.getD_eq_getElem?_getD,List.getElem?_eq_getElem h];rfl
theorem D2 {ws:List Int} {i:Nat} (h:i<ws.length):(Wr ws)[i]?=some [.u32 (ws.getD i 0)]:=q0m (getD_some h)
def B (l:List UInt8):BA:=⟨l.toArray⟩
theorem C5 (l:List UInt8):(B l).size=l.length:=by show l.toArray.size=_;simp
theorem z6j (l:List UInt8):(B l).data.toList=l:=by simp [B]
theorem B_of (a:BA):B a.data.toList=a:=by cases a;simp [B]
theorem y1h {l m:List UInt8} (h:B l=B m):l=m:=by have:=congrArg (fun a:BA=>a.data.toList) h;simpa [B] using this
theorem B_nil:B []=⟨#[]⟩:=rfl
theorem y2i (l m:List UInt8):B l++B m=B (l++m):=by
 show ByteArray.append _ _=_
 apply bytes_ext
 rw [toList_eq,toList_eq]
 have:(B l++B m).data=(B l).data++(B m).data:=ByteArray.data_append
 rw [show (ByteArray.append (B l) (B m)).data=(B l++B m).data from rfl,this]
 simp [B]
theorem y1z (l:List UInt8) (i j:Nat):(B l).extract i j=B ((l.take j).drop i):=by
 apply bytes_ext
 rw [toList_eq,toList_eq]
 have:((B l).extract i j).data=(B l).data.extract i j:=ByteArray.data_extract
 rw [this]
 simp [B,List.drop_take]
end Gev
namespace Gev
open Go Gb
variable {E:Env}
def cmpI (a b:Int):Int:=if a<b then -1 else if a>b then 1 else 0
theorem v0r (a b:Int):Fn E U5 [.c (.u32 a),.c (.u32 b)] (.c (.i64 (cmpI a b))):=by
 have ha:=y2r (E:=E) (rfl:a=a)
 have hb:=y2r (E:=E) (rfl:b=b)
 unfold cmpI
 by_cases h:a<b
 · rw [if_pos h];exact x0f ha hb h
 · rw [if_neg h]
   by_cases k:a>b
   · rw [if_pos k];exact x0g ha hb h k
   · rw [if_neg k];exact x0h ha hb h k
theorem v0q (a b:Int):Fn E z0u [.c (.i64 a),.c (.i64 b)] (.c (.i64 (cmpI a b))):=by
 have ha:=y9a (E:=E) (rfl:a=a)
 have hb:=y9a (E:=E) (rfl:b=b)
 unfold cmpI
 by_cases h:a<b
 · rw [if_pos h];exact x7r ha hb h
 · rw [if_neg h]
   by_cases k:a>b
   · rw [if_pos k];exact x7s ha hb h k
   · rw [if_neg k];exact x7t ha hb h k
def V9 (ws:List Int):Nat→Nat
 | 0=>0
 | k+1=>if ws.getD k 0=0 then V9 ws k else k+1
theorem x9z (ws:List Int) (k:Nat):V9 ws k≤k:=by
 induction k with
 | zero=>exact Nat.le_refl 0
 | succ k ih=>unfold V9;split <;> omega
theorem X0 {ws:List Int} (h:Wd ws) {k:Nat} (hk:k≤ws.length):ws.take (V9 ws k)=words (wv (ws.take k)).toNat:=by
 induction k with
 | zero=>simp [V9,wv,J9]
 | succ k ih =>
  unfold V9
  have e:=U4 ws k (by omega)
  by_cases h0:ws.getD k 0=0
  · rw [if_pos h0,ih (by omega),e,h0];simp
  · rw [if_neg h0]
    refine j7r (h.take _) ?_
    rw [x3n ws k (by omega)]
    exact Tr.snoc h0
theorem j3j (ws:List Int):∀ k,k≤ws.length→k<9223372036854775807→Lp E 1 B4 0 (O8 k (Wr ws)) (.exit 0) (z0n (Wr ws) (V9 ws k))
 | 0,_,_=>y5m (by omega)
 | k+1,hk,hb=>by
  unfold V9
  by_cases h0:ws.getD k 0=0
  · rw [if_pos h0]
    exact y8l (i0:=(k:Int)) (i1:=ws.getD k 0) (n2:=k) (wi (by omega)) rfl (by omega) (by omega) (D2 (by omega)) h0 (by omega) (j3j ws k (by omega) (by omega))
  · rw [if_neg h0]
    exact y5l (i0:=(k:Int)) (i1:=ws.getD k 0) (wi (by omega)) (by omega) (by omega) (D2 (by omega)) h0
theorem y7j {ws:List Int} {k:Nat} (hk:k≤ws.length) (hb:k<9223372036854775807):Rn E B4 [.vec 0 k] [some (.vec A0 (Wr ws))] (.vec 0 (V9 ws k)) [some (.vec A0 (Wr ws))] :=
 x6d (j3j ws k hk hb)
theorem k8z (ws:List Int):∀ k,k≤ws.length→k<9223372036854775807→Lp E 0 B4 0 (N3 (Wr (ws.take k))) (.exit 0) (Y9 (Wr (ws.take (V9 ws k))))
 | 0,_,_=>y3z (by rw [A7];simp)
 | k+1,hk,hb=>by
  have hl:(ws.take (k+1)).length=k+1:=by simp;omega
  have hg:(Wr (ws.take (k+1)))[Int.toNat (k:Int)]?=some [.u32 (ws.getD k 0)]:=by
   refine q0m ?_
   rw [Int.toNat_natCast,List.getElem?_take_of_lt (by omega)]
   exact getD_some (by omega)
  unfold V9
  by_cases h0:ws.getD k 0=0
  · rw [if_pos h0]
    refine y6v (i0:=(k:Int)) (i1:=ws.getD k 0) (r2:=Wr (ws.take k)) (wi (by rw [A7,hl];omega)) ?_ (by rw [A7,hl];omega) (by omega) hg h0 ⟨by omega,by omega,by rw [A7,hl];omega,q5x _⟩ (k8z ws k (by omega) (by omega))
    rw [Int.toNat_natCast,List.drop_zero,U2,List.take_take,Nat.min_eq_left (by omega)]
  · rw [if_neg h0]
    exact y3y (i0:=(k:Int)) (i1:=ws.getD k 0) (wi (by rw [A7,hl];omega)) (by rw [A7,hl];omega) (by omega) hg h0
theorem q5s {ws:List Int} (h:Wd ws) (hb:ws.length<9223372036854775807):Rn E B4 [.c (.list (Wr ws))] [] (.c (.list (Wr (words (wv ws).toNat)))) []:=by
 have:=k8z (E:=E) ws ws.length (Nat.le_refl _) hb
 rw [List.take_length,X0 h (Nat.le_refl _),List.take_length] at this
 exact x1n this
theorem x3p {n:Nat} (h:n<1000000000000000000):words n=[]∧n=0∨(words n=[(n:Int)]∧n≠0∧n<1000000000)∨(words n=[((n % 1000000000:Nat):Int),((n / 1000000000:Nat):Int)]∧1000000000≤n):=by
 by_cases h0:n=0
 · exact .inl ⟨by rw [h0,J9],h0⟩
 · by_cases h1:n<1000000000
   · refine .inr (.inl ⟨?_,h0,h1⟩)
     rw [y2h h0,show n / 1000000000=0 by omega,J9,show n % 1000000000=n by omega]
   · refine .inr (.inr ⟨?_,by omega⟩)
     rw [y2h h0,y2h (n:=n / 1000000000) (by omega),show n / 1000000000 / 1000000000=0 by omega,J9,show n / 1000000000 % 1000000000=n / 1000000000 by omega]
theorem j3n {n:Nat}:(words n).length≤2↔n<1000000000000000000:=by
 constructor
 · intro h
   have h1:=z5a (B2 n)
   rw [B1] at h1
   have h2:=k4r h
   have:pw 2=1000000000000000000:=by decide
   omega
 · intro h
   exact z0t (by rw [show pw 2=1000000000000000000 by decide];omega)
theorem j2p {n:Nat} (h:n<1000000000000000000):Fn E z2l [.c (.u64 n)] (.c (.list (Wr (words n)))):=by
 have hw:Wd [((n % 1000000000:Nat):Int),((n / 1000000000:Nat):Int)]:=Wd.cons (by omega) (by omega) (Wd.cons (by omega) (by omega) Wd.nil)
 have ht:=y7j (E:=E) (ws:=[((n % 1000000000:Nat):Int),((n / 1000000000:Nat):Int)]) (k:=2) (Nat.le_refl _) (by decide)
 refine j5g (i1:=((n % 1000000000:Nat):Int)) (i2:=((n % 1000000000:Nat):Int)) (i3:=((n / 1000000000:Nat):Int)) (i4:=((n / 1000000000:Nat):Int)) (tmd (by omega) (by omega)) (w32 (by omega)) (wu ⟨tdv (by omega) (by omega),by omega,by omega⟩) (w32 (by omega)) ?_ ht
 show (Wr [((n % 1000000000:Nat):Int),((n / 1000000000:Nat):Int)]).take _=_
 rw [U2,X0 hw (by simp)]
 have:(wv (List.take 2 [((n % 1000000000:Nat):Int),((n / 1000000000:Nat):Int)])).toNat=n:=by simp [wv];omega
 rw [this]
theorem z2f {n:Nat} (h:n<1000000000000000000):Fn E B9 [.c (.list (Wr (words n)))] (.tup [.c (.u64 n),.c (.bool true)]):=by
 rcases x3p h with ⟨e,rfl⟩ | ⟨e,h0,h1⟩ | ⟨e,h1⟩
 · rw [e];exact x3w rfl
 · rw [e]
   exact x3x (i0:=(n:Int)) (i1:=(n:Int)) (wu (by omega)) (by simp [Wr]) (by simp [Wr]) rfl
 · rw [e]
   exact x3y (i0:=((n % 1000000000:Nat):Int)) (i1:=((n % 1000000000:Nat):Int)) (i2:=((n / 1000000000:Nat):Int)) (i3:=((n / 1000000000:Nat):Int)) (i4:=1000000000*((n / 1000000000:Nat):Int)) (i5:=(n:Int))
    (wu (by omega)) (wu (by omega)) (wu (by omega)) (wu (by omega)) (by simp [Wr]) (by simp [Wr]) (by simp [Wr]) rfl rfl
theorem z8n {n:Nat} (h:¬ n<1000000000000000000):Fn E B9 [.c (.list (Wr (words n)))] (.tup [.c (.u64 0),.c (.bool false)]):=by
 have hl:¬ (words n).length≤2:=fun e=>h (j3n.1 e)
 exact x3z (by rw [A7];omega) (by rw [A7];omega) (by rw [A7];omega)
theorem y0b {xs ys:List Int} (hx:Wd xs) (hy:Wd ys) {i:Nat} (hi:i<xs.length) (hj:i<ys.length) (h:xs.getD i 0<ys.getD i 0) (he:xs.drop (i+1)=ys.drop (i+1)):wv xs<wv ys:=by
 rw [D6 xs i (by omega),D6 ys i (by omega),J6 xs i hi,J6 ys i hj,he]
 have h1:=z5a (hx.take i)
 have h2:=C2 (hy.take i)
 rw [List.length_take,Nat.min_eq_left (by omega)] at h1
 rw [Int.mul_add,Int.mul_add]
 have h3:pw i*(xs.getD i 0+1)≤pw i*ys.getD i 0:=Int.mul_le_mul_of_nonneg_left (by omega) (by have:=V7 i;omega)
 rw [Int.mul_add,Int.mul_one] at h3
 omega
theorem j7k (xs ys:List Int) (hx:Wd xs) (hy:Wd ys) (hl:xs.length=ys.length) (hb:xs.length<9223372036854775807):∀ k:Nat,k≤xs.length→xs.drop k=ys.drop k →
    (xs=ys∧Lp E 0 B8 0 (H6 (Wr xs) (Wr ys) ((k:Int)-1)) (.exit 0) z1m) ∨
    (xs≠ys∧Lp E 0 B8 0 (H6 (Wr xs) (Wr ys) ((k:Int)-1)) .ret (z1l (cmpI (wv xs) (wv ys))))
 | 0,_,h=>.inl ⟨by simpa using h,y1q (by omega)⟩
 | k+1,hk,h=>by
  have ek:((k+1:Nat):Int)-1=(k:Int):=by omega
  rw [ek]
  have g1:(Wr xs)[Int.toNat (k:Int)]?=some [.u32 (xs.getD k 0)]:=D2 (by omega)
  have g2:(Wr ys)[Int.toNat (k:Int)]?=some [.u32 (ys.getD k 0)]:=D2 (by omega)
  by_cases h0:xs.getD k 0=ys.getD k 0
  · have hd:xs.drop k=ys.drop k:=by rw [y5u xs k (by omega),y5u ys k (by omega),h0,h]
    rcases j7k xs ys hx hy hl hb k (by omega) hd with ⟨e,ih⟩ | ⟨e,ih⟩
    · exact .inl ⟨e,z5k (wi (by omega)) (by omega) (by omega) g1 g2 h0 ih⟩
    · exact .inr ⟨e,z5k (wi (by omega)) (by omega) (by omega) g1 g2 h0 ih⟩
  · refine .inr ⟨fun e=>h0 (by rw [e]),?_⟩
    have hc:cmpI (wv xs) (wv ys)=cmpI (xs.getD k 0) (ys.getD k 0):=by
     rcases Int.lt_or_gt_of_ne h0 with c | c
     · have:=y0b hx hy (by omega) (by omega) c h
       unfold cmpI;rw [if_pos this,if_pos c]
     · have:=y0b hy hx (by omega) (by omega) c h.symm
       unfold cmpI;rw [if_neg (by omega),if_pos this,if_neg (by omega),if_pos c]
    rw [hc]
    exact y1p (by omega) (by omega) g1 g2 h0 (v0r _ _)
theorem q2s {a b:Int} (h:a=b):cmpI a b=0:=by unfold cmpI;rw [if_neg (by omega),if_neg (by omega)]
theorem y2s {m n:Nat} (hm:(words m).length<9223372036854775807):Fn E B8 [.c (.list (Wr (words m))),.c (.list (Wr (words n)))] (.c (.i64 (cmpI m n))):=by
 by_cases hl:(words m).length=(words n).length
 · rcases j7k (E:=E) (words m) (words n) (B2 m) (B2 n) hl hm (words m).length (Nat.le_refl _) (by rw [List.drop_length,hl,List.drop_length]) with ⟨e,h⟩ | ⟨e,h⟩
   · have:=j3m e
     subst this
     rw [q2s rfl]
     exact y9v (wi (by rw [A7];omega)) (by rw [A7]) h
   · rw [B1,B1] at h
     exact y9u (wi (by rw [A7];omega)) (by rw [A7,A7];omega) h
 · have hc:cmpI m n=cmpI ((Wr (words m)).length:Int) ((Wr (words n)).length:Int):=by
    rw [A7,A7]
    rcases Nat.lt_or_gt_of_ne hl with c | c
    · have:m<n:=by
       rcases Nat.lt_or_ge m n with h | h
       · exact h
       · have:=(N4 n).length_le (B2 n) (B2 m) (by rw [B1,B1];omega)
         omega
      unfold cmpI;rw [if_pos (by omega),if_pos (by omega)]
    · have:n<m:=by
       rcases Nat.lt_or_ge n m with h | h
       · exact h
       · have:=(N4 m).length_le (B2 m) (B2 n) (by rw [B1,B1];omega)
         omega
      unfold cmpI;rw [if_neg (by omega),if_pos (by omega),if_neg (by omega),if_pos (by omega)]
   rw [hc]
   exact y9t (by rw [A7,A7];omega) (v0q _ _)
theorem drop_nil {xs:List Int} {i:Nat} (h:xs.length≤i):xs.drop i=[]:=List.drop_eq_nil_of_le h
theorem z3e {xs:List Int} {i:Nat} (h:xs.length≤i):xs.getD i 0=0:=by rw [List.getD_eq_getElem?_getD,List.getElem?_eq_none h];rfl
theorem z4i (xs:List Int) (i:Nat):wv (xs.drop i)=xs.getD i 0+1000000000*wv (xs.drop (i+1)):=by
 rcases Nat.lt_or_ge i xs.length with h | h
 · exact J6 xs i h
 · rw [drop_nil h,drop_nil (by omega),z3e h];rfl
theorem v2m (S:Int):(if Int.tmod S 1000000000<0 then Int.tmod S 1000000000+1000000000 else Int.tmod S 1000000000)=S % 1000000000:=by
 rw [Int.tmod_eq_emod]
 split <;> split <;> omega
theorem j8g {xs ys:List Int} {sg:Int} (hsg:sg=1∨sg=-1) (hx:Wd xs) (hy:Wd ys) {N:Int} (hN:N<4611686018427387904) {i:Nat} {c:Int} (hc:-1≤c∧c≤1) {zs:List Int} (hz:zs.length=i) (hi:(i:Int)<N) (hM:i+1≤35184372088832) {o:Out} {st':St}
    (ih:Lp E 1 A9 0 (B3 (Wr xs) (Wr ys) sg (i+1) ((c+xs.getD i 0+sg*ys.getD i 0) / 1000000000) N ((i+1:Nat):Int) (Wr (zs++[(c+xs.getD i 0+sg*ys.getD i 0) % 1000000000]))) o st') :
    Lp E 1 A9 0 (B3 (Wr xs) (Wr ys) sg i c N i (Wr zs)) o st':=by
 have ha:=hx.getD i
 have hb:=hy.getD i
 obtain ⟨a,ea⟩:∃ a,a=xs.getD i 0:=⟨_,rfl⟩
 obtain ⟨b,eb⟩:∃ b,b=ys.getD i 0:=⟨_,rfl⟩
 obtain ⟨p,ep⟩:∃ p,p=sg*b:=⟨_,rfl⟩
 have hp:-1000000000<p∧p<1000000000:=by rcases hsg with rfl | rfl <;> omega
 rw [← ea,← eb] at ih
 rw [← ea] at ha
 rw [← eb] at hb
 rw [← ep] at ih
 obtain ⟨S,eS⟩:∃ S,S=c+a+p:=⟨_,rfl⟩
 rw [← eS] at ih
 have gx:i<xs.length→(Wr xs)[Int.toNat (i:Int)]?=some [.u32 a]:=fun h=>by rw [ea];exact D2 h
 have gy:i<ys.length→(Wr ys)[Int.toNat (i:Int)]?=some [.u32 b]:=fun h=>by rw [eb];exact D2 h
 have hS:-2000000000<S∧S<3000000000:=by omega
 have hlen:(i+1)*4≤140737488355328∧i+1≤140737488355328:=by omega
 have hap:∀ w,(Wr zs).take i++[[DV.u32 w]]=Wr (zs++[w]):=fun w=>by rw [U2,← hz,List.take_length,y4d]
 have ht:=v2m S
 have hq:Int.tmod S 1000000000<0→Int.tdiv S 1000000000-1=S / 1000000000:=fun h=>by
  have:=Int.tmod_add_mul_tdiv S 1000000000
  have:=Int.emod_add_mul_ediv S 1000000000
  rw [if_pos h] at ht;omega
 have hq':¬ Int.tmod S 1000000000<0→Int.tdiv S 1000000000=S / 1000000000:=fun h=>by
  have:=Int.tmod_add_mul_tdiv S 1000000000
  have:=Int.emod_add_mul_ediv S 1000000000
  rw [if_neg h] at ht;omega
 have hr:0≤S % 1000000000∧S % 1000000000<1000000000:=by omega
 have hd:-4≤S / 1000000000∧S / 1000000000≤4:=by omega
 by_cases c1:i<xs.length
 · by_cases c2:i<ys.length
   · by_cases c3:Int.tmod S 1000000000<0
     · rw [if_pos c3] at ht
       exact y6i (i5:=a) (i6:=a) (i7:=c+a) (i8:=b) (i9:=b) (i10:=p) (i11:=S) (i13:=Int.tdiv S 1000000000) (wi (by omega)) (wi (by omega)) (wi (by omega)) (wi (by omega)) (wi (by omega)) rfl (wi (by have:=hq c3;omega)) (wi ⟨ht,by omega⟩) (wi ⟨hq c3,by omega⟩) (w32 (by omega)) (hap _) rfl (wi (by omega))
        (by omega) (by rw [A7];omega) (by omega) (gx c1) (by rw [A7];omega) (gy c2) c3 hlen ih
     · rw [if_neg c3] at ht
       exact y6j (i5:=a) (i6:=a) (i7:=c+a) (i8:=b) (i9:=b) (i10:=p) (i11:=S) (i12:=S % 1000000000) (wi (by omega)) (wi (by omega)) (wi (by omega)) (wi (by omega)) (wi (by omega)) ht (wi ⟨hq' c3,by omega⟩) (w32 (by omega)) (hap _) rfl (wi (by omega))
        (by omega) (by rw [A7];omega) (by omega) (gx c1) (by rw [A7];omega) (gy c2) (by omega) hlen ih
   · have b0:b=0:=by rw [eb];exact z3e (by omega)
     have p0:p=0:=by rw [ep,b0];exact Int.mul_zero _
     by_cases c3:Int.tmod S 1000000000<0
     · rw [if_pos c3] at ht
       exact y6k (i5:=a) (i6:=a) (i7:=S) (i9:=Int.tdiv S 1000000000) (wi (by omega)) (wi (by omega)) rfl (wi (by have:=hq c3;omega)) (wi ⟨ht,by omega⟩) (wi ⟨hq c3,by omega⟩) (w32 (by omega)) (hap _) rfl (wi (by omega))
        (by omega) (by rw [A7];omega) (by omega) (gx c1) (by rw [A7];omega) c3 hlen ih
     · rw [if_neg c3] at ht
       exact y6l (i5:=a) (i6:=a) (i7:=S) (i8:=S % 1000000000) (wi (by omega)) (wi (by omega)) ht (wi ⟨hq' c3,by omega⟩) (w32 (by omega)) (hap _) rfl (wi (by omega))
        (by omega) (by rw [A7];omega) (by omega) (gx c1) (by rw [A7];omega) (by omega) hlen ih
 · have a0:a=0:=by rw [ea];exact z3e (by omega)
   by_cases c2:i<ys.length
   · by_cases c3:Int.tmod S 1000000000<0
     · rw [if_pos c3] at ht
       exact y6m (i5:=b) (i6:=b) (i7:=p) (i8:=S) (i10:=Int.tdiv S 1000000000) (wi (by omega)) (wi (by omega)) (wi (by omega)) rfl (wi (by have:=hq c3;omega)) (wi ⟨ht,by omega⟩) (wi ⟨hq c3,by omega⟩) (w32 (by omega)) (hap _) rfl (wi (by omega))
        (by omega) (by rw [A7];omega) (by rw [A7];omega) (by omega) (gy c2) c3 hlen ih
     · rw [if_neg c3] at ht
       exact y6n (i5:=b) (i6:=b) (i7:=p) (i8:=S) (i9:=S % 1000000000) (wi (by omega)) (wi (by omega)) (wi (by omega)) ht (wi ⟨hq' c3,by omega⟩) (w32 (by omega)) (hap _) rfl (wi (by omega))
        (by omega) (by rw [A7];omega) (by rw [A7];omega) (by omega) (gy c2) (by omega) hlen ih
   · have b0:b=0:=by rw [eb];exact z3e (by omega)
     have p0:p=0:=by rw [ep,b0];exact Int.mul_zero _
     have e0:S=c:=by omega
     subst e0
     by_cases c3:Int.tmod S 1000000000<0
     · rw [if_pos c3] at ht
       exact y6o (i6:=Int.tdiv S 1000000000) rfl (wi (by have:=hq c3;omega)) (wi ⟨ht,by omega⟩) (wi ⟨hq c3,by omega⟩) (w32 (by omega)) (hap _) rfl (wi (by omega))
        (by omega) (by rw [A7];omega) (by rw [A7];omega) c3 hlen ih
     · rw [if_neg c3] at ht
       exact y6p (i5:=S % 1000000000) ht (wi ⟨hq' c3,by omega⟩) (w32 (by omega)) (hap _) rfl (wi (by omega))
        (by omega) (by rw [A7];omega) (by rw [A7];omega) (by omega) hlen ih
theorem k7g {xs ys:List Int} {sg:Int} (hsg:sg=1∨sg=-1) (hx:Wd xs) (hy:Wd ys) {N:Nat} (hN:N<35184372088832):∀ d i c zs,i+d=N→-1≤c∧c≤1→zs.length=i→Wd zs →
    ∃ c' zs',Lp E 1 A9 0 (B3 (Wr xs) (Wr ys) sg i c N i (Wr zs)) (.exit 0) (Y8 N c' (Wr zs'))∧zs'.length=N∧Wd zs'∧(-1≤c'∧c'≤1) ∧
     wv zs'+pw N*(c'+wv (xs.drop N)+sg*wv (ys.drop N))=wv zs+pw i*(c+wv (xs.drop i)+sg*wv (ys.drop i))
 | 0,i,c,zs,hi,hc,hz,hw=>by
  have:i=N:=by omega
  subst this
  exact ⟨c,zs,y3o (by omega),hz,hw,hc,rfl⟩
 | d+1,i,c,zs,hi,hc,hz,hw=>by
  have ha:=hx.getD i
  have hb:=hy.getD i
  obtain ⟨p,ep⟩:∃ p,p=sg*ys.getD i 0:=⟨_,rfl⟩
  have hp:-1000000000<p∧p<1000000000:=by rcases hsg with rfl | rfl <;> omega
  obtain ⟨S,eS⟩:∃ S,S=c+xs.getD i 0+sg*ys.getD i 0:=⟨_,rfl⟩
  rw [← ep] at eS
  have hr:0≤S % 1000000000∧S % 1000000000<1000000000:=by omega
  obtain ⟨c',zs',h1,h2,h3,h4,h5⟩:=k7g hsg hx hy hN d (i+1) (S / 1000000000) (zs++[S % 1000000000]) (by omega) (by omega) (by simp [hz]) (hw.append (Wd.cons hr.1 hr.2 Wd.nil))
  refine ⟨c',zs',j8g hsg hx hy (by omega) hc hz (by omega) (by omega) (by rw [← ep,← eS];exact h1),h2,h3,h4,?_⟩
  rw [h5,z5b,hz,z4i xs i,z4i ys i,z1e]
  have e1:S % 1000000000=S-1000000000*(S / 1000000000):=by omega
  rw [e1,eS,ep]
  grind
theorem j8f {xs ys:List Int} {sg:Int} (hsg:sg=1∨sg=-1) (hx:Wd xs) (hy:Wd ys)(h1:xs.length<35184372088000)(h2:ys.length<35184372088000) :
    ∃ c zs,Fn E A9 [.c (.list (Wr xs)),.c (.list (Wr ys)),.c (.i64 sg)] (.c (.list (Wr (if c>0 then zs++[c] else zs))))∧zs.length=max xs.length ys.length∧Wd zs∧(-1≤c∧c≤1)∧wv zs+pw (max xs.length ys.length)*c=wv xs+sg*wv ys:=by
 obtain ⟨c,zs,k1,k2,k3,k4,k5⟩:=k7g (E:=E) hsg hx hy (N:=max xs.length ys.length) (by omega) (max xs.length ys.length) 0 0 [] (by omega) (by omega) rfl Wd.nil
 rw [drop_nil (xs:=xs) (by omega),drop_nil (xs:=ys) (by omega),List.drop_zero,List.drop_zero,y8o] at k5
 have e5:wv zs+pw (max xs.length ys.length)*c=wv xs+sg*wv ys:=by
  rw [show wv []=0 from rfl] at k5
  have:c+0+sg*0=c:=by omega
  rw [this] at k5
  omega
 have em:(if ((Wr ys).length:Int)>((Wr xs).length:Int) then ((Wr ys).length:Int) else ((Wr xs).length:Int))=((max xs.length ys.length:Nat):Int):=by
  rw [A7,A7];split <;> omega
 have hcap:0≤(0:Int)∧(0:Int)≤(xs.length:Int)+1∧(Int.toNat ((xs.length:Int)+1))*4≤140737488355328∧(Int.toNat ((xs.length:Int)+1))≤140737488355328:=by omega
 have tk:(Wr zs).take (max xs.length ys.length)=Wr zs:=by rw [← k2,U2,List.take_length]
 refine ⟨c,zs,?_,k2,k3,k4,e5⟩
 by_cases hc:c>0
 · rw [if_pos hc]
   refine x3t (i1:=(xs.length:Int)+1) (i4:=c) (r3:=Wr (zs++[c])) (wi (by rw [A7];omega)) em (w32 (by omega)) (by rw [tk,y4d]) rfl ?_ hcap k1 hc (by omega)
   rw [U2,List.take_of_length_le (by simp;omega)]
 · rw [if_neg hc]
   exact x3u (i1:=(xs.length:Int)+1) (wi (by rw [A7];omega)) em tk hcap k1 hc
theorem v1q {m n:Nat} (h1:(words m).length<35184372088000)(h2:(words n).length<35184372088000):Fn E Z9 [.c (.list (Wr (words m))),.c (.list (Wr (words n)))] (.c (.list (Wr (words (m+n))))):=by
 obtain ⟨c,zs,k1,k2,k3,k4,k5⟩:=j8f (E:=E) (.inl rfl) (B2 m) (B2 n) h1 h2
 refine x6c ?_
 have hv:=B1 m
 have hv':=B1 n
 rw [hv,hv',Int.one_mul] at k5
 have hz:=z5a k3
 have hz0:=C2 k3
 have hpos:=V7 (max (words m).length (words n).length)
 rw [k2] at hz
 have hc0:0≤c:=by
  rcases Int.lt_or_le c 0 with h | h
  · have:c=-1:=by omega
    subst this
    rw [Int.mul_neg,Int.mul_one] at k5
    omega
  · exact h
 have e:(if c>0 then zs++[c] else zs)=words (m+n):=by
  have hval:wv (if c>0 then zs++[c] else zs)=((m+n:Nat):Int):=by
   split
   · rw [z5b,k2,k5];omega
   · have:c=0:=by omega
     subst this
     rw [Int.mul_zero] at k5;omega
  have hwd:Wd (if c>0 then zs++[c] else zs):=by
   split
   · exact k3.append (Wd.cons hc0 (by omega) Wd.nil)
   · exact k3
  rw [← show (((m+n:Nat):Int)).toNat=m+n from rfl,← hval]
  refine j7r hwd ?_
  split
  · exact Tr.snoc (by omega)
  · rename_i hn
    have hc:c=0:=by omega
    subst hc
    rw [Int.mul_zero] at k5
    intro hl
    by_cases hzn:zs=[]
    · rw [hzn] at hl;cases hl
    · obtain ⟨ys,y,rfl⟩:∃ ys y,zs=ys++[y]:=by
       rcases List.eq_nil_or_concat zs with h | ⟨ys,y,h⟩
       · exact absurd h hzn
       · exact ⟨ys,y,by rw [h,List.concat_eq_append]⟩
      have hy:y=0:=by simpa using hl
      subst hy
      rw [z5b,Int.mul_zero] at k5
      have h6:=z5a k3.left
      simp only [List.length_append,List.length_singleton] at k2
      have h7:wv ys+0=(m:Int)+n:=by omega
      rcases Nat.le_total (words m).length (words n).length with hmn | hmn
      · have hne:words n≠[]:=by intro h0;rw [h0] at k2 hmn;simp at hmn;rw [hmn] at k2;simp at k2
        have h8:=(N4 n).val_ge (B2 n) hne
        rw [hv',show (words n).length-1=ys.length by omega] at h8
        omega
      · have hne:words m≠[]:=by intro h0;rw [h0] at k2 hmn;simp at hmn;rw [hmn] at k2;simp at k2
        have h8:=(N4 m).val_ge (B2 m) hne
        rw [hv,show (words m).length-1=ys.length by omega] at h8
        omega
 rw [e] at k1
 exact k1
theorem q7v {m n:Nat} (h1:(words m).length<35184372088000) (hmn:n≤m):Fn E X7 [.c (.list (Wr (words m))),.c (.list (Wr (words n)))] (.c (.list (Wr (words (m-n))))):=by
 have hle:(words n).length≤(words m).length:=(N4 n).length_le (B2 n) (B2 m) (by rw [B1,B1];omega)
 obtain ⟨c,zs,k1,k2,k3,k4,k5⟩:=j8f (E:=E) (.inr rfl) (B2 m) (B2 n) h1 (by omega)
 rw [B1,B1] at k5
 have hz:=z5a k3
 have hz0:=C2 k3
 have hpos:=V7 (max (words m).length (words n).length)
 rw [k2] at hz
 have hm:=z5a (B2 m)
 rw [B1] at hm
 rw [Nat.max_eq_left hle] at k5 k2 hz hpos
 have hc:c=0:=by
  rcases Int.lt_trichotomy c 0 with h | h | h
  · have:c=-1:=by omega
    subst this
    rw [Int.mul_neg,Int.mul_one] at k5
    omega
  · exact h
  · have:c=1:=by omega
    subst this
    rw [Int.mul_one] at k5
    omega
 subst hc
 rw [if_neg (by decide)] at k1
 refine x3v k1 ?_
 have:=q5s (E:=E) k3 (by omega)
 rw [show (wv zs).toNat=m-n by omega] at this
 exact this
theorem z5x {xs:List Int} {i:Nat} (h:i<xs.length) (x:Int):(xs.set i x).getD i 0=x:=by
 rw [List.getD_eq_getElem?_getD,List.getElem?_set_self h];rfl
theorem H2 {xs:List Int} {i j:Nat} (h:i≠j) (x:Int):(xs.set i x).getD j 0=xs.getD j 0:=by
 rw [List.getD_eq_getElem?_getD,List.getD_eq_getElem?_getD,List.getElem?_set_ne h]
theorem x3h {x y:Int} (hx:0≤x∧x<1000000000) (hy:0≤y∧y<1000000000):0≤x*y∧x*y≤999999998000000001:=by
 constructor
 · exact Int.mul_nonneg hx.1 hy.1
 · have:=Int.mul_le_mul (show x≤999999999 by omega) (show y≤999999999 by omega) hy.1 (by decide)
   omega
theorem Wd.at {xs:List Int} (h:Wd xs) {i:Nat}:0≤xs.getD i 0∧xs.getD i 0<1000000000:=h.getD i
theorem alg1 {O O0 P K c T x y w S q r p:Int} (hv:O+P*K*c=O0+P*(x*T)) (ep:p=x*y) (hS:S=c+(p+w)) (hr:r+1000000000*q=S):O+P*K*(r-w)+1000000000*(P*K)*q=O0+P*(x*(T+K*y)):=by
 have e:r=c+x*y+w-1000000000*q:=by omega
 subst e
 grind
theorem alg2 {A x w S q r V:Int} (hS:S=r*1000000000+x) (hr:A+w*q=S):(q+1000000000*V)*w+A=x+1000000000*(V*w+r):=by
 have e:A=r*1000000000+x-w*q:=by omega
 subst e
 grind
theorem k2s {xs ys:List Int} (hy:Wd ys) {N i:Nat} {x:Int} (hx:0≤x∧x<1000000000) (hN:N<4611686018427387904) (hiN:i+ys.length≤N) {out0:List Int} :
    ∀ d k c out,k+d=ys.length→0≤c∧c<1000000000→Wd out→out.length=N→(∀ j,i+k≤j→out.getD j 0=out0.getD j 0) →
    wv out+pw (i+k)*c=wv out0+pw i*(x*wv (ys.take k)) →
    ∃ c' out',Lp E 1 C1 1 (V5 (Wr ys) N i x c (Wr xs) xs.length i (Wr ys) ys.length k (Wr out)) (.exit 2) (z2y (Wr ys) N i (Wr xs) xs.length i c' (Wr out')) ∧
     (0≤c'∧c'<1000000000)∧Wd out'∧out'.length=N∧(∀ j,i+ys.length≤j→out'.getD j 0=out0.getD j 0)∧wv out'+pw (i+ys.length)*c'=wv out0+pw i*(x*wv ys)
 | 0,k,c,out,hk,hc,hw,hl,hj,hv=>by
  have:k=ys.length:=by omega
  subst this
  rw [List.take_length] at hv
  exact ⟨c,out,y3x (by omega),hc,hw,hl,hj,hv⟩
 | d+1,k,c,out,hk,hc,hw,hl,hj,hv=>by
  have hyk:=hy.getD k
  obtain ⟨y,ey⟩:∃ y,y=ys.getD k 0:=⟨_,rfl⟩
  rw [← ey] at hyk
  have ho:=hw.getD (i+k)
  obtain ⟨w,ew⟩:∃ w,w=out.getD (i+k) 0:=⟨_,rfl⟩
  rw [← ew] at ho
  have hxy:=x3h hx hyk
  obtain ⟨p,ep⟩:∃ p,p=x*y:=⟨_,rfl⟩
  rw [← ep] at hxy
  obtain ⟨S,eS⟩:∃ S,S=c+(p+w):=⟨_,rfl⟩
  have hS:0≤S∧S≤999999999999999999:=by omega
  have hik:i+k<out.length:=by omega
  obtain ⟨c',out',k1,k2,k3,k4,k5,k6⟩:=k2s hy hx hN hiN (out0:=out0) d (k+1) (S / 1000000000) (out.set (i+k) (S % 1000000000)) (by omega) (by omega) (hw.set _ (by omega) (by omega)) (by simpa using hl)
   (fun j h=>by rw [H2 (by omega)];exact hj j (by omega)) (by
    rw [z6i out (i+k) hik,← ew,U4 ys k (by omega),← ey,← Nat.add_assoc,z1e,z6t]
    rw [z6t] at hv
    exact alg1 hv ep eS (Int.emod_add_mul_ediv S 1000000000))
  refine ⟨c',out',?_,k2,k3,k4,k5,k6⟩
  refine y6u (i8:=y) (i9:=x) (i10:=y) (i11:=p) (i12:=((i+k:Nat):Int)) (i13:=w) (i14:=w) (i15:=p+w) (i16:=S) (i17:=S % 1000000000) (i18:=S % 1000000000) (r5:=Wr (out.set (i+k) (S % 1000000000))) (i19:=S / 1000000000) (i20:=((k+1:Nat):Int))
   (wu (by omega)) (wu (by omega)) (wu (by omega)) (wi (by omega)) (wu (by omega)) (wu (by omega)) (wu (by omega)) (tmd hS.1 rfl) (w32 (by omega)) ?_ (wu ⟨tdv hS.1 rfl,by omega,by omega⟩) (wi (by omega))
   (by omega) (by omega) (by rw [ey];exact D2 (by omega)) (by omega) (by rw [ew];exact D2 hik) k1
  rw [Int.toNat_natCast,z1w]
theorem k2t {xs ys:List Int} (hx:Wd xs) (hy:Wd ys) {N:Nat} (hN:N<4611686018427387904) (hl:N=xs.length+ys.length) :
    ∀ d i out,i+d=xs.length→Wd out→out.length=N→(∀ j,i+ys.length≤j→out.getD j 0=0)→wv out=wv (xs.take i)*wv ys →
    ∃ out',Lp E 1 C1 0 (V4 (Wr ys) N (Wr xs) xs.length i (Wr out)) (.exit 0) (z2x N (Wr out'))∧Wd out'∧out'.length=N∧wv out'=wv xs*wv ys
 | 0,i,out,hi,hw,ho,_,hv=>by
  have:i=xs.length:=by omega
  subst this
  rw [List.take_length] at hv
  exact ⟨out,y3w (by omega),hw,ho,hv⟩
 | d+1,i,out,hi,hw,ho,hj,hv=>by
  have hxi:=hx.getD i
  obtain ⟨x,ex⟩:∃ x,x=xs.getD i 0:=⟨_,rfl⟩
  rw [← ex] at hxi
  obtain ⟨c',out1,k1,k2,k3,k4,k5,k6⟩:=k2s (E:=E) (xs:=xs) hy hxi hN (i:=i) (by omega) (out0:=out) ys.length 0 0 out (by omega) (by omega) hw ho (fun _ _=>rfl) (by simp [wv])
  have hik:i+ys.length<out1.length:=by omega
  have h0:out1.getD (i+ys.length) 0=0:=by rw [k5 _ (Nat.le_refl _)];exact hj _ (Nat.le_refl _)
  obtain ⟨out',g1,g2,g3,g4⟩:=k2t hx hy hN hl d (i+1) (out1.set (i+ys.length) c') (by omega) (k3.set _ k2.1 k2.2) (by simp [k4])
   (fun j h=>by rw [H2 (by omega),k5 j (by omega)];exact hj j (by omega)) (by
    rw [z6i out1 _ hik,h0,U4 xs i (by omega),← ex,Int.sub_zero,k6,hv]
    grind)
  refine ⟨out',?_,g2,g3,g4⟩
  refine y6t (i2:=x) (i3:=c') (r4:=Wr out1) (i4:=((i+ys.length:Nat):Int)) (i5:=c') (i6:=0) (r5:=Wr (out1.set (i+ys.length) c')) (i7:=((i+1:Nat):Int))
   (wi (by rw [A7];omega)) (w32 (by omega)) (by rw [Int.toNat_natCast,z1w]) (wi (by omega)) (by omega) (by omega) (by rw [ex];exact D2 (by omega)) (by rw [A7];exact k1) (by omega) (by rw [← h0];exact D2 hik) g1
theorem q5q {a b:Int} {m n:Nat} (ha:a=m) (hb:b=n):(a*b).toNat=m*n:=by
 rw [ha,hb,← Int.natCast_mul];rfl
theorem k8w {m n:Nat} (hl:(words m).length+(words n).length<35184372088000):∃ k xs,Rn E C1 [.c (.list (Wr (words m))),.c (.list (Wr (words n)))] [] (.vec 0 k) [some (.vec A0 (Wr xs))]∧xs.take k=words (m*n)∧k≤xs.length∧xs.length=(words m).length+(words n).length:=by
 obtain ⟨out,k1,k2,k3,k4⟩:=k2t (E:=E) (B2 m) (B2 n) (N:=(words m).length+(words n).length) (by omega) rfl (words m).length 0 (List.replicate ((words m).length+(words n).length) 0) (by omega) (Wd.replicate _) (by simp)
  (fun j _=>by rw [List.getD_eq_getElem?_getD,List.getElem?_replicate];split <;> rfl) (by rw [x5h];simp [wv])
 have ht:=y7j (E:=E) (ws:=out) (k:=(words m).length+(words n).length) (by omega) (by omega)
 have hw:=X0 k2 (k:=(words m).length+(words n).length) (by omega)
 rw [← k3,List.take_length,k4,q5q (B1 m) (B1 n),k3] at hw
 refine ⟨V9 out ((words m).length+(words n).length),out,?_,hw,by have:=x9z out ((words m).length+(words n).length);omega,k3⟩
 refine x4a (i0:=(((words m).length+(words n).length:Nat):Int)) (n0:=(words m).length+(words n).length) (r2:=Wr (List.replicate ((words m).length+(words n).length) 0)) (wi (by rw [A7,A7];omega)) (Int.toNat_natCast _) (z2p _ _) (by omega) ?_ ht
 rw [A7];exact k1
theorem q9y {m n:Nat} (hl:(words m).length+(words n).length<35184372088000):Fn E C1 [.c (.list (Wr (words m))),.c (.list (Wr (words n)))] (.c (.list (Wr (words (m*n))))):=by
 obtain ⟨k,xs,h,hk,_,_⟩:=k8w (E:=E) hl
 have:=h.toFn hTT E.hs hmm
 rwa [U2,hk] at this
theorem q2q {xs:List Int} (hx:Wd xs) {N:Nat} (hN:xs.length=N) (hb:N<4611686018427387904) {w:Int} (hw:0<w∧w<1000000000):∀ k rest out,k≤N→0≤rest∧rest<w→Wd out→out.length=N →
    wv (out.drop k)*w+rest=wv (xs.drop k) →
    ∃ rest' out',Lp E 1 K2 0 (z1d (Wr xs) w N rest ((k:Int)-1) (Wr out)) (.exit 0) (z5s N rest' (Wr out'))∧(0≤rest'∧rest'<w)∧Wd out'∧out'.length=N∧wv out'*w+rest'=wv xs
 | 0,rest,out,_,hr,ho,hl,hv=>by
  rw [List.drop_zero,List.drop_zero] at hv
  exact ⟨rest,out,y8k (by omega),hr,ho,hl,hv⟩
 | k+1,rest,out,hk,hr,ho,hl,hv=>by
  have ek:((k+1:Nat):Int)-1=(k:Int):=by omega
  rw [ek]
  have hxk:=hx.getD k
  obtain ⟨x,ex⟩:∃ x,x=xs.getD k 0:=⟨_,rfl⟩
  rw [← ex] at hxk
  obtain ⟨S,eS⟩:∃ S,S=rest*1000000000+x:=⟨_,rfl⟩
  have hS:0≤S∧S<w*1000000000:=by omega
  have hq0:0≤S / w:=Int.ediv_nonneg hS.1 (by omega)
  have hq:S / w<1000000000:=Int.ediv_lt_of_lt_mul (by omega) (by rw [Int.mul_comm];exact hS.2)
  have hm0:=Int.emod_nonneg S (show w≠0 by omega)
  have hm1:=Int.emod_lt_of_pos S (show 0<w by omega)
  have hdm:=Int.emod_add_mul_ediv S w
  have hkl:k<out.length:=by omega
  have hd:(out.set k (S / w)).drop (k+1)=out.drop (k+1):=List.drop_set_of_lt (Nat.lt_succ_self k)
  obtain ⟨rest',out',k1,k2,k3,k4,k5⟩:=q2q hx hN hb hw k (S % w) (out.set k (S / w)) (by omega) ⟨hm0,hm1⟩ (ho.set _ hq0 hq) (by simp [hl]) (by
   rw [z4i _ k,z4i xs k,← ex,z5x hkl,hd,← hv]
   exact alg2 eS hdm)
  refine ⟨rest',out',?_,k2,k3,k4,k5⟩
  exact x1j (i4:=rest*1000000000) (i5:=x) (i6:=x) (i7:=S) (i8:=S / w) (i9:=S / w) (i10:=out.getD k 0) (r3:=Wr (out.set k (S / w))) (i11:=S % w) (i12:=(k:Int)-1)
   (wu (by omega)) (wu (by omega)) (wu (by omega)) (wu ⟨tdv hS.1 rfl,hq0,by omega⟩) (w32 (by omega)) (by rw [Int.toNat_natCast,z1w]) (tmd hS.1 rfl) (wi (by omega))
   (by omega) (by omega) (by rw [ex];exact D2 (by omega)) (by omega) (by omega) (D2 hkl) k1
theorem by_ok {n w:Nat} (hw:0<w∧w<1000000000) (hl:(words n).length<35184372088000):Fn E K2 [.c (.list (Wr (words n))),.c (.u64 w)] (.tup [.c (.list (Wr (words (n / w)))),.c (.list (Wr (words (n % w))))]):=by
 obtain ⟨rest,out,k1,k2,k3,k4,k5⟩:=q2q (E:=E) (B2 n) (N:=(words n).length) rfl (by omega) (w:=w) (by omega) (words n).length 0 (List.replicate (words n).length 0) (Nat.le_refl _) (by omega) (Wd.replicate _) (by simp)
  (by rw [drop_nil (by simp),drop_nil (Nat.le_refl _)];simp [wv])
 rw [B1] at k5
 have h0:=C2 k3
 obtain ⟨q,hq⟩:∃ q:Nat,wv out=q:=⟨(wv out).toNat,by omega⟩
 obtain ⟨r,hr⟩:∃ r:Nat,rest=r:=⟨rest.toNat,by omega⟩
 rw [hq,hr] at k5
 subst hr
 have hn:q*w+r=n:=by
  have:((q*w+r:Nat):Int)=n:=by rw [Int.natCast_add,Int.natCast_mul];exact k5
  omega
 have hrw:r<w:=by omega
 have e1:n / w=q:=by rw [← hn,Nat.mul_comm,Nat.mul_add_div (by omega),Nat.div_eq_of_lt hrw,Nat.add_zero]
 have e2:n % w=r:=by rw [← hn,Nat.mul_comm,Nat.mul_add_mod,Nat.mod_eq_of_lt hrw]
 rw [e1,e2]
 have ht:=y7j (E:=E) (ws:=out) (k:=(words n).length) (by omega) (by omega)
 have hw':=X0 k3 (k:=(words n).length) (by omega)
 rw [← k4,List.take_length,hq,k4] at hw'
 refine k0z (n0:=(words n).length) (r1:=Wr (List.replicate (words n).length 0)) (i1:=((words n).length:Int)-1) (i2:=(r:Int)) (r2:=Wr out) (r3:=Wr (words r)) (by rw [A7];rfl) (z2p _ _) (wi (by rw [A7];omega)) ?_ ?_ k1 ht (j2p (by omega))
 · rw [U2];exact congrArg Wr hw'
 · rw [A7];omega
structure Dv (u v:List Int) (lu k j:Nat):Prop where
 hu:Wd u
 hv:Wd v
 elu:u.length=lu
 elv:v.length=k
 two:2≤k
 norm:1000000000≤2*v.getD (k-1) 0
 jk:j+k<lu
 small:lu<35184372088832
 low:wv (u.drop (j+1))<wv v
theorem Dv.vk {u v:List Int} {lu k j:Nat} (h:Dv u v lu k j):wv v<pw k:=by have:=z5a h.hv;rwa [h.elv] at this
theorem Dv.zero {u v:List Int} {lu k j:Nat} (h:Dv u v lu k j):wv (u.drop (j+k+1))=0:=q0n h.hu (Int.lt_trans h.low h.vk)
theorem Dv.vpos {u v:List Int} {lu k j:Nat} (h:Dv u v lu k j):0<wv v:=by
 have e:=y7e h.elv h.two
 have h1:=C2 (h.hv.take (k-2))
 have h2:=h.hv.getD (k-2)
 have h3:=h.norm
 have:0<(v.getD (k-1) 0*1000000000+v.getD (k-2) 0)*pw (k-2):=Int.mul_pos (by omega) (V7 _)
 omega
theorem j8i {m w1 w3 w4:RW} {lq lu k j:Nat} {u v:List Int} (D:Dv u v lu k j) (hw3:∀ i:Nat,i<k→w3[i]?=some [.u32 (v.getD i 0)]) :
    ∀ (t:Nat) (g rest:Int),0≤g→g<t→g≤1000000001→0≤rest∧rest<1000000000→g*v.getD (k-1) 0+rest=u.getD (j+k) 0*1000000000+u.getD (j+k-1) 0→wv (u.drop j)<(g+1)*wv v→(g=1000000001→rest+v.getD (k-1) 0<1000000000) →
    ∃ g',Lp E 5 A3 1 (F2 m lu k k lq j g rest w1 (Wr u) w3 w4) (.exit 3) (H8 m lu k k lq j w1 (Wr u) w3 w4 g')∧(0≤g'∧g'<1000000000)∧wv (u.drop j)<(g'+1)*wv v∧(g'-1)*wv v≤wv (u.drop j)
 | 0,g,rest,h0,ht,_,_,_,_,_=>by omega
 | t+1,g,rest,h0,ht,hg,hr,he,hX,hbig=>by
  have h2:=D.two
  have hjk:=D.jk
  have hsm:=D.small
  have hlu:=D.elu
  have a1:=D.hv.getD (k-1)
  have a2:=D.hv.getD (k-2)
  have b2:=D.hu.getD (j+k-2)
  have b1:=D.hu.getD (j+k-1)
  have b0:=D.hu.getD (j+k)
  have hnorm:=D.norm
  have eV:=y7e D.elv D.two
  have eX:=y4q (u:=u) (j:=j) (k:=k) D.two (by omega) D.zero
  have vl0:=C2 (D.hv.take (k-2))
  have vl1:=D.hv.val_take_lt (k-2) (by have:=D.elv;omega)
  have xl0:=C2 ((D.hu.drop j).take (k-2))
  have xl1:=(D.hu.drop j).val_take_lt (k-2) (by simp;omega)
  have hP:=V7 (k-2)
  have gk1:w3[Int.toNat ((k:Int)-1)]?=some [.u32 (v.getD (k-1) 0)]:=by
   rw [show Int.toNat ((k:Int)-1)=k-1 by omega];exact hw3 _ (by omega)
  have gk2:w3[Int.toNat ((k:Int)-2)]?=some [.u32 (v.getD (k-2) 0)]:=by
   rw [show Int.toNat ((k:Int)-2)=k-2 by omega];exact hw3 _ (by omega)
  have gu:(Wr u)[Int.toNat ((j:Int)+k-2)]?=some [.u32 (u.getD (j+k-2) 0)]:=by
   rw [show Int.toNat ((j:Int)+k-2)=j+k-2 by omega];exact D2 (by omega)
  obtain ⟨v1,e1⟩:∃ x,x=v.getD (k-1) 0:=⟨_,rfl⟩
  obtain ⟨v2,e2⟩:∃ x,x=v.getD (k-2) 0:=⟨_,rfl⟩
  obtain ⟨u2,e3⟩:∃ x,x=u.getD (j+k-2) 0:=⟨_,rfl⟩
  obtain ⟨top,e4⟩:∃ x,x=u.getD (j+k) 0*1000000000+u.getD (j+k-1) 0:=⟨_,rfl⟩
  rw [← e1] at a1 hnorm eV gk1 he hbig
  rw [← e2] at a2 eV gk2
  rw [← e3] at b2 eX gu
  rw [← e4] at eX he
  have hg2:0≤g*v2∧g*v2≤1000000001*999999999:=by
   constructor
   · exact Int.mul_nonneg h0 a2.1
   · exact Int.mul_le_mul hg (by omega) a2.1 (by decide)
  have down:1≤g→wv (u.drop j)<g*wv v→(g=1000000001→rest+v1<1000000000) →
      (¬ rest+v1≥1000000000→∃ g',Lp E 5 A3 1 (F2 m lu k k lq j (g-1) (rest+v1) w1 (Wr u) w3 w4) (.exit 3) (H8 m lu k k lq j w1 (Wr u) w3 w4 g')∧(0≤g'∧g'<1000000000)∧wv (u.drop j)<(g'+1)*wv v∧(g'-1)*wv v≤wv (u.drop j)) ∧
      (rest+v1≥1000000000→(0≤g-1∧g-1<1000000000)∧wv (u.drop j)<(g-1+1)*wv v∧(g-1-1)*wv v≤wv (u.drop j)):=by
   intro hg1 hlt hb
   have hmul:(g-1)*v1+(rest+v1)=top:=by
    have:(g-1)*v1=g*v1-v1:=by grind
    omega
   refine ⟨fun hc=>?_,fun hc=>?_⟩
   · refine j8i D hw3 t (g-1) (rest+v1) (by omega) (by omega) (by omega) (by omega) ?_ (by rw [show g-1+1=g by omega];exact hlt) (fun h=>by omega)
     rw [← e1,← e4];exact hmul
   · have hgB:g-1<1000000000:=by
      rcases Int.lt_or_le (g-1) 1000000000 with h | h
      · exact h
      · have:=hb (by omega);omega
     refine ⟨⟨by omega,hgB⟩,by rw [show g-1+1=g by omega];exact hlt,?_⟩
     refine y7t hP ⟨vl0,vl1⟩ xl0 eV eX hmul ⟨by omega,hgB⟩ ?_ hnorm a2.1
     have h5:(g-1)*v2≤999999999*999999999:=Int.mul_le_mul (by omega) (by omega) a2.1 (by decide)
     omega
  by_cases c1:g≥1000000000
  · have hlt:wv (u.drop j)<g*wv v:=by
     have h6:=J6 u j (by omega)
     have h7:=D.hu.getD j
     have h8:=D.low
     have h9:1000000000*wv v≤g*wv v:=Int.mul_le_mul_of_nonneg_right c1 (by have:=D.vpos;omega)
     omega
    obtain ⟨d1,d2⟩:=down (by omega) hlt hbig
    by_cases c2:rest+v1≥1000000000
    · obtain ⟨d3,d4,d5⟩:=d2 c2
      exact ⟨g-1,y1s (i6:=(k:Int)-1) (i7:=v1) (i8:=v1) (i9:=rest+v1) (wu (by omega)) (wi (by omega)) (wu (by omega)) (wu (by omega)) c1 (by omega) gk1 c2,d3,d4,d5⟩
    · obtain ⟨g',d3,d4⟩:=d1 c2
      exact ⟨g',y3r (i6:=(k:Int)-1) (i7:=v1) (i8:=v1) (wu (by omega)) (wi (by omega)) (wu (by omega)) (wu (by omega)) c1 (by omega) gk1 c2 d3,d4⟩
  · by_cases c3:g*v2>rest*1000000000+u2
    · have hlt:=j2d hP vl0 xl1 eV eX he h0 c3
      have hg1:1≤g:=by
       rcases Int.lt_or_le g 1 with h | h
       · have:g=0:=by omega
         subst this
         rw [Int.zero_mul] at c3
         omega
       · exact h
      obtain ⟨d1,d2⟩:=down hg1 hlt hbig
      by_cases c2:rest+v1≥1000000000
      · obtain ⟨d3,d4,d5⟩:=d2 c2
        exact ⟨g-1,y1t (i5:=(k:Int)-2) (i6:=v2) (i7:=v2) (i8:=g*v2) (i9:=rest*1000000000) (i10:=(j:Int)+k) (i11:=(j:Int)+k-2) (i12:=u2) (i13:=u2) (i14:=rest*1000000000+u2) (i16:=(k:Int)-1) (i17:=v1) (i18:=v1) (i19:=rest+v1)
         (wi (by omega)) (wu (by omega)) (wu (by omega)) (wu (by omega)) (wi (by omega)) (wi (by omega)) (wu (by omega)) (wu (by omega)) (wu (by omega)) (wi (by omega)) (wu (by omega)) (wu (by omega)) c1 (by omega) gk2 (by omega) gu c3 (by omega) gk1 c2,d3,d4,d5⟩
      · obtain ⟨g',d3,d4⟩:=d1 c2
        exact ⟨g',y3s (i5:=(k:Int)-2) (i6:=v2) (i7:=v2) (i8:=g*v2) (i9:=rest*1000000000) (i10:=(j:Int)+k) (i11:=(j:Int)+k-2) (i12:=u2) (i13:=u2) (i14:=rest*1000000000+u2) (i16:=(k:Int)-1) (i17:=v1) (i18:=v1)
         (wi (by omega)) (wu (by omega)) (wu (by omega)) (wu (by omega)) (wi (by omega)) (wi (by omega)) (wu (by omega)) (wu (by omega)) (wu (by omega)) (wi (by omega)) (wu (by omega)) (wu (by omega)) c1 (by omega) gk2 (by omega) gu c3 (by omega) gk1 c2 d3,d4⟩
    · refine ⟨g,y1u (i5:=(k:Int)-2) (i6:=v2) (i7:=v2) (i8:=g*v2) (i9:=rest*1000000000) (i10:=(j:Int)+k) (i11:=(j:Int)+k-2) (i12:=u2) (i13:=u2) (i14:=rest*1000000000+u2)
          (wi (by omega)) (wu (by omega)) (wu (by omega)) (wu (by omega)) (wi (by omega)) (wi (by omega)) (wu (by omega)) (wu (by omega)) c1 (by omega) gk2 (by omega) gu c3,⟨h0,by omega⟩,hX,?_⟩
      exact y7t hP ⟨vl0,vl1⟩ xl0 eV eX he ⟨h0,by omega⟩ (by omega) hnorm a2.1
theorem q7y {m w1 w3 w4:RW} {lq lu k j:Nat} {u v:List Int} (D:Dv u v lu k j) (hw3:∀ i:Nat,i<k→w3[i]?=some [.u32 (v.getD i 0)]) {g:Int} (hg:0≤g∧g<1000000000) :
    ∀ d i c b u',i+d=k→0≤c∧c<1000000000→b=0∨b=1→Wd u'→u'.length=lu→(∀ n,n<j∨j+i≤n→u'.getD n 0=u.getD n 0)→wv u'=wv u-pw j*(g*wv (v.take i))+pw j*pw i*(c+b) →
    ∃ c' b' u'',Lp E 5 A3 2 (F3 m lu k k lq j g c b k i w1 (Wr u') w3 w4) (.exit 5) (M2 m lu k k lq j g w1 w3 w4 c' b' (Wr u''))∧(0≤c'∧c'<1000000000)∧(b'=0∨b'=1)∧Wd u''∧u''.length=lu∧(∀ n,n<j∨j+k≤n→u''.getD n 0=u.getD n 0)∧wv u''=wv u-pw j*(g*wv v)+pw j*pw k*(c'+b')
 | 0,i,c,b,u',hi,hc,hb,hw,hl,hn,hv=>by
  have:i=k:=by omega
  subst this
  have:=D.elv
  rw [List.take_of_length_le (by omega)] at hv
  exact ⟨c,b,u',y1v (by omega),hc,hb,hw,hl,hn,hv⟩
 | d+1,i,c,b,u',hi,hc,hb,hw,hl,hn,hv=>by
  have hjk:=D.jk
  have hsm:=D.small
  have a0:=D.hv.getD i
  have b0:=hw.getD (i+j)
  have gk:w3[Int.toNat (i:Int)]?=some [.u32 (v.getD i 0)]:=hw3 i (by omega)
  have gu:(Wr u')[Int.toNat ((i+j:Nat):Int)]?=some [.u32 (u'.getD (i+j) 0)]:=D2 (by omega)
  have et:=U4 v i (by have:=D.elv;omega)
  have es:=z6i u' (i+j) (by omega)
  obtain ⟨x,ex⟩:∃ x,x=v.getD i 0:=⟨_,rfl⟩
  obtain ⟨w,ew⟩:∃ w,w=u'.getD (i+j) 0:=⟨_,rfl⟩
  rw [← ex] at a0 gk et
  rw [← ew] at b0 gu es
  have hgx:0≤g*x∧g*x≤999999998000000001:=x3h hg a0
  obtain ⟨S,eS⟩:∃ S,S=g*x+c:=⟨_,rfl⟩
  have hS:0≤S∧S≤999999999000000000:=by omega
  obtain ⟨dd,ed⟩:∃ dd,dd=w-S % 1000000000-b:=⟨_,rfl⟩
  have key:∀ b' d',d'=dd+1000000000*b'→0≤d'∧d'<1000000000→(b'=0∨b'=1) →
      (∀ {c2:Int} {st:St},Lp E 5 A3 2 (F3 m lu k k lq j g (S / 1000000000) b' k ((i+1:Nat):Int) w1 (Wr (u'.set (i+j) d')) w3 w4) (.exit 5) st→Lp E 5 A3 2 (F3 m lu k k lq j g c b k i w1 (Wr u') w3 w4) (.exit 5) st) →
      ∃ c' b' u'',Lp E 5 A3 2 (F3 m lu k k lq j g c b k i w1 (Wr u') w3 w4) (.exit 5) (M2 m lu k k lq j g w1 w3 w4 c' b' (Wr u''))∧(0≤c'∧c'<1000000000)∧(b'=0∨b'=1)∧Wd u''∧u''.length=lu∧(∀ n,n<j∨j+k≤n→u''.getD n 0=u.getD n 0)∧wv u''=wv u-pw j*(g*wv v)+pw j*pw k*(c'+b'):=by
   intro b' d' hd' hd0 hb' hstep
   obtain ⟨c2,b2,u2,k1,k2⟩:=q7y D hw3 hg d (i+1) (S / 1000000000) b' (u'.set (i+j) d') (by omega) (by omega) hb' (hw.set _ hd0.1 hd0.2) (by simpa using hl)
    (fun n h=>by rw [H2 (by omega)];exact hn n (by omega)) (by
     rw [es d',et,z1e,show i+j=j+i by omega,z6t]
     have:=q0a hv eS (Int.emod_add_mul_ediv S 1000000000) ed hd'
     rw [this];grind)
   exact ⟨c2,b2,u2,hstep (c2:=0) k1,k2⟩
  by_cases c1:dd<0
  · refine key 1 (dd+1000000000) (by omega) (by omega) (.inr rfl) fun k1=>?_
    exact y3t (i9:=g) (i10:=x) (i11:=x) (i12:=g*x) (i13:=S) (i14:=S / 1000000000) (i15:=((i+j:Nat):Int)) (i16:=w) (i17:=w) (i18:=S % 1000000000) (i19:=w-S % 1000000000) (i20:=dd) (i21:=dd+1000000000) (i22:=dd+1000000000) (r6:=Wr (u'.set (i+j) (dd+1000000000))) (i23:=((i+1:Nat):Int))
     (wi (by omega)) (wi (by omega)) (wi (by omega)) (wi (by omega)) (wi ⟨tdv hS.1 rfl,by omega,by omega⟩) (wi (by omega)) (wi (by omega)) (tmd hS.1 rfl) (wi (by omega)) (wi (by omega)) (wi (by omega)) (w32 (by omega)) (by rw [Int.toNat_natCast,z1w]) (wi (by omega))
     (by omega) (by omega) gk (by omega) gu c1 k1
  · refine key 0 dd (by omega) (by omega) (.inl rfl) fun k1=>?_
    exact y3u (i9:=g) (i10:=x) (i11:=x) (i12:=g*x) (i13:=S) (i14:=S / 1000000000) (i15:=((i+j:Nat):Int)) (i16:=w) (i17:=w) (i18:=S % 1000000000) (i19:=w-S % 1000000000) (i20:=dd) (i21:=dd) (r7:=Wr (u'.set (i+j) dd)) (i24:=((i+1:Nat):Int))
     (wi (by omega)) (wi (by omega)) (wi (by omega)) (wi (by omega)) (wi ⟨tdv hS.1 rfl,by omega,by omega⟩) (wi (by omega)) (wi (by omega)) (tmd hS.1 rfl) (wi (by omega)) (wi (by omega)) (w32 (by omega)) (by rw [Int.toNat_natCast,z1w]) (wi (by omega))
     (by omega) (by omega) gk (by omega) gu c1 k1
theorem q7w {m w1 w3 w4:RW} {lq lu k j:Nat} {u v:List Int} (D:Dv u v lu k j) (hw3:∀ i:Nat,i<k→w3[i]?=some [.u32 (v.getD i 0)]) {g last:Int} {u1:List Int} :
    ∀ d i up u',i+d=k→0≤up∧up≤1→Wd u'→u'.length=lu→(∀ n,n<j∨j+i≤n→u'.getD n 0=u1.getD n 0)→wv u'=wv u1+pw j*wv (v.take i)-pw j*pw i*up →
    ∃ up' u'',Lp E 5 A3 3 (O5 m lu k k lq j g last up k i w1 (Wr u') w3 w4) (.exit 7) (z1o m lu k k lq j g last w1 w3 w4 up' (Wr u''))∧(0≤up'∧up'≤1)∧Wd u''∧u''.length=lu∧(∀ n,n<j∨j+k≤n→u''.getD n 0=u1.getD n 0)∧wv u''=wv u1+pw j*wv v-pw j*pw k*up'
 | 0,i,up,u',hi,hc,hw,hl,hn,hv=>by
  have:i=k:=by omega
  subst this
  have:=D.elv
  rw [List.take_of_length_le (by omega)] at hv
  exact ⟨up,u',y1w (by omega),hc,hw,hl,hn,hv⟩
 | d+1,i,up,u',hi,hc,hw,hl,hn,hv=>by
  have hjk:=D.jk
  have hsm:=D.small
  have a0:=D.hv.getD i
  have b0:=hw.getD (i+j)
  have gk:w3[Int.toNat (i:Int)]?=some [.u32 (v.getD i 0)]:=hw3 i (by omega)
  have gu:(Wr u')[Int.toNat ((i+j:Nat):Int)]?=some [.u32 (u'.getD (i+j) 0)]:=D2 (by omega)
  have et:=U4 v i (by have:=D.elv;omega)
  have es:=z6i u' (i+j) (by omega)
  obtain ⟨x,ex⟩:∃ x,x=v.getD i 0:=⟨_,rfl⟩
  obtain ⟨w,ew⟩:∃ w,w=u'.getD (i+j) 0:=⟨_,rfl⟩
  rw [← ex] at a0 gk et
  rw [← ew] at b0 gu es
  obtain ⟨S,eS⟩:∃ S,S=up+(w+x):=⟨_,rfl⟩
  have hS:0≤S∧S≤1999999999:=by omega
  obtain ⟨up2,u2,k1,k2⟩:=q7w (g:=g) (last:=last) D hw3 (u1:=u1) d (i+1) (S / 1000000000) (u'.set (i+j) (S % 1000000000)) (by omega) (by omega) (hw.set _ (by omega) (by omega)) (by simpa using hl)
   (fun n h=>by rw [H2 (by omega)];exact hn n (by omega)) (by
    rw [es,et,z1e,show i+j=j+i by omega,z6t]
    have:=j7g hv eS (Int.emod_add_mul_ediv S 1000000000)
    rw [this];grind)
  refine ⟨up2,u2,?_,k2⟩
  exact y3v (i8:=((i+j:Nat):Int)) (i9:=w) (i10:=w) (i11:=x) (i12:=x) (i13:=w+x) (i14:=S) (i15:=S % 1000000000) (i16:=S % 1000000000) (r6:=Wr (u'.set (i+j) (S % 1000000000))) (i17:=S / 1000000000) (i18:=((i+1:Nat):Int))
   (wi (by omega)) (wu (by omega)) (wu (by omega)) (wu (by omega)) (wu (by omega)) (tmd hS.1 rfl) (w32 (by omega)) (by rw [Int.toNat_natCast,z1w]) (wu ⟨tdv hS.1 rfl,by omega,by omega⟩) (wi (by omega))
   (by omega) (by omega) gu (by omega) gk k1
end Gev
