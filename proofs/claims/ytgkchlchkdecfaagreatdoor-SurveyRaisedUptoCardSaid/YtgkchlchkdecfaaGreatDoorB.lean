/- A part of the proof: see the last text of this claim. -/
import Derived.Test.YtgkchlchkdecfaaGreatDoorA
import Derived.Orders
import Derived.Tactics
import Derived.OrdersIn
import Derived.Laws.StructEq
import Derived.Deep.Draws
import Derived.Below
import Derived.Test.YtgkchlchkdecfaaGreatDoorProg
import Derived.KernelRfl
set_option linter.unusedSectionVars false
set_option linter.unusedVariables false
set_option linter.unusedSimpArgs false
namespace Gev
open Go
variable {P:Program} {D:Tab} {B0:Nat} {Gd:World→Prop}
def AV.ren1 (ρ:Nat→Nat):AV→AV
 | .ptr l o=>.ptr (ρ l) o
 | v=>v
def AV.ren2 (ρ:Nat→Nat):AV→AV
 | .fn f cap=>.fn f (cap.map (AV.ren1 ρ))
 | v=>v
def AV.ren (ρ:Nat→Nat):AV→AV
 | .vec l n=>.vec (ρ l) n
 | .ptr l o=>.ptr (ρ l) o
 | .vptr l i o=>.vptr (ρ l) i o
 | .fn f cap=>.fn f (cap.map (AV.ren1 ρ))
 | .frow vs=>.frow (vs.map (AV.ren2 ρ))
 | v=>v
def AV.in1 (k:Nat):AV→Bool
 | .ptr l _=>decide (l < k)
 | .c _=>true
 | _=>false
def AV.in2 (k:Nat):AV→Bool
 | .fn _ cap=>cap.all (AV.in1 k)
 | _=>false
def AV.inB (k:Nat):AV→Bool
 | .vec l _ | .ptr l _ | .vptr l _ _=>decide (l < k)
 | .fn _ cap=>cap.all (AV.in1 k)
 | .frow vs=>vs.all (AV.in2 k)
 | v=>v.isDat
def Ob.plain:Ob→Bool
 | .cells cs=>cs.all fun v=>match v with | .c _ | .nils=>true | _=>false
 | _=>true
structure Like (D:Tab) (ρ:Nat→Nat) (k:Nat) (Γ Γ':Ctx):Prop where
 w:Γ'.w=Γ.w
 own:∀ b,Γ'.own b↔Γ.own b
 lk:∀ i,i < k→Gev.lk Γ'.objs (ρ i)=Gev.lk Γ.objs i
 S:∀ i,i < k→(Gev.lk Γ.objs i).isSome=true→Γ'.S (ρ i)=Γ.S i
theorem Like.repD {ρ:Nat→Nat} {k:Nat} {Γ Γ':Ctx} (h:Like D ρ k Γ Γ') {v:Value} {d:DV} (hv:RepD Γ.w Γ.own v d):RepD Γ'.w Γ'.own v d:=by
 have:Γ'.own=Γ.own:=funext fun b=>propext (h.own b)
 rw [h.w,this]; exact hv
theorem Like.repD' {ρ:Nat→Nat} {k:Nat} {Γ Γ':Ctx} (h:Like D ρ k Γ Γ') {v:Value} {d:DV} (hv:RepD Γ'.w Γ'.own v d):RepD Γ.w Γ.own v d:=by
 have:Γ'.own=Γ.own:=funext fun b=>propext (h.own b)
 rw [h.w,this] at hv; exact hv
theorem Like.dat {ρ:Nat→Nat} {k:Nat} {Γ Γ':Ctx} (h:Like D ρ k Γ Γ') {v:Value} {a:AV} (ha:AV.isDat a=true):RepA D Γ v a↔RepA D Γ' v a:=by
 have one:∀ (u:Value) (a:AV),(match a with | .c _ | .undef | .agg _=>true | _=>false)=true→(RepA D Γ u a↔RepA D Γ' u a):=by
  intro u a ha
  cases a with
  | c d=>exact ⟨fun x=>by cases x with | c hd=>exact .c (h.repD hd),fun x=>by cases x with | c hd=>exact .c (h.repD' hd)⟩
  | undef=>exact ⟨fun _=>.undef _,fun _=>.undef _⟩
  | agg cs=>exact ⟨fun x=>by cases x with | agg vs _ hl hd=>exact .agg vs cs hl fun j u d a b=>h.repD (hd j u d a b),fun x=>by cases x with | agg vs _ hl hd=>exact .agg vs cs hl fun j u d a b=>h.repD' (hd j u d a b)⟩
  | _=>simp at ha
 cases a with
 | c d=>exact one v _ rfl
 | undef=>exact one v _ rfl
 | agg cs=>exact one v _ rfl
 | nils=>exact ⟨fun x=>by cases x; exact .nils,fun x=>by cases x; exact .nils⟩
 | tup us =>
  simp only [AV.isDat,List.all_eq_true] at ha
  exact ⟨fun x=>by cases x with | tup vs _ hl hd=>exact .tup vs us hl fun i u a p q=>(one u a (ha a (List.mem_of_getElem? q))).1 (hd i u a p q),fun x=>by cases x with | tup vs _ hl hd=>exact .tup vs us hl fun i u a p q=>(one u a (ha a (List.mem_of_getElem? q))).2 (hd i u a p q)⟩
 | mv f us =>
  simp only [AV.isDat,List.all_eq_true] at ha
  exact ⟨fun x=>by cases x with | mv _ vs _ hl hq hd=>exact .mv f vs us hl hq fun i u a p q=>(one u a (ha a (List.mem_of_getElem? q))).1 (hd i u a p q),fun x=>by cases x with | mv _ vs _ hl hq hd=>exact .mv f vs us hl hq fun i u a p q=>(one u a (ha a (List.mem_of_getElem? q))).2 (hd i u a p q)⟩
 | _=>simp [AV.isDat] at ha
theorem some_is {α:Type} {o:Option α} {a:α} (h:o=some a):o.isSome=true:=by rw [h]; rfl
theorem Like.up {ρ:Nat→Nat} {k:Nat} {Γ Γ':Ctx} (h:Like D ρ k Γ Γ') {v:Value} {a:AV} (ha:a.inB k=true):RepA D Γ v a↔RepA D Γ' v (a.ren ρ):=by
 have hp:∀ (u:Value) l o,l < k→(RepA D Γ u (.ptr l o)↔RepA D Γ' u (.ptr (ρ l) o)):=fun u l o hl =>
  ⟨fun x=>by cases x with | ptr _ _ b cs h1 h2=>exact .ptr (ρ l) o b cs ((h.lk l hl).trans h1) ((h.S l hl (some_is h1)).trans h2),
   fun x=>by cases x with | ptr _ _ b cs h1 h2=>exact .ptr l o b cs ((h.lk l hl).symm.trans h1) ((h.S l hl (some_is ((h.lk l hl).symm.trans h1))).symm.trans h2)⟩
 have hfn:∀ (v:Value) (f:Nat) (cap:List AV),(∀ a∈cap,AV.in1 k a=true)→(RepA D Γ v (.fn f cap)↔RepA D Γ' v (.fn f (cap.map (AV.ren1 ρ)))):=by
  intro v f cap ha
  have one:∀ (u:Value) (a:AV),AV.in1 k a=true→(RepA D Γ u a↔RepA D Γ' u (a.ren1 ρ)):=by
   intro u a ha
   cases a with
   | ptr l o=>exact hp u l o (by simpa [AV.in1] using ha)
   | c d=>exact ⟨fun x=>by cases x with | c hd=>exact .c (h.repD hd),fun x=>by cases x with | c hd=>exact .c (h.repD' hd)⟩
   | _=>simp [AV.in1] at ha
  constructor
  · intro x
    cases x with
    | fn _ vs _ hl hd =>
     refine .fn f vs _ (by simp [hl]) fun i u a p q=>?_
     rw [List.getElem?_map] at q
     cases hc:cap[i]? with
     | none=>rw [hc] at q; cases q
     | some a'=>rw [hc] at q; cases q; exact (one u a' (ha a' (List.mem_of_getElem? hc))).1 (hd i u a' p hc)
  · intro x
    generalize hcap:AV.fn f (cap.map (AV.ren1 ρ))=y at x
    cases x with
    | fn _ vs cap' hl hd =>
     cases hcap
     refine .fn f vs _ (by simpa using hl) fun i u a p q=>?_
     exact (one u a (ha a (List.mem_of_getElem? q))).2 (hd i u (a.ren1 ρ) p (by rw [List.getElem?_map,q]; rfl))
    | _=>cases hcap
 cases a with
 | vec l n =>
  have hl:l < k:=by simpa [AV.inB] using ha
  constructor
  · intro x
    cases x with
    | vnil _ t h1 h2=>exact .vnil (ρ l) t ((h.lk l hl).trans h1) ((h.S l hl (some_is h1)).trans h2)
    | vec _ _ cap b t ti xs arr h1 h2 h3 h4 h5 h6 h7=>exact .vec (ρ l) n cap b t ti xs arr ((h.lk l hl).trans h1) h2 ((h.S l hl (some_is h1)).trans h3) h4 (by rw [h.w]; exact h5) h6 h7
    | fvec _ _ xs h1 h2 h3=>exact .fvec (ρ l) n xs ((h.lk l hl).trans h1) (h.repD h2) h3
    | gone _ _ h1=>exact .gone (ρ l) n ((h.lk l hl).trans h1)
  · intro x
    have hs:∀ {o},Gev.lk Γ'.objs (ρ l)=some o→Gev.lk Γ.objs l=some o:=fun h1=>(h.lk l hl).symm.trans h1
    cases x with
    | vnil _ t h1 h2=>exact .vnil l t (hs h1) ((h.S l hl (some_is (hs h1))).symm.trans h2)
    | vec _ _ cap b t ti xs arr h1 h2 h3 h4 h5 h6 h7=>exact .vec l n cap b t ti xs arr (hs h1) h2 ((h.S l hl (some_is (hs h1))).symm.trans h3) h4 (by rw [h.w] at h5; exact h5) h6 h7
    | fvec _ _ xs h1 h2 h3=>exact .fvec l n xs (hs h1) (h.repD' h2) h3
    | gone _ _ h1=>exact .gone l n (hs h1)
 | ptr l o=>exact hp v l o (by simpa [AV.inB] using ha)
 | vptr l i o =>
  have hl:l < k:=by simpa [AV.inB] using ha
  have hs:∀ {o},Gev.lk Γ'.objs (ρ l)=some o→Gev.lk Γ.objs l=some o:=fun h1=>(h.lk l hl).symm.trans h1
  constructor
  · intro x
    cases x with
    | vptr _ _ _ b t ti xs h1 h2 h3 h4=>exact .vptr (ρ l) i o b t ti xs ((h.lk l hl).trans h1) h2 ((h.S l hl (some_is h1)).trans h3) h4
    | fptr _ _ _ a xs x h1 h2 h3 h4 h5=>exact .fptr (ρ l) i o a xs x ((h.lk l hl).trans h1) h2 (by rw [h.w]; exact h3) (fun e=>h4 ((h.own _).1 e)) fun j d hj=>(h5 j d hj).imp fun u e=>⟨by rw [h.w]; exact e.1,h.repD e.2⟩
    | pgone _ _ _ h1=>exact .pgone (ρ l) i o ((h.lk l hl).trans h1)
  · intro x
    cases x with
    | vptr _ _ _ b t ti xs h1 h2 h3 h4=>exact .vptr l i o b t ti xs (hs h1) h2 ((h.S l hl (some_is (hs h1))).symm.trans h3) h4
    | fptr _ _ _ a xs x h1 h2 h3 h4 h5=>exact .fptr l i o a xs x (hs h1) h2 (by rw [h.w] at h3; exact h3) (fun e=>h4 ((h.own _).2 e)) fun j d hj=>(h5 j d hj).imp fun u e=>⟨by rw [← h.w]; exact e.1,h.repD' e.2⟩
    | pgone _ _ _ h1=>exact .pgone l i o (hs h1)
 | fn f cap =>
  simp only [AV.inB,List.all_eq_true] at ha
  exact hfn v f cap ha
 | frow vs =>
  simp only [AV.inB,List.all_eq_true] at ha
  have one:∀ (u:Value) (a:AV),AV.in2 k a=true→(RepA D Γ u a↔RepA D Γ' u (a.ren2 ρ)):=by
   intro u a ha
   cases a with
   | fn f cap=>exact hfn u f cap (by simpa [AV.in2] using ha)
   | _=>simp [AV.in2] at ha
  constructor
  · intro x
    cases x with
    | frow a n cap _ hs ho hl us hu hc hd =>
     refine .frow a n cap _ (by rw [h.w]; exact hs) (fun e=>ho ((h.own _).1 e)) (by rw [List.length_map]; exact hl) us hu (fun j u hj=>by rw [h.w]; exact hc j u hj) fun i u a p q=>?_
     rw [List.getElem?_map] at q
     obtain ⟨a',e1,rfl⟩:=Option.map_eq_some_iff.1 q
     exact (one u a' (ha a' (List.mem_of_getElem? e1))).1 (hd i u a' p e1)
  · intro x
    generalize hvs:AV.ren ρ (.frow vs)=y at x
    cases x with
    | frow a n cap vs' hs ho hl us hu hc hd =>
     cases hvs
     refine .frow a n cap _ (by rw [h.w] at hs; exact hs) (fun e=>ho ((h.own _).2 e)) (by rw [List.length_map] at hl; exact hl) us hu (fun j u hj=>by rw [← h.w]; exact hc j u hj) fun i u a p q=>?_
     exact (one u a (ha a (List.mem_of_getElem? q))).2 (hd i u (a.ren2 ρ) p (by rw [List.getElem?_map,q]; rfl))
    | _=>cases hvs
 | c d=>exact h.dat rfl
 | undef=>exact h.dat rfl
 | agg cs=>exact h.dat rfl
 | nils=>exact h.dat rfl
 | tup us=>exact h.dat ha
 | mv f us=>exact h.dat ha
 | eptr cs=>simp [AV.inB,AV.isDat] at ha
 | frp v=>simp [AV.inB,AV.isDat] at ha
theorem Like.ob {ρ:Nat→Nat} {k:Nat} {Γ Γ':Ctx} (h:Like D ρ k Γ Γ') {i:Nat} (hi:i < k) {o:Ob} (ho:o.plain=true) (hl:Gev.lk Γ.objs i=some o):ObRep D Γ i o↔ObRep D Γ' (ρ i) o:=by
 have hS:=h.S i hi (some_is hl)
 cases o with
 | cells cs =>
  simp only [Ob.plain,List.all_eq_true] at ho
  have one:∀ (u:Value) (a:AV),(match a with | .c _ | .nils=>true | _=>false)=true→(RepA D Γ u a↔RepA D Γ' u a):=by
   intro u a ha
   cases a with
   | c d=>exact h.dat rfl
   | nils=>exact h.dat rfl
   | _=>simp at ha
  constructor
  · rintro ⟨b,arr,ty,h1,h2,h3,h4⟩
    exact ⟨b,arr,ty,hS.trans h1,by rw [h.w]; exact h2,h3,fun j v u p q=>(one u v (ho v (List.mem_of_getElem? p))).1 (h4 j v u p q)⟩
  · rintro ⟨b,arr,ty,h1,h2,h3,h4⟩
    exact ⟨b,arr,ty,hS.symm.trans h1,by rw [h.w] at h2; exact h2,h3,fun j v u p q=>(one u v (ho v (List.mem_of_getElem? p))).2 (h4 j v u p q)⟩
 | vec t xs =>
  constructor
  · rintro ⟨ti,h0,h1,⟨h2,h3⟩ | ⟨b,arr,cap,h2,h3,h4,h5,h6⟩⟩
    · exact ⟨ti,h0,h1,.inl ⟨hS.trans h2,h3⟩⟩
    · exact ⟨ti,h0,h1,.inr ⟨b,arr,cap,hS.trans h2,by rw [h.w]; exact h3,h4,h5,fun i x j d u p q r=>h.repD (h6 i x j d u p q r)⟩⟩
  · rintro ⟨ti,h0,h1,⟨h2,h3⟩ | ⟨b,arr,cap,h2,h3,h4,h5,h6⟩⟩
    · exact ⟨ti,h0,h1,.inl ⟨hS.symm.trans h2,h3⟩⟩
    · exact ⟨ti,h0,h1,.inr ⟨b,arr,cap,hS.symm.trans h2,by rw [h.w] at h3; exact h3,h4,h5,fun i x j d u p q r=>h.repD' (h6 i x j d u p q r)⟩⟩
 | fro xs=>exact Iff.rfl
 | dead=>exact Iff.rfl
open Classical in
theorem RunOk.frame {f:Nat} {args:List AV} {sm sm':Objs} {r:AV} (h:RunOk P D B0 Gd f args sm r sm') (ρ:Nat→Nat) (big big':Objs)
    (inj:∀ i j,i < sm'.length→j < sm'.length→ρ i=ρ j→i=j) (hlen:sm.length≤sm'.length)
    (a1:∀ i,i < sm.length→lk big (ρ i)=lk sm i) (a2:∀ i,sm.length≤i→i < sm'.length→lk big (ρ i)=none)
    (a3:∀ i,i < sm'.length→lk big' (ρ i)=lk sm' i) (a4:∀ l,(∀ i,i < sm'.length→ρ i≠l)→lk big' l=lk big l)
    (s1:∀ i o,lk sm i=some o→o.plain=true) (s2:∀ i o,lk sm' i=some o→o.plain=true)
    (hargs:∀ a∈args,a.inB sm.length=true) (hr:r.inB sm'.length=true) :
    RunOk P D B0 Gd f (args.map (AV.ren ρ)) big (r.ren ρ) big':=by
 refine ⟨h.enters,fun Γ cargs hΓ hG hl ha=>?_⟩
 subst hΓ
 obtain ⟨M0,hM0⟩:∃ M0:Nat→Prop,M0=fun b=>∃ i o,i < sm.length∧lk sm i=some o∧o.live=true∧Γ.S (ρ i)=some b:=⟨_,rfl⟩
 obtain ⟨Γ0,hΓ0⟩:∃ Γ0:Ctx,Γ0=⟨⟨fun i=>if i < sm.length then Γ.S (ρ i) else none,fun b=>Γ.own b∧¬ M0 b⟩,sm,Γ.w⟩:=⟨_,rfl⟩
 have hm0:∀ b,Γ0.mine b↔M0 b:=by
  intro b; rw [hΓ0,hM0]
  constructor
  · rintro ⟨i,o,h1,h2,h3⟩
    have hi:=lk_lt h1
    simp only [if_pos hi] at h3
    exact ⟨i,o,hi,h1,h2,h3⟩
  · rintro ⟨i,o,hi,h1,h2,h3⟩
    exact ⟨i,o,h1,h2,by simp only [if_pos hi]; exact h3⟩
 have hM:∀ b,M0 b→Γ.mine b:=by
  rw [hM0]; rintro b ⟨i,o,hi,h1,h2,h3⟩
  exact ⟨ρ i,o,(a1 i hi).trans h1,h2,h3⟩
 have hown:∀ b,Γ.own b↔Γ0.own b:=by
  intro b
  constructor
  · intro hb
    by_cases c:M0 b
    · exact .inr ((hm0 b).2 c)
    · exact .inl (by rw [hΓ0]; exact ⟨hb,c⟩)
  · rintro (hb | hb)
    · rw [hΓ0] at hb; exact hb.1
    · exact .inr (hM b ((hm0 b).1 hb))
 have hk:Like D ρ sm.length Γ0 Γ:=⟨by rw [hΓ0],hown,fun i hi=>by rw [hΓ0]; exact a1 i hi,fun i hi _=>by rw [hΓ0]; simp [hi]⟩
 have hlive:∀ b,Γ.mine b→¬ M0 b→∃ l o,lk Γ.objs l=some o∧o.live=true∧Γ.S l=some b∧∀ i,i < sm'.length→ρ i≠l:=by
  rintro b ⟨l,o,h1,h2,h3⟩ hn
  refine ⟨l,o,h1,h2,h3,fun i hi e=>?_⟩
  subst e
  by_cases c:i < sm.length
  · exact hn (by rw [hM0]; exact ⟨i,o,c,(a1 i c).symm.trans h1,h2,h3⟩)
  · rw [a2 i (by omega) hi] at h1; cases h1
 have hG0:Good D B0 Gd Γ0:=by
  have hob:Γ0.objs=sm:=by rw [hΓ0]
  refine ⟨fun i o hi=>?_,fun i j o o' b hi hj l1 l2 e1 e2=>?_,fun b hb=>hG.own b ((hown b).2 hb),fun b hb=>?_,by rw [hΓ0]; exact hG.size,by rw [hΓ0]; exact hG.gd⟩
  · rw [hob] at hi
    have hil:=lk_lt hi
    exact (hk.ob hil (s1 i o hi) (by rw [hob]; exact hi)).2 (hG.ob (ρ i) o ((a1 i hil).trans hi))
  · rw [hob] at hi hj
    have hil:=lk_lt hi
    have hjl:=lk_lt hj
    refine inj i j (by omega) (by omega) (hG.inj (ρ i) (ρ j) o o' b ((a1 i hil).trans hi) ((a1 j hjl).trans hj) l1 l2 ?_ ?_)
    · rw [hΓ0] at e1; simpa [hil] using e1
    · rw [hΓ0] at e2; simpa [hjl] using e2
  · have hb':Γ.own b∧¬ M0 b:=by rw [hΓ0] at hb; exact hb
    exact ⟨by rw [hk.w.symm]; exact own_lt hG b hb'.1,fun hm=>hb'.2 ((hm0 b).1 hm)⟩
 have hob0:Γ0.objs=sm:=by rw [hΓ0]
 have ha0:∀ (i:Nat) v a,cargs[i]?=some v→args[i]?=some a→RepA D Γ0 v a:=fun i v a hv hai =>
  (hk.up (hargs a (List.mem_of_getElem? hai))).2 (ha i v (a.ren ρ) hv (by rw [List.getElem?_map,hai]; rfl))
 have hc:=h.calls Γ0 cargs hob0 hG0 (by simpa using hl) ha0
 rw [hk.w]
 refine Calls.mono hc ?_
 rintro e w' ⟨v,Γ1,rfl,k1,rfl,k2,k3,k4⟩
 obtain ⟨Γ',hΓ'⟩:∃ Γ':Ctx,Γ'=⟨⟨fun l=>if c:∃ i,i < sm'.length∧ρ i=l then Γ1.S (choose c) else Γ.S l,Γ.S.ext⟩,big',Γ1.w⟩:=⟨_,rfl⟩
 have hS1:∀ i,i < sm'.length→Γ'.S (ρ i)=Γ1.S i:=by
  intro i hi
  have c:∃ j,j < sm'.length∧ρ j=ρ i:=⟨i,hi,rfl⟩
  rw [hΓ']
  simp only [dif_pos c]
  congr 1
  exact inj _ _ (choose_spec c).1 hi (choose_spec c).2
 have hS2:∀ l,(∀ i,i < sm'.length→ρ i≠l)→Γ'.S l=Γ.S l:=by
  intro l hn
  rw [hΓ']
  simp only
  rw [dif_neg (fun ⟨i,hi,e⟩=>hn i hi e)]
 have hob':Γ'.objs=big':=by rw [hΓ']
 have hw':Γ'.w=Γ1.w:=by rw [hΓ']
 have hL2:∀ l,(∀ i,i < sm'.length→ρ i≠l)→lk Γ'.objs l=lk Γ.objs l:=fun l hn=>by rw [hob']; exact a4 l hn
 have oth:∀ b,Γ.mine b→¬ M0 b→Γ'.mine b:=by
  intro b hb hn
  obtain ⟨l,o,h1,h2,h3,h4⟩:=hlive b hb hn
  exact ⟨l,o,(hL2 l h4).trans h1,h2,(hS2 l h4).trans h3⟩
 have hmine:∀ b,Γ'.mine b→Γ1.mine b∨(Γ.mine b∧¬ M0 b):=by
  rintro b ⟨l,o,h1,h2,h3⟩
  by_cases c:∃ i,i < sm'.length∧ρ i=l
  · obtain ⟨i,hi,rfl⟩:=c
    rw [hob',a3 i hi] at h1
    rw [hS1 i hi] at h3
    exact .inl ⟨i,o,by rw [k1]; exact h1,h2,h3⟩
  · have hn:∀ i,i < sm'.length→ρ i≠l:=fun i hi e=>c ⟨i,hi,e⟩
    rw [hL2 l hn] at h1
    rw [hS2 l hn] at h3
    refine .inr ⟨⟨l,o,h1,h2,h3⟩,?_⟩
    rw [hM0]
    rintro ⟨i,o',hi,g1,g2,g3⟩
    exact hn i (by omega) (hG.inj (ρ i) l o' o b ((a1 i hi).trans g1) h1 g2 h2 g3 h3)
 have hmine1:∀ b,Γ1.mine b→Γ'.mine b:=by
  rintro b ⟨i,o,h1,h2,h3⟩
  rw [k1] at h1
  have hi:=lk_lt h1
  exact ⟨ρ i,o,by rw [hob',a3 i hi]; exact h1,h2,(hS1 i hi).trans h3⟩
 have hext0:∀ b,Γ0.S.ext b↔Γ.own b∧¬ M0 b:=fun b=>by rw [hΓ0]
 have hown':∀ b,Γ'.own b↔Γ1.own b:=by
  intro b
  constructor
  · rintro (hb | hb)
    · have hb':Γ.S.ext b:=by rw [hΓ'] at hb; exact hb
      have:Γ0.S.ext b:=(hext0 b).2 ⟨.inl hb',fun hm=>(hG.ext b hb').2 (hM b hm)⟩
      exact .inl (by rw [k3.ext]; exact this)
    · rcases hmine b hb with h1 | ⟨h1,h2⟩
      · exact .inr h1
      · exact .inl (by rw [k3.ext]; exact (hext0 b).2 ⟨.inr h1,h2⟩)
  · rintro (hb | hb)
    · rw [k3.ext] at hb
      obtain ⟨h1,h2⟩:=(hext0 b).1 hb
      rcases h1 with h1 | h1
      · exact .inl (by rw [hΓ']; exact h1)
      · exact .inr (oth b h1 h2)
    · exact .inr (hmine1 b hb)
 have hk':Like D ρ sm'.length Γ1 Γ':=⟨hw',hown',fun i hi=>by rw [hob',k1]; exact a3 i hi,fun i hi _=>hS1 i hi⟩
 have hkept:Kept Γ.mine Γ.w Γ'.w:=by
  rw [hw',hk.w]
  exact k3.kept.mono fun b hb=>hM b ((hm0 b).1 hb)
 have hkept0:∀ b,b < Γ.w.heap.size→¬ M0 b→Γ'.w.heap[b]?=Γ.w.heap[b]?:=fun b hb hn=>by
  rw [hw',hk.w]
  exact k3.kept.heap b (by rw [← hk.w]; exact hb) fun hm=>hn ((hm0 b).1 hm)
 have hmine':∀ b,Γ'.mine b→Γ.mine b∨Γ.w.heap.size≤b:=fun b hb=>by
  rcases hmine b hb with h1 | ⟨h1,_⟩
  · rcases k3.mine b h1 with h2 | h2
    · exact .inl (hM b ((hm0 b).1 h2))
    · exact .inr (by rw [hk.w]; exact h2)
  · exact .inl h1
 have hextE:Γ'.S.ext=Γ.S.ext:=by rw [hΓ']
 have hTown:∀ b,Γ'.own b→Γ.own b∨Γ.w.heap.size≤b:=Ctx.own_of hextE hmine'
 have hd:∀ v d,RepD Γ.w Γ.own v d→RepD Γ'.w Γ'.own v d:=fun v d hv=>hv.mono hkept.up fun b hb ho=>(hTown b ho).resolve_right (by omega)
 have blk:∀ l o b,(∀ i,i < sm'.length→ρ i≠l)→lk Γ.objs l=some o→o.live=true→Γ.S l=some b→Γ'.w.heap[b]?=Γ.w.heap[b]?:=by
  intro l o b hn h1 h2 h3
  refine hkept0 b (own_lt hG b (.inr ⟨l,o,h1,h2,h3⟩)) ?_
  rw [hM0]
  rintro ⟨i,o',hi,g1,g2,g3⟩
  exact hn i (by omega) (hG.inj (ρ i) l o' o b ((a1 i hi).trans g1) h1 g2 h2 g3 h3)
 have hT:Tr D Γ Γ':=by
  refine ⟨hkept,hextE,hmine',fun l cs h1=>?_,fun v l len hv=>?_,fun v l i off hv=>?_⟩
  · by_cases c:∃ i,i < sm'.length∧ρ i=l
    · obtain ⟨i,hi,rfl⟩:=c
      have hi0:i < sm.length:=by
       rcases Nat.lt_or_ge i sm.length with h2 | h2
       · exact h2
       · rw [a2 i h2 hi] at h1; cases h1
      rw [a1 i hi0] at h1
      obtain ⟨cs',g1,g2⟩:=k3.ptr i cs (by rw [hob0]; exact h1)
      refine ⟨cs',by rw [hob',a3 i hi,← k1]; exact g1,?_⟩
      rw [hS1 i hi,g2]
      exact (hk.S i hi0 (by rw [hob0]; exact some_is h1)).symm
    · have hn:∀ i,i < sm'.length→ρ i≠l:=fun i hi e=>c ⟨i,hi,e⟩
      exact ⟨cs,(hL2 l hn).trans h1,hS2 l hn⟩
  · by_cases c:∃ i,i < sm'.length∧ρ i=l
    · obtain ⟨i,hi,rfl⟩:=c
      have hi0:i < sm.length:=by
       rcases Nat.lt_or_ge i sm.length with h2 | h2
       · exact h2
       · cases hv with
         | vnil _ _ h1=>rw [a2 i h2 hi] at h1; cases h1
         | vec _ _ _ _ _ _ _ _ h1=>rw [a2 i h2 hi] at h1; cases h1
         | fvec _ _ _ h1=>rw [a2 i h2 hi] at h1; cases h1
         | gone _ _ h1=>rw [a2 i h2 hi] at h1; cases h1
      have h0:=(hk.up (a:=.vec i len) (by simpa [AV.inB] using hi0)).2 hv
      exact (hk'.up (a:=.vec i len) (by simpa [AV.inB] using hi)).1 (k3.vec v i len h0)
    · have hn:∀ i,i < sm'.length→ρ i≠l:=fun i hi e=>c ⟨i,hi,e⟩
      exact RepA.vec_same hd (hL2 l hn) (hS2 l hn) (fun b t xs h1 h2=>blk l (.vec t xs) b hn h1 rfl h2) hv
  · by_cases c:∃ j,j < sm'.length∧ρ j=l
    · obtain ⟨j,hj,rfl⟩:=c
      have hj0:j < sm.length:=by
       rcases Nat.lt_or_ge j sm.length with h2 | h2
       · exact h2
       · cases hv with
         | vptr _ _ _ _ _ _ _ h1=>rw [a2 j h2 hj] at h1; cases h1
         | fptr _ _ _ _ _ _ h1=>rw [a2 j h2 hj] at h1; cases h1
         | pgone _ _ _ h1=>rw [a2 j h2 hj] at h1; cases h1
      have h0:=(hk.up (a:=.vptr j i off) (by simpa [AV.inB] using hj0)).2 hv
      exact (hk'.up (a:=.vptr j i off) (by simpa [AV.inB] using hj)).1 (k3.vptr v j i off h0)
    · have hn:∀ i,i < sm'.length→ρ i≠l:=fun i hi e=>c ⟨i,hi,e⟩
      exact RepA.vptr_same (fun a d _ h2 ⟨u,h3,h4⟩=>⟨u,hkept.up.cell h3 h2,hd u d h4⟩) hkept.size (fun x hx hno h'=>(hTown x h').elim hno (fun h5=>by omega)) (hL2 l hn) (hS2 l hn) hv
 have hG':Good D B0 Gd Γ':=by
  refine ⟨fun l o h1=>?_,fun l l' o o' b h1 h2 l1 l2 e1 e2=>?_,fun b hb=>k2.own b ((hown' b).1 hb),fun b hb=>?_,by rw [hw']; exact k2.size,by rw [hw']; exact k2.gd⟩
  · by_cases c:∃ i,i < sm'.length∧ρ i=l
    · obtain ⟨i,hi,rfl⟩:=c
      rw [hob',a3 i hi] at h1
      exact (hk'.ob hi (s2 i o h1) (by rw [k1]; exact h1)).1 (k2.ob i o (by rw [k1]; exact h1))
    · have hn:∀ i,i < sm'.length→ρ i≠l:=fun i hi e=>c ⟨i,hi,e⟩
      rw [hL2 l hn] at h1
      exact ObRep.same hT (hS2 l hn) (fun b h2 h3=>blk l o b hn h1 h2 h3) (hG.ob l o h1)
  · -- two objects at one block
    have key:∀ i l o o',i < sm'.length→(∀ j,j < sm'.length→ρ j≠l)→lk Γ'.objs (ρ i)=some o→lk Γ'.objs l=some o'→o.live=true→o'.live=true→Γ'.S (ρ i)=some b→Γ'.S l=some b→False:=by
     intro i l o o' hi hn h1 h2 l1 l2 e1 e2
     rw [hob',a3 i hi,← k1] at h1
     rw [hS1 i hi] at e1
     rw [hL2 l hn] at h2
     rw [hS2 l hn] at e2
     have hmb:Γ.mine b:=⟨l,o',h2,l2,e2⟩
     have hnM:¬ M0 b:=by
      rw [hM0]
      rintro ⟨j,o2,hj,g1,g2,g3⟩
      exact hn j (by omega) (hG.inj (ρ j) l o2 o' b ((a1 j hj).trans g1) h2 g2 l2 g3 e2)
     have:Γ1.S.ext b:=by rw [k3.ext]; exact (hext0 b).2 ⟨.inr hmb,hnM⟩
     exact (k2.ext b this).2 ⟨i,o,h1,l1,e1⟩
    by_cases c:∃ i,i < sm'.length∧ρ i=l
    · obtain ⟨i,hi,rfl⟩:=c
      by_cases c':∃ j,j < sm'.length∧ρ j=l'
      · obtain ⟨j,hj,rfl⟩:=c'
        rw [hob',a3 i hi,← k1] at h1
        rw [hob',a3 j hj,← k1] at h2
        rw [hS1 i hi] at e1
        rw [hS1 j hj] at e2
        rw [k2.inj i j o o' b h1 h2 l1 l2 e1 e2]
      · exact (key i l' o o' hi (fun j hj e=>c' ⟨j,hj,e⟩) h1 h2 l1 l2 e1 e2).elim
    · have hn:∀ i,i < sm'.length→ρ i≠l:=fun i hi e=>c ⟨i,hi,e⟩
      by_cases c':∃ j,j < sm'.length∧ρ j=l'
      · obtain ⟨j,hj,rfl⟩:=c'
        exact (key j l o' o hj hn h2 h1 l2 l1 e2 e1).elim
      · have hn':∀ i,i < sm'.length→ρ i≠l':=fun i hi e=>c' ⟨i,hi,e⟩
        rw [hL2 l hn] at h1
        rw [hL2 l' hn'] at h2
        rw [hS2 l hn] at e1
        rw [hS2 l' hn'] at e2
        exact hG.inj l l' o o' b h1 h2 l1 l2 e1 e2
  · exact hT.extOk hG.ext b hb
 exact ⟨v,Γ',rfl,hob',hw',hG',hT,(hk'.up hr).1 k4⟩
end Gev
namespace Gev
open Go
variable {P:Program} {D:Tab} {B0:Nat} {Gd:World→Prop}
theorem ren_dat {ρ:Nat→Nat} {a:AV} (h:a.isDat=true):a.ren ρ=a:=by
 cases a <;> simp [AV.isDat] at h <;> rfl
theorem inB_dat {k:Nat} {a:AV} (h:a.isDat=true):a.inB k=true:=by
 cases a <;> simp [AV.isDat] at h <;> simp [AV.inB,AV.isDat] <;> exact h
theorem map_ren_dat {ρ:Nat→Nat} {args:List AV} (h:args.all AV.isDat=true):args.map (AV.ren ρ)=args:=by
 simp only [List.all_eq_true] at h
 exact (List.map_congr_left fun a ha=>ren_dat (h a ha)).trans (List.map_id _)
theorem lk_nil (l:Nat):lk [] l=none:=by simp [lk]
theorem lk_app_lt {objs more:Objs} {l:Nat} (h:l < objs.length):lk (objs++more) l=lk objs l:=by
 unfold lk; rw [List.getD_eq_getElem?_getD,List.getD_eq_getElem?_getD,List.getElem?_append_left h]
theorem lk_app_new {objs:Objs} {o:Option Ob}:lk (objs++[o]) objs.length=o:=by
 unfold lk; rw [List.getD_eq_getElem?_getD,List.getElem?_append_right (Nat.le_refl _)]; simp
theorem lk_ge {objs:Objs} {l:Nat} (h:objs.length≤l):lk objs l=none:=by
 unfold lk; rw [List.getD_eq_getElem?_getD,List.getElem?_eq_none h]; rfl
theorem RunOk.data {f:Nat} {args:List AV} {r:AV} (h:RunOk P D B0 Gd f args [] r []) (ha:args.all AV.isDat=true) (hr:r.isDat=true) (objs:Objs):RunOk P D B0 Gd f args objs r objs:=by
 have:=h.frame id objs objs (fun i j hi _ _=>by simp at hi) (Nat.le_refl _) (fun i hi=>by simp at hi) (fun i _ hi=>by simp at hi) (fun i hi=>by simp at hi) (fun _ _=>rfl)
  (fun i o hi=>by rw [lk_nil] at hi; cases hi) (fun i o hi=>by rw [lk_nil] at hi; cases hi) (fun a hx=>inB_dat (by simp only [List.all_eq_true] at ha; exact ha a hx)) (inB_dat hr)
 rwa [map_ren_dat ha,ren_dat hr] at this
theorem RunOk.new {f:Nat} {args:List AV} {n:Nat} {o:Ob} (h:RunOk P D B0 Gd f args [] (.vec 0 n) [some o]) (ha:args.all AV.isDat=true) (ho:o.plain=true) (objs:Objs):RunOk P D B0 Gd f args objs (.vec objs.length n) (objs++[some o]):=by
 have h1:∀ (i:Nat) o',lk [some o] i=some o'→o'=o:=by
  intro i o' hi
  have:=lk_lt hi
  simp at this; subst this
  exact (Option.some.inj hi).symm
 have:=h.frame (fun _=>objs.length) objs (objs++[some o]) (fun i j hi hj _=>by simp at hi hj; omega) (by simp) (fun i hi=>by simp at hi) (fun i _ hi=>lk_ge (Nat.le_refl _))
  (fun i hi=>by simp at hi; subst hi; exact lk_app_new) (fun l hl=>by
   have hne:objs.length≠l:=hl 0 (by simp)
   rcases Nat.lt_or_ge l objs.length with c | c
   · exact lk_app_lt c
   · rw [lk_ge c,lk_ge (by simp; omega)])
  (fun i o hi=>by rw [lk_nil] at hi; cases hi) (fun i o' hi=>by rw [h1 i o' hi]; exact ho) (fun a hx=>inB_dat (by simp only [List.all_eq_true] at ha; exact ha a hx)) (by simp [AV.inB])
 rwa [map_ren_dat ha] at this
theorem RunOk.newAt {f:Nat} {args:List AV} {n:Nat} {o:Ob} (h:RunOk P D B0 Gd f args [] (.vec 0 n) [some o]) (ha:args.all AV.isDat=true) (ho:o.plain=true) {objs:Objs} {fr:Nat} (hl:fr < objs.length) (hn:lk objs fr=none):RunOk P D B0 Gd f args objs (.vec fr n) (objs.set fr (some o)):=by
 have h1:∀ (i:Nat) o',lk [some o] i=some o'→o'=o:=by
  intro i o' hi
  have:=lk_lt hi
  simp at this; subst this
  exact (Option.some.inj hi).symm
 have:=h.frame (fun _=>fr) objs (objs.set fr (some o)) (fun i j hi hj _=>by simp at hi hj; omega) (by simp) (fun i hi=>by simp at hi) (fun i _ hi=>hn)
  (fun i hi=>by simp at hi; subst hi; rw [lk_set hl,if_pos rfl]; rfl) (fun l hx=>by
   have hne:fr≠l:=hx 0 (by simp)
   rw [lk_set hl,if_neg (Ne.symm hne)])
  (fun i o hi=>by rw [lk_nil] at hi; cases hi) (fun i o' hi=>by rw [h1 i o' hi]; exact ho) (fun a hx=>inB_dat (by simp only [List.all_eq_true] at ha; exact ha a hx)) (by simp [AV.inB])
 rwa [map_ren_dat ha] at this
theorem all_inB {k:Nat} {args:List AV} (ha:args.all AV.isDat=true) (a:AV) (hx:a∈args):a.inB k=true:=by
 simp only [List.all_eq_true] at ha; exact inB_dat (ha a hx)
theorem RunOk.at {f:Nat} {args:List AV} {n:Nat} {o o':Ob} {r:AV} (h:RunOk P D B0 Gd f (.vec 0 n::args) [some o] r [some o']) (ha:args.all AV.isDat=true) (ho:o.plain=true) (ho':o'.plain=true) (hr:r.inB 1=true) {objs:Objs} {l:Nat} (hl:lk objs l=some o) :
    RunOk P D B0 Gd f (.vec l n::args) objs (r.ren fun _=>l) (objs.set l (some o')):=by
 have h1:∀ (o:Ob) (i:Nat) o',lk [some o] i=some o'→o'=o:=by
  intro o i o' hi
  have:=lk_lt hi
  simp at this; subst this
  exact (Option.some.inj hi).symm
 have hll:=lk_lt hl
 have:=h.frame (fun _=>l) objs (objs.set l (some o')) (fun i j hi hj _=>by simp at hi hj; omega) (by simp) (fun i hi=>by simp at hi; subst hi; exact hl) (fun i h1 h2=>by simp at h1 h2; omega)
  (fun i hi=>by simp at hi; subst hi; rw [lk_set hll,if_pos rfl]; rfl) (fun k hk=>by
   have hne:l≠k:=hk 0 (by simp)
   rw [lk_set hll,if_neg (Ne.symm hne)])
  (fun i x hi=>by rw [h1 _ i x hi]; exact ho) (fun i x hi=>by rw [h1 _ i x hi]; exact ho') (fun a hx=>by
   rcases List.mem_cons.1 hx with rfl | hx
   · simp [AV.inB]
   · exact all_inB ha a hx) hr
 rwa [List.map_cons,map_ren_dat ha] at this
theorem RunOk.sub {f:Nat} {args:List AV} {sm:Objs} {r:AV} (h:RunOk P D B0 Gd f args sm r sm) (ls:List Nat) (hn:ls.Nodup) (hlen:ls.length=sm.length) {objs:Objs} (hs:∀ i,i < sm.length→lk objs (ls.getD i 0)=lk sm i)
    (hp:∀ o∈sm,(match o with | some o=>o.plain | none=>true)=true) (ha:args.all (AV.inB sm.length)=true) (hr:r.inB sm.length=true) :
    RunOk P D B0 Gd f (args.map (AV.ren fun i=>ls.getD i 0)) objs (r.ren fun i=>ls.getD i 0) objs:=by
 have hp':∀ (i:Nat) o,lk sm i=some o→o.plain=true:=by
  intro i o hi
  have hil:=lk_lt hi
  have:sm[i]?=some (some o):=by
   unfold lk at hi
   rw [List.getD_eq_getElem?_getD,List.getElem?_eq_getElem hil] at hi
   rw [List.getElem?_eq_getElem hil]; exact congrArg some hi
  exact hp _ (List.mem_of_getElem? this)
 refine h.frame (fun i=>ls.getD i 0) objs objs (fun i j hi hj e=>?_) (Nat.le_refl _) hs (fun i h1 h2=>by omega) hs (fun _ _=>rfl) hp' hp' (fun a hx=>by simp only [List.all_eq_true] at ha; exact ha a hx) hr
 have e':ls[i]?=ls[j]?:=by
  have e2:=e
  simp only [List.getD_eq_getElem?_getD] at e2
  rw [List.getElem?_eq_getElem (by omega),List.getElem?_eq_getElem (by omega)] at e2 ⊢
  exact congrArg some e2
 exact (List.getElem?_inj (by omega) hn).1 e'
end Gev
namespace Gev
open Go
variable {D:Tab}
theorem bind_intro {α β:Type} {m:M α} {k:α→M β} {os os1 os2:List Orc} {a:α} {b:β} {p q:List Prop} (h1:m os=some (a,os1,p)) (h2:k a os1=some (b,os2,q)):(m >>= k) os=some (b,os2,p++q):=by
 show M.bind m k os=_
 unfold M.bind
 rw [h1]
 simp only
 rw [h2]
def Eff.reads:Eff→List Nat
 | .val _ _ r=>r
 | .call _ _ _ r=>r
 | .tcall _ _=>[]
def AV.at:AV→List Nat
 | .ptr l _=>[l]
 | .vptr l _ _=>[l]
 | .vec l _=>[l]
 | _=>[]
section
variable {lk lk':Nat→Option Ob}
theorem toD_cong {v:AV} (h:∀ l∈v.at,lk' l=lk l):toD lk' v=toD lk v:=by
 cases v with
 | vec l len=>simp only [toD,h l (by simp [AV.at])]
 | _=>rfl
theorem toD_reads {v:AV} {d:DV} {u:Ups} {r:List Nat} (h:toD lk v=some (d,u,r)):∀ l∈v.at,l∈r:=by
 intro l hl
 cases v with
 | vec k len =>
  have e:l=k:=by simpa [AV.at] using hl
  subst e
  simp only [toD] at h
  cases hk:lk l with
  | none=>rw [hk] at h; cases h
  | some o=>rw [hk] at h; cases o <;> cases h <;> simp
 | ptr=>cases h
 | vptr=>cases h
 | _=>simp [AV.at] at hl
theorem toD_loc {v:AV} {d:DV} {u:Ups} {r:List Nat} (h:toD lk v=some (d,u,r)) (hl:∀ l∈r,lk' l=lk l):toD lk' v=some (d,u,r):=by
 rw [toD_cong fun l h'=>hl l (toD_reads h l h')]; exact h
theorem toCells_loc {v:AV} {cs:List DV} {u:Ups} {r:List Nat} (h:toCells lk v=some (cs,u,r)) (hl:∀ l∈r,lk' l=lk l):toCells lk' v=some (cs,u,r):=by
 unfold toCells at h ⊢
 split at h
 · exact h
 · exact h
 · cases hd:toD lk v with
   | none=>rw [hd] at h; cases h
   | some x =>
    obtain ⟨d,u',r'⟩:=x
    rw [hd] at h
    cases h
    rw [toD_loc hd hl]
theorem toData_loc {v a:AV} {u:Ups} {r:List Nat} (h:toData lk v=some (a,u,r)) (hl:∀ l∈r,lk' l=lk l):toData lk' v=some (a,u,r):=by
 unfold toData at h ⊢
 split at h
 · exact h
 · exact h
 · exact h
 · cases hd:toD lk v with
   | none=>rw [hd] at h; cases h
   | some x =>
    obtain ⟨d,u',r'⟩:=x
    rw [hd] at h
    cases h
    rw [toD_loc hd hl]
theorem toDatas_loc:∀ {vs avz:List AV} {u:Ups} {r:List Nat},toDatas lk vs=some (avz,u,r)→(∀ l∈r,lk' l=lk l)→toDatas lk' vs=some (avz,u,r)
 | [],avz,u,r,h,_=>h
 | v::vs,avz,u,r,h,hl=>by
  simp only [toDatas] at h ⊢
  cases h1:toData lk v with
  | none=>rw [h1] at h; cases h
  | some x =>
   cases h2:toDatas lk vs with
   | none=>rw [h1,h2] at h; cases h
   | some y =>
    obtain ⟨d,u1,r1⟩:=x
    obtain ⟨ds,us,rs⟩:=y
    rw [h1,h2] at h
    cases h
    rw [toData_loc h1 fun l hm=>hl l (List.mem_append_left _ hm),toDatas_loc h2 fun l hm=>hl l (List.mem_append_right _ hm)]
theorem rowsOf_loc {v:AV} {xs:List (List DV)} {r:List Nat} (h:rowsOf lk v=some (xs,r)) (hl:∀ l∈r,lk' l=lk l):rowsOf lk' v=some (xs,r):=by
 cases v with
 | vec l len =>
  have hm:l∈r:=by
   simp only [rowsOf] at h
   cases hk:lk l with
   | none=>rw [hk] at h; cases h
   | some o=>rw [hk] at h; cases o <;> cases h <;> simp
  simp only [rowsOf,hl l hm] at h ⊢
  exact h
 | c d=>cases d <;> exact h
 | _=>exact h
theorem fillD_loc {pl:Nat→Option (Nat × Nat)}:∀ {parts:List (Nat × AV)} {cells ds:List DV} {u:Ups} {r:List Nat},fillD pl lk cells parts=some (ds,u,r)→(∀ l∈r,lk' l=lk l)→fillD pl lk' cells parts=some (ds,u,r)
 | [],cells,ds,u,r,h,_=>h
 | (i,v)::parts,cells,ds,u,r,h,hl=>by
  simp only [fillD] at h ⊢
  cases hp:pl i with
  | none=>rw [hp] at h; cases h
  | some os =>
   obtain ⟨off,size⟩:=os
   cases hc:toCells lk v with
   | none=>rw [hp,hc] at h; cases h
   | some cur =>
    obtain ⟨cs,u1,r1⟩:=cur
    rw [hp,hc] at h
    simp only at h
    split at h
    · rename_i hcond
      cases hrest:fillD pl lk (putCells cells off cs) parts with
      | none=>rw [hrest] at h; cases h
      | some dur =>
       obtain ⟨ds',us,rs⟩:=dur
       rw [hrest] at h
       cases h
       rw [toCells_loc hc fun l hm=>hl l (List.mem_append_left _ hm)]
       simp only
       rw [if_pos hcond,fillD_loc hrest fun l hm=>hl l (List.mem_append_right _ hm)]
    · cases h
theorem effLoad_loc {t:Nat} {v:AV} {os:List Orc} {r:Eff × List Orc × List Prop} (h:effLoad D lk t v os=some r) (hl:∀ l∈r.1.reads,lk' l=lk l):effLoad D lk' t v os=some r:=by
 have key:∀ l∈v.at,l∈r.1.reads:=by
  intro l hm
  cases v with
  | ptr k off =>
   have e:l=k:=by simpa [AV.at] using hm
   subst e
   simp only [effLoad] at h
   cases hk:lk l with
   | none=>rw [hk] at h; cases h
   | some o =>
    rw [hk] at h
    cases o with
    | cells cs =>
     obtain ⟨v,os1,p1,b,os2,q,h1,h2,rfl⟩:=bind_some h
     cases pure_some h2
     simp [Eff.reads]
    | _=>cases h
  | vptr k i off =>
   have e:l=k:=by simpa [AV.at] using hm
   subst e
   simp only [effLoad] at h
   cases hk:lk l with
   | none=>rw [hk] at h; cases h
   | some o =>
    rw [hk] at h
    have fin:∀ xs,(do let cs ← elem xs i; let v ← lift (partD D t cs off); pure (Eff.val v [] [l]):M Eff) os=some r→l∈r.1.reads:=by
     intro xs h
     obtain ⟨cs,os1,p1,b,os2,q,h1,h2,rfl⟩:=bind_some h
     obtain ⟨v,os3,p3,b',os4,q',h3,h4,e⟩:=bind_some h2
     cases e
     cases pure_some h4
     simp [Eff.reads]
    cases o with
    | vec t xs=>exact fin xs h
    | fro xs=>exact fin xs h
    | _=>cases h
  | vec=>cases h
  | _=>simp [AV.at] at hm
 cases v with
 | ptr l off=>simp only [effLoad,hl l (key l (by simp [AV.at]))] at h ⊢; exact h
 | vptr l i off=>simp only [effLoad,hl l (key l (by simp [AV.at]))] at h ⊢; exact h
 | _=>exact h
theorem alive_cong {v:AV} (h:∀ l∈v.rd,lk' l=lk l):v.alive lk'=v.alive lk:=by
 cases v with
 | vec l len=>simp only [AV.alive,h l (by simp [AV.rd])]
 | vptr l i off=>simp only [AV.alive,h l (by simp [AV.rd])]
 | _=>rfl
theorem effStore_loc {t:Nat} {v x:AV} {os:List Orc} {r:Eff × List Orc × List Prop} (h:effStore D lk t v x os=some r) (hl:∀ l∈r.1.reads,lk' l=lk l):effStore D lk' t v x os=some r:=by
 cases x with
 | ptr l off =>
  simp only [effStore] at h
  cases hk:lk l with
  | none=>rw [hk] at h; cases h
  | some o =>
   rw [hk] at h
   cases hz:D.size t with
   | none=>rw [hz] at h; cases o <;> cases h
   | some n =>
    rw [hz] at h
    cases o with
    | cells cs =>
     by_cases ha:∃ ds,v=.agg ds
     · obtain ⟨ds,rfl⟩:=ha
       have h':=h
       obtain ⟨_,os1,p1,b,os2,q,h1,h2,rfl⟩:=bind_some h
       cases pure_some h2
       have:=hl l (by simp [Eff.reads])
       simp only [effStore,this,hk,hz]
       exact h'
     · have h':(do sure (v.holds && v.alive lk && n == 1 && decide (off+1≤cs.length)); pure (.val .undef [(l,.cells (cs.set off v))] (l::v.rd)):M Eff) os=some r:=by
        cases v with
        | agg ds=>exact absurd ⟨_,rfl⟩ ha
        | _=>exact h
       obtain ⟨_,os1,p1,b,os2,q,h1,h2,e⟩:=bind_some h'
       have h3:=pure_some h2
       have hr:r.1.reads=l::v.rd:=by rw [e]; cases h3; rfl
       have e1:=hl l (by rw [hr]; simp)
       have e2:=alive_cong (lk:=lk) (lk':=lk') (v:=v) fun k hk=>hl k (by rw [hr]; simp [hk])
       have h4:(do sure (v.holds && v.alive lk' && n == 1 && decide (off+1≤cs.length)); pure (.val .undef [(l,.cells (cs.set off v))] (l::v.rd)):M Eff) os=some r:=by rw [e2]; exact h'
       simp only [effStore,e1,hk,hz]
       cases v with
       | agg ds=>exact absurd ⟨_,rfl⟩ ha
       | _=>exact h4
    | _=>cases h
 | vptr l i off =>
  simp only [effStore] at h
  cases hk:lk l with
  | none=>rw [hk] at h; cases h
  | some o =>
   rw [hk] at h
   cases hz:D.size t with
   | none=>rw [hz] at h; cases o <;> cases h
   | some n =>
    cases hc:toCells lk v with
    | none=>rw [hz,hc] at h; cases o <;> cases h
    | some x =>
     obtain ⟨ds,u,r'⟩:=x
     rw [hz,hc] at h
     cases o with
     | vec e xs =>
      have h':=h
      obtain ⟨cs,os1,p1,b,os2,q,h1,h2,rfl⟩:=bind_some h
      obtain ⟨_,os3,p3,b',os4,q',h3,h4,e⟩:=bind_some h2
      cases e
      cases pure_some h4
      simp only [effStore,hl l (by simp [Eff.reads]),hk,hz,toCells_loc hc fun k hm=>hl k (by simp [Eff.reads,hm])]
      exact h'
     | _=>cases h
 | _=>cases h
theorem effField_loc {t f:Nat} {v:AV} {os:List Orc} {r:Eff × List Orc × List Prop} (h:effField D lk t f v os=some r) (hl:∀ l∈r.1.reads,lk' l=lk l):effField D lk' t f v os=some r:=by
 cases v with
 | vptr l i off =>
  have hm:l∈r.1.reads:=by
   unfold effField at h
   cases hp:fplace D t f with
   | none=>rw [hp] at h; cases h
   | some p =>
    obtain ⟨o,n⟩:=p
    rw [hp] at h
    obtain ⟨_,os1,p1,b,os2,q,h1,h2,rfl⟩:=bind_some h
    simp only at h2
    cases hk:lk l with
    | none=>rw [hk] at h2; cases h2
    | some o=>rw [hk] at h2; cases o <;> first | (cases pure_some h2; simp [Eff.reads]) | cases h2
  simp only [effField,hl l hm] at h ⊢
  exact h
 | _=>exact h
theorem effIndexAddr_loc {t:Nat} {v:AV} {i:Int} {os:List Orc} {r:Eff × List Orc × List Prop} (h:effIndexAddr D lk t v i os=some r) (hl:∀ l∈r.1.reads,lk' l=lk l):effIndexAddr D lk' t v i os=some r:=by
 cases v with
 | vec l len =>
  have hm:l∈r.1.reads:=by
   unfold effIndexAddr at h
   cases ht:D.ty t with
   | none=>rw [ht] at h; cases h
   | some tt =>
    obtain ⟨_,_,u,_⟩:=tt
    rw [ht] at h
    cases u with
    | slice e =>
     simp only at h
     cases hk:lk l with
     | none=>rw [hk] at h; cases h
     | some o =>
      rw [hk] at h
      cases o with
      | vec e' xs =>
       obtain ⟨_,os1,p1,b,os2,q,h1,h2,rfl⟩:=bind_some h
       obtain ⟨_,os3,p3,b',os4,q',h3,h4,e⟩:=bind_some h2
       cases e
       cases pure_some h4
       simp [Eff.reads]
      | fro xs =>
       obtain ⟨_,os1,p1,b,os2,q,h1,h2,rfl⟩:=bind_some h
       obtain ⟨_,os3,p3,b',os4,q',h3,h4,e⟩:=bind_some h2
       cases e
       obtain ⟨_,os5,p5,b5,os6,q5,h5,h6,e⟩:=bind_some h4
       cases e
       cases pure_some h6
       simp [Eff.reads]
      | _=>cases h
    | _=>cases h
  have e:=hl l hm
  unfold effIndexAddr at h ⊢
  cases ht:D.ty t with
  | none=>rw [ht] at h; cases h
  | some tt =>
   obtain ⟨_,_,u,_⟩:=tt
   rw [ht] at h
   cases u <;> first | exact h | (simp only [e]; exact h)
 | c d =>
  cases d <;>
  (unfold effIndexAddr at h ⊢
   cases ht:D.ty t with
   | none=>rw [ht] at h; first | exact h | cases h
   | some tt =>
    obtain ⟨_,_,u,_⟩:=tt
    rw [ht] at h
    cases u <;> first | exact h | cases h)
 | _ =>
  unfold effIndexAddr at h ⊢
  cases ht:D.ty t with
  | none=>rw [ht] at h; first | exact h | cases h
  | some tt =>
   obtain ⟨_,_,u,_⟩:=tt
   rw [ht] at h
   cases u <;> first | exact h | cases h
theorem effSlice_loc {t:Nat} {v:AV} {lo hi:Option Int} {os:List Orc} {r:Eff × List Orc × List Prop} (h:effSlice D lk t v lo hi os=some r) (hl:∀ l∈r.1.reads,lk' l=lk l):effSlice D lk' t v lo hi os=some r:=by
 cases v with
 | vec l len =>
  have hm:l∈r.1.reads:=by
   unfold effSlice at h
   cases ht:D.ty t with
   | none=>rw [ht] at h; cases h
   | some tt =>
    obtain ⟨_,_,u,_⟩:=tt
    rw [ht] at h
    cases u with
    | slice e =>
     simp only at h
     cases he:D.size e with
     | none=>rw [he] at h; cases h
     | some m =>
     rw [he] at h
     simp only at h
     cases lo with
     | none =>
      simp only at h
      cases hk:lk l with
      | none=>rw [hk] at h; cases h
      | some o =>
       rw [hk] at h
       cases o with
       | vec e' xs =>
        obtain ⟨_,os1,p1,b,os2,q,h1,h2,rfl⟩:=bind_some h
        cases pure_some h2
        simp [Eff.reads]
       | fro xs =>
        obtain ⟨_,os1,p1,b,os2,q,h1,h2,rfl⟩:=bind_some h
        cases pure_some h2
        simp [Eff.reads]
       | _=>cases h
     | some lo =>
      simp only at h
      cases hk:lk l with
      | none=>rw [hk] at h; cases h
      | some o =>
       rw [hk] at h
       cases o with
       | vec e' xs =>
        obtain ⟨_,os1,p1,b,os2,q,h1,h2,rfl⟩:=bind_some h
        obtain ⟨_,os3,p3,b',os4,q',h3,h4,e⟩:=bind_some h2
        cases e
        cases pure_some h4
        simp [Eff.reads]
       | fro xs =>
        obtain ⟨_,os1,p1,b,os2,q,h1,h2,rfl⟩:=bind_some h
        cases pure_some h2
        simp [Eff.reads]
       | _=>cases h
    | _=>cases h
  have e:=hl l hm
  unfold effSlice at h ⊢
  cases ht:D.ty t with
  | none=>rw [ht] at h; cases h
  | some tt =>
   obtain ⟨_,_,u,_⟩:=tt
   rw [ht] at h
   cases u <;> first | exact h | (simp only [e]; exact h)
 | c d =>
  cases d <;>
  (unfold effSlice at h ⊢
   cases ht:D.ty t with
   | none=>rw [ht] at h; first | exact h | cases h
   | some tt =>
    obtain ⟨_,_,u,_⟩:=tt
    rw [ht] at h
    cases u <;> first | exact h | cases h)
 | _ =>
  unfold effSlice at h ⊢
  cases ht:D.ty t with
  | none=>rw [ht] at h; first | exact h | cases h
  | some tt =>
   obtain ⟨_,_,u,_⟩:=tt
   rw [ht] at h
   cases u <;> first | exact h | cases h
theorem effConvert_loc {src dst:Nat} {v:AV} {os:List Orc} {r:Eff × List Orc × List Prop} (h:effConvert D lk src dst v os=some r) (hl:∀ l∈r.1.reads,lk' l=lk l):effConvert D lk' src dst v os=some r:=by
 cases v with
 | vec l len =>
  have hm:l∈r.1.reads:=by
   unfold effConvert at h
   cases ht:D.ty src with
   | none=>rw [ht] at h; cases h
   | some tt =>
   cases ht2:D.ty dst with
   | none=>rw [ht,ht2] at h; cases h
   | some tt2 =>
   obtain ⟨_,_,u,_⟩:=tt
   obtain ⟨_,_,u2,_⟩:=tt2
   rw [ht,ht2] at h
   cases u with
   | slice e =>
    cases u2 with
    | str =>
     simp only at h
     cases he:D.ty e with
     | none=>rw [he] at h; cases h
     | some te =>
     cases hr:rowsOf lk (.vec l len) with
     | none =>
      rw [he,hr] at h
      obtain ⟨_,_,ue,_⟩:=te
      cases ue with
      | int k=>cases k <;> cases h
      | _=>cases h
     | some yr =>
      obtain ⟨ys,rr⟩:=yr
      rw [he,hr] at h
      have hm':l∈rr:=by
       simp only [rowsOf] at hr
       cases hk:lk l with
       | none=>rw [hk] at hr; cases hr
       | some o=>rw [hk] at hr; cases o <;> cases hr <;> simp
      obtain ⟨_,_,ue,_⟩:=te
      cases ue with
      | int k =>
       cases k with
       | u8 =>
        obtain ⟨_,os1,p1,b1,os2,q1,h3,h4,rfl⟩:=bind_some h
        cases pure_some h4
        exact hm'
       | _=>cases h
      | _=>cases h
    | _=>cases h
   | _=>cases u2 <;> cases h
  have e:rowsOf lk' (.vec l len)=rowsOf lk (.vec l len):=by simp only [rowsOf,hl l hm]
  unfold effConvert at h ⊢
  cases ht:D.ty src with
  | none=>rw [ht] at h; cases h
  | some tt =>
  cases ht2:D.ty dst with
  | none=>rw [ht,ht2] at h; cases h
  | some tt2 =>
   obtain ⟨_,_,u,_⟩:=tt
   obtain ⟨_,_,u2,_⟩:=tt2
   rw [ht,ht2] at h
   cases u <;> cases u2 <;> first | exact h | (simp only [e]; exact h)
 | c d =>
  cases d <;>
  (unfold effConvert at h ⊢
   cases ht:D.ty src with
   | none=>rw [ht] at h; first | exact h | cases h
   | some tt =>
   cases ht2:D.ty dst with
   | none=>rw [ht,ht2] at h; first | exact h | cases h
   | some tt2 =>
    obtain ⟨_,_,u,_⟩:=tt
    obtain ⟨_,_,u2,_⟩:=tt2
    rw [ht,ht2] at h
    cases u <;> cases u2 <;> first | exact h | cases h)
 | _ =>
  unfold effConvert at h ⊢
  cases ht:D.ty src with
  | none=>rw [ht] at h; first | exact h | cases h
  | some tt =>
  cases ht2:D.ty dst with
  | none=>rw [ht,ht2] at h; first | exact h | cases h
  | some tt2 =>
   obtain ⟨_,_,u,_⟩:=tt
   obtain ⟨_,_,u2,_⟩:=tt2
   rw [ht,ht2] at h
   cases u <;> cases u2 <;> first | exact h | cases h
theorem effAppend_loc {fr t:Nat} {s x:AV} {os:List Orc} {r:Eff × List Orc × List Prop} (h:effAppend D lk fr t s x os=some r) (hl:∀ l∈r.1.reads,lk' l=lk l):effAppend D lk' fr t s x os=some r:=by
 have h0:=h
 unfold effAppend at h
 cases ht:D.ty t with
 | none=>rw [ht] at h; cases h
 | some tt =>
 obtain ⟨sz,by',u,zz⟩:=tt
 rw [ht] at h
 cases u with
 | slice e =>
  cases hrow:rowsOf lk x with
  | none=>rw [hrow] at h; cases h
  | some yr =>
  obtain ⟨ys,rr⟩:=yr
  rw [hrow] at h
  simp only at h
  cases he:D.ty e with
  | none=>rw [he] at h; cases h
  | some ti =>
  rw [he] at h
  obtain ⟨_,os1,p1,b1,os2,q1,h1,h2,rfl⟩:=bind_some h
  obtain ⟨_,os3,p2,b2,os4,q2,h3,h4,e2⟩:=bind_some h2
  cases e2
  cases s with
  | nils =>
   simp only at h4
   obtain ⟨_,os5,p5,b5,os6,q5,h5,h6,e5⟩:=bind_some h4
   cases e5
   cases pure_some h6
   have e:=rowsOf_loc hrow (lk':=lk') fun l hm=>hl l hm
   simp only [effAppend,ht,hrow,e,he] at h0 ⊢
   exact h0
  | vec l len =>
   simp only at h4
   cases hlv:lk l with
   | none=>rw [hlv] at h4; cases h4
   | some ob =>
   rw [hlv] at h4
   cases ob with
   | vec e' xs =>
    simp only at h4
    obtain ⟨_,os5,p5,b5,os6,q5,h5,h6,e5⟩:=bind_some h4
    cases e5
    obtain ⟨_,os7,p7,b7,os8,q7,h7,h8,e7⟩:=bind_some h6
    cases e7
    cases pure_some h8
    have e:=rowsOf_loc hrow (lk':=lk') fun k hm=>hl k (by simp [Eff.reads,hm])
    have e1:=hl l (by simp [Eff.reads])
    simp only [effAppend,ht,hrow,e,he,e1] at h0 ⊢
    exact h0
   | _=>cases h4
  | _=>cases h4
 | _=>cases h
theorem effBuiltin_loc {fr:Nat} {b:Builtin} {ts:Array Nat} {args:List AV} {os:List Orc} {r:Eff × List Orc × List Prop} (h:effBuiltin D lk fr b ts args os=some r) (hl:∀ l∈r.1.reads,lk' l=lk l):effBuiltin D lk' fr b ts args os=some r:=by
 cases b with
 | len =>
  cases args with
  | nil=>exact h
  | cons x xs =>
   cases xs with
   | cons y ys =>
    cases x with
    | c d=>cases d <;> exact h
    | _=>exact h
   | nil =>
    cases x with
    | vec l len =>
     have hm:l∈r.1.reads:=by
      simp only [effBuiltin] at h
      cases ht0:ts[0]? with
      | none=>rw [ht0] at h; cases h
      | some t =>
      rw [ht0] at h
      simp only at h
      cases ht:D.ty t with
      | none=>rw [ht] at h; cases h
      | some tt =>
      obtain ⟨_,_,u,_⟩:=tt
      rw [ht] at h
      cases u with
      | slice e =>
       simp only at h
       cases hk:lk l with
       | none=>rw [hk] at h; cases h
       | some o=>rw [hk] at h; cases o <;> first | (cases pure_some h; simp [Eff.reads]) | cases h
      | _=>cases h
     have e:=hl l hm
     simp only [effBuiltin] at h ⊢
     cases ht0:ts[0]? with
     | none=>rw [ht0] at h; cases h
     | some t =>
     rw [ht0] at h
     simp only at h ⊢
     cases ht:D.ty t with
     | none=>rw [ht] at h; cases h
     | some tt =>
     obtain ⟨_,_,u,_⟩:=tt
     rw [ht] at h
     cases u <;> first | exact h | (simp only [e]; exact h)
    | c d =>
     cases d <;>
     (simp only [effBuiltin] at h ⊢
      cases ht0:ts[0]? with
      | none=>rw [ht0] at h; first | exact h | cases h
      | some t =>
      rw [ht0] at h
      simp only at h ⊢
      cases ht:D.ty t with
      | none=>rw [ht] at h; first | exact h | cases h
      | some tt =>
      obtain ⟨_,_,u,_⟩:=tt
      rw [ht] at h
      cases u <;> first | exact h | cases h)
    | _ =>
     simp only [effBuiltin] at h ⊢
     cases ht0:ts[0]? with
     | none=>rw [ht0] at h; first | exact h | cases h
     | some t =>
     rw [ht0] at h
     simp only at h ⊢
     cases ht:D.ty t with
     | none=>rw [ht] at h; first | exact h | cases h
     | some tt =>
     obtain ⟨_,_,u,_⟩:=tt
     rw [ht] at h
     cases u <;> first | exact h | cases h
 | append =>
  cases args with
  | nil=>exact h
  | cons x xs =>
   cases xs with
   | nil=>exact h
   | cons y ys =>
    cases ys with
    | cons z zs=>exact h
    | nil =>
     simp only [effBuiltin] at h ⊢
     cases ht:ts.toList with
     | nil=>rw [ht] at h; cases h
     | cons t ts' =>
      cases ts' with
      | nil=>rw [ht] at h; cases h
      | cons t' ts'' =>
       cases ts'' with
       | nil =>
        rw [ht] at h
        obtain ⟨_,os1,p1,b1,os2,q1,h1,h2,rfl⟩:=bind_some h
        have h3:=effAppend_loc h2 (lk':=lk') hl
        exact bind_intro h1 h3
       | cons _ _=>rw [ht] at h; cases h
 | max =>
  cases args with
  | nil=>exact h
  | cons x xs =>
   cases x with
   | c d=>cases d <;> exact h
   | _=>exact h
 | min =>
  cases args with
  | nil=>exact h
  | cons x xs =>
   cases x with
   | c d=>cases d <;> exact h
   | _=>exact h
 | _=>exact h
theorem effCall_loc {f:Nat} {args:List AV} {os:List Orc} {r:Eff × List Orc × List Prop} (h:effCall D lk f args os=some r) (hl:∀ l∈r.1.reads,lk' l=lk l):effCall D lk' f args os=some r:=by
 unfold effCall at h ⊢
 split at h
 · rename_i c; rw [if_pos c]; exact h
 · rename_i c
   rw [if_neg c]
   cases hd:toDatas lk args with
   | none=>rw [hd] at h; cases h
   | some x =>
    obtain ⟨ds,u,rr⟩:=x
    rw [hd] at h
    cases pure_some h
    rw [toDatas_loc hd hl]
    rfl
theorem eff_loc {ρ:Operand→AV} {fr:Nat} {o:Op} {os:List Orc} {r:Eff × List Orc × List Prop} (h:eff D ρ lk fr o os=some r) (hl:∀ l∈r.1.reads,lk' l=lk l):eff D ρ lk' fr o os=some r:=by
 cases o with
 | box t x =>
  simp only [eff] at h ⊢
  by_cases ha:∃ ds,ρ x=.agg ds
  · obtain ⟨ds,e⟩:=ha
    rw [e] at h ⊢
    exact h
  · generalize ρ x=v at h ha ⊢
    have h':(do sure (v.holds && v.alive lk); pure (.val (.ptr fr 0) [(fr,.cells [v])] v.rd):M Eff) os=some r:=by
     cases v with
     | agg ds=>exact absurd ⟨_,rfl⟩ ha
     | _=>exact h
    obtain ⟨_,os1,p1,q,os2,p2,h1,h2,e⟩:=bind_some h'
    have h3:=pure_some h2
    have hr:r.1.reads=v.rd:=by rw [e]; cases h3; rfl
    have e2:=alive_cong (lk:=lk) (lk':=lk') (v:=v) fun k hk=>hl k (by rw [hr]; exact hk)
    have h4:(do sure (v.holds && v.alive lk'); pure (.val (.ptr fr 0) [(fr,.cells [v])] v.rd):M Eff) os=some r:=by rw [e2]; exact h'
    cases v with
    | agg ds=>exact absurd ⟨_,rfl⟩ ha
    | _=>exact h4
 | build t parts =>
  simp only [eff] at h ⊢
  cases ht:D.ty t with
  | none=>rw [ht] at h; cases h
  | some ti =>
   rw [ht] at h
   simp only at h ⊢
   have h0:=h
   obtain ⟨_,os1,p1,b1,os2,q1,h1,h2,rfl⟩:=bind_some h
   obtain ⟨x,os3,p3,b3,os4,q3,h3,h4,e4⟩:=bind_some h2
   cases e4
   obtain ⟨x',h5,e5⟩:=lift_some h3
   cases e5
   obtain ⟨cs,u,r⟩:=x
   cases pure_some h4
   rw [fillD_loc h5 hl]
   rw [h5] at h0
   exact h0
 | buildSlice t len parts =>
  simp only [eff] at h ⊢
  cases ht:D.ty t with
  | none=>rw [ht] at h; cases h
  | some tt =>
   obtain ⟨sz,by',u,zz⟩:=tt
   rw [ht] at h
   cases u with
   | slice e =>
    simp only at h ⊢
    cases he:D.ty e with
    | none=>rw [he] at h; cases h
    | some ti =>
     rw [he] at h
     simp only at h ⊢
     cases hca:(parts.toList.any fun p=>(ρ p.2).caps) with
     | true=>rw [hca] at h; exact h
     | false =>
      rw [hca] at h
      simp only [cond_false] at h ⊢
      have h0:=h
      obtain ⟨_,os1,p1,b1,os2,q1,h1,h2,rfl⟩:=bind_some h
      obtain ⟨x,os3,p3,b3,os4,q3,h3,h4,e4⟩:=bind_some h2
      cases e4
      obtain ⟨x',h5,e5⟩:=lift_some h3
      cases e5
      obtain ⟨cs,u,r⟩:=x
      cases pure_some h4
      rw [fillD_loc h5 hl]
      rw [h5] at h0
      exact h0
   | _=>cases h
 | makeFunc fn first cap =>
  cases fn with
  | func f =>
   simp only [eff] at h ⊢
   split at h
   · rename_i c; rw [if_pos c]; exact h
   · rename_i c
     rw [if_neg c]
     have h0:=h
     obtain ⟨_,os1,p1,b1,os2,q1,h1,h2,rfl⟩:=bind_some h
     obtain ⟨x,os3,p3,b3,os4,q3,h3,h4,e4⟩:=bind_some h2
     cases e4
     obtain ⟨x',h5,e5⟩:=lift_some h3
     cases e5
     obtain ⟨ds,u,r⟩:=x
     cases pure_some h4
     rw [toDatas_loc h5 hl]
     rw [h5] at h0
     exact h0
  | _=>exact h
 | load t a=>exact effLoad_loc h hl
 | store t a x=>exact effStore_loc h hl
 | convert src dst x=>exact effConvert_loc h hl
 | slice t x lo hi mx =>
  cases mx with
  | none =>
   simp only [eff] at h ⊢
   obtain ⟨l,os1,p1,b1,os2,q1,h1,h2,rfl⟩:=bind_some h
   obtain ⟨hh,os3,p3,b3,os4,q3,h3,h4,e4⟩:=bind_some h2
   cases e4
   have h5:=effSlice_loc h4 (lk':=lk') hl
   exact bind_intro h1 (bind_intro h3 h5)
  | some _=>exact h
 | fieldAddr t x f=>exact effField_loc h hl
 | indexAddr t x i =>
  simp only [eff] at h ⊢
  cases hi:ρ i with
  | c d =>
   rw [hi] at h
   cases d with
   | int k n=>exact effIndexAddr_loc h hl
   | _=>cases h
  | _=>rw [hi] at h; cases h
 | call c =>
  obtain ⟨cal,args,ts⟩:=c
  cases cal with
  | value g =>
   simp only [eff] at h ⊢
   cases hg:ρ g with
   | fn f cap=>rw [hg] at h; exact effCall_loc h hl
   | mv f ds=>rw [hg] at h; exact effCall_loc h hl
   | c d =>
    rw [hg] at h
    cases d with
    | fn f=>exact effCall_loc h hl
    | _=>cases h
   | _=>rw [hg] at h; cases h
  | builtin b=>exact effBuiltin_loc h hl
  | _=>cases h
 | _=>exact h
theorem eff_cong {ρ ρ':Operand→AV} {fr:Nat} {o:Op} (h:∀ x∈o.operands,ρ' x=ρ x):eff D ρ' lk fr o=eff D ρ lk fr o:=by
 have arr:∀ xs:Array Operand,(∀ x∈xs,ρ' x=ρ x)→xs.toList.map ρ'=xs.toList.map ρ:=fun xs hx=>List.map_congr_left fun x hm=>hx x (by simpa using hm)
 have pairs:∀ ps:Array (Nat × Operand),(∀ x∈ps.map (·.2),ρ' x=ρ x)→(ps.toList.map fun p=>(p.1,ρ' p.2))=ps.toList.map fun p=>(p.1,ρ p.2):=fun ps hp =>
  List.map_congr_left fun p hm=>by rw [hp p.2 (Array.mem_map.2 ⟨p,by simpa using hm,rfl⟩)]
 cases o <;> simp only [Op.operands] at h <;> simp only [eff]
 case build t ps=>rw [pairs ps fun x hx=>h x (by simpa using hx)]
 case buildSlice t n ps =>
  have e:=pairs ps fun x hx=>h x (by simpa using hx)
  have e1:(ps.toList.any fun p=>(ρ' p.2).caps)=ps.toList.any fun p=>(ρ p.2).caps:=by
   have:=congrArg (fun l:List (Nat × AV)=>l.any fun q=>q.2.caps) e
   rwa [List.any_map,List.any_map] at this
  have e2:(ps.toList.all fun p=>(ρ' p.2).caps)=ps.toList.all fun p=>(ρ p.2).caps:=by
   have:=congrArg (fun l:List (Nat × AV)=>l.all fun q=>q.2.caps) e
   rwa [List.all_map,List.all_map] at this
  have e3:(ps.toList.map fun p=>ρ' p.2)=ps.toList.map fun p=>ρ p.2:=by
   have:=congrArg (fun l:List (Nat × AV)=>l.map fun q=>q.2) e
   rwa [List.map_map,List.map_map] at this
  rw [e,e1,e2,e3]
 case makeFunc fn first captured =>
  cases fn with
  | func f=>simp only; rw [arr captured fun x hx=>h x (by simp [hx]),arr first fun x hx=>h x (by simp [hx])]
  | _=>rfl
 case call c =>
  obtain ⟨cal,args,ts⟩:=c
  cases cal with
  | value g =>
   simp only
   rw [arr args fun x hx=>h x (by simp [Call.operands,hx]),h g (by simp [Call.operands])]
  | builtin b=>simp only; rw [arr args fun x hx=>h x (by simp [Call.operands,hx])]
  | _=>rfl
 case slice t x lo hi mx =>
  cases mx with
  | none=>cases lo <;> cases hi <;> simp_all
  | some _=>rfl
 all_goals (first | rfl | (simp_all; done))
end
end Gev
namespace Gev
open Go
variable {D:Tab} {C:Sem3}
theorem force_eq {α:Type} (n:Nat) (f:Nat→α):force n f=f n:=by cases n <;> rfl
def SameAt (ops:List Oper) (o:Oper) (s s':List AV):Prop:=∀ t∈o.looksAt ops.toArray,s'.getD t .undef=s.getD t .undef
theorem rho_same {ops:List Oper} {o:Oper} {s s':List AV} (h:SameAt ops o s s'):∀ x∈o.op.operands,rho s' x=rho s x:=by
 intro x hx
 cases x with
 | tmp t=>exact h t (List.mem_append_left _ (List.mem_filterMap.2 ⟨.tmp t,by simpa using hx,rfl⟩))
 | _=>rfl
theorem wanted_same {ops:List Oper} {o:Oper} {s s':List AV} (h:SameAt ops o s s'):wantedA ops s' o=wantedA ops s o:=by
 unfold wantedA
 cases hg:o.guard with
 | none=>rfl
 | some gw =>
  obtain ⟨g,want⟩:=gw
  simp only
  cases ht:(ops[g]?).bind (·.dst) with
  | none=>rfl
  | some t =>
   simp only
   rw [h t (List.mem_append_right _ (by simp [hg,ht]))]
theorem lk_setAll {objs:Objs}:∀ {u:Ups} {l:Nat},l ∉ u.map (·.1)→lk (setAll objs u) l=lk objs l:=by
 intro u
 induction u generalizing objs with
 | nil=>intro l _; rfl
 | cons p u ih =>
  intro l hl
  simp only [List.map_cons,List.mem_cons,not_or] at hl
  simp only [setAll]
  rw [ih hl.2]
  unfold lk
  rw [List.getD_eq_getElem?_getD,List.getD_eq_getElem?_getD,List.getElem?_set_ne (Ne.symm hl.1)]
theorem set_setAll {objs:Objs} {l:Nat} {o:Option Ob}:∀ {u:Ups},l ∉ u.map (·.1)→(setAll objs u).set l o=setAll (objs.set l o) u:=by
 intro u
 induction u generalizing objs with
 | nil=>intro _; rfl
 | cons p u ih =>
  intro hl
  simp only [List.map_cons,List.mem_cons,not_or] at hl
  simp only [setAll]
  rw [ih hl.2,List.set_comm _ _ (Ne.symm hl.1)]
theorem setAll_comm {objs:Objs} {u u':Ups} (h:∀ l∈u.map (·.1),l ∉ u'.map (·.1)):setAll (setAll objs u) u'=setAll (setAll objs u') u:=by
 induction u generalizing objs with
 | nil=>rfl
 | cons p u ih =>
  simp only [setAll]
  rw [ih fun l hl=>h l (by simp only [List.map_cons,List.mem_cons]; exact .inr hl),set_setAll (h p.1 (by simp))]
theorem setAll_len' (objs:Objs) (u:Ups):(setAll objs u).length=objs.length:=by
 induction u generalizing objs with
 | nil=>rfl
 | cons p u ih=>simp only [setAll]; rw [ih,List.length_set]
theorem upsOk_same {mk:Bool} {fr:Nat} {objs objs':Objs} {u:Ups} (h:upsOk mk fr objs u=true) (hl:∀ l∈u.map (·.1),lk objs' l=lk objs l):upsOk mk fr objs' u=true:=by
 unfold upsOk at *
 rw [List.all_eq_true] at *
 intro p hp
 rw [hl p.1 (List.mem_map.2 ⟨p,hp,rfl⟩)]
 exact h p hp
theorem sure_true {b:Bool} (h:b=true) (os:List Orc):sure b os=some ((),os,[]):=by subst h; rfl
theorem step_form {ops:List Oper} {fr:Nat} {o:Oper} {st st':St} {g:Log} {os os':List Orc} {ps:List Prop} (h:stepO D C ops fr o st os=some ((st',g),os',ps)) :
    ∃ v,(∃ r u,g=.rw r (u.map (·.1))∧upsOk (makes D o.op) fr st.objs u=true∧st'=⟨putSlot st.slots o.dst v,setAll st.objs u⟩ ∧
        ∀ st2:St,SameAt ops o st.slots st2.slots→(∀ l∈r,lk st2.objs l=lk st.objs l)→(∀ l∈u.map (·.1),lk st2.objs l=lk st.objs l)→stepO D C ops fr o st2 os=some ((⟨putSlot st2.slots o.dst v,setAll st2.objs u⟩,g),os',ps)) ∨
     (∃ objs',(g=.all∨g=.ro∧objs'=st.objs)∧noneKept st.objs objs'=true∧st'=⟨putSlot st.slots o.dst v,objs'⟩ ∧
      ∀ st2:St,SameAt ops o st.slots st2.slots→st2.objs=st.objs→stepO D C ops fr o st2 os=some ((⟨putSlot st2.slots o.dst v,objs'⟩,g),os',ps)):=by
 unfold stepO at h
 obtain ⟨wt,os1,p1,b1,os2,q1,h1,h2,e⟩:=bind_some h
 cases e
 have hstep:∀ (st2:St) (r:(St × Log) × List Orc × List Prop),SameAt ops o st.slots st2.slots →
     (if wt=true then (do
      match ← eff D (rho st2.slots) (lk st2.objs) fr o.op with
      | .val v u r=>do
       sure (upsOk (makes D o.op) fr st2.objs u)
       pure (⟨putSlot st2.slots o.dst v,setAll st2.objs u⟩,.rw r (u.map (·.1)))
      | .call f args u r=>do
       sure (upsOk (makes D o.op) fr st2.objs u)
       if makes D o.op then do
        sure (args.all AV.isDat && u.all fun p=>p.1 != fr)
        let (n,ob) ← askN C f args
        pure (⟨putSlot st2.slots o.dst (.vec fr n),setAll st2.objs (u++[(fr,ob)])⟩,.rw r ((u++[(fr,ob)]).map (·.1)))
       else do
        let v ← askV C f args
        pure (⟨putSlot st2.slots o.dst v,setAll st2.objs u⟩,.rw r (u.map (·.1)))
      | .tcall f args=>do
       let (v,objs,still) ← askT C f args st2.objs
       sure (noneKept st2.objs objs)
       pure (⟨putSlot st2.slots o.dst v,objs⟩,if still then .ro else .all)) else pure (⟨putSlot st2.slots o.dst (.tup []),st2.objs⟩,.rw [] []):M (St × Log)) os1=some r→stepO D C ops fr o st2 os=some (r.1,r.2.1,p1++r.2.2):=by
  intro st2 r hs h3
  unfold stepO
  rw [wanted_same hs]
  exact bind_intro h1 h3
 cases wt with
 | false =>
  cases pure_some h2
  exact ⟨.tup [],.inl ⟨[],[],rfl,rfl,rfl,fun st2 hs _ _=>hstep st2 (_,_,_) hs rfl⟩⟩
 | true =>
  simp only [if_true] at h2
  obtain ⟨e,os3,p3,b3,os4,q3,h3,h4,e4⟩:=bind_some h2
  cases e4
  cases e with
  | val v u r =>
   obtain ⟨_,os5,p5,b5,os6,q5,h5,h6,e6⟩:=bind_some h4
   cases e6
   obtain ⟨k5,e5⟩:=sure_some h5
   cases e5
   cases pure_some h6
   refine ⟨v,.inl ⟨r,u,rfl,k5,rfl,fun st2 hs hr hu=>?_⟩⟩
   refine hstep st2 ((_,_),_,_) hs ?_
   simp only [if_true]
   have e3:=eff_loc h3 hr
   rw [← eff_cong (rho_same hs)] at e3
   exact bind_intro e3 (bind_intro (sure_true (upsOk_same k5 hu) _) rfl)
  | call f args u r =>
   obtain ⟨_,os5,p5,b5,os6,q5,h5,h6,e6⟩:=bind_some h4
   cases e6
   obtain ⟨k5,e5⟩:=sure_some h5
   cases e5
   cases hm:makes D o.op with
   | false =>
    rw [hm] at h6
    simp only [Bool.false_eq_true,if_false] at h6
    obtain ⟨v,os7,p7,b7,os8,q7,h7,h8,e8⟩:=bind_some h6
    cases e8
    cases pure_some h8
    refine ⟨v,.inl ⟨r,u,rfl,by rw [← hm]; exact k5,rfl,fun st2 hs hr hu=>?_⟩⟩
    refine hstep st2 ((_,_),_,_) hs ?_
    simp only [if_true]
    have e3:=eff_loc h3 hr
    rw [← eff_cong (rho_same hs)] at e3
    refine bind_intro e3 (bind_intro (sure_true (upsOk_same k5 hu) _) ?_)
    rw [hm]
    simp only [Bool.false_eq_true,if_false]
    exact bind_intro h7 rfl
   | true =>
    rw [hm] at h6
    simp only [if_true] at h6
    obtain ⟨_,os9,p9,b9,os10,q9,h9,h10,e9⟩:=bind_some h6
    cases e9
    obtain ⟨k9,e9⟩:=sure_some h9
    cases e9
    obtain ⟨x,os7,p7,b7,os8,q7,h7,h8,e8⟩:=bind_some h10
    cases e8
    obtain ⟨n,ob⟩:=x
    cases pure_some h8
    have k5':upsOk true fr st.objs (u++[(fr,ob)])=true:=by
     rw [hm] at k5
     unfold upsOk at k5 ⊢
     rw [List.all_append,k5]
     simp
    refine ⟨.vec fr n,.inl ⟨r,u++[(fr,ob)],rfl,k5',rfl,fun st2 hs hr hu=>?_⟩⟩
    refine hstep st2 ((_,_),_,_) hs ?_
    simp only [if_true]
    have e3:=eff_loc h3 hr
    rw [← eff_cong (rho_same hs)] at e3
    refine bind_intro e3 (bind_intro (sure_true (upsOk_same k5 fun l hl=>hu l (by rw [List.map_append]; exact List.mem_append_left _ hl)) _) ?_)
    rw [hm]
    simp only [if_true]
    exact bind_intro (sure_true k9 _) (bind_intro h7 rfl)
  | tcall f args =>
   obtain ⟨x,os7,p7,b7,os8,q7,h7,h8,e8⟩:=bind_some h4
   cases e8
   obtain ⟨v,objs',still⟩:=x
   obtain ⟨_,os5,p5,b5,os6,q5,h5,h6,e6⟩:=bind_some h8
   cases e6
   obtain ⟨k5,e5⟩:=sure_some h5
   cases e5
   cases pure_some h6
   have hg:(if still=true then Log.ro else .all)=.all∨(if still=true then Log.ro else .all)=.ro∧objs'=st.objs:=by
    cases still with
    | false=>exact .inl rfl
    | true =>
     refine .inr ⟨rfl,?_⟩
     unfold askT at h7
     split at h7 <;> cases h7
     rfl
   refine ⟨v,.inr ⟨objs',hg,k5,rfl,fun st2 hs ho=>?_⟩⟩
   refine hstep st2 ((_,_),_,_) hs ?_
   simp only [if_true]
   rw [← eff_cong (rho_same hs)] at h3
   rw [ho]
   exact bind_intro h3 (bind_intro h7 (bind_intro (sure_true k5 _) rfl))
theorem put_get {s:List AV} {d:Option Tmp} {v:AV} {t:Nat} (h:∀ x,d=some x→x≠t):(putSlot s d v).getD t .undef=s.getD t .undef:=by
 cases d with
 | none=>rfl
 | some x =>
  simp only [putSlot]
  rw [List.getD_eq_getElem?_getD,List.getD_eq_getElem?_getD,List.getElem?_set_ne (h x rfl)]
theorem put_comm {s:List AV} {d e:Option Tmp} {v u:AV} (h:∀ x,d=some x→e≠some x):putSlot (putSlot s d v) e u=putSlot (putSlot s e u) d v:=by
 cases d with
 | none=>rfl
 | some x =>
  cases e with
  | none=>rfl
  | some y =>
   simp only [putSlot]
   exact List.set_comm _ _ (fun hxy=>h x rfl (by rw [hxy]))
theorem quiet_nil {r w:List Nat} (h:(Log.rw r w).quiet=true):r=[]∧w=[]:=by
 cases r with
 | nil =>
  cases w with
  | nil=>exact ⟨rfl,rfl⟩
  | cons _ _=>cases h
 | cons _ _=>cases w <;> cases h
theorem apart_rw {r w r' w':List Nat} (h:(Log.rw r w).conflict (.rw r' w')=false):(∀ l∈w,l ∉ r'∧l ∉ w')∧∀ l∈w',l ∉ r:=by
 unfold Log.conflict at h
 by_cases q1:(Log.rw r w).quiet=true
 · obtain ⟨rfl,rfl⟩:=quiet_nil q1
   exact ⟨fun l hl=>(List.not_mem_nil hl).elim,fun l _ h=>List.not_mem_nil h⟩
 by_cases q2:(Log.rw r' w').quiet=true
 · obtain ⟨rfl,rfl⟩:=quiet_nil q2
   exact ⟨fun l _=>⟨List.not_mem_nil,List.not_mem_nil⟩,fun l h=>(List.not_mem_nil h).elim⟩
 simp only [q1,q2,Bool.not_false,Bool.true_and,Bool.or_eq_false_iff,List.any_eq_false,List.contains_eq_mem,decide_eq_true_eq,Bool.or_eq_true,not_or] at h
 simp only [Bool.not_eq_true] at q1 q2
 exact ⟨fun l hl=>h.1 l hl,fun l hl=>h.2 l hl⟩
def AStep (D:Tab) (C:Sem3) (ops:List Oper) (base:Nat) (i:Nat) (st st':St) (g:Log):Prop :=
 ∃ o os os' ps,ops[i]?=some o∧stepO D C ops (base+((ops.take i).filter (makes D ·.op)).length) o st os=some ((st',g),os',ps)∧All ps
theorem astep_comm {ops:List Oper} {base i j:Nat} {oi oj:Oper} (hi:ops[i]?=some oi) (hj:ops[j]?=some oj) {st st1 st2:St} {gi gj:Log} (h1:AStep D C ops base i st st1 gi) (h2:AStep D C ops base j st1 st2 gj)
    (ha:oi.apart ops.toArray oj=true) (hc:gi.conflict gj=false):∃ st1',AStep D C ops base j st st1' gj∧AStep D C ops base i st1' st2 gi:=by
 obtain ⟨a1,a2,a3⟩:=Oper.apart_spec ha
 obtain ⟨o,os,os',ps,e,h1,p1⟩:=h1
 rw [hi] at e; cases e
 obtain ⟨o,qs,qs',qp,e,h2,p2⟩:=h2
 rw [hj] at e; cases e
 have sj:∀ (s:List AV) v,SameAt ops oj (putSlot s oi.dst v) s:=fun s v t ht=>(put_get fun x hx e=>a1 x hx (e ▸ ht)).symm
 have si:∀ (s:List AV) v,SameAt ops oi s (putSlot s oj.dst v):=fun s v t ht=>put_get fun x hx e=>a3 x hx (e ▸ ht)
 have none_of:∀ {r:List Nat} {u:Ups} {g:Log},g=.all∨g=.ro→(Log.rw r (u.map (·.1))).conflict g=false∨g.conflict (Log.rw r (u.map (·.1)))=false→u=[]∧(g=.all→r=[]):=by
  intro r u g hg h
  by_cases hq:(Log.rw r (u.map (·.1))).quiet=true
  · obtain ⟨e1,e2⟩:=quiet_nil hq
    exact ⟨List.map_eq_nil_iff.1 e2,fun _=>e1⟩
  · simp only [Bool.not_eq_true] at hq
    rcases hg with rfl | rfl
    · unfold Log.conflict at h
      rw [hq] at h
      simp [Log.quiet] at h
    · unfold Log.conflict at h
      rw [hq] at h
      simp [Log.quiet] at h
      exact ⟨h,fun e=>by cases e⟩
 obtain ⟨vi,⟨ri,ui,rfl,ki,rfl,mi⟩ | ⟨oi',gi',ki,rfl,mi⟩⟩:=step_form h1
 · obtain ⟨vj,⟨rj,uj,rfl,kj,rfl,mj⟩ | ⟨oj',gj',kj,rfl,mj⟩⟩:=step_form h2
   · obtain ⟨d1,d2⟩:=apart_rw hc
     have k1:=mj st (sj _ _) (fun l hl=>(lk_setAll fun h=>(d1 l h).1 hl).symm) (fun l hl=>(lk_setAll fun h=>(d1 l h).2 hl).symm)
     have k2:=mi ⟨putSlot st.slots oj.dst vj,setAll st.objs uj⟩ (si _ _) (fun l hl=>lk_setAll fun h=>d2 l h hl) (fun l hl=>lk_setAll fun h=>(d1 l hl).2 h)
     refine ⟨_,⟨oj,qs,qs',qp,hj,k1,p2⟩,oi,os,os',ps,hi,?_,p1⟩
     rw [k2]
     simp only
     rw [put_comm a2,setAll_comm fun l hl=>(d1 l hl).2]
   · -- the second is handed objects: the first turned none
     obtain ⟨e3,e1⟩:=none_of (gj'.imp id And.left) (.inl hc)
     subst e3
     have k1:=mj st (sj _ _) rfl
     have hsame:∀ l∈ri,lk oj' l=lk st.objs l:=fun l hl=>by
      rcases gj' with e | ⟨_,e⟩
      · rw [e1 e] at hl; cases hl
      · rw [e]; rfl
     have k2:=mi ⟨putSlot st.slots oj.dst vj,oj'⟩ (si _ _) hsame (fun l hl=>by cases hl)
     refine ⟨_,⟨oj,qs,qs',qp,hj,k1,p2⟩,oi,os,os',ps,hi,?_,p1⟩
     rw [k2]
     simp only [setAll]
     rw [put_comm a2]
 · obtain ⟨vj,⟨rj,uj,rfl,kj,rfl,mj⟩ | ⟨oj',gj',kj,rfl,mj⟩⟩:=step_form h2
   · obtain ⟨e3,e1⟩:=none_of (gi'.imp id And.left) (.inr hc)
     subst e3
     have hsame:∀ l∈rj,lk st.objs l=lk oi' l:=fun l hl=>by
      rcases gi' with e | ⟨_,e⟩
      · rw [e1 e] at hl; cases hl
      · rw [e]
     have k1:=mj st (sj _ _) hsame (fun l hl=>by cases hl)
     have k2:=mi ⟨putSlot st.slots oj.dst vj,st.objs⟩ (si _ _) rfl
     refine ⟨_,⟨oj,qs,qs',qp,hj,k1,p2⟩,oi,os,os',ps,hi,?_,p1⟩
     simp only [setAll] at k2 ⊢
     rw [k2,put_comm a2]
   · rcases gi' with rfl | ⟨rfl,ei⟩
     · exfalso
       rcases gj' with rfl | ⟨rfl,_⟩ <;> (unfold Log.conflict at hc; simp [Log.quiet] at hc)
     · rcases gj' with rfl | ⟨rfl,ej⟩
       · exfalso
         unfold Log.conflict at hc
         simp [Log.quiet] at hc
       · subst ei
         have ej:oj'=st.objs:=ej
         subst ej
         have k1:=mj st (sj _ _) rfl
         have k2:=mi ⟨putSlot st.slots oj.dst vj,st.objs⟩ (si _ _) rfl
         refine ⟨_,⟨oj,qs,qs',qp,hj,k1,p2⟩,oi,os,os',ps,hi,?_,p1⟩
         rw [k2,put_comm a2]
end Gev
namespace Gev
open Go
variable {D:Tab} {C:Sem3}
theorem anc_fold {acc:List Nat} {i:Nat}:∀ (l:List Edge) (s:Nat),(l.foldl (fun s e=>if Region.binds .any e then s ||| 2 ^ e.on ||| acc.getD e.on 0 else s) s).testBit i=true →
    s.testBit i=true∨∃ e∈l,Region.binds .any e=true∧(e.on=i∨(acc.getD e.on 0).testBit i=true)
 | [],s,h=>.inl h
 | e::l,s,h=>by
  simp only [List.foldl_cons] at h
  rcases anc_fold l _ h with h1 | ⟨e',h1,h2,h3⟩
  · split at h1
    · rename_i hb
      rw [Nat.testBit_or,Nat.testBit_or,Nat.testBit_two_pow,Bool.or_eq_true,Bool.or_eq_true,decide_eq_true_eq] at h1
      rcases h1 with (h1 | h1) | h1
      · exact .inl h1
      · exact .inr ⟨e,by simp,hb,.inl h1⟩
      · exact .inr ⟨e,by simp,hb,.inr h1⟩
    · exact .inl h1
  · exact .inr ⟨e',by simp [h1],h2,h3⟩
theorem ancs_spec:∀ (os:List Oper) (acc:List Nat),(ancs os acc).length=acc.length+os.length∧(ancs os acc).take acc.length=acc ∧
    ∀ j o,os[j]?=some o→(ancs os acc).getD (acc.length+j) 0=ancOf ((ancs os acc).take (acc.length+j)) o
 | [],acc=>by simp [ancs]
 | o::os,acc=>by
  simp only [ancs,force_eq]
  obtain ⟨h1,h2,h3⟩:=ancs_spec os (acc++[ancOf acc o])
  simp only [List.length_append,List.length_cons,List.length_nil] at h1 h2 h3
  have h4:(ancs os (acc++[ancOf acc o])).take acc.length=acc:=by
   have:=congrArg (List.take acc.length) h2
   rw [List.take_take,Nat.min_eq_left (by omega),List.take_left] at this
   exact this
  refine ⟨by rw [h1]; simp; omega,h4,fun j p hj=>?_⟩
  cases j with
  | zero =>
   simp only [List.getElem?_cons_zero,Option.some.injEq] at hj
   subst hj
   rw [Nat.add_zero,h4]
   have:(ancs os (acc++[ancOf acc o])).getD acc.length 0=((ancs os (acc++[ancOf acc o])).take (acc.length+1)).getD acc.length 0:=by
    rw [List.getD_eq_getElem?_getD,List.getD_eq_getElem?_getD,List.getElem?_take,if_pos (by omega)]
   rw [this]
   have h2':(ancs os (acc++[ancOf acc o])).take (acc.length+1)=acc++[ancOf acc o]:=h2
   rw [h2']
   simp
  | succ j =>
   have:=h3 j p (by simpa using hj)
   rw [show acc.length+(0+1)+j=acc.length+(j+1) by omega] at this
   exact this
def Closed (ops:List Oper) (listed:Array Bool):Prop:=∀ k,listed.getD k false=true→∀ i,((ancs ops []).getD k 0).testBit i=true→listed.getD i false=true
theorem ready_anc {ops:List Oper} {listed:Array Bool} (hc:Closed ops listed) {j:Nat} (hj:j∈Region.ready .any ops.toArray listed) (i:Nat) (hi:((ancs ops []).getD j 0).testBit i=true):listed.getD i false=true:=by
 obtain ⟨_,o,ho,hall⟩:=mem_ready.1 hj
 have ho':ops[j]?=some o:=by simpa using ho
 obtain ⟨h1,h2,h3⟩:=ancs_spec ops []
 have h4:=h3 j o ho'
 simp only [List.length_nil,Nat.zero_add] at h4
 rw [h4] at hi
 rcases anc_fold o.after.toList 0 hi with h5 | ⟨e,h5,h6,h7⟩
 · simp at h5
 · have he:=hall e (by simpa using h5) h6
   rcases h7 with h7 | h7
   · rw [← h7]; exact he
   · refine hc e.on he i ?_
     rw [List.getD_eq_getElem?_getD,List.getElem?_take] at h7
     split at h7
     · rw [List.getD_eq_getElem?_getD]; exact h7
     · simp at h7
theorem getD_set {listed:Array Bool} {i k:Nat} {b:Bool} (h:(listed.setIfInBounds i true).getD k b=true):listed.getD k b=true∨k=i:=by
 by_cases e:i=k
 · exact .inr e.symm
 · rw [getD_set_ne b e] at h; exact .inl h
theorem closed_set {ops:List Oper} {listed:Array Bool} (hc:Closed ops listed) {j:Nat} (hj:j∈Region.ready .any ops.toArray listed):Closed ops (listed.setIfInBounds j true):=by
 intro k hk i hi
 rcases getD_set hk with h | rfl
 · exact getD_set_true (hc k h i hi)
 · exact getD_set_true (ready_anc hc hj i hi)
def Any (D:Tab) (C:Sem3) (ops:List Oper) (base:Nat) (G:Nat→Log) (Q:St→Prop):Nat→Array Bool→St→Prop
 | 0,listed,st=>Region.ready .any ops.toArray listed=[]∧Q st
 | f+1,listed,st=>(Region.ready .any ops.toArray listed=[]→Q st)∧∀ i∈Region.ready .any ops.toArray listed,∃ st',AStep D C ops base i st st' (G i)∧Any D C ops base G Q f (listed.setIfInBounds i true) st'
theorem unlisted_false {ops:List Oper} {listed:Array Bool} {i:Nat} (hr:i∈Region.ready .any ops.toArray listed):listed.getD i false=false:=by
 have h0:=(mem_ready.1 hr).1
 rcases Nat.lt_or_ge i listed.size with h' | h'
 · simp [h'] at h0 ⊢; exact h0
 · simp [Array.getElem?_eq_none h']
theorem any_first {ops:List Oper} {base:Nat} {G:Nat→Log} {Q:St→Prop} {i:Nat} {oi:Oper} (hi:ops[i]?=some oi) :
    ∀ (fuel:Nat) (listed:Array Bool) (st st1:St),Closed ops listed →
     (∀ j oj,ops[j]?=some oj→j≠i→listed.getD j true=false→((ancs ops []).getD j 0).testBit i=false→oi.apart ops.toArray oj=true∧(G i).conflict (G j)=false) →
     i∈Region.ready .any ops.toArray listed→AStep D C ops base i st st1 (G i)→Any D C ops base G Q fuel (listed.setIfInBounds i true) st1→Any D C ops base G Q (fuel+1) listed st:=by
 intro fuel
 induction fuel with
 | zero =>
  intro listed st st1 _ _ hr hs H
  refine ⟨fun h=>(by rw [h] at hr; cases hr),fun j hj=>?_⟩
  by_cases hji:j=i
  · subst hji; exact ⟨st1,hs,H⟩
  · have:=ready_mono hj hji
    rw [H.1] at this
    cases this
 | succ fuel ih =>
  intro listed st st1 hcl hfree hr hs H
  refine ⟨fun h=>(by rw [h] at hr; cases hr),fun j hj=>?_⟩
  by_cases hji:j=i
  · subst hji; exact ⟨st1,hs,H⟩
  · obtain ⟨st2,h1,h2⟩:=H.2 j (ready_mono hj hji)
    obtain ⟨hjun,oj,hoj,hall⟩:=mem_ready.1 hj
    have hnot:((ancs ops []).getD j 0).testBit i=false:=by
     cases hb:((ancs ops []).getD j 0).testBit i with
     | false=>rfl
     | true =>
      have:=ready_anc hcl hj i hb
      rw [unlisted_false hr] at this
      cases this
    have hoj':ops[j]?=some oj:=by simpa using hoj
    obtain ⟨a1,a2⟩:=hfree j oj hoj' hji hjun hnot
    obtain ⟨st1',k1,k2⟩:=astep_comm hi hoj' hs h1 a1 a2
    refine ⟨st1',k1,ih (listed.setIfInBounds j true) st1' st2 (closed_set hcl hj) (fun k ok hk hki hun hno=>?_) (ready_mono hr (Ne.symm hji)) k2 ?_⟩
    · refine hfree k ok hk hki ?_ hno
      by_cases hjk:j=k
      · subst hjk; exact hjun
      · rw [getD_set_ne true hjk] at hun; exact hun
    · rw [Array.setIfInBounds_comm _ _ hji]
      exact h2
def Chain (D:Tab) (C:Sem3) (ops:List Oper) (base:Nat) (G:Nat→Log) (fin:St):Nat→Nat→St→Prop
 | 0,_,st=>st=fin
 | n+1,k,st=>∃ st',AStep D C ops base k st st' (G k)∧Chain D C ops base G fin n (k+1) st'
theorem any_lex {ops:List Oper} {base:Nat} {G:Nat→Log} {fin:St} (hb:∀ k o,ops[k]?=some o→∀ e∈o.after,Region.binds .any e=true→e.on < k)
    (hfree:∀ i j oi oj,ops[i]?=some oi→ops[j]?=some oj→i < j→((ancs ops []).getD j 0).testBit i=false→oi.apart ops.toArray oj=true∧(G i).conflict (G j)=false) :
    ∀ (n k:Nat) (listed:Array Bool) (st:St),k+n=ops.length→listed.size=ops.length→(∀ i,i < ops.length→listed.getD i false=decide (i < k))→Closed ops listed→Chain D C ops base G fin n k st→Any D C ops base G (·=fin) n listed st:=by
 intro n
 induction n with
 | zero =>
  intro k listed st hk hz hl _ h
  refine ⟨?_,h⟩
  rw [List.eq_nil_iff_forall_not_mem]
  intro j hj
  obtain ⟨hjun,oj,hoj,_⟩:=mem_ready.1 hj
  have hlt:j < ops.length:=by have:=(Array.getElem?_eq_some_iff.1 hoj).1; simpa using this
  have h1:=hl j hlt
  have hlt':j < listed.size:=by omega
  simp [hlt'] at h1 hjun
  rw [hjun] at h1
  have h2:j < k:=by omega
  simp [h2] at h1
 | succ n ih =>
  intro k listed st hk hz hl hcl h
  obtain ⟨st',h1,h2⟩:=h
  have hlt:k < ops.length:=by omega
  have hk':ops[k]?=some ops[k]:=List.getElem?_eq_getElem hlt
  have hr:k∈Region.ready .any ops.toArray listed:=by
   refine mem_ready.2 ⟨?_,ops[k],by simp,fun e he hbe=>?_⟩
   · have h3:=hl k hlt
     have hlt':k < listed.size:=by omega
     simp [hlt'] at h3 ⊢
     rw [h3]
   · have h3:=hb k _ hk' e he hbe
     rw [hl e.on (by omega)]
     simp [h3]
  refine any_first hk' n listed st st' hcl (fun j oj hj hji hun hno=>?_) hr h1 (ih (k+1) _ st' (by omega) (by simpa using hz) (fun i hi=>?_) (closed_set hcl hr) h2)
  · have hlt2:j < ops.length:=(List.getElem?_eq_some_iff.1 hj).1
    have h3:=hl j hlt2
    have hlt':j < listed.size:=by omega
    simp [hlt'] at h3 hun
    rw [hun] at h3
    have h4:¬ j < k:=by
     intro h5
     simp [h5] at h3
    exact hfree k j _ oj hk' hj (by omega) hno
  · by_cases e:k=i
    · subst e
      have hlt':k < listed.size:=by omega
      simp [hlt']
    · rw [getD_set_ne false e,hl i hi]
      rcases Nat.lt_or_ge i k with h5 | h5
      · simp [h5,Nat.lt_succ_of_lt h5]
      · simp [Nat.not_lt.2 h5,show ¬ i < k+1 by omega]
theorem chain_of_run {ops:List Oper} {base:Nat} {G:Nat→Log}:∀ (rest:List Oper) (k:Nat) (st fin:St) (gs:List Log) (os os':List Orc) (ps:List Prop),(∀ j,rest[j]?=ops[k+j]?)→k+rest.length=ops.length→(∀ j,j < gs.length→G (k+j)=gs.getD j default) →
    runOps D C ops rest (base+((ops.take k).filter (makes D ·.op)).length) st os=some ((fin,gs),os',ps)→All ps→Chain D C ops base G fin rest.length k st∧gs.length=rest.length
 | [],k,st,fin,gs,os,os',ps,_,_,_,h,_=>by
  cases pure_some h
  exact ⟨rfl,rfl⟩
 | o::rest,k,st,fin,gs,os,os',ps,hr,hk,hG,h,hp=>by
  simp only [runOps] at h
  obtain ⟨x,os1,p1,b1,os2,q1,h1,h2,e⟩:=bind_some h
  cases e
  obtain ⟨st1,g⟩:=x
  obtain ⟨y,os3,p3,b3,os4,q3,h3,h4,e⟩:=bind_some h2
  cases e
  obtain ⟨st2,gs'⟩:=y
  cases pure_some h4
  have ho:ops[k]?=some o:=by simpa using (hr 0).symm
  have hp':=all_append hp
  have hp2:All p3:=(all_append hp'.2).1
  have hfr:(if makes D o.op then base+((ops.take k).filter (makes D ·.op)).length+1 else base+((ops.take k).filter (makes D ·.op)).length)=base+((ops.take (k+1)).filter (makes D ·.op)).length:=by
   rw [List.take_add_one,ho]
   simp only [Option.toList_some,List.filter_append,List.length_append]
   by_cases hm:makes D o.op=true
   · simp [hm]; omega
   · simp [hm]
  rw [hfr] at h3
  obtain ⟨c1,c2⟩:=chain_of_run rest (k+1) st1 st2 gs' os1 _ p3 (fun j=>by have:=hr (j+1); simpa [Nat.add_assoc,Nat.add_comm 1 j] using this) (by simp at hk; omega)
   (fun j hj=>by have:=hG (j+1) (by simp; omega); simpa [Nat.add_assoc,Nat.add_comm 1 j] using this) h3 hp2
  have hg:G k=g:=by have:=hG 0 (by simp); simpa using this
  exact ⟨⟨st1,⟨o,os,os1,p1,ho,by rw [hg]; exact h1,hp'.1⟩,c1⟩,by simp [c2]⟩
theorem backB_spec:∀ (ops:List Oper) (n:Nat),backB n ops=true→∀ k o,ops[k]?=some o→∀ e∈o.after,Region.binds .any e=true→e.on < n+k
 | [],_,_,k,o,h=>by simp at h
 | p::ops,n,hB,k,o,h=>by
  simp only [backB,Bool.and_eq_true] at hB
  cases k with
  | zero =>
   simp only [List.getElem?_cons_zero,Option.some.injEq] at h
   subst h
   intro e he hb
   have:=List.all_eq_true.1 hB.1 e (by simpa using he)
   simp [hb] at this
   omega
  | succ k =>
   intro e he hb
   have:=backB_spec ops (n+1) hB.2 k o (by simpa using h) e he hb
   omega
theorem any_of_run {ops:List Oper} {st fin:St} {gs:List Log} {os os':List Orc} {ps:List Prop} {base:Nat} (h:runOps D C ops ops base st os=some ((fin,gs),os',ps)) (hp:All ps) (hd:drawOk ops gs=true) :
    ∃ G,Any D C ops base G (·=fin) ops.length (Array.replicate ops.length false) st:=by
 obtain ⟨c1,c2⟩:=chain_of_run (ops:=ops) (base:=base) (G:=fun i=>gs.getD i default) ops 0 st fin gs os os' ps (by simp) (by simp) (by simp) (by simpa using h) hp
 simp only [drawOk,Bool.and_eq_true] at hd
 obtain ⟨d1,d2,d3⟩:=hd
 refine ⟨fun i=>gs.getD i default,any_lex (fun k o ho e he hb=>by simpa using backB_spec ops 0 d1 k o ho e he hb) (fun i j oi oj hi hj hij hno=>?_) ops.length 0 _ st (by simp) (by simp) (fun i hi=>by simp [hi]) (fun k hk=>?_) c1⟩
 · have hjl:j < ops.length:=(List.getElem?_eq_some_iff.1 hj).1
   refine ⟨?_,?_⟩
   · simp only [apartS,List.all_eq_true,List.mem_range] at d2
     have:=d2 j hjl i hij
     rw [hno,hi,hj] at this
     simpa using this
   · simp only [Bool.or_eq_true] at d3
     rcases d3 with d3 | d3
     · rw [List.all_eq_true] at d3
       have hig:i < gs.length:=by omega
       have:(gs.getD i default).quiet=true:=by
        rw [List.getD_eq_getElem?_getD,List.getElem?_eq_getElem hig]
        exact d3 _ (List.getElem_mem hig)
       unfold Log.conflict
       rw [this]
       rfl
     · simp only [apartB,List.all_eq_true,List.mem_range] at d3
       have:=d3 j (by omega) i hij
       rw [hno] at this
       simpa using this
 · exfalso
   have:(Array.replicate ops.length false).getD k false=false:=by
    rcases Nat.lt_or_ge k ops.length with h' | h' <;> simp [Array.getD,h']
   rw [this] at hk
   cases hk
end Gev
namespace Gev
open Go
variable {P:Program} {D:Tab} {B0:Nat} {Gd:World→Prop}
theorem Slots.tr {Γ Γ':Ctx} {slots:List AV} {a:Act} (h:Slots D Γ slots a) (ht:Tr D Γ Γ'):Slots D Γ' slots a:=⟨h.size,fun i v u h1 h2=>ht.rep (h.slot i v u h1 h2)⟩
theorem Slots.put {Γ:Ctx} {slots:List AV} {a:Act} (h:Slots D Γ slots a) {v:AV} {vc:Value} (hv:RepA D Γ vc v) (dst:Option Tmp):Slots D Γ (putSlot slots dst v) (a.put dst vc):=by
 cases dst with
 | none=>exact h
 | some d =>
  refine ⟨by simp [Act.put,putSlot,h.size],fun i x u hx hu=>?_⟩
  simp only [putSlot,Act.put] at hx hu
  by_cases e:d=i
  · subst e
    rw [List.getElem?_set] at hx
    rw [Array.getElem?_setIfInBounds] at hu
    simp only [if_true] at hx hu
    split at hx
    · split at hu
      · cases hx; cases hu; exact hv
      · cases hu
    · cases hx
  · rw [List.getElem?_set_ne e] at hx
    rw [Array.getElem?_setIfInBounds_ne e] at hu
    exact h.slot i x u hx hu
theorem put_defers' (a:Act) (dst:Option Tmp) (v:Value):(a.put dst v).defers=a.defers:=by cases dst <;> rfl
theorem wanted_sim {Γ:Ctx} {a:Act} {ops:List Oper} {slots:List AV} {o:Oper} {wt:Bool} {os os':List Orc} {ps:List Prop} (hs:Slots D Γ slots a) (h:wantedA ops slots o os=some (wt,os',ps)) (hp:All ps):Region.wanted o (yielded ops.toArray a.tmps)=wt:=by
 unfold wantedA at h
 unfold Region.wanted
 cases hg:o.guard with
 | none=>rw [hg] at h; cases pure_some h; rfl
 | some gw =>
  obtain ⟨j,want⟩:=gw
  rw [hg] at h
  simp only at h ⊢
  unfold yielded
  rw [List.getElem?_toArray]
  cases hd:(ops[j]?).bind (·.dst) with
  | none=>rw [hd] at h; cases h
  | some d =>
   rw [hd] at h
   simp only [Option.bind_some] at h ⊢
   rw [List.getD_eq_getElem?_getD] at h
   cases hsl:slots[d]? with
   | none=>rw [hsl] at h; cases h
   | some v =>
    rw [hsl] at h
    simp only [Option.getD_some] at h
    have hlt:d < a.tmps.size:=by rw [hs.size]; exact (List.getElem?_eq_some_iff.1 hsl).1
    have hr:=hs.slot d v _ hsl (Array.getElem?_eq_getElem hlt)
    rw [Array.getElem?_eq_getElem hlt]
    generalize a.tmps[d]=u at hr
    cases v with
    | c x =>
     cases x with
     | bool b =>
      obtain ⟨b',os1,p1,b1,os2,q1,h1,h2,e⟩:=bind_some h
      cases e
      cases test_some h1
      cases pure_some h2
      rw [RepA.bool_inv hr]
      simp only
      cases b <;> cases want <;> rfl
     | _=>cases h
    | tup us =>
     cases us with
     | nil =>
      cases pure_some h
      obtain ⟨vs,rfl,hl,_⟩:=RepA.tup_inv hr
      rfl
     | cons _ _=>cases h
    | _=>cases h
theorem kept_ok (hs:Stable B0 Gd) {Γ:Ctx} (h:Good D B0 Gd Γ) {w':World} (hk:Kept (fun _=>False) Γ.w w'):Good D B0 Gd ⟨Γ.S,Γ.objs,w'⟩∧Tr D Γ ⟨Γ.S,Γ.objs,w'⟩:=by
 have hkm:Kept Γ.mine Γ.w w':=hk.mono fun _ h=>h.elim
 have hd:∀ v d,RepD Γ.w Γ.own v d→RepD w' (Ctx.mk Γ.S Γ.objs w').own v d:=fun v d hv=>hv.mono hkm.up fun _ _ h=>h
 have hheap:∀ b,b < Γ.w.heap.size→w'.heap[b]?=Γ.w.heap[b]?:=fun b hb=>hk.heap b hb (fun h=>h)
 have ht:Tr D Γ ⟨Γ.S,Γ.objs,w'⟩:=⟨hkm,rfl,fun _ h=>.inl h,fun _ cs h=>⟨cs,h,rfl⟩,
  fun v l len hv=>RepA.vec_same (Γ:=Γ) (Γ':=⟨Γ.S,Γ.objs,w'⟩) hd rfl rfl (fun b t xs h1 h2=>hheap b (own_lt h b (.inr ⟨l,_,h1,rfl,h2⟩))) hv,
  fun v l i off hv=>RepA.vptr_same (Γ:=Γ) (Γ':=⟨Γ.S,Γ.objs,w'⟩) (fun a d _ h2 ⟨u,h3,h4⟩=>⟨u,hkm.up.cell h3 h2,hd u d h4⟩) hk.size (fun _ _ h=>h) rfl rfl hv⟩
 exact ⟨⟨fun l o hl=>(h.ob l o hl).same ht rfl fun b hv hb=>hheap b (own_lt h b (.inr ⟨l,o,hl,hv,hb⟩)),h.inj,h.own,ht.extOk h.ext,Nat.le_trans h.size hk.size,h.gd_kept hs hkm.up⟩,ht⟩
theorem look_ok {Γ:Ctx} (h:Good D B0 Gd Γ) {objs:Objs} (hl:∀ l,lk objs l=lk Γ.objs l):Good D B0 Gd ⟨Γ.S,objs,Γ.w⟩∧Tr D Γ ⟨Γ.S,objs,Γ.w⟩:=by
 have hm:∀ b,(Ctx.mk Γ.S objs Γ.w).mine b→Γ.mine b:=fun b ⟨l,o,h1,h2,h3⟩=>⟨l,o,(hl l).symm.trans h1,h2,h3⟩
 have ho:∀ b,(Ctx.mk Γ.S objs Γ.w).own b→Γ.own b:=Ctx.own_of' rfl hm
 have hd:∀ v d,RepD Γ.w Γ.own v d→RepD Γ.w (Ctx.mk Γ.S objs Γ.w).own v d:=fun v d hv=>hv.same ho
 have ht:Tr D Γ ⟨Γ.S,objs,Γ.w⟩:=⟨Kept.refl _ _,rfl,fun b h=>.inl (hm b h),fun l cs h=>⟨cs,(hl l).trans h,rfl⟩,
  fun v l len hv=>RepA.vec_same (Γ:=Γ) (Γ':=⟨Γ.S,objs,Γ.w⟩) hd (hl l) rfl (fun _ _ _ _ _=>rfl) hv,
  fun v l i off hv=>RepA.vptr_same (Γ:=Γ) (Γ':=⟨Γ.S,objs,Γ.w⟩) (fun a d _ _ ⟨u,h3,h4⟩=>⟨u,h3,hd u d h4⟩) (Nat.le_refl _) (fun b _ hn hb=>hn (ho b hb)) (hl l) rfl hv⟩
 exact ⟨⟨fun l o h1=>(h.ob l o ((hl l).symm.trans h1)).same ht rfl fun _ _ _=>rfl,fun l l' o o' b h1 h2=>h.inj l l' o o' b ((hl l).symm.trans h1) ((hl l').symm.trans h2),fun b hb=>h.own b (ho b hb),ht.extOk h.ext,h.size,h.gd⟩,ht⟩
theorem eff_nodefer {ρ:Operand→AV} {L:Nat→Option Ob} {fr:Nat} {op:Op} {os:List Orc} {r:Eff × List Orc × List Prop} (h:eff D ρ L fr op os=some r) (c:_):op≠.defer c:=by
 intro e; rw [e] at h; cases h
section
variable (hT:TabOk P D) (hs:Stable B0 Gd)
include hT hs
theorem step_sim {Γ:Ctx} {a:Act} {ops:List Oper} {fr:Nat} {o:Oper} {st st':St} {g:Log} {os os':List Orc} {ps:List Prop} (hΓ:Γ.objs=st.objs) (hG:Good D B0 Gd Γ) (hS:Slots D Γ st.slots a)
    (hfr:makes D o.op=true→fr < st.objs.length∧lk st.objs fr=none) (h:stepO D (sem P D B0 Gd) ops fr o st os=some ((st',g),os',ps)) (hp:All ps) {ro:Option Nat} {m:Nat} {K:Act→World→Prop} {Q:Exit→Act→World→Prop}
    (hK:∀ Γ' a',Γ'.objs=st'.objs→Good D B0 Gd Γ'→Slots D Γ' st'.slots a'→Tr D Γ Γ'→a'.defers=a.defers→K a' Γ'.w) :
    if Region.wanted o (yielded ops.toArray a.tmps) then o.wpIn (Fr ro) m P a Γ.w K Q else K (a.put o.dst undef) Γ.w:=by
 unfold stepO at h
 obtain ⟨wt,os1,p1,b1,os2,q1,h1,h2,e⟩:=bind_some h
 cases e
 have hp':=all_append hp
 rw [wanted_sim hS h1 hp'.1]
 cases wt with
 | false =>
  cases pure_some h2
  exact hK Γ _ hΓ hG (hS.put (.tup [] [] rfl fun i v a h=>by simp at h) _) (Tr.refl _) (put_defers' _ _ _)
 | true =>
  simp only [if_true] at h2 ⊢
  obtain ⟨e,os3,p3,b3,os4,q3,h3,h4,e4⟩:=bind_some h2
  cases e4
  have hp2:=all_append hp'.2
  rw [← hΓ] at h3 hfr
  have hnd:=eff_nodefer h3
  have hsim:=eff_sim hT hs hG (fun x=>hS.rho x) hfr h3 hp2.1
  cases e with
  | val v u r =>
   obtain ⟨_,os5,p5,b5,os6,q5,h5,h6,e6⟩:=bind_some h4
   cases e6
   cases pure_some h6
   obtain ⟨vc,S',w',hrun,g1,g2,g3⟩:=hsim
   rw [hΓ] at g1 g2 g3
   have hk:=hK ⟨S',setAll st.objs u,w'⟩ (a.put o.dst vc) rfl g1 ((hS.tr g2).put g3 _) g2 (put_defers' _ _ _)
   refine ⟨fun _ _=>trivial,?_⟩
   rw [Oper.semAt_eq ro _ o hnd]
   rcases hrun with hrun | ⟨hrun,rfl⟩
   · rw [hrun]; exact hk
   · rw [hrun]; exact hk
  | call f args u r =>
   obtain ⟨_,os5,p5,b5,os6,q5,h5,h6,e6⟩:=bind_some h4
   cases e6
   cases hm:makes D o.op with
   | false =>
    rw [hm] at h6
    simp only [Bool.false_eq_true,if_false] at h6
    obtain ⟨v,os7,p7,b7,os8,q7,h7,h8,e8⟩:=bind_some h6
    cases e8
    cases pure_some h8
    have hfn:FnOk P D B0 Gd f args v:=by
     unfold askV at h7
     cases os5 with
     | nil=>cases h7
     | cons x os5 =>
      cases x with
      | v r' =>
       cases h7
       have:=(all_append hp2.2).2
       simpa [All,sem] using (all_append this).1
      | _=>cases h7
    obtain ⟨cargs,hrun,g1,g2,g3,hargs,g4⟩:=hsim
    rw [hΓ] at g1 g2 g4
    have hrun':=hrun hfn.enters
    refine ⟨fun _ _=>trivial,?_⟩
    rw [Oper.semAt_eq ro _ o hnd,hrun']
    refine ⟨fun h=>(by cases h),Fr.calls ?_⟩
    refine Calls.mono (hfn.calls Γ.w (Ctx.mk Γ.S (setAll st.objs u) Γ.w).own cargs g1.gd g1.size (fun b hb=>⟨g1.own b hb,own_lt g1 b hb⟩) g3 fun i v' a' h1 h2=>?_) ?_
    · exact data_rep (Γ:=⟨Γ.S,setAll st.objs u,Γ.w⟩) (Γ':=⟨⟨fun _=>none,(Ctx.mk Γ.S (setAll st.objs u) Γ.w).own⟩,[],Γ.w⟩) rfl (fun b hb=>own_in.1 hb) (hargs i a' h2) (g4 i v' a' h1 h2)
    · rintro e w' ⟨vc,rfl,k1,k2,k3⟩
      obtain ⟨m1,m2⟩:=kept_ok hs g1 k2
      have m3:=g2.trans m2
      exact hK ⟨Γ.S,setAll st.objs u,w'⟩ (a.put o.dst vc) rfl m1 ((hS.tr m3).put (data_rep (Γ:=⟨⟨fun _=>none,(Ctx.mk Γ.S (setAll st.objs u) Γ.w).own⟩,[],w'⟩) (Γ':=⟨Γ.S,setAll st.objs u,w'⟩) rfl (fun b hb=>own_in.2 hb) hfn.data k3) _) m3 (put_defers' _ _ _)
   | true =>
    rw [hm] at h6 h5
    simp only [if_true] at h6
    obtain ⟨_,os9,p9,b9,os10,q9,h9,h10,e9⟩:=bind_some h6
    cases e9
    obtain ⟨k9,e9⟩:=sure_some h9
    cases e9
    obtain ⟨x,os7,p7,b7,os8,q7,h7,h8,e8⟩:=bind_some h10
    cases e8
    obtain ⟨n,ob⟩:=x
    cases pure_some h8
    simp only [Bool.and_eq_true] at k9
    have hfn:(∃ t xs,ob=.vec t xs)∧RunOk P D B0 Gd f args [] (.vec 0 n) [some ob]:=by
     unfold askN at h7
     cases os5 with
     | nil=>cases h7
     | cons x os5 =>
      cases x with
      | nw n' t xs =>
       cases h7
       refine ⟨⟨_,_,rfl⟩,?_⟩
       have h1:=(all_append (all_append (all_append hp2.2).2).2).1
       simpa [All,sem] using h1
      | _=>cases h7
    obtain ⟨⟨t,xs,rfl⟩,hfn⟩:=hfn
    obtain ⟨cargs,hrun,g1,g2,g3,hargs,g4⟩:=hsim
    rw [hΓ] at g1 g2 g4
    have hrun':=hrun hfn.enters
    refine ⟨fun _ _=>trivial,?_⟩
    rw [Oper.semAt_eq ro _ o hnd,hrun']
    refine ⟨fun h=>(by cases h),Fr.calls ?_⟩
    obtain ⟨hfl,hfn0⟩:=hfr hm
    rw [hΓ] at hfl hfn0
    have hno:lk (setAll st.objs u) fr=none:=by
     rw [lk_setAll (fun hx=>?_)]
     · exact hfn0
     · obtain ⟨p,hp1,hp2⟩:=List.mem_map.1 hx
       have:=List.all_eq_true.1 k9.2 p hp1
       simp [hp2] at this
    have hrun2:=(hfn.newAt k9.1 rfl (by rw [setAll_len']; exact hfl) hno).calls ⟨Γ.S,setAll st.objs u,Γ.w⟩ cargs rfl g1 g3 g4
    refine Calls.mono hrun2 ?_
    rintro e w' ⟨vc,Γ',rfl,k0,rfl,k1,k2,k3⟩
    have m3:=g2.trans k2
    have hsa:setAll st.objs (u++[(fr,.vec t xs)])=(setAll st.objs u).set fr (some (.vec t xs)):=setAll_append _ _ _
    exact hK Γ' (a.put o.dst vc) (by rw [hsa]; exact k0) k1 ((hS.tr m3).put k3 _) m3 (put_defers' _ _ _)
  | tcall f args =>
   obtain ⟨x,os7,p7,b7,os8,q7,h7,h8,e8⟩:=bind_some h4
   cases e8
   obtain ⟨v,objs',still⟩:=x
   obtain ⟨_,os5,p5,b5,os6,q5,h5,h6,e6⟩:=bind_some h8
   cases e6
   cases pure_some h6
   have hfn:RunOk P D B0 Gd f args st.objs v objs':=by
    unfold askT at h7
    cases os3 with
    | nil=>cases h7
    | cons x os5 =>
     cases x with
     | vt r' objs'' =>
      cases h7
      simpa [All,sem] using (all_append hp2.2).1
     | vr r' =>
      cases h7
      simpa [All,sem] using (all_append hp2.2).1
     | _=>cases h7
   obtain ⟨cargs,hrun,g3,g4⟩:=hsim
   have hrun':=hrun hfn.enters
   refine ⟨fun _ _=>trivial,?_⟩
   rw [Oper.semAt_eq ro _ o hnd,hrun']
   refine ⟨fun h=>(by cases h),Fr.calls ?_⟩
   refine Calls.mono (hfn.calls Γ cargs hΓ hG g3 g4) ?_
   rintro e w' ⟨vc,Γ',rfl,k0,rfl,k1,k2,k3⟩
   exact hK Γ' (a.put o.dst vc) k0 k1 ((hS.tr k2).put k3 _) k2 (put_defers' _ _ _)
end
end Gev
namespace Gev
open Go
variable {P:Program} {D:Tab} {B0:Nat} {Gd:World→Prop}
theorem noneKept_spec:∀ {objs objs':Objs},noneKept objs objs'=true→∀ k,k < objs.length→lk objs k=none→k < objs'.length∧lk objs' k=none
 | [],_,_,k,hk,_=>by simp at hk
 | none::os,[],h,k,hk,hn=>by simp [noneKept] at h
 | none::os,none::os',h,k,hk,hn=>by
  cases k with
  | zero=>exact ⟨by simp,rfl⟩
  | succ k =>
   obtain ⟨h1,h2⟩:=noneKept_spec (objs:=os) (objs':=os') h k (by simpa using hk) (by simpa [lk] using hn)
   exact ⟨by simpa using h1,by simpa [lk] using h2⟩
 | none::os,some _::os',h,k,hk,hn=>by simp [noneKept] at h
 | some _::os,[],h,k,hk,hn=>by simp [noneKept] at h
 | some _::os,x::os',h,k,hk,hn=>by
  cases k with
  | zero=>simp [lk] at hn
  | succ k =>
   obtain ⟨h1,h2⟩:=noneKept_spec (objs:=os) (objs':=os') (by cases x <;> exact h) k (by simpa using hk) (by simpa [lk] using hn)
   exact ⟨by simpa using h1,by simpa [lk] using h2⟩
theorem step_fresh {C:Sem3} {ops:List Oper} {fr:Nat} {o:Oper} {st st':St} {g:Log} {os os':List Orc} {ps:List Prop} (h:stepO D C ops fr o st os=some ((st',g),os',ps)) {k:Nat} (hk:makes D o.op=true→k≠fr) (hl:k < st.objs.length) (hn:lk st.objs k=none) :
    k < st'.objs.length∧lk st'.objs k=none:=by
 obtain ⟨v,⟨r,u,_,h1,rfl,_⟩ | ⟨objs',_,h1,rfl,_⟩⟩:=step_form h
 · simp only
   rw [setAll_len']
   refine ⟨hl,?_⟩
   rw [lk_setAll]
   · exact hn
   · intro hm
     obtain ⟨p,hp,e⟩:=List.mem_map.1 hm
     have:=List.all_eq_true.1 h1 p hp
     simp only [Bool.or_eq_true,Bool.and_eq_true,beq_iff_eq] at this
     rcases this with ⟨h2,h3⟩ | h2
     · exact hk h2 (e ▸ h3)
     · rw [e,hn] at h2; cases h2
 · exact noneKept_spec h1 k hl hn
def Fresh (D:Tab) (ops:List Oper) (base:Nat) (un:Nat→Prop) (st:St):Prop:=∀ i o,ops[i]?=some o→makes D o.op=true→un i→base+((ops.take i).filter (makes D ·.op)).length < st.objs.length∧lk st.objs (base+((ops.take i).filter (makes D ·.op)).length)=none
theorem count_lt {ops:List Oper} {i j:Nat} {o:Oper} (hi:ops[i]?=some o) (hm:makes D o.op=true) (hij:i < j):((ops.take i).filter (makes D ·.op)).length < ((ops.take j).filter (makes D ·.op)).length:=by
 have h1:((ops.take (i+1)).filter (makes D ·.op)).length=((ops.take i).filter (makes D ·.op)).length+1:=by
  rw [List.take_add_one,hi]
  simp [hm]
 have h2:((ops.take (i+1)).filter (makes D ·.op)).length≤((ops.take j).filter (makes D ·.op)).length:=by
  have:ops.take j=ops.take (i+1)++(ops.drop (i+1)).take (j - (i+1)):=by
   conv=>lhs; rw [show j=(i+1)+(j - (i+1)) by omega,List.take_add]
  rw [this,List.filter_append,List.length_append]
  omega
 omega
theorem count_ne {ops:List Oper} {i j:Nat} {oi oj:Oper} (hi:ops[i]?=some oi) (hj:ops[j]?=some oj) (hmi:makes D oi.op=true) (hmj:makes D oj.op=true) (hne:i≠j) (base:Nat) :
    base+((ops.take i).filter (makes D ·.op)).length≠base+((ops.take j).filter (makes D ·.op)).length:=by
 rcases Nat.lt_or_ge i j with h | h
 · have:=count_lt hi hmi h; omega
 · have:=count_lt hj hmj (show j < i by omega); omega
theorem fresh_step {C:Sem3} {ops:List Oper} {base j:Nat} {st st':St} {g:Log} {un un':Nat→Prop} (h:AStep D C ops base j st st' g) (hu:∀ i,un' i→un i∧i≠j) (hf:Fresh D ops base un st):Fresh D ops base un' st':=by
 obtain ⟨oj,os,os',ps,hj,h1,_⟩:=h
 intro i oi hi hm hui
 obtain ⟨h2,h3⟩:=hu i hui
 obtain ⟨h4,h5⟩:=hf i oi hi hm h2
 exact step_fresh h1 (fun hmj=>count_ne hi hj hm hmj h3 base) h4 h5
section
variable (hT:TabOk P D) (hs:Stable B0 Gd)
include hT hs
theorem astep_sim {Γ:Ctx} {a:Act} {ops:List Oper} {base i:Nat} {st st':St} {g:Log} (hΓ:Γ.objs=st.objs) (hG:Good D B0 Gd Γ) (hS:Slots D Γ st.slots a) {un:Nat→Prop} (hf:Fresh D ops base un st) (hui:un i)
    (h:AStep D (sem P D B0 Gd) ops base i st st' g) {ro:Option Nat} {m:Nat} {K:Act→World→Prop} {Q:Exit→Act→World→Prop} (hK:∀ Γ' a',Γ'.objs=st'.objs→Good D B0 Gd Γ'→Slots D Γ' st'.slots a'→Tr D Γ Γ'→a'.defers=a.defers→K a' Γ'.w) :
    wpOpIn (Fr ro) m P ops.toArray Q i K a Γ.w:=by
 obtain ⟨o,os,os',ps,ho,h1,hp⟩:=h
 have:=step_sim hT hs hΓ hG hS (fun hm=>hf i o ho hm hui) h1 hp (ro:=ro) (m:=m) (Q:=Q) hK
 unfold wpOpIn
 rw [List.getElem?_toArray,ho]
 simp only
 split at this
 · rename_i c; rw [if_pos c]; exact this
 · rename_i c; rw [if_neg c]; exact ⟨fun _ _=>trivial,this⟩
theorem any_sim {ops:List Oper} {base:Nat} {G:Nat→Log} {fin:St} {Γ0:Ctx} {a0:Act} {ro:Option Nat} {m:Nat} {Q:Exit→Act→World→Prop}
    (hQ:∀ Γ' a',Γ'.objs=fin.objs→Good D B0 Gd Γ'→Slots D Γ' fin.slots a'→Tr D Γ0 Γ'→a'.defers=a0.defers→Q .normal a' Γ'.w) :
    ∀ (fuel:Nat) (listed:Array Bool) (st:St) (Γ:Ctx) (a:Act),Any D (sem P D B0 Gd) ops base G (·=fin) fuel listed st→Γ.objs=st.objs→Good D B0 Gd Γ→Slots D Γ st.slots a→Fresh D ops base (fun i=>listed.getD i true=false) st→Tr D Γ0 Γ→a.defers=a0.defers →
     wpAnyIn (Fr ro) m P .any ops.toArray Q fuel listed a Γ.w
 | 0,listed,st,Γ,a,h,hΓ,hG,hS,hf,ht,hd=>by
  obtain ⟨h1,rfl⟩:=h
  exact ⟨h1,hQ Γ a hΓ hG hS ht hd⟩
 | fuel+1,listed,st,Γ,a,h,hΓ,hG,hS,hf,ht,hd=>by
  refine ⟨fun h0=>?_,fun i hi=>?_⟩
  · have:=h.1 h0
    subst this
    exact hQ Γ a hΓ hG hS ht hd
  · obtain ⟨st',h1,h2⟩:=h.2 i hi
    refine astep_sim hT hs hΓ hG hS hf (mem_ready.1 hi).1 h1 fun Γ' a' k1 k2 k3 k4 k5=>?_
    refine any_sim hQ fuel _ st' Γ' a' h2 k1 k2 k3 (fresh_step h1 (fun k hk=>?_) hf) (ht.trans k4) (k5.trans hd)
    by_cases e:i=k
    · subst e
      exfalso
      rcases Nat.lt_or_ge i listed.size with h' | h'
      · simp [h'] at hk
      · have:=(mem_ready.1 hi).1
        simp [Array.getElem?_eq_none h'] at this
    · rw [getD_set_ne true e] at hk
      exact ⟨hk,Ne.symm e⟩
theorem list_sim {ops:List Oper} {base:Nat} {G:Nat→Log} {fin:St} {Γ0:Ctx} {a0:Act} {ro:Option Nat} {m:Nat} {Q:Exit→Act→World→Prop}
    (hQ:∀ Γ' a',Γ'.objs=fin.objs→Good D B0 Gd Γ'→Slots D Γ' fin.slots a'→Tr D Γ0 Γ'→a'.defers=a0.defers→Q .normal a' Γ'.w) :
    ∀ (n k:Nat) (st:St) (Γ:Ctx) (a:Act),Chain D (sem P D B0 Gd) ops base G fin n k st→Γ.objs=st.objs→Good D B0 Gd Γ→Slots D Γ st.slots a→Fresh D ops base (fun i=>k≤i) st→Tr D Γ0 Γ→a.defers=a0.defers →
     wpOpsIn (Fr ro) m P ops.toArray Q (List.range' k n) a Γ.w
 | 0,k,st,Γ,a,h,hΓ,hG,hS,hf,ht,hd=>by
  have:st=fin:=h
  subst this
  exact hQ Γ a hΓ hG hS ht hd
 | n+1,k,st,Γ,a,h,hΓ,hG,hS,hf,ht,hd=>by
  obtain ⟨st',h1,h2⟩:=h
  rw [List.range'_succ,wpOpsIn_cons]
  refine astep_sim hT hs hΓ hG hS hf (Nat.le_refl k) h1 fun Γ' a' k1 k2 k3 k4 k5=>?_
  exact list_sim hQ n (k+1) st' Γ' a' h2 k1 k2 k3 (fresh_step h1 (fun i hi=>⟨by omega,by omega⟩) hf) (ht.trans k4) (k5.trans hd)
theorem lk_none (objs:Objs) (n l:Nat):lk (objs++List.replicate n none) l=lk objs l:=by
 unfold lk
 rw [List.getD_eq_getElem?_getD,List.getD_eq_getElem?_getD,List.getElem?_append]
 split
 · rfl
 · rename_i h
   rw [List.getElem?_eq_none (by omega:objs.length≤l),List.getElem?_replicate]
   split <;> rfl
theorem rank_count:∀ (ops:List Oper),rank D ops=(ops.filter (makes D ·.op)).length
 | []=>rfl
 | o::ops=>by
  simp only [rank,List.filter_cons]
  rw [rank_count ops]
  split <;> simp
theorem region_sim {id:Nat} {ops:Array Oper} {draw:Bool} {st st':St} {os os':List Orc} {ps:List Prop} {Γ:Ctx} {a:Act} {ro:Option Nat} {m:Nat} {Q:Exit→Act→World→Prop} (hm:P.follows .mixedOrders=true) (h:runRegion D (sem P D B0 Gd) ops draw st os=some (st',os',ps)) (hp:All ps)
    (hΓ:Γ.objs=st.objs) (hG:Good D B0 Gd Γ) (hS:Slots D Γ st.slots a)
    (hQ:∀ Γ' a',Γ'.objs=st'.objs→Good D B0 Gd Γ'→Slots D Γ' st'.slots a'→Tr D Γ Γ'→a'.defers=a.defers→Q .normal a' Γ'.w):(Code.region id ops draw).wpIn (Fr ro) m P Q a Γ.w:=by
 unfold runRegion at h
 obtain ⟨x,os1,p1,b1,os2,q1,h1,h2,e⟩:=bind_some h
 cases e
 obtain ⟨fin,gs⟩:=x
 obtain ⟨_,os3,p3,b3,os4,q3,h3,h4,e⟩:=bind_some h2
 cases e
 obtain ⟨k3,e3⟩:=sure_some h3
 cases e3
 cases pure_some h4
 have hp1:=(all_append hp).1
 have hfresh:∀ un,Fresh D ops.toList st.objs.length un ⟨st.slots,st.objs++List.replicate (rank D ops.toList) none⟩:=by
  intro un i o ho hmk _
  have hlt:((ops.toList.take i).filter (makes D ·.op)).length < rank D ops.toList:=by
   rw [rank_count hT hs]
   have:=count_lt (j:=ops.toList.length) ho hmk (List.getElem?_eq_some_iff.1 ho).1
   rwa [List.take_length] at this
  simp only [List.length_append,List.length_replicate]
  refine ⟨by omega,?_⟩
  rw [lk_none hT hs]
  unfold lk
  rw [List.getD_eq_getElem?_getD,List.getElem?_eq_none (by omega)]
  rfl
 cases draw with
 | false =>
  obtain ⟨g1,g2⟩:=look_ok hG (objs:=st.objs++List.replicate (rank D ops.toList) none) (fun l=>by rw [lk_none hT hs,hΓ])
  obtain ⟨c1,_⟩:=chain_of_run (ops:=ops.toList) (base:=st.objs.length) (G:=fun i=>gs.getD i default) ops.toList 0 _ _ gs _ _ _ (by simp) (by simp) (by simp) (by simpa using h1) hp1
  refine wpIn_region ?_
  have:=list_sim hT hs (ops:=ops.toList) (Γ0:=Γ) (a0:=a) (ro:=ro) (m:=m) (Q:=Q)  hQ ops.toList.length 0 _ ⟨Γ.S,st.objs++List.replicate (rank D ops.toList) none,Γ.w⟩ a c1 rfl g1 (hS.tr g2) (hfresh _) g2 rfl
  rw [← List.range_eq_range'] at this
  simpa using this
 | true =>
  have hd:drawOk ops.toList gs=true:=by simpa using k3
  obtain ⟨d1,d2⟩:=drew_ok hs hG
  obtain ⟨g1,g2⟩:=look_ok d1 (objs:=st.objs++List.replicate (rank D ops.toList) none) (fun l=>by rw [lk_none hT hs,hΓ])
  obtain ⟨G,hany⟩:=any_of_run h1 hp1 hd
  refine wpIn_region_any hm ?_
  have:=any_sim hT hs (ops:=ops.toList) (Γ0:=Γ) (a0:=a) (ro:=ro) (m:=m) (Q:=Q)  hQ ops.toList.length _ _ ⟨Γ.S,st.objs++List.replicate (rank D ops.toList) none,Γ.w.drew⟩ a hany rfl g1 (hS.tr (d2.trans g2)) (hfresh _) (d2.trans g2) rfl
  simpa using this
end
end Gev
namespace Gev
open Go
variable {P:Program} {D:Tab} {B0:Nat} {Gd:World→Prop}
theorem lk_push {objs:Objs} {o:Option Ob} {k:Nat}:lk (objs++[o]) k=if k=objs.length then o else lk objs k:=by
 unfold lk
 rw [List.getD_eq_getElem?_getD,List.getD_eq_getElem?_getD,List.getElem?_append]
 by_cases h:k < objs.length
 · rw [if_pos h,if_neg (by omega)]
 · rw [if_neg h]
   by_cases e:k=objs.length
   · subst e; simp
   · rw [if_neg e,List.getElem?_eq_none (by simp; omega),List.getElem?_eq_none (by omega)]
theorem lk_out {objs:Objs} {k:Nat} (h:objs.length≤k):lk objs k=none:=by
 unfold lk
 rw [List.getD_eq_getElem?_getD,List.getElem?_eq_none h]
 rfl
theorem nil_vec {Γ:Ctx} (h:Good D B0 Gd Γ) {fr t:Nat} (hn:lk Γ.objs fr=none) {ti:TI} (ht:D.ty t=some ti) {objs:Objs} (hlk:∀ k,lk objs k=if k=fr then some (.vec t []) else lk Γ.objs k) :
    Good D B0 Gd ⟨⟨fun k=>if k=fr then none else Γ.S k,Γ.S.ext⟩,objs,Γ.w⟩∧Tr D Γ ⟨⟨fun k=>if k=fr then none else Γ.S k,Γ.S.ext⟩,objs,Γ.w⟩∧RepA D ⟨⟨fun k=>if k=fr then none else Γ.S k,Γ.S.ext⟩,objs,Γ.w⟩ (.slice none 0 0) (.vec fr 0):=by
 have hmine:∀ b,(Ctx.mk ⟨fun k=>if k=fr then none else Γ.S k,Γ.S.ext⟩ objs Γ.w).mine b→Γ.mine b:=by
  rintro b ⟨k,o,a1,a2,a3⟩
  simp only at a1 a3
  rw [hlk] at a1
  by_cases e1:k=fr
  · rw [if_pos e1] at a3; cases a3
  · rw [if_neg e1] at a1 a3
    exact ⟨k,o,a1,a2,a3⟩
 have hown:∀ b,(Ctx.mk ⟨fun k=>if k=fr then none else Γ.S k,Γ.S.ext⟩ objs Γ.w).own b→Γ.own b:=Ctx.own_of' rfl hmine
 have hd:∀ v d,RepD Γ.w Γ.own v d→RepD Γ.w (Ctx.mk ⟨fun k=>if k=fr then none else Γ.S k,Γ.S.ext⟩ objs Γ.w).own v d:=fun v d hv=>hv.same hown
 have htr:Tr D Γ (Ctx.mk ⟨fun k=>if k=fr then none else Γ.S k,Γ.S.ext⟩ objs Γ.w):=by
  refine ⟨Kept.refl _ _,rfl,fun b hb=>.inl (hmine b hb),fun k cs hc=>?_,fun v k len hv=>?_,fun v k i off hv=>?_⟩
  · have e1:k≠fr:=fun e=>by rw [e,hn] at hc; cases hc
    exact ⟨cs,by simp only; rw [hlk,if_neg e1]; exact hc,by simp only; rw [if_neg e1]⟩
  · have e1:k≠fr:=by
     intro e
     subst e
     cases hv with
     | vnil _ _ h1=>rw [hn] at h1; cases h1
     | vec _ _ _ _ _ _ _ _ h1=>rw [hn] at h1; cases h1
     | fvec _ _ _ h1=>rw [hn] at h1; cases h1
     | gone _ _ h1=>rw [hn] at h1; cases h1
    exact RepA.vec_same (Γ:=Γ) (Γ':=Ctx.mk ⟨fun k=>if k=fr then none else Γ.S k,Γ.S.ext⟩ objs Γ.w) hd (by simp only; rw [hlk,if_neg e1]) (by simp only; rw [if_neg e1]) (fun _ _ _ _ _=>rfl) hv
  · have e1:k≠fr:=by
     intro e
     subst e
     cases hv with
     | vptr _ _ _ _ _ _ _ h1=>rw [hn] at h1; cases h1
     | fptr _ _ _ _ _ _ h1=>rw [hn] at h1; cases h1
     | pgone _ _ _ h1=>rw [hn] at h1; cases h1
    exact RepA.vptr_same (Γ:=Γ) (Γ':=Ctx.mk ⟨fun k=>if k=fr then none else Γ.S k,Γ.S.ext⟩ objs Γ.w) (fun a d _ _ ⟨u,h3,h4⟩=>⟨u,h3,hd u d h4⟩) (Nat.le_refl _) (fun b _ hno hb=>hno (hown b hb)) (by simp only; rw [hlk,if_neg e1]) (by simp only; rw [if_neg e1]) hv
 refine ⟨⟨fun k o hk=>?_,fun k k' o o' c a1 a2 v1 v2 s1 s2=>?_,fun b hb=>h.own b (hown b hb),htr.extOk h.ext,h.size,h.gd⟩,htr,.vnil fr t (by simp only; rw [hlk,if_pos rfl]) (by simp)⟩
 · simp only at hk
   rw [hlk] at hk
   by_cases e1:k=fr
   · rw [if_pos e1] at hk; cases hk; subst e1
     exact ⟨ti,ht,by simp,.inl ⟨by simp,rfl⟩⟩
   · rw [if_neg e1] at hk
     exact (h.ob k o hk).same htr (by simp only; rw [if_neg e1]) fun _ _ _=>rfl
 · simp only at a1 a2 s1 s2
   rw [hlk] at a1 a2
   by_cases e1:k=fr
   · rw [if_pos e1] at s1; cases s1
   · by_cases e2:k'=fr
     · rw [if_pos e2] at s2; cases s2
     · rw [if_neg e1] at a1 s1
       rw [if_neg e2] at a2 s2
       exact h.inj k k' o o' c a1 a2 v1 v2 s1 s2
theorem slots_set {Γ:Ctx} {slots:List AV} {a:Act} (h:Slots D Γ slots a) {i:Nat} {v:AV} (hv:∀ u,a.tmps[i]?=some u→RepA D Γ u v):Slots D Γ (slots.set i v) a:=by
 refine ⟨by simp [h.size],fun j x u hx hu=>?_⟩
 rw [List.getElem?_set] at hx
 split at hx
 · rename_i e
   subst e
   split at hx
   · cases hx; exact hv u hu
   · cases hx
 · exact h.slot j x u hx hu
theorem vecify_ok (hs:Stable B0 Gd) {a:Act}:∀ (rows:List (Nat × Nat)) (st st1:St) (Γ:Ctx),vecify D rows st=some st1→Γ.objs=st.objs→Good D B0 Gd Γ→Slots D Γ st.slots a →
    ∃ Γ1,Γ1.objs=st1.objs∧Γ1.w=Γ.w∧Good D B0 Gd Γ1∧Slots D Γ1 st1.slots a∧Tr D Γ Γ1∧st.objs.length≤st1.objs.length
 | [],st,st1,Γ,h,hΓ,hG,hS=>by cases h; exact ⟨Γ,hΓ,rfl,hG,hS,Tr.refl _,Nat.le_refl _⟩
 | (i,t)::rows,st,st1,Γ,h,hΓ,hG,hS=>by
  simp only [vecify] at h
  rw [List.getD_eq_getElem?_getD] at h
  cases hsl:st.slots[i]? with
  | none=>rw [hsl] at h; cases h
  | some v =>
   rw [hsl] at h
   simp only [Option.getD_some] at h
   have hn:lk Γ.objs st.objs.length=none:=by rw [hΓ]; exact lk_out (Nat.le_refl _)
   cases v with
   | nils =>
    simp only at h
    split at h
    · rename_i hty
      obtain ⟨ti,ht⟩:=Option.isSome_iff_exists.1 hty
      obtain ⟨k1,k2,k3⟩:=nil_vec hG (fr:=st.objs.length) hn ht (objs:=st.objs++[some (.vec t [])]) (fun k=>by rw [lk_push,hΓ])
      obtain ⟨Γ1,m1,m2,m3,m4,m5,m6⟩:=vecify_ok hs rows _ st1 ⟨⟨fun k=>if k=st.objs.length then none else Γ.S k,Γ.S.ext⟩,st.objs++[some (.vec t [])],Γ.w⟩ h rfl k1
       (slots_set (hS.tr k2) fun u hu=>by
        have:=hS.slot i _ u hsl hu
        rw [RepA.nils_inv this]
        exact k3)
      exact ⟨Γ1,m1,m2,m3,m4,k2.trans m5,by simp at m6; omega⟩
    · cases h
   | vec l len =>
    simp only at h
    cases hl:lk st.objs l with
    | none=>rw [hl] at h; cases h
    | some ob =>
     rw [hl] at h
     cases ob with
     | vec t' xs =>
      simp only at h
      obtain ⟨g1,g2⟩:=look_ok hG (objs:=st.objs++[none]) (fun k=>by
       rw [lk_push,hΓ]
       split
       · rename_i e; rw [e,lk_out (Nat.le_refl _)]
       · rfl)
      have hl1:lk (st.objs++[none]) l=some (.vec t' xs):=by rw [lk_push,if_neg (by have:=lk_lt hl; omega)]; exact hl
      have hn1:lk (st.objs++[none]) st.objs.length=none:=by rw [lk_push,if_pos rfl]
      have hobjs:((st.objs++[none]).set l (some .dead)).set st.objs.length (some (.vec t' xs))=st.objs.set l (some .dead)++[some (.vec t' xs)]:=by
       have:=lk_lt hl
       rw [List.set_append_left _ _ this]
       rw [List.set_append_right _ _ (by simp)]
       simp
      obtain ⟨ti,q0,q1,hob⟩:=g1.ob l _ hl1
      obtain ⟨k1,k2⟩:=move_ok (Γ:=⟨Γ.S,st.objs++[none],Γ.w⟩) (zs:=xs) (sb:=Γ.S l) (w':=Γ.w) hs g1 (fr:=st.objs.length) (by simp) hn1 hl1 (Kept.refl _ _) (fun _ _ _=>rfl) (fun b hb=>.inr hb)
       (Γ':=⟨⟨fun k=>if k=st.objs.length then Γ.S l else Γ.S k,Γ.S.ext⟩,st.objs.set l (some .dead)++[some (.vec t' xs)],Γ.w⟩) (by rw [hobjs]) fun hd=>by
        refine ⟨ti,q0,q1,?_⟩
        rcases hob with ⟨h2,h3⟩ | ⟨b,arr,cap,h2,h3,h4,h5,h6⟩
        · exact .inl ⟨by simpa using h2,h3⟩
        · exact .inr ⟨b,arr,cap,by simpa using h2,h3,h4,h5,fun i x j d u a1 a2 a3=>hd _ _ (h6 i x j d u a1 a2 a3)⟩
      have hlk':lk (st.objs.set l (some .dead)++[some (.vec t' xs)]) st.objs.length=some (.vec t' xs):=by rw [lk_push,if_pos (by simp)]
      obtain ⟨Γ1,m1,m2,m3,m4,m5,m6⟩:=vecify_ok hs rows _ st1 ⟨⟨fun k=>if k=st.objs.length then Γ.S l else Γ.S k,Γ.S.ext⟩,st.objs.set l (some .dead)++[some (.vec t' xs)],Γ.w⟩ h rfl k1
       (slots_set (hS.tr (g2.trans k2)) fun u hu=>by
        have hu':=hS.slot i _ u hsl hu
        rw [← hΓ] at hl
        cases hu' with
        | vnil _ t'' a1 a2=>rw [hl] at a1; cases a1; exact .vnil _ t' hlk' (by simpa using a2)
        | vec _ _ cap b t'' ti' ys arr a1 a2 a3 a4 a5 a6 a7 =>
         rw [hl] at a1; cases a1
         exact .vec _ len cap b t' ti' xs arr hlk' a2 (by simpa using a3) a4 a5 a6 a7
        | fvec _ _ _ a1=>rw [hl] at a1; cases a1
        | gone _ _ a1=>rw [hl] at a1; cases a1)
      exact ⟨Γ1,m1,m2,m3,m4,(g2.trans k2).trans m5,by simp at m6; omega⟩
     | _=>cases h
   | _=>cases h
end Gev
namespace Gev
open Go
variable {P:Program} {D:Tab} {B0:Nat} {Gd:World→Prop}
theorem rowAt_some {objs:Objs} {l:Nat} {o:Ob} (h:rowAt objs l=some o):lk objs l=some o∧∀ cs,o≠.cells cs:=by
 unfold rowAt at h
 cases hl:lk objs l with
 | none=>rw [hl] at h; cases h
 | some q=>rw [hl] at h; cases q <;> cases h <;> exact ⟨rfl,fun cs=>by simp⟩
theorem rowAt_of {objs:Objs} {l:Nat} {o:Ob} (h:lk objs l=some o) (hno:∀ cs,o≠.cells cs):rowAt objs l=some o:=by
 unfold rowAt
 rw [h]
 cases o with
 | cells cs=>exact absurd rfl (hno cs)
 | _=>rfl
theorem live_ok (n0:Nat):∀ (vs:List AV) (acc:List Nat),acc.Nodup→(∀ l∈acc,n0≤l)→(liveOf n0 acc vs).Nodup∧∀ l∈liveOf n0 acc vs,n0≤l
 | [],acc,h1,h2=>⟨h1,h2⟩
 | v::vs,acc,h1,h2=>by
  have key:∀ acc':List Nat,acc'.Nodup→(∀ l∈acc',n0≤l)→(liveOf n0 acc' vs).Nodup∧∀ l∈liveOf n0 acc' vs,n0≤l:=live_ok n0 vs
  cases v with
  | vec l len =>
   simp only [liveOf]
   split
   · rename_i hc
     simp only [Bool.and_eq_true,decide_eq_true_eq,Bool.not_eq_true',List.contains_eq_mem,decide_eq_false_iff_not] at hc
     refine key _ ?_ ?_
     · rw [List.nodup_append]
       exact ⟨h1,by simp,fun a ha b hb=>by simp at hb; subst hb; intro e; subst e; exact hc.2 ha⟩
     · intro k hk
       rcases List.mem_append.1 hk with hk | hk
       · exact h2 k hk
       · simp at hk; omega
   · exact key acc h1 h2
  | _=>exact key acc h1 h2
theorem keepAVs_get {n0:Nat} {live:List Nat}:∀ {vs vs':List AV},keepAVs n0 live vs=some vs'→vs'.length=vs.length∧∀ (i:Nat) v',vs'[i]?=some v'→∃ v,vs[i]?=some v∧keepAV n0 live v=some v'
 | [],vs',h=>by cases h; exact ⟨rfl,fun i v' h=>by simp at h⟩
 | v::vs,vs',h=>by
  simp only [keepAVs] at h
  cases h1:keepAV n0 live v with
  | none=>rw [h1] at h; cases h
  | some x =>
   cases h2:keepAVs n0 live vs with
   | none=>rw [h1,h2] at h; cases h
   | some xs =>
    rw [h1,h2] at h
    cases h
    obtain ⟨l1,l2⟩:=keepAVs_get h2
    refine ⟨by simp [l1],fun i v' hv=>?_⟩
    cases i with
    | zero=>simp at hv; subst hv; exact ⟨v,by simp,h1⟩
    | succ i=>obtain ⟨u,e1,e2⟩:=l2 i v' (by simpa using hv); exact ⟨u,by simpa using e1,e2⟩
theorem keepObjs_get {n0:Nat} {live:List Nat}:∀ {os os':Objs},keepObjs n0 live os=some os'→os'.length=os.length∧∀ i,(∃ cs cs',lk os i=some (.cells cs)∧lk os' i=some (.cells cs')∧keepAVs n0 live cs=some cs')∨(lk os' i=lk os i∧∀ cs,lk os i≠some (.cells cs))
 | [],os',h=>by cases h; exact ⟨rfl,fun i=>.inr ⟨rfl,fun cs=>by simp [lk]⟩⟩
 | o::os,os',h=>by
  have key:∀ (o':Option Ob) (os2:Objs),keepObjs n0 live os=some os2→((∃ cs cs',o=some (.cells cs)∧o'=some (.cells cs')∧keepAVs n0 live cs=some cs')∨(o'=o∧∀ cs,o≠some (.cells cs))) →
      (o'::os2).length=(o::os).length∧∀ i,(∃ cs cs',lk (o::os) i=some (.cells cs)∧lk (o'::os2) i=some (.cells cs')∧keepAVs n0 live cs=some cs')∨(lk (o'::os2) i=lk (o::os) i∧∀ cs,lk (o::os) i≠some (.cells cs)):=by
   intro o' os2 h2 h3
   obtain ⟨l1,l2⟩:=keepObjs_get h2
   refine ⟨by simp [l1],fun i=>?_⟩
   cases i with
   | zero=>simpa [lk] using h3
   | succ i=>have:=l2 i; simpa [lk] using this
  cases h2:keepObjs n0 live os with
  | none =>
   cases o with
   | none=>simp only [keepObjs,h2] at h; cases h
   | some ob =>
    cases ob with
    | cells cs=>simp only [keepObjs,h2] at h; cases h3:keepAVs n0 live cs <;> rw [h3] at h <;> cases h
    | _=>simp only [keepObjs,h2] at h; cases h
  | some os2 =>
   cases o with
   | none =>
    simp only [keepObjs,h2] at h
    cases h
    exact key none os2 h2 (.inr ⟨rfl,fun cs=>by simp⟩)
   | some ob =>
    cases ob with
    | cells cs =>
     simp only [keepObjs,h2] at h
     cases h3:keepAVs n0 live cs with
     | none=>rw [h3] at h; cases h
     | some cs' =>
      rw [h3] at h
      cases h
      exact key (some (.cells cs')) os2 h2 (.inl ⟨cs,cs',rfl,rfl,h3⟩)
    | vec t xs =>
     simp only [keepObjs,h2] at h
     cases h
     exact key _ os2 h2 (.inr ⟨rfl,fun cs=>by simp⟩)
    | fro xs =>
     simp only [keepObjs,h2] at h
     cases h
     exact key _ os2 h2 (.inr ⟨rfl,fun cs=>by simp⟩)
    | dead =>
     simp only [keepObjs,h2] at h
     cases h
     exact key _ os2 h2 (.inr ⟨rfl,fun cs=>by simp⟩)
theorem lk_take {os:Objs} {n i:Nat}:lk (os.take n) i=if i < n then lk os i else none:=by
 unfold lk
 rw [List.getD_eq_getElem?_getD,List.getD_eq_getElem?_getD,List.getElem?_take]
 split <;> rfl
theorem keptOnly_get (keep:List Nat):∀ (vs:List AV) (i:Nat),(keptOnly keep i vs).length=vs.length∧∀ (j:Nat) (v':AV),(keptOnly keep i vs)[j]?=some v'→v'=.undef∨vs[j]?=some v'
 | [],i=>⟨rfl,fun j v' h=>by simp [keptOnly] at h⟩
 | v::vs,i=>by
  obtain ⟨l1,l2⟩:=keptOnly_get keep vs (i+1)
  refine ⟨by simp [keptOnly,l1],fun j v' h=>?_⟩
  cases j with
  | zero =>
   simp only [keptOnly,List.getElem?_cons_zero,Option.some.injEq] at h
   split at h
   · exact .inr (by simp [h])
   · exact .inl h.symm
  | succ j=>simpa using l2 j v' (by simpa [keptOnly] using h)
theorem keep_core {n0:Nat} {st:St} {Γ:Ctx} {live:List Nat} {objs:Objs} (hnd:live.Nodup) (hge:∀ l∈live,n0≤l) (h2:keepObjs n0 live (st.objs.take n0)=some objs) (hn:n0≤st.objs.length) (hΓ:Γ.objs=st.objs) (hG:Good D B0 Gd Γ) :
    ∃ Γ0,Γ0.objs=objs++live.map (rowAt st.objs)∧Γ0.w=Γ.w∧Good D B0 Gd Γ0∧(∀ u v v',RepA D Γ u v→keepAV n0 live v=some v'→RepA D Γ0 u v')∧TrB D n0 Γ Γ0∧n0≤(objs++live.map (rowAt st.objs)).length∧Γ0.S.ext=Γ.S.ext:=by
 obtain ⟨l1,l2⟩:=keepObjs_get h2
 have hlen:objs.length=n0:=by rw [l1]; simp; omega
 let S0:Sig:=⟨fun k=>if k < n0 then Γ.S k else match live[k - n0]? with | some l=>Γ.S l | none=>none,Γ.S.ext⟩
 have hlow:∀ i,i < n0→lk (objs++live.map (rowAt st.objs)) i=lk objs i:=by
  intro i hi
  unfold lk
  rw [List.getD_eq_getElem?_getD,List.getD_eq_getElem?_getD,List.getElem?_append_left (by omega)]
 have hhigh:∀ i,n0≤i→lk (objs++live.map (rowAt st.objs)) i=match live[i - n0]? with | some l=>rowAt st.objs l | none=>none:=by
  intro i hi
  conv=>lhs; unfold lk
  rw [List.getD_eq_getElem?_getD,List.getElem?_append_right (by omega),hlen,List.getElem?_map]
  cases live[i - n0]? <;> rfl
 have hlow2:∀ i,i < n0→(∃ cs cs',lk Γ.objs i=some (.cells cs)∧lk (objs++live.map (rowAt st.objs)) i=some (.cells cs')∧keepAVs n0 live cs=some cs')∨(lk (objs++live.map (rowAt st.objs)) i=lk Γ.objs i∧∀ cs,lk Γ.objs i≠some (.cells cs)):=by
  intro i hi
  have:=l2 i
  rw [lk_take,if_pos hi,← hΓ] at this
  rw [hlow i hi]
  exact this
 have hS0low:∀ i,i < n0→S0 i=Γ.S i:=fun i hi=>by simp only [S0,if_pos hi]
 have hS0high:∀ i l,n0≤i→live[i - n0]?=some l→S0 i=Γ.S l:=fun i l hi hl=>by simp only [S0,if_neg (Nat.not_lt.2 hi),hl]
 have from':∀ i o,lk (objs++live.map (rowAt st.objs)) i=some o→∃ l,S0 i=Γ.S l∧((i < n0∧l=i)∨(n0≤i∧live[i - n0]?=some l∧∀ cs,o≠.cells cs))∧(lk Γ.objs l=some o∨∃ cs cs',o=.cells cs'∧lk Γ.objs l=some (.cells cs)∧keepAVs n0 live cs=some cs'):=by
  intro i o ho
  rcases Nat.lt_or_ge i n0 with hi | hi
  · refine ⟨i,hS0low i hi,.inl ⟨hi,rfl⟩,?_⟩
    rcases hlow2 i hi with ⟨cs,cs',e1,e2,e3⟩ | ⟨e1,_⟩
    · rw [e2] at ho; cases ho
      exact .inr ⟨cs,cs',rfl,e1,e3⟩
    · exact .inl (e1 ▸ ho)
  · rw [hhigh i hi] at ho
    cases hl:live[i - n0]? with
    | none=>rw [hl] at ho; cases ho
    | some l =>
     rw [hl] at ho
     have:=rowAt_some ho
     exact ⟨l,hS0high i l hi hl,.inr ⟨hi,rfl,this.2⟩,.inl (hΓ ▸ this.1)⟩
 have hmine:∀ b,(Ctx.mk S0 (objs++live.map (rowAt st.objs)) Γ.w).mine b→Γ.mine b:=by
  rintro b ⟨i,o,a1,a2,a3⟩
  obtain ⟨l,e1,_,e2⟩:=from' i o a1
  simp only at a3
  rw [e1] at a3
  rcases e2 with e2 | ⟨cs,cs',rfl,e2,_⟩
  · exact ⟨l,o,e2,a2,a3⟩
  · exact ⟨l,_,e2,rfl,a3⟩
 have hown:∀ b,(Ctx.mk S0 (objs++live.map (rowAt st.objs)) Γ.w).own b→Γ.own b:=Ctx.own_of' rfl hmine
 have hd:∀ v d,RepD Γ.w Γ.own v d→RepD Γ.w (Ctx.mk S0 (objs++live.map (rowAt st.objs)) Γ.w).own v d:=fun v d hv=>hv.same hown
 have hnc:∀ i o,i < n0→lk Γ.objs i=some o→(∀ cs,o≠.cells cs)→lk (objs++live.map (rowAt st.objs)) i=lk Γ.objs i:=by
  intro i o hi ho hno
  rcases hlow2 i hi with ⟨cs,cs',e1,_,_⟩ | ⟨e1,_⟩
  · rw [e1] at ho; cases ho; exact absurd rfl (hno cs)
  · exact e1
 have hvec:∀ v l len,l < n0→RepA D Γ v (.vec l len)→RepA D (Ctx.mk S0 (objs++live.map (rowAt st.objs)) Γ.w) v (.vec l len):=by
  intro v l len hl hv
  refine RepA.vec_same (Γ:=Γ) (Γ':=Ctx.mk S0 (objs++live.map (rowAt st.objs)) Γ.w) hd ?_ (hS0low l hl) (fun _ _ _ _ _=>rfl) hv
  cases hv with
  | vnil _ _ h1=>exact hnc l _ hl h1 (by simp)
  | vec _ _ _ _ _ _ _ _ h1=>exact hnc l _ hl h1 (by simp)
  | fvec _ _ _ h1=>exact hnc l _ hl h1 (by simp)
  | gone _ _ h1=>exact hnc l _ hl h1 (by simp)
 have hvptr:∀ v l i off,l < n0→RepA D Γ v (.vptr l i off)→RepA D (Ctx.mk S0 (objs++live.map (rowAt st.objs)) Γ.w) v (.vptr l i off):=by
  intro v l i off hl hv
  refine RepA.vptr_same (Γ:=Γ) (Γ':=Ctx.mk S0 (objs++live.map (rowAt st.objs)) Γ.w) (fun a d _ _ ⟨u,h3,h4⟩=>⟨u,h3,hd u d h4⟩) (Nat.le_refl _) (fun b _ hno hb=>hno (hown b hb)) ?_ (hS0low l hl) hv
  cases hv with
  | vptr _ _ _ _ _ _ _ h1=>exact hnc l _ hl h1 (by simp)
  | fptr _ _ _ _ _ _ h1=>exact hnc l _ hl h1 (by simp)
  | pgone _ _ _ h1=>exact hnc l _ hl h1 (by simp)
 have hptr:∀ l cs,l < n0→lk Γ.objs l=some (.cells cs)→∃ cs',lk (objs++live.map (rowAt st.objs)) l=some (.cells cs')∧S0 l=Γ.S l:=by
  intro l cs hl h1
  rcases hlow2 l hl with ⟨cs1,cs',e1,e2,_⟩ | ⟨_,e2⟩
  · exact ⟨cs',e2,hS0low l hl⟩
  · exact absurd h1 (e2 cs)
 have hfn:∀ (u:Value) (f:Nat) (cap:List AV),RepA D Γ u (.fn f cap)→(∀ a∈cap,AV.low n0 a=true)→RepA D (Ctx.mk S0 (objs++live.map (rowAt st.objs)) Γ.w) u (.fn f cap):=by
  intro u f cap hv hal
  cases hv with
  | fn _ vs _ hvl h =>
   refine .fn f vs _ hvl fun i v a h1 h2=>?_
   have h3:=h i v a h1 h2
   have h4:=hal a (List.mem_of_getElem? h2)
   cases a with
   | ptr l off =>
    have hl:l < n0:=by simpa [AV.low] using h4
    cases h3 with
    | ptr _ _ b cs g1 g2 =>
     obtain ⟨cs',e1,e2⟩:=hptr l cs hl g1
     exact .ptr l off b cs' e1 (e2.trans g2)
   | _=>simp [AV.low] at h4
 have hkeep:∀ u v v',RepA D Γ u v→keepAV n0 live v=some v'→RepA D (Ctx.mk S0 (objs++live.map (rowAt st.objs)) Γ.w) u v':=by
  intro u v v' hv hk
  cases v with
  | c d=>cases hk; cases hv with | c h=>exact .c (hd _ _ h)
  | agg cs=>cases hk; cases hv with | agg vs _ hl h=>exact .agg vs cs hl fun j u d a b=>hd _ _ (h j u d a b)
  | nils=>cases hk; cases hv; exact .nils
  | undef=>cases hk; exact .undef u
  | eptr cs =>
   cases hk
   cases hv with
   | eptr a _ hs ho hc=>exact .eptr a cs hs (fun h=>ho (hown _ h)) fun j d hj=>by obtain ⟨x,e1,e2⟩:=hc j d hj; exact ⟨x,e1,hd _ _ e2⟩
  | ptr l off =>
   simp only [keepAV] at hk
   split at hk
   · rename_i hl
     cases hk
     cases hv with
     | ptr _ _ b cs h1 h2 =>
      obtain ⟨cs',e1,e2⟩:=hptr l cs hl h1
      exact .ptr l off b cs' e1 (e2.trans h2)
   · cases hk
  | mv f ds =>
   cases hk
   exact data_rep (Γ:=Γ) (Γ':=Ctx.mk S0 (objs++live.map (rowAt st.objs)) Γ.w) rfl hown hv.mv_data hv
  | fn f cap =>
   simp only [keepAV] at hk
   cases hal:cap.all (AV.low n0) with
   | false=>rw [hal] at hk; cases hk
   | true =>
    rw [hal] at hk
    cases hk
    exact hfn u f cap hv (by simpa using hal)
  | frow vs =>
   simp only [keepAV] at hk
   cases hal:vs.all (AV.flow n0) with
   | false=>rw [hal] at hk; cases hk
   | true =>
    rw [hal] at hk
    cases hk
    simp only [List.all_eq_true] at hal
    cases hv with
    | frow a n cap _ hs ho hl us hu hc hr =>
     refine .frow a n cap vs hs (fun h=>ho (hown _ h)) hl us hu hc fun j u v h1 h2=>?_
     have h3:=hr j u v h1 h2
     have h4:=hal v (List.mem_of_getElem? h2)
     cases v with
     | fn f cp=>exact hfn u f cp h3 (by simpa [AV.flow] using h4)
     | _=>simp [AV.flow] at h4
  | vec l len =>
   simp only [keepAV] at hk
   split at hk
   · rename_i hl
     cases hk
     exact hvec u l len hl hv
   · rename_i hl
     cases hx:live.idxOf? l with
     | none=>rw [hx] at hk; cases hk
     | some k =>
      rw [hx] at hk
      cases hk
      have hlk':live[k]?=some l:=by
       obtain ⟨hk1,hk2,_⟩:=List.idxOf?_eq_some_iff.1 hx
       rw [List.getElem?_eq_getElem hk1]
       exact congrArg some hk2
      have ho:∀ q,lk Γ.objs l=some q→(∀ cs,q≠.cells cs)→lk (objs++live.map (rowAt st.objs)) (n0+k)=some q:=by
       intro q hq hno
       rw [hhigh _ (by omega),Nat.add_sub_cancel_left,hlk']
       exact rowAt_of (hΓ ▸ hq) hno
      have hs0:S0 (n0+k)=Γ.S l:=hS0high _ l (by omega) (by rw [Nat.add_sub_cancel_left]; exact hlk')
      cases hv with
      | vnil _ t h1 h2=>exact .vnil _ t (ho _ h1 (by simp)) (hs0.trans h2)
      | vec _ _ cap b t ti xs arr h1 h2 h3 h4 h5 h6 h7=>exact .vec _ len cap b t ti xs arr (ho _ h1 (by simp)) h2 (hs0.trans h3) h4 h5 h6 h7
      | fvec _ _ xs h1 h2 h3=>exact .fvec _ len xs (ho _ h1 (by simp)) (hd _ _ h2) h3
      | gone _ _ h1=>exact .gone _ len (ho _ h1 (by simp))
  | _=>cases hk
 have htr:TrB D n0 Γ (Ctx.mk S0 (objs++live.map (rowAt st.objs)) Γ.w):=⟨Kept.refl _ _,rfl,fun b hb=>.inl (hmine b hb),hptr,hvec,hvptr⟩
 refine ⟨⟨S0,objs++live.map (rowAt st.objs),Γ.w⟩,rfl,rfl,⟨fun i o ho=>?_,fun i i' o o' b h1 h2 v1 v2 s1 s2=>?_,fun b hb=>hG.own b (hown b hb),fun b hb=>⟨(hG.ext b hb).1,fun hm=>(hG.ext b hb).2 (hmine b hm)⟩,hG.size,hG.gd⟩,hkeep,htr,by simp; omega,rfl⟩
 · obtain ⟨l,e1,e3,e2⟩:=from' i o ho
   rcases e2 with e2 | ⟨cs,cs',rfl,e2,e4⟩
   · have hob:=hG.ob l o e2
     cases o with
     | cells cs =>
      obtain ⟨b,arr,ty,g1,g2,g3,g4⟩:=hob
      rcases e3 with ⟨hi,rfl⟩ | ⟨hi,hl,hno⟩
      · rcases hlow2 l hi with ⟨cs1,cs',f1,f2,f3⟩ | ⟨_,f2⟩
        · simp only at ho
          rw [f2] at ho; cases ho
          rw [e2] at f1; cases f1
          obtain ⟨m1,m2⟩:=keepAVs_get f3
          refine ⟨b,arr,ty,e1.trans g1,g2,by omega,fun j v u hv hu=>?_⟩
          obtain ⟨v0,n1,n2⟩:=m2 j v hv
          exact hkeep u v0 v (g4 j v0 u n1 hu) n2
        · exact absurd e2 (f2 cs)
      · exact absurd rfl (hno cs)
     | vec t xs =>
      obtain ⟨ti,g0,g1,⟨g2,g3⟩ | ⟨b,arr,cap,g2,g3,g4,g5,g6⟩⟩:=hob
      · exact ⟨ti,g0,g1,.inl ⟨e1.trans g2,g3⟩⟩
      · exact ⟨ti,g0,g1,.inr ⟨b,arr,cap,e1.trans g2,g3,g4,g5,fun i x j d u a1 a2 a3=>hd _ _ (g6 i x j d u a1 a2 a3)⟩⟩
     | fro xs=>trivial
     | dead=>trivial
   · obtain ⟨b,arr,ty,g1,g2,g3,g4⟩:=hG.ob l _ e2
     obtain ⟨m1,m2⟩:=keepAVs_get e4
     refine ⟨b,arr,ty,e1.trans g1,g2,by omega,fun j v u hv hu=>?_⟩
     obtain ⟨v0,n1,n2⟩:=m2 j v hv
     exact hkeep u v0 v (g4 j v0 u n1 hu) n2
 · obtain ⟨l,e1,e3,e2⟩:=from' i o h1
   obtain ⟨l',e1',e3',e2'⟩:=from' i' o' h2
   simp only at s1 s2
   rw [e1] at s1
   rw [e1'] at s2
   have live1:∃ q,lk Γ.objs l=some q∧q.live=true:=by
    rcases e2 with e2 | ⟨cs,cs',rfl,e2,_⟩
    · exact ⟨o,e2,v1⟩
    · exact ⟨_,e2,rfl⟩
   have live2:∃ q,lk Γ.objs l'=some q∧q.live=true:=by
    rcases e2' with e2 | ⟨cs,cs',rfl,e2,_⟩
    · exact ⟨o',e2,v2⟩
    · exact ⟨_,e2,rfl⟩
   obtain ⟨q,f1,f2⟩:=live1
   obtain ⟨q',f1',f2'⟩:=live2
   have hll:l=l':=hG.inj l l' q q' b f1 f1' f2 f2' s1 s2
   subst hll
   rcases e3 with ⟨hi,rfl⟩ | ⟨hi,hl,_⟩
   · rcases e3' with ⟨hi',rfl⟩ | ⟨hi',hl',_⟩
     · rfl
     · have:=hge l (List.mem_of_getElem? hl'); omega
   · rcases e3' with ⟨hi',rfl⟩ | ⟨hi',hl',_⟩
     · have:=hge l (List.mem_of_getElem? hl); omega
     · have h3:=(List.getElem?_eq_some_iff.1 hl)
       have h4:=(List.getElem?_eq_some_iff.1 hl')
       obtain ⟨p1,p2⟩:=h3
       obtain ⟨p3,p4⟩:=h4
       have:=(List.getElem_inj (i:=i - n0) (j:=i' - n0) (h₀:=p1) (h₁:=p3) hnd).1 (p2.trans p4.symm)
       omega
theorem norm_ok {a:Act} {keep:List Nat} {n0:Nat} {st st0:St} {Γ:Ctx} (h:norm keep n0 st=some st0) (hn:n0≤st.objs.length) (hΓ:Γ.objs=st.objs) (hG:Good D B0 Gd Γ) (hS:Slots D Γ st.slots a) :
    ∃ Γ0,Γ0.objs=st0.objs∧Γ0.w=Γ.w∧Good D B0 Gd Γ0∧Slots D Γ0 st0.slots a∧TrB D n0 Γ Γ0∧n0≤st0.objs.length:=by
 unfold norm at h
 simp only at h
 generalize hlive:liveOf n0 (liveOf n0 [] (keptOnly keep 0 st.slots)) (cellsOf (st.objs.take n0))=live at h
 obtain ⟨hnd,hge⟩:live.Nodup∧∀ l∈live,n0≤l:=by
  obtain ⟨a1,a2⟩:=live_ok n0 (keptOnly keep 0 st.slots) [] (by simp) (by simp)
  rw [← hlive]
  exact live_ok n0 _ _ a1 a2
 cases h1:keepAVs n0 live (keptOnly keep 0 st.slots) with
 | none=>rw [h1] at h; cases h
 | some slots =>
 cases h2:keepObjs n0 live (st.objs.take n0) with
 | none=>rw [h1,h2] at h; cases h
 | some objs =>
 rw [h1,h2] at h
 cases h
 obtain ⟨k1,k2⟩:=keepAVs_get h1
 obtain ⟨Γ0,g1,g2,g3,hkeep,g5,g6,_⟩:=keep_core hnd hge h2 hn hΓ hG
 refine ⟨Γ0,g1,g2,g3,⟨?_,fun i v u hv hu=>?_⟩,g5,g6⟩
 · obtain ⟨m1,_⟩:=keptOnly_get keep st.slots 0
   rw [hS.size,← m1,← k1]
 · obtain ⟨v0,n1,n2⟩:=k2 i v hv
   obtain ⟨_,m2⟩:=keptOnly_get keep st.slots 0
   rcases m2 i v0 n1 with rfl | hv0
   · cases n2; exact .undef u
   · exact hkeep u v0 v (hS.slot i v0 u hv0 hu) n2
end Gev
namespace Gev
open Go
variable {P:Program} {D:Tab} {B0:Nat} {Gd:World→Prop}
theorem noneKept_len:∀ {objs objs':Objs},noneKept objs objs'=true→objs.length≤objs'.length
 | [],_,_=>by simp
 | none::os,[],h=>by simp [noneKept] at h
 | none::os,none::os',h=>by have:=noneKept_len (objs:=os) (objs':=os') h; simpa using this
 | none::os,some _::os',h=>by simp [noneKept] at h
 | some _::os,[],h=>by simp [noneKept] at h
 | some _::os,x::os',h=>by have:=noneKept_len (objs:=os) (objs':=os') (by cases x <;> exact h); simpa using this
theorem runOps_len {C:Sem3} {ops:List Oper}:∀ (rest:List Oper) (fr:Nat) (st st':St) (gs:List Log) (os os':List Orc) (ps:List Prop),runOps D C ops rest fr st os=some ((st',gs),os',ps)→st.objs.length≤st'.objs.length
 | [],fr,st,st',gs,os,os',ps,h=>by cases pure_some h; exact Nat.le_refl _
 | o::rest,fr,st,st',gs,os,os',ps,h=>by
  simp only [runOps] at h
  obtain ⟨x,os1,p1,b1,os2,q1,h1,h2,e⟩:=bind_some h
  cases e
  obtain ⟨st1,g⟩:=x
  obtain ⟨y,os3,p3,b3,os4,q3,h3,h4,e⟩:=bind_some h2
  cases e
  obtain ⟨st2,gs'⟩:=y
  cases pure_some h4
  have h5:=runOps_len rest _ st1 _ gs' _ _ _ h3
  refine Nat.le_trans ?_ h5
  obtain ⟨v,⟨r,u,_,_,rfl,_⟩ | ⟨objs',_,k,rfl,_⟩⟩:=step_form h1
  · simp only; rw [setAll_len']; exact Nat.le_refl _
  · exact noneKept_len k
theorem runRegion_len {C:Sem3} {ops:Array Oper} {draw:Bool} {st st':St} {os os':List Orc} {ps:List Prop} (h:runRegion D C ops draw st os=some (st',os',ps)):st.objs.length≤st'.objs.length:=by
 unfold runRegion at h
 obtain ⟨x,os1,p1,b1,os2,q1,h1,h2,e⟩:=bind_some h
 cases e
 obtain ⟨fin,gs⟩:=x
 obtain ⟨_,os3,p3,b3,os4,q3,h3,h4,e⟩:=bind_some h2
 cases e
 cases pure_some h4
 have:=runOps_len _ _ _ _ _ _ _ _ h1
 simp at this
 omega
theorem path_len {C:Sem3}:∀ (c:Code) (st:St) (os:List Orc) (o:Out) (st':St) (os':List Orc) (ps:List Prop),path D C c st os=some ((o,st'),os',ps)→st.objs.length≤st'.objs.length
 | .skip,st,os,o,st',os',ps,h=>by cases pure_some h; exact Nat.le_refl _
 | .region id ops draw,st,os,o,st',os',ps,h=>by
  obtain ⟨st1,os1,p1,b1,os2,q1,h1,h2,e⟩:=bind_some h
  cases e
  cases pure_some h2
  exact runRegion_len h1
 | .seq x y,st,os,o,st',os',ps,h=>by
  obtain ⟨x1,os1,p1,b1,os2,q1,h1,h2,e⟩:=bind_some h
  cases e
  obtain ⟨o1,st1⟩:=x1
  have hx:=path_len x st os o1 st1 os1 p1 h1
  cases o1 with
  | norm=>exact Nat.le_trans hx (path_len y st1 os1 o st' _ q1 h2)
  | exit id=>cases pure_some h2; exact hx
  | ret=>cases pure_some h2; exact hx
 | .cond c x y,st,os,o,st',os',ps,h=>by
  simp only [path] at h
  generalize rho st.slots c=cv at h
  cases cv with
  | c d =>
   cases d with
   | bool t =>
    obtain ⟨t',os1,p1,b1,os2,q1,h1,h2,e⟩:=bind_some h
    cases e
    cases t' with
    | true=>exact path_len x st _ o st' _ q1 h2
    | false=>exact path_len y st _ o st' _ q1 h2
   | _=>cases h
  | _=>cases h
 | .block id b,st,os,o,st',os',ps,h=>by
  obtain ⟨x1,os1,p1,b1,os2,q1,h1,h2,e⟩:=bind_some h
  cases e
  obtain ⟨o1,st1⟩:=x1
  have hx:=path_len b st os o1 st1 os1 p1 h1
  cases o1 with
  | norm=>cases pure_some h2; exact hx
  | ret=>cases pure_some h2; exact hx
  | exit id' =>
   simp only at h2
   split at h2 <;> (cases pure_some h2; exact hx)
 | .loop b,st,os,o,st',os',ps,h=>by
  simp only [path] at h
  unfold askL at h
  cases os with
  | nil=>cases h
  | cons x os1 =>
   cases x with
   | loop keep rows o2 st2 =>
    simp only at h
    cases hv:vecify D rows st with
    | none=>rw [hv] at h; cases h
    | some st1 =>
     rw [hv] at h
     simp only at h
     cases hno:norm keep st.objs.length st1 with
     | none=>rw [hno] at h; cases h
     | some st0 =>
      rw [hno] at h
      simp only at h
      split at h
      · rename_i hle
        cases h
        exact hle
      · cases h
   | _=>cases h
 | .exit id,st,os,o,st',os',ps,h=>by cases pure_some h; exact Nat.le_refl _
 | .ret,st,os,o,st',os',ps,h=>by cases pure_some h; exact Nat.le_refl _
 | .rangeFunc ..,st,os,o,st',os',ps,h=>by cases h
 | .scope _,st,os,o,st',os',ps,h=>by cases h
 | .goto _,st,os,o,st',os',ps,h=>by cases h
 | .label _,st,os,o,st',os',ps,h=>by cases h
def Behind (D:Tab) (B0:Nat) (Gd:World→Prop) (n:Nat) (Γ:Ctx) (ds:List Deferred) (o:Out) (st':St) (e:Exit) (a':Act) (w':World):Prop :=
 o.fits e∧∃ Γ',Γ'.objs=st'.objs∧Γ'.w=w'∧Good D B0 Gd Γ'∧Slots D Γ' st'.slots a'∧TrB D n Γ Γ'∧a'.defers=ds
theorem Behind.after {n m:Nat} {Γ Γ1:Ctx} {ds:List Deferred} {o:Out} {st':St} {e:Exit} {a':Act} {w':World} (h:TrB D n Γ Γ1) (hm:n≤m) (k:Behind D B0 Gd m Γ1 ds o st' e a' w'):Behind D B0 Gd n Γ ds o st' e a' w':=by
 obtain ⟨k1,Γ',k2,k3,k4,k5,k6,k7⟩:=k
 exact ⟨k1,Γ',k2,k3,k4,k5,h.trans k6 hm,k7⟩
theorem wp_seq_stop {ro:Option Nat} {m:Nat} {x y:Code} {Q:Exit→Act→World→Prop} {a:Act} {w:World} (h:x.wpIn (Fr ro) m P (fun e a' w'=>e≠.normal∧Q e a' w') a w):(Code.seq x y).wpIn (Fr ro) m P Q a w :=
 wpIn_seq (wpIn_mono h fun e a' w' hq=>by
  cases e with
  | normal=>exact absurd rfl hq.1
  | _=>exact hq.2)
theorem least {p:Nat→Prop} (h:∃ k,p k):∃ m,p m∧∀ j,p j→m≤j:=by
 obtain ⟨k,hk⟩:=h
 induction k using Nat.strongRecOn with
 | _ k ih =>
  by_cases c:∃ j,j < k∧p j
  · obtain ⟨j,h1,h2⟩:=c
    exact ih j h1 h2
  · exact ⟨k,hk,fun j hj=>Nat.le_of_not_lt fun h=>c ⟨j,h,hj⟩⟩
theorem wp_loop_ranked {ro:Option Nat} {m:Nat} {c:Code} {Q:Exit→Act→World→Prop} {a:Act} {w:World} (R:Nat→Act→World→Prop) {k:Nat} (h0:R k a w)
    (round:∀ k a w,R k a w→c.wpIn (Fr ro) m P (Exit.then (fun a' w'=>∃ j,j < k∧R j a' w') Q) a w):(Code.loop c).wpIn (Fr ro) m P Q a w:=by
 classical
 refine wpIn_loop (fun a w=>∃ k,R k a w) (fun a w=>if h:∃ k,R k a w then Classical.choose (least h) else 0) ⟨k,h0⟩ fun a w hI=>?_
 rw [dif_pos hI]
 refine wpIn_mono (round _ a w (Classical.choose_spec (least hI)).1) fun e a' w' hq=>?_
 cases e with
 | normal =>
  obtain ⟨j,hj,hr⟩:=hq
  have h1:∃ k,R k a' w':=⟨j,hr⟩
  refine ⟨h1,?_⟩
  rw [dif_pos h1]
  exact Nat.lt_of_le_of_lt ((Classical.choose_spec (least h1)).2 _ hr) hj
 | _=>exact hq
theorem loop_sim {n:Nat} {b:Code} {st st':St} {o:Out} {Γ:Ctx} {a:Act} (h:LoopOk P D B0 Gd n b st o st') (hn:n≤st.objs.length) (hΓ:Γ.objs=st.objs) (hG:Good D B0 Gd Γ) (hS:Slots D Γ st.slots a) (ro:Option Nat) (m:Nat) :
    (Code.loop b).wpIn (Fr ro) m P (Behind D B0 Gd n Γ a.defers o st') a Γ.w:=by
 obtain ⟨k,hk⟩:=h
 refine wp_loop_ranked (R:=fun k a1 w=>∃ st1 Γ1,n≤st1.objs.length∧Γ1.objs=st1.objs∧Γ1.w=w∧Good D B0 Gd Γ1∧Slots D Γ1 st1.slots a1∧TrB D n Γ Γ1∧a1.defers=a.defers∧LoopR P D B0 Gd n b o st' k st1)
  ⟨st,Γ,hn,hΓ,rfl,hG,hS,(Tr.refl Γ).toB n,rfl,hk⟩ fun k a1 w hR=>?_
 obtain ⟨st1,Γ1,h1,h2,rfl,h4,h5,h6,h7,h8⟩:=hR
 cases k with
 | zero=>exact h8.elim
 | succ k =>
  refine wpIn_mono (h8 ro m Γ1 a1 h1 h2 h4 h5) fun e a' w' hq=>?_
  rcases hq with ⟨rfl,st2,Γ2,g1,g2,g3,g4,g5,g6,g7,g8⟩ | ⟨hne,hf,Γ',g1,g2,g3,g4,g5,g6⟩
  · exact ⟨k,Nat.lt_succ_self k,st2,Γ2,g1,g2,g3,g4,g5,h6.trans g6 (Nat.le_refl _),g7.trans h7,g8⟩
  · have hb:Behind D B0 Gd n Γ a.defers o st' e a' w':=⟨hf,Γ',g1,g2,g3,g4,h6.trans g5 (Nat.le_refl _),g6.trans h7⟩
    cases e with
    | normal=>exact absurd rfl hne
    | _=>exact hb
section
variable (hT:TabOk P D) (hs:Stable B0 Gd) (hm:P.follows .mixedOrders=true)
include hT hs hm
theorem path_sim:∀ (c:Code) (st:St) (os:List Orc) (o:Out) (st':St) (os':List Orc) (ps:List Prop) (Γ:Ctx) (a:Act) (n:Nat) (ro:Option Nat) (m:Nat),path D (sem P D B0 Gd) c st os=some ((o,st'),os',ps)→All ps→Γ.objs=st.objs→Good D B0 Gd Γ→Slots D Γ st.slots a→n≤st.objs.length →
    n≤st'.objs.length∧c.wpIn (Fr ro) m P (Behind D B0 Gd n Γ a.defers o st') a Γ.w
 | .skip,st,os,o,st',os',ps,Γ,a,n,ro,m,h,hp,hΓ,hG,hS,hn=>by
  cases pure_some h
  exact ⟨hn,wpIn_skip ⟨rfl,Γ,hΓ,rfl,hG,hS,(Tr.refl Γ).toB n,rfl⟩⟩
 | .region id ops draw,st,os,o,st',os',ps,Γ,a,n,ro,m,h,hp,hΓ,hG,hS,hn=>by
  obtain ⟨st1,os1,p1,b1,os2,q1,h1,h2,e⟩:=bind_some h
  cases e
  cases pure_some h2
  have hp1:=(all_append hp).1
  exact ⟨Nat.le_trans hn (runRegion_len h1),region_sim hT hs hm h1 hp1 hΓ hG hS fun Γ' a' k1 k2 k3 k4 k5=>⟨rfl,Γ',k1,rfl,k2,k3,k4.toB n,k5⟩⟩
 | .seq x y,st,os,o,st',os',ps,Γ,a,n,ro,m,h,hp,hΓ,hG,hS,hn=>by
  obtain ⟨x1,os1,p1,b1,os2,q1,h1,h2,e⟩:=bind_some h
  cases e
  obtain ⟨o1,st1⟩:=x1
  have hp':=all_append hp
  obtain ⟨hn1,hx⟩:=path_sim x st os o1 st1 os1 p1 Γ a n ro m h1 hp'.1 hΓ hG hS hn
  cases o1 with
  | norm =>
   simp only at h2
   have hy:∀ Γ1 a1,Γ1.objs=st1.objs→Good D B0 Gd Γ1→Slots D Γ1 st1.slots a1→n≤st'.objs.length∧y.wpIn (Fr ro) m P (Behind D B0 Gd n Γ1 a1.defers o st') a1 Γ1.w :=
    fun Γ1 a1 k1 k2 k3=>path_sim y st1 os1 o st' _ q1 Γ1 a1 n ro m h2 hp'.2 k1 k2 k3 hn1
   refine ⟨?_,?_⟩
   · -- the length of what comes behind
     exact Nat.le_trans hn1 (path_len y st1 os1 o st' _ q1 h2)
   · refine wpIn_seq (wpIn_mono hx fun e a1 w1 hq=>?_)
     obtain ⟨rfl,Γ1,k1,rfl,k2,k3,k4,k5⟩:=hq
     rw [← k5]
     exact wpIn_mono (hy Γ1 a1 k1 k2 k3).2 fun e a' w' hb=>hb.after k4 (Nat.le_refl _)
  | exit id =>
   cases pure_some h2
   refine ⟨hn1,wp_seq_stop (wpIn_mono hx fun e a1 w1 hq=>⟨?_,hq⟩)⟩
   obtain ⟨h3,_⟩:=hq
   have h3:e=.exit id:=h3
   rw [h3]; simp
  | ret =>
   cases pure_some h2
   refine ⟨hn1,wp_seq_stop (wpIn_mono hx fun e a1 w1 hq=>⟨?_,hq⟩)⟩
   obtain ⟨h3,_⟩:=hq
   have h3:e=.ret:=h3
   rw [h3]; simp
 | .cond c x y,st,os,o,st',os',ps,Γ,a,n,ro,m,h,hp,hΓ,hG,hS,hn=>by
  simp only [path] at h
  have hc:=hS.rho c
  generalize rho st.slots c=cv at h hc
  cases cv with
  | c d =>
   cases d with
   | bool t =>
    obtain ⟨t',os1,p1,b1,os2,q1,h1,h2,e⟩:=bind_some h
    cases e
    cases test_some h1
    have hp':=all_append hp
    cases t with
    | true =>
     obtain ⟨g1,g2⟩:=path_sim x st _ o st' _ q1 Γ a n ro m h2 hp'.2 hΓ hG hS hn
     exact ⟨g1,wpIn_cond_true (RepA.bool_inv hc) g2⟩
    | false =>
     obtain ⟨g1,g2⟩:=path_sim y st _ o st' _ q1 Γ a n ro m h2 hp'.2 hΓ hG hS hn
     exact ⟨g1,wpIn_cond_false (RepA.bool_inv hc) g2⟩
   | _=>cases h
  | _=>cases h
 | .block id b,st,os,o,st',os',ps,Γ,a,n,ro,m,h,hp,hΓ,hG,hS,hn=>by
  obtain ⟨x1,os1,p1,b1,os2,q1,h1,h2,e⟩:=bind_some h
  cases e
  obtain ⟨o1,st1⟩:=x1
  have hp':=all_append hp
  obtain ⟨hn1,hx⟩:=path_sim b st os o1 st1 os1 p1 Γ a n ro m h1 hp'.1 hΓ hG hS hn
  cases o1 with
  | norm =>
   cases pure_some h2
   refine ⟨hn1,wpIn_block (wpIn_mono hx fun e a1 w1 hq=>?_)⟩
   have h3:e=.normal:=hq.1
   subst h3
   exact hq
  | ret =>
   cases pure_some h2
   refine ⟨hn1,wpIn_block (wpIn_mono hx fun e a1 w1 hq=>?_)⟩
   have h3:e=.ret:=hq.1
   subst h3
   exact hq
  | exit id' =>
   simp only at h2
   by_cases hid:id'=id
   · rw [if_pos hid] at h2
     cases pure_some h2
     refine ⟨hn1,wpIn_block (wpIn_mono hx fun e a1 w1 hq=>?_)⟩
     have h3:e=.exit id':=hq.1
     subst h3
     simp only [Exit.inBlock,if_pos hid]
     exact ⟨rfl,hq.2⟩
   · rw [if_neg hid] at h2
     cases pure_some h2
     refine ⟨hn1,wpIn_block (wpIn_mono hx fun e a1 w1 hq=>?_)⟩
     have h3:e=.exit id':=hq.1
     subst h3
     simp only [Exit.inBlock,if_neg hid]
     exact hq
 | .loop b,st,os,o,st',os',ps,Γ,a,n,ro,m,h,hp,hΓ,hG,hS,hn=>by
  simp only [path] at h
  unfold askL at h
  cases os with
  | nil=>cases h
  | cons x os1 =>
   cases x with
   | loop keep rows o2 st2 =>
    simp only at h
    cases hv:vecify D rows st with
    | none=>rw [hv] at h; cases h
    | some st1 =>
     rw [hv] at h
     simp only at h
     cases hno:norm keep st.objs.length st1 with
     | none=>rw [hno] at h; cases h
     | some st0 =>
      rw [hno] at h
      simp only at h
      split at h
      · rename_i hle
        cases h
        have hok:LoopOk P D B0 Gd st.objs.length b st0 o st':=by simpa [All,sem] using hp
        obtain ⟨Γ1,m1,m2,m3,m4,m5,m6⟩:=vecify_ok hs rows st st1 Γ hv hΓ hG hS
        obtain ⟨Γ0,g1,g2,g3,g4,g5,g6⟩:=norm_ok hno m6 m1 m3 m4
        have:=loop_sim hok g6 g1 g3 g4 ro m
        rw [g2,m2] at this
        refine ⟨by omega,wpIn_mono this fun e a' w' hq=>?_⟩
        exact Behind.after (D:=D) (B0:=B0) (Gd:=Gd) ((m5.toB n).trans g5 hn) hn hq
      · cases h
   | _=>cases h
 | .exit id,st,os,o,st',os',ps,Γ,a,n,ro,m,h,hp,hΓ,hG,hS,hn=>by
  cases pure_some h
  exact ⟨hn,wpIn_exit ⟨rfl,Γ,hΓ,rfl,hG,hS,(Tr.refl Γ).toB n,rfl⟩⟩
 | .ret,st,os,o,st',os',ps,Γ,a,n,ro,m,h,hp,hΓ,hG,hS,hn=>by
  cases pure_some h
  exact ⟨hn,wpIn_ret ⟨rfl,Γ,hΓ,rfl,hG,hS,(Tr.refl Γ).toB n,rfl⟩⟩
 | .rangeFunc ..,st,os,o,st',os',ps,Γ,a,n,ro,m,h,hp,hΓ,hG,hS,hn=>by cases h
 | .scope _,st,os,o,st',os',ps,Γ,a,n,ro,m,h,hp,hΓ,hG,hS,hn=>by cases h
 | .goto _,st,os,o,st',os',ps,Γ,a,n,ro,m,h,hp,hΓ,hG,hS,hn=>by cases h
 | .label _,st,os,o,st',os',ps,Γ,a,n,ro,m,h,hp,hΓ,hG,hS,hn=>by cases h
end
end Gev
namespace Gev
open Go
variable {P:Program} {D:Tab} {B0:Nat} {Gd:World→Prop}
def resOne (tmps:Array Value):ResultVar→Sem Value
 | .tmp t=>pure (tmps.getD t undef)
 | .cell x t=>do loadVar t (← asAddr (tmps.getD x undef))
theorem resultOf_rep (hT:TabOk P D) {Γ:Ctx} (hG:Good D B0 Gd Γ) {st:St} (hΓ:Γ.objs=st.objs) {a:Act} (hS:Slots D Γ st.slots a) {r:ResultVar} {v:AV} (h:resultOf D st r=some v) :
    ∃ vc,(resOne a.tmps r).run P Γ.w=.ok vc Γ.w∧RepA D Γ vc v:=by
 cases r with
 | tmp t =>
  cases h
  exact ⟨_,rfl,hS.rho (.tmp t)⟩
 | cell x t =>
  simp only [resultOf] at h
  have hx:=hS.rho (.tmp x)
  simp only [rho] at hx
  generalize st.slots.getD x .undef=xv at h hx
  cases xv with
  | ptr l off =>
   simp only at h
   cases hl:lk st.objs l with
   | none=>rw [hl] at h; cases h
   | some ob =>
    rw [hl] at h
    cases ob with
    | cells cs =>
     simp only at h
     generalize he:a.eval (.tmp x)=vx at hx
     cases hx with
     | ptr _ _ b cs' g1 g2 =>
      rw [hΓ,hl] at g1; cases g1
      obtain ⟨b',arr,ty,k1,k2,k3,k4⟩:=hG.ob l _ (by rw [hΓ]; exact hl)
      rw [g2] at k1; cases k1
      obtain ⟨vc,e1,e2⟩:=loadA_rep hT h k2 k3 k4
      refine ⟨vc,?_,e2⟩
      have he':a.tmps.getD x undef=.pointer (some ⟨b,off,none⟩):=he
      simp only [resOne,he',asAddr]
      rw [Sem.run_bind,Sem.run_pure]
      exact e1
    | _=>cases h
  | _=>cases h
theorem results_rep (hT:TabOk P D) {Γ:Ctx} (hG:Good D B0 Gd Γ) {st:St} (hΓ:Γ.objs=st.objs) {a:Act} (hS:Slots D Γ st.slots a):∀ {rs:List ResultVar} {vs:List AV},resultsOf D st rs=some vs →
    ∃ vcs:List Value,(rs.mapM (resOne a.tmps)).run P Γ.w=.ok vcs Γ.w∧vcs.length=vs.length∧∀ (i:Nat) u v,vcs[i]?=some u→vs[i]?=some v→RepA D Γ u v
 | [],vs,h=>by cases h; exact ⟨[],rfl,rfl,fun i u v h=>by simp at h⟩
 | r::rs,vs,h=>by
  simp only [resultsOf] at h
  cases h1:resultOf D st r with
  | none=>rw [h1] at h; cases h
  | some v =>
   cases h2:resultsOf D st rs with
   | none=>rw [h1,h2] at h; cases h
   | some vs' =>
    rw [h1,h2] at h
    cases h
    obtain ⟨vc,e1,e2⟩:=resultOf_rep hT hG hΓ hS h1
    obtain ⟨vcs,e3,e4,e5⟩:=results_rep hT hG hΓ hS h2
    refine ⟨vc::vcs,?_,by simp [e4],fun i u v' hu hv=>?_⟩
    · rw [List.mapM_cons,Sem.run_bind,e1]
      simp only [Result.andThen_ok]
      rw [Sem.run_bind,e3]
      rfl
    · cases i with
      | zero=>simp at hu hv; subst hu; subst hv; exact e2
      | succ i=>exact e5 i u v' (by simpa using hu) (by simpa using hv)
def oneC:List Value→Value
 | [v]=>v
 | vs=>.tuple vs.toArray
theorem results_run {fn:Func} {tmps:Array Value} {w:World} {vcs:List Value} (h:(fn.results.toList.mapM (resOne tmps)).run P w=.ok vcs w) :
    (results fn tmps).run P w=.ok (oneC vcs) w:=by
 have e:results fn tmps=(do let vs ← fn.results.mapM (resOne tmps); pure (if h:vs.size=1 then vs[0] else .tuple vs)):=by
  unfold results
  congr 1
 rw [e,Array.mapM_eq_mapM_toList,Sem.run_bind,Sem.run_map,h]
 simp only [Result.andThen_ok]
 cases vcs with
 | nil=>rfl
 | cons v vs =>
  cases vs with
  | nil=>rfl
  | cons u us =>
   simp [oneC]
theorem oneC_rep {Γ:Ctx} {vcs:List Value} {vs:List AV} (hl:vcs.length=vs.length) (h:∀ (i:Nat) u v,vcs[i]?=some u→vs[i]?=some v→RepA D Γ u v):RepA D Γ (oneC vcs) (one vs):=by
 cases vcs with
 | nil =>
  cases vs with
  | nil=>exact .tup [] [] rfl fun i v a h=>by simp at h
  | cons _ _=>simp at hl
 | cons u us =>
  cases vs with
  | nil=>simp at hl
  | cons v vs =>
   cases us with
   | nil =>
    cases vs with
    | nil=>exact h 0 u v rfl rfl
    | cons _ _=>simp at hl
   | cons u2 us =>
    cases vs with
    | nil=>simp at hl
    | cons v2 vs=>exact .tup _ _ hl h
theorem act_slots {Γ:Ctx} {args:List AV} {cargs:Array Value} {n:Nat} (hl:cargs.size=args.length) (h:∀ (i:Nat) v a,cargs[i]?=some v→args[i]?=some a→RepA D Γ v a) :
    Slots D Γ (args++List.replicate (n - args.length) .undef) { tmps:=cargs++Array.replicate (n - cargs.size) undef,defers:=[] }:=by
 refine ⟨by simp [hl],fun i v u hv hu=>?_⟩
 rw [List.getElem?_append] at hv
 simp only at hu
 rw [Array.getElem?_append,hl] at hu
 by_cases c:i < args.length
 · rw [if_pos c] at hv hu
   exact h i u v hu hv
 · rw [if_neg c] at hv
   rw [List.getElem?_replicate] at hv
   split at hv
   · cases hv; exact .undef u
   · cases hv
theorem pathF_some {C:Sem3} {f:Nat} {args:List AV} {objs:Objs} {os os':List Orc} {ps:List Prop} {r:AV × Objs} (h:pathF D C P f args objs os=some (r,os',ps)) :
    ∃ fn body o st vs,P.funcs[f]?=some fn∧fn.body=some body∧path D C body ⟨args++List.replicate (fn.ntmps - args.length) .undef,objs⟩ os=some ((o,st),os',ps)∧(o=.norm∨o=.ret)∧resultsOf D st fn.results.toList=some vs∧finish (D.thr f || (D.new f && objs.isEmpty)) objs.length st vs=some r:=by
 unfold pathF at h
 cases hf:P.funcs[f]? with
 | none=>rw [hf] at h; cases h
 | some fn =>
  rw [hf] at h
  simp only at h
  cases hb:fn.body with
  | none=>rw [hb] at h; cases h
  | some body =>
   rw [hb] at h
   obtain ⟨x,os1,p1,b1,os2,q1,h1,h2,e⟩:=bind_some h
   cases e
   obtain ⟨o,st⟩:=x
   cases o with
   | exit id=>cases h2
   | norm =>
    simp only at h2
    cases hr:resultsOf D st fn.results.toList with
    | none=>rw [hr] at h2; cases h2
    | some vs =>
     rw [hr] at h2
     obtain ⟨_,h3,e⟩:=lift_some h2
     cases e
     rw [List.append_nil]
     exact ⟨fn,body,_,st,vs,rfl,hb,h1,.inl rfl,hr,h3⟩
   | ret =>
    simp only at h2
    cases hr:resultsOf D st fn.results.toList with
    | none=>rw [hr] at h2; cases h2
    | some vs =>
     rw [hr] at h2
     obtain ⟨_,h3,e⟩:=lift_some h2
     cases e
     rw [List.append_nil]
     exact ⟨fn,body,_,st,vs,rfl,hb,h1,.inr rfl,hr,h3⟩
theorem finish_ok {n0:Nat} {st:St} {Γ:Ctx} {vs:List AV} {thr:Bool} {r:AV} {objs':Objs} (h:finish thr n0 st vs=some (r,objs')) (hn:n0≤st.objs.length) (hΓ:Γ.objs=st.objs) (hG:Good D B0 Gd Γ)
    {vcs:List Value} (hl:vcs.length=vs.length) (hr:∀ (i:Nat) u v,vcs[i]?=some u→vs[i]?=some v→RepA D Γ u v) :
    ∃ Γ',Γ'.objs=objs'∧Γ'.w=Γ.w∧Good D B0 Gd Γ'∧RepA D Γ' (oneC vcs) r∧TrB D n0 Γ Γ'∧Γ'.S.ext=Γ.S.ext:=by
 have data:(match toDatas (lk st.objs) vs with
     | some (ds,u,_)=>match keepObjs n0 [] ((setAll st.objs u).take n0) with
      | some objs=>some (one ds,objs)
      | none=>none
     | none=>none)=some (r,objs')→∃ Γ',Γ'.objs=objs'∧Γ'.w=Γ.w∧Good D B0 Gd Γ'∧RepA D Γ' (oneC vcs) r∧TrB D n0 Γ Γ'∧Γ'.S.ext=Γ.S.ext:=by
  intro h
  cases hd:toDatas (lk st.objs) vs with
  | none=>rw [hd] at h; cases h
  | some x =>
   obtain ⟨ds,u,rr⟩:=x
   rw [hd] at h
   simp only at h
   cases hk:keepObjs n0 [] ((setAll st.objs u).take n0) with
   | none=>rw [hk] at h; cases h
   | some objs =>
    rw [hk] at h
    cases h
    obtain ⟨k1,k2,k3⟩:=toDatas_spec hd
    obtain ⟨m1,m2⟩:=frzAll_ok u hG (hΓ ▸ k1)
    obtain ⟨Γ0,g1,g2,g3,g4,g5,g6,g7⟩:=keep_core (n0:=n0) (st:=⟨st.slots,setAll st.objs u⟩) (Γ:=⟨Γ.S,setAll Γ.objs u,Γ.w⟩) (live:=[]) (by simp) (by simp) hk (by simp only; rw [setAll_len]; exact hn) (by simp only [hΓ]) m1
    refine ⟨Γ0,by rw [g1]; simp,g2,g3,oneC_rep (by rw [hl,k2]) fun i cv v hu hv=>?_,(m2.toB n0).trans g5 (Nat.le_refl _),g7⟩
    have hi:i < vs.length:=by rw [← k2]; exact (List.getElem?_eq_some_iff.1 hv).1
    obtain ⟨u',r',e1,e2⟩:=k3 i _ v (List.getElem?_eq_getElem hi) hv
    have hd1:=toData_rep (Γ:=Γ) (Γ':=⟨Γ.S,setAll Γ.objs u,Γ.w⟩) m2 (hΓ ▸ e1) (fun p hp=>frz_lk (hΓ ▸ k1) (e2 p hp)) (hr i cv _ hu (List.getElem?_eq_getElem hi))
    refine data_rep (Γ:=⟨Γ.S,setAll Γ.objs u,Γ.w⟩) (Γ':=Γ0) g2 (fun b hb=>?_) (toData_data (fun f es e=>by have:=hr i cv _ hu (List.getElem?_eq_getElem hi); rw [e] at this; rw [e]; exact this.mv_data) e1) hd1
    rcases hb with hb | hb
    · exact .inl (g7 ▸ hb)
    · rcases g5.mine b hb with h4 | h4
      · exact .inr h4
      · -- nothing has been made
        obtain ⟨l,o,b1,b2,b3⟩:=hb
        have:=own_lt g3 b (.inr ⟨l,o,b1,b2,b3⟩)
        rw [g2] at this
        simp only at this h4
        omega
 unfold finish at h
 cases thr with
 | false=>exact data h
 | true =>
  cases vs with
  | nil=>exact data h
  | cons v vs =>
   cases vs with
   | cons _ _=>cases v <;> exact data h
   | nil =>
    cases v with
    | vec l len =>
     simp only at h
     cases h1:keepAV n0 (if l < n0 then [] else [l]) (.vec l len) with
     | none=>rw [h1] at h; cases h
     | some v =>
      cases h2:keepObjs n0 (if l < n0 then [] else [l]) (st.objs.take n0) with
      | none=>rw [h1,h2] at h; cases h
      | some objs =>
       rw [h1,h2] at h
       cases h
       obtain ⟨Γ0,g1,g2,g3,g4,g5,g6,g7⟩:=keep_core (n0:=n0) (st:=st) (Γ:=Γ) (live:=if l < n0 then [] else [l]) (by split <;> simp) (by split <;> simp; omega) h2 hn hΓ hG
       cases vcs with
       | nil=>simp at hl
       | cons vc vcs =>
        cases vcs with
        | nil=>exact ⟨Γ0,g1,g2,g3,g4 vc _ _ (hr 0 vc _ rfl rfl) h1,g5,g7⟩
        | cons _ _=>simp at hl
    | _=>exact data h
theorem TrB.full {n:Nat} {Γ Γ':Ctx} (h:TrB D n Γ Γ') (hn:Γ.objs.length≤n):Tr D Γ Γ':=by
 have hlt:∀ l o,lk Γ.objs l=some o→l < n:=fun l o ho=>Nat.lt_of_lt_of_le (lk_lt ho) hn
 refine ⟨h.kept,h.ext,h.mine,fun l cs hl=>h.ptr l cs (hlt l _ hl) hl,fun v l len hv=>h.vec v l len ?_ hv,fun v l i off hv=>h.vptr v l i off ?_ hv⟩
 · cases hv with
   | vnil _ _ h1=>exact hlt _ _ h1
   | vec _ _ _ _ _ _ _ _ h1=>exact hlt _ _ h1
   | fvec _ _ _ h1=>exact hlt _ _ h1
   | gone _ _ h1=>exact hlt _ _ h1
 · cases hv with
   | vptr _ _ _ _ _ _ _ h1=>exact hlt _ _ h1
   | fptr _ _ _ _ _ _ h1=>exact hlt _ _ h1
   | pgone _ _ _ h1=>exact hlt _ _ h1
section
variable (hT:TabOk P D) (hs:Stable B0 Gd) (hm:P.follows .mixedOrders=true)
include hT hs hm
theorem run_calls {f:Nat} {args:List AV} {objs objs':Objs} {os os':List Orc} {ps:List Prop} {r:AV} (h:pathF D (sem P D B0 Gd) P f args objs os=some ((r,objs'),os',ps)) (hp:All ps)
    {Γ:Ctx} {cargs:Array Value} (hΓ:Γ.objs=objs) (hG:Good D B0 Gd Γ) (hl:cargs.size=args.length) (ha:∀ (i:Nat) v a,cargs[i]?=some v→args[i]?=some a→RepA D Γ v a) :
    Calls P f cargs Γ.w fun e w'=>∃ v Γ',e=.returned v∧Γ'.objs=objs'∧Γ'.w=w'∧Good D B0 Gd Γ'∧Tr D Γ Γ'∧RepA D Γ' v r:=by
 obtain ⟨fn,body,o,st,vs,h1,h2,h3,h4,h5,h6⟩:=pathF_some h
 refine calls_of_wp h1 h2 (wpIn_wide (n:=0).1 ?_)
 obtain ⟨hn,hwp⟩:=path_sim hT hs hm body _ os o st os' ps Γ _ objs.length none 0 h3 hp (by simp only; exact hΓ) hG (act_slots (n:=fn.ntmps) hl ha) (by simp)
 refine wpIn_mono hwp fun e a' w' hb=>?_
 obtain ⟨hf,Γ1,k1,rfl,k2,k3,k4,k5⟩:=hb
 obtain ⟨vcs,e1,e2,e3⟩:=results_rep hT k2 k1 k3 h5
 obtain ⟨Γ',g1,g2,g3,g4,g5,g6⟩:=finish_ok h6 hn k1 k2 e2 e3
 have hR:a'.defers=[]∧∃ v,(results fn a'.tmps).run P Γ1.w=.ok v Γ1.w∧∃ v' Γ'',Ending.returned v=.returned v'∧Γ''.objs=objs'∧Γ''.w=Γ1.w∧Good D B0 Gd Γ''∧Tr D Γ Γ''∧RepA D Γ'' v' r :=
  ⟨k5,_,results_run e1,_,Γ',rfl,g1,g2,g3,(k4.trans g5 (Nat.le_refl _)).full (by rw [hΓ]; exact Nat.le_refl _),g4⟩
 rcases h4 with rfl | rfl
 · have he:e=.normal:=hf
   subst he
   exact hR
 · have he:e=.ret:=hf
   subst he
   exact hR
theorem run_mk {f:Nat} {args:List AV} {objs objs':Objs} {r:AV} (os:List Orc) {ps:List Prop} (he:∀ cargs w,(callFunc f cargs).run P w=.ok (.enter f cargs) w) (hp:All ps) (h:pathF D (sem P D B0 Gd) P f args objs os=some ((r,objs'),[],ps)):RunOk P D B0 Gd f args objs r objs' :=
 ⟨he,fun _ _ hΓ hG hl ha=>run_calls hT hs hm h hp hΓ hG hl ha⟩
theorem fn_mk {f:Nat} {args:List AV} {objs':Objs} {r:AV} (os:List Orc) {ps:List Prop} (he:∀ cargs w,(callFunc f cargs).run P w=.ok (.enter f cargs) w) (hr:r.Data) (hp:All ps) (h:pathF D (sem P D B0 Gd) P f args [] os=some ((r,objs'),[],ps)):FnOk P D B0 Gd f args r:=by
 refine ⟨he,hr,fun w ext cargs hgd hB hx hl ha=>?_⟩
 have hG:Good D B0 Gd ⟨⟨fun _=>none,ext⟩,[],w⟩ :=
  ⟨fun l o h=>by simp [lk] at h,fun l l' o o' b h=>by simp [lk] at h,fun b hb=>(hx b (own_in.1 hb)).1,fun b hb=>⟨(hx b hb).2,no_mine⟩,hB,hgd⟩
 refine Calls.mono (run_calls hT hs hm h hp (Γ:=⟨⟨fun _=>none,ext⟩,[],w⟩) rfl hG hl ha) ?_
 rintro e w' ⟨v,Γ',rfl,k1,rfl,k2,k3,k4⟩
 refine ⟨v,rfl,k2.gd,k3.kept.mono fun b hb=>no_mine hb,data_rep (Γ:=Γ') (Γ':=⟨⟨fun _=>none,ext⟩,[],Γ'.w⟩) rfl (fun b hb=>?_) hr k4⟩
 have hb':=own_in.1 hb
 exact .inl (by rw [k3.ext]; exact hb')
theorem RunOk.toFn {f:Nat} {args:List AV} {n t:Nat} {xs:List (List DV)} (h:RunOk P D B0 Gd f args [] (.vec 0 n) [some (.vec t xs)]):FnOk P D B0 Gd f args (.c (.list (xs.take n))):=by
 have:=hT
 have:=hs
 have:=hm
 refine ⟨h.enters,.c _,fun w ext cargs hgd hB hx hl ha=>?_⟩
 have hG:Good D B0 Gd ⟨⟨fun _=>none,ext⟩,[],w⟩ :=
  ⟨fun l o h=>by simp [lk] at h,fun l l' o o' b h=>by simp [lk] at h,fun b hb=>(hx b (own_in.1 hb)).1,fun b hb=>⟨(hx b hb).2,no_mine⟩,hB,hgd⟩
 refine Calls.mono (h.calls ⟨⟨fun _=>none,ext⟩,[],w⟩ cargs rfl hG hl ha) ?_
 rintro e w' ⟨v,Γ',rfl,k1,rfl,k2,k3,k4⟩
 obtain ⟨Γ2,g1,g2,g3,g4,g5,g6⟩:=finish_ok (thr:=false) (n0:=0) (st:=⟨[],[some (.vec t xs)]⟩) (vs:=[.vec 0 n]) (r:=.c (.list (xs.take n))) (objs':=[]) rfl (Nat.zero_le _) k1 k2 (vcs:=[v]) rfl (fun i u x hu hx=>by
  cases i with
  | zero=>simp at hu hx; subst hu; subst hx; exact k4
  | succ i=>simp at hu)
 refine ⟨v,rfl,k2.gd,k3.kept.mono fun b hb=>no_mine hb,data_rep (Γ:=Γ2) (Γ':=⟨⟨fun _=>none,ext⟩,[],Γ'.w⟩) g2.symm (fun b hb=>?_) (.c _) g4⟩
 have hb':=own_in.1 hb
 exact .inl (by rw [g6,k3.ext]; exact hb')
theorem loop_step {n:Nat} {b:Code} {st st1 st2 st':St} {o:Out} (os:List Orc) (keep:List Nat) {ps:List Prop} (hp:All ps) (h:path D (sem P D B0 Gd) b st os=some ((.norm,st1),[],ps)) (hno:norm keep n st1=some st2) (hr:LoopOk P D B0 Gd n b st2 o st'):LoopOk P D B0 Gd n b st o st':=by
 obtain ⟨k,hk⟩:=hr
 refine ⟨k+1,fun ro m Γ a hn hΓ hG hS=>?_⟩
 obtain ⟨hn1,hwp⟩:=path_sim hT hs hm b st os .norm st1 [] ps Γ a n ro m h hp hΓ hG hS hn
 refine wpIn_mono hwp fun e a' w' hb=>?_
 obtain ⟨hf,Γ1,k1,rfl,k2,k3,k4,k5⟩:=hb
 obtain ⟨Γ0,g1,g2,g3,g4,g5,g6⟩:=norm_ok hno hn1 k1 k2 k3
 exact .inl ⟨hf,st2,Γ0,g6,g1,g2,g3,g4,k4.trans g5 (Nat.le_refl _),k5,hk⟩
theorem loop_exit {n:Nat} {b:Code} {st st1 st':St} {o:Out} (os:List Orc) (keep:List Nat) {ps:List Prop} (hp:All ps) (h:path D (sem P D B0 Gd) b st os=some ((o,st1),[],ps)) (ho:o≠.norm) (hno:norm keep n st1=some st'):LoopOk P D B0 Gd n b st o st':=by
 refine ⟨1,fun ro m Γ a hn hΓ hG hS=>?_⟩
 obtain ⟨hn1,hwp⟩:=path_sim hT hs hm b st os o st1 [] ps Γ a n ro m h hp hΓ hG hS hn
 refine wpIn_mono hwp fun e a' w' hb=>?_
 obtain ⟨hf,Γ1,k1,rfl,k2,k3,k4,k5⟩:=hb
 obtain ⟨Γ0,g1,g2,g3,g4,g5,g6⟩:=norm_ok hno hn1 k1 k2 k3
 refine .inr ⟨?_,hf,Γ0,g1,g2,g3,g4,k4.trans g5 (Nat.le_refl _),k5⟩
 cases o with
 | norm=>exact absurd rfl ho
 | exit id=>have:e=.exit id:=hf; rw [this]; simp
 | ret=>have:e=.ret:=hf; rw [this]; simp
theorem round_some {C:Sem3} {b:Code} {n:Nat} {keep:List Nat} {st st2:St} {o:Out} {os:List Orc} {ps:List Prop} (h:round D C b n keep st os=some (o,st2,ps)):∃ st1,path D C b st os=some ((o,st1),[],ps)∧norm keep n st1=some st2:=by
 unfold round at h
 split at h
 · rename_i o1 st1 ps1 e
   cases hn:norm keep n st1 with
   | none=>rw [hn] at h; cases h
   | some st3=>rw [hn] at h; cases h; exact ⟨st1,e,hn⟩
 · cases h
theorem loop_on {n:Nat} {b:Code} {st st':St} {o:Out} (st2:St) (keep:List Nat) (os:List Orc) (ps:List Prop) (h:round D (sem P D B0 Gd) b n keep st os=some (.norm,st2,ps)) (hp:All ps) (hr:LoopOk P D B0 Gd n b st2 o st'):LoopOk P D B0 Gd n b st o st':=by
 obtain ⟨st1,h1,h2⟩:=round_some hT hs hm h
 exact loop_step hT hs hm os keep hp h1 h2 hr
theorem loop_off {n:Nat} {b:Code} {st st':St} {o:Out} (keep:List Nat) (os:List Orc) (ps:List Prop) (h:round D (sem P D B0 Gd) b n keep st os=some (o,st',ps)) (ho:o≠.norm) (hp:All ps):LoopOk P D B0 Gd n b st o st':=by
 obtain ⟨st1,h1,h2⟩:=round_some hT hs hm h
 exact loop_exit hT hs hm os keep hp h1 ho h2
end
end Gev
namespace Gev
open Go
def flatFields (P:Program):Nat→List Field→Option (List U)
 | _,[]=>some []
 | k,f::fs=>if f.offset == k && f.name != "_" then match P.underlying f.type,flatFields P (k+1) fs with
  | some d,some us=>some (uOf d::us)
  | _,_=>none
  else none
def flatOf (P:Program) (t:Nat):Option (List U):=match P.underlying t with
 | some (.struct fs)=>if !P.stoodInHeld t && !P.eqGuardType P.depth t then flatFields P 0 fs.toList else none
 | _=>none
theorem run_part_plain {P:Program} {w:World} {t:Nat} {d:TypeDesc} (hu:P.underlying t=some d) (ht:(∃ k,d=.int k)∨d=.bool∨d=.string) {cs:Array Value} {off:Nat} {v:Value} (hv:cs[off]?=some v):(part t cs off).run P w=.ok v w:=by
 have ha:(isAgg t).run P w=.ok false w:=by
  unfold isAgg
  rw [Sem.run_bind,run_underlying hu]
  rcases ht with ⟨k,rfl⟩ | rfl | rfl <;> rfl
 unfold part
 rw [Sem.run_bind,ha]
 simp [hv]
theorem run_flat {P:Program} {w:World} {own:Nat→Prop} {d:Nat}:∀ (fs:List Field) (k:Nat) (us:List U),flatFields P k fs=some us→∀ (xs ys:Array Value) (avz bs:List DV) (b:Bool),fitB us avz=true→fitB us bs=true→xs.size=k+avz.length→ys.size=k+bs.length →
    (∀ (j:Nat) u e,xs[k+j]?=some u→avz[j]?=some e→RepD w own u e)→(∀ (j:Nat) u e,ys[k+j]?=some u→bs[j]?=some e→RepD w own u e)→eqCells avz bs=some b →
    (Op.eqFields (d+1) xs ys fs).run P w=.ok b w
 | [],k,us,hu,xs,ys,avz,bs,b,ha,hb,hx,hy,_,_,he=>by
  cases hu
  cases avz with
  | nil =>
   cases bs with
   | nil=>cases he; rfl
   | cons _ _=>cases he
  | cons _ _=>cases ha
 | f::fs,k,us,hu,xs,ys,avz,bs,b,ha,hb,hx,hy,hrx,hry,he=>by
  simp only [flatFields] at hu
  split at hu
  · rename_i hc
    simp only [Bool.and_eq_true,beq_iff_eq,bne_iff_ne] at hc
    obtain ⟨h1,h2⟩:=hc
    cases hd:P.underlying f.type with
    | none=>rw [hd] at hu; cases hu
    | some de =>
    cases hus:flatFields P (k+1) fs with
    | none=>rw [hd,hus] at hu; cases hu
    | some us' =>
    rw [hd,hus] at hu
    cases hu
    cases avz with
    | nil=>cases hud:uOf de <;> rw [hud] at ha <;> cases ha
    | cons x avz =>
     cases bs with
     | nil=>cases he
     | cons y bs =>
      simp only [List.length_cons] at hx hy
      simp only [eqCells] at he
      cases e1:eqD x y with
      | none=>rw [e1] at he; cases he
      | some c =>
       cases e2:eqCells avz bs with
       | none=>rw [e1,e2] at he; cases he
       | some c2 =>
        rw [e1,e2] at he
        cases he
        have kx:k < xs.size:=by omega
        have ky:k < ys.size:=by omega
        have rx:=hrx 0 xs[k] x (by simp [kx]) rfl
        have ry:=hry 0 ys[k] y (by simp [ky]) rfl
        have fits:fitB us' avz=true∧fitB us' bs=true∧((∃ k0,de=.int k0)∨de=.bool∨de=.string)∧(Op.equalIn (d+1) f.type xs[k] ys[k]).run P w=.ok c w:=by
         generalize xs[k]=u at rx
         generalize ys[k]=v at ry
         cases hud:uOf de with
         | int k0 =>
          rw [hud] at ha hb
          have hde:=u_int hud
          cases x with
          | int k1 a =>
           cases y with
           | int k2 b =>
            simp only [fitB,Bool.and_eq_true,beq_iff_eq] at ha hb
            obtain ⟨rfl,ha⟩:=ha
            obtain ⟨rfl,hb⟩:=hb
            cases rx
            cases ry
            cases e1
            exact ⟨ha,hb,.inl ⟨_,hde⟩,run_equalIn_int w d f.type _ _ _ _ (hde ▸ hd)⟩
           | _=>cases e1
          | _=>cases ha
         | bool =>
          rw [hud] at ha hb
          have hde:=u_bool hud
          cases x with
          | bool a =>
           cases y with
           | bool b =>
            cases rx
            cases ry
            cases e1
            exact ⟨ha,hb,.inr (.inl hde),run_equalIn_bool' w d f.type _ _ (hde ▸ hd)⟩
           | _=>cases e1
          | _=>cases ha
         | str =>
          rw [hud] at ha hb
          have hde:=u_str hud
          cases x with
          | str a =>
           cases y with
           | str b =>
            cases rx
            cases ry
            cases e1
            refine ⟨ha,hb,.inr (.inr hde),?_⟩
            rw [run_equalIn_string w d f.type _ _ (hde ▸ hd),beq_toListBytes]
           | _=>cases e1
          | _=>cases ha
         | _=>rw [hud] at ha; cases ha
        obtain ⟨fa,fb,hty,heq⟩:=fits
        have p1:=run_part_plain (w:=w) hd hty (Array.getElem?_eq_getElem kx)
        have p2:=run_part_plain (w:=w) hd hty (Array.getElem?_eq_getElem ky)
        have ih:=run_flat (d:=d) fs (k+1) us' hus xs ys avz bs c2 fa fb (by omega) (by omega) (fun j u e hu hj=>hrx (j+1) u e (by rw [← hu]; congr 1; omega) (by simpa using hj)) (fun j u e hu hj=>hry (j+1) u e (by rw [← hu]; congr 1; omega) (by simpa using hj)) e2
        simp only [Op.eqFields,h1]
        rw [if_pos h2,Sem.run_bind,p1]
        simp only [Result.andThen_ok]
        rw [Sem.run_bind,p2]
        simp only [Result.andThen_ok]
        rw [Sem.run_bind,heq]
        simp only [Result.andThen_ok]
        cases c with
        | true=>simpa using ih
        | false=>rfl
  · cases hu
theorem tabOk (P:Program) (thr new:Nat→Bool):TabOk P ⟨tiOf P,flatOf P,thr,new⟩:=by
 refine ⟨fun t ti h=>tiOf_spec h,fun t us h w own xs ys avz bs b ha hb hx hy hrx hry he=>?_⟩
 unfold flatOf at h
 cases hu:P.underlying t with
 | none=>simp only [hu] at h; cases h
 | some de =>
  simp only [hu] at h
  cases de with
  | struct fs =>
   simp only at h
   split at h
   · rename_i hc
     simp only [Bool.and_eq_true,Bool.not_eq_true'] at hc
     refine ⟨?_,hc.2⟩
     show (Op.equalIn (9999+1) t (.agg xs) (.agg ys)).run P w=_
     have hfs:P.fieldsOf t=fs:=by simp [Program.fieldsOf,hu]
     rw [run_equalIn_struct w 9999 t xs ys (by rw [hfs]; exact hu) hc.1,hfs]
     exact run_flat (d:=9998) fs.toList 0 us h xs ys avz bs b ha hb (by omega) (by omega) (fun j u e hu hj=>hrx j u e (by simpa using hu) hj) (fun j u e hu hj=>hry j u e (by simpa using hu) hj) he
   · cases h
  | _=>cases h
def loopsOf:Code→List Code
 | .loop b=>b::loopsOf b
 | .seq a b=>loopsOf a++loopsOf b
 | .cond _ a b=>loopsOf a++loopsOf b
 | .block _ b=>loopsOf b
 | _=>[]
def loopB (P:Program) (f k:Nat):Code:=match P.funcs[f]? with
 | some fn=>match fn.body with
  | some c=>(loopsOf c).getD k .skip
  | none=>.skip
 | none=>.skip
def stOf (n:Nat) (vs:List (Nat × AV)) (objs:Objs):St:=⟨vs.foldl (fun s p=>s.set p.1 p.2) (List.replicate n .undef),objs⟩
theorem enters_of {P:Program} {f:Nat} {fn:Func} (hf:P.funcs[f]?=some fn) (hn:(fn.name == "runtime.NumGoroutine")=false) (hb:fn.body.isNone=false) (cargs:Array Value) (w:World):(callFunc f cargs).run P w=.ok (.enter f cargs) w:=by
 unfold callFunc
 rw [Sem.run_bind,run_program]
 simp only [Result.andThen_ok,hf]
 rw [if_neg (by rw [hn]; simp),if_neg (by rw [hb]; simp)]
 rfl
end Gev
namespace Gev
open Go
variable {P:Program} {D:Tab} {B0:Nat} {Gd:World→Prop}
def cval:DV→Option Value
 | .int k n=>some (.int k n)
 | .bool b=>some (.bool b)
 | .str s=>some (.string s)
 | _=>none
def cvals:List DV→Option (List Value)
 | []=>some []
 | d::ds=>match cval d,cvals ds with
  | some v,some vs=>some (v::vs)
  | _,_=>none
theorem cval_rep {d:DV} {v u:Value} {w:World} {own:Nat→Prop} (h:cval d=some v) (hr:RepD w own u d):u=v:=by
 cases hr <;> cases h <;> rfl
theorem cvals_get:∀ {ds:List DV} {vs:List Value},cvals ds=some vs→vs.length=ds.length∧∀ (i:Nat) d,ds[i]?=some d→∃ v,vs[i]?=some v∧cval d=some v
 | [],vs,h=>by cases h; exact ⟨rfl,fun i d h=>by simp at h⟩
 | d::ds,vs,h=>by
  simp only [cvals] at h
  cases h1:cval d with
  | none=>rw [h1] at h; cases h
  | some v =>
   cases h2:cvals ds with
   | none=>rw [h1,h2] at h; cases h
   | some vs' =>
    rw [h1,h2] at h
    cases h
    obtain ⟨l1,l2⟩:=cvals_get h2
    refine ⟨by simp [l1],fun i e he=>?_⟩
    cases i with
    | zero=>simp at he; subst he; exact ⟨v,by simp,h1⟩
    | succ i=>obtain ⟨u,a,b⟩:=l2 i e (by simpa using he); exact ⟨u,by simpa using a,b⟩
theorem cvals_args {Γ:Ctx} {ds:List DV} {vs:List Value} (h:cvals ds=some vs) {cargs:Array Value} (hl:cargs.size=(ds.map AV.c).length) (ha:∀ (i:Nat) v a,cargs[i]?=some v→(ds.map AV.c)[i]?=some a→RepA D Γ v a):cargs=vs.toArray:=by
 obtain ⟨l1,l2⟩:=cvals_get h
 apply Array.ext
 · simp at hl ⊢; omega
 · intro i h1 h2
   simp at hl
   have hd:i < ds.length:=by omega
   obtain ⟨v,e1,e2⟩:=l2 i ds[i] (List.getElem?_eq_getElem hd)
   have:=ha i cargs[i] (.c ds[i]) (Array.getElem?_eq_getElem h1) (by simp [hd])
   generalize cargs[i]=u at this
   cases this with
   | c hr =>
    rw [cval_rep e2 hr]
    have h3:i < vs.length:=by omega
    rw [List.getElem?_eq_getElem h3] at e1
    simp at e1 ⊢
    exact e1.symm
theorem Kept.of_below {w w':World} (h:RowKit.Below w.heap.size w w'):Kept (fun _=>False) w w':=⟨fun b hb _=>h.block b hb,h.size,h.os,h.tape,h.output⟩
theorem Kept.of_drewN (w:World) (n:Nat):Kept (fun _=>False) w (w.drewN n):=⟨fun _ _ _=>rfl,Nat.le_refl _,rfl,rfl,rfl⟩
theorem fn_of_calls (hs:Stable B0 Gd) {f:Nat} {ds:List DV} {vs:List Value} {r:AV} (he:∀ cargs w,(callFunc f cargs).run P w=.ok (.enter f cargs) w) (hr:r.Data) (hv:cvals ds=some vs)
    (h:∀ (w:World),Gd w→B0≤w.heap.size→Calls P f vs.toArray w fun e w'=>∃ v,e=.returned v∧Kept (fun _=>False) w w'∧∀ ext,RepA D ⟨⟨fun _=>none,ext⟩,[],w'⟩ v r):FnOk P D B0 Gd f (ds.map AV.c) r:=by
 refine ⟨he,hr,fun w ext cargs hg hB hx hl ha=>?_⟩
 rw [cvals_args hv hl ha]
 refine Calls.mono (h w hg hB) ?_
 rintro e w' ⟨v,rfl,hk,k⟩
 exact ⟨v,rfl,hs w _ (fun b hb=>hk.heap b (Nat.lt_of_lt_of_le hb hB) id) hk.size hg,hk,k ext⟩
end Gev
namespace Gev
open Go Go.Proofs
noncomputable abbrev PP:Program:=Tryz.prog
abbrev z6o:Nat:=3
abbrev J5:Nat:=4
abbrev P1:Nat:=5
abbrev N2:Nat:=6
abbrev F8:Nat:=7
abbrev C8:Nat:=8
abbrev H4:Nat:=9
abbrev B4:Nat:=10
abbrev A8:Nat:=11
abbrev A6:Nat:=12
abbrev B8:Nat:=13
abbrev B3:Nat:=14
abbrev P8:Nat:=15
abbrev F7:Nat:=16
abbrev H1:Nat:=17
abbrev B2:Nat:=18
abbrev D4:Nat:=19
abbrev z3c:Nat:=20
abbrev z6p:Nat:=21
abbrev M5:Nat:=22
abbrev A5:Nat:=23
abbrev B7:Nat:=24
abbrev B1:Nat:=25
abbrev U6:Nat:=26
abbrev z0d:Nat:=27
abbrev P5:Nat:=28
abbrev P2:Nat:=29
abbrev G2:Nat:=30
abbrev H6:Nat:=31
abbrev D2:Nat:=32
abbrev N3:Nat:=33
abbrev y1w:Nat:=34
abbrev y0d:Nat:=35
abbrev D0:Nat:=36
abbrev B9:Nat:=37
abbrev H2:Nat:=38
abbrev z2c:Nat:=39
abbrev M6:Nat:=40
abbrev N7:Nat:=41
abbrev G0:Nat:=42
abbrev J0:Nat:=43
abbrev z2n:Nat:=44
abbrev z0x:Nat:=45
abbrev F5:Nat:=46
abbrev z3h:Nat:=47
abbrev z6w:Nat:=48
abbrev P7:Nat:=49
abbrev C1:Nat:=50
abbrev z5g:Nat:=51
abbrev z0y:Nat:=52
abbrev z3x:Nat:=53
abbrev I7:Nat:=54
abbrev J6:Nat:=55
abbrev z6g:Nat:=56
abbrev M8:Nat:=57
abbrev z8m:Nat:=58
abbrev H9:Nat:=59
abbrev z6t:Nat:=60
abbrev V8:Nat:=61
abbrev I3:Nat:=62
abbrev O3:Nat:=63
abbrev D6:Nat:=64
abbrev z2b:Nat:=65
abbrev H5:Nat:=66
abbrev U3:Nat:=67
abbrev F9:Nat:=68
abbrev D9:Nat:=69
abbrev z1r:Nat:=70
abbrev z3g:Nat:=71
abbrev I1:Nat:=72
abbrev F2:Nat:=73
abbrev Y2:Nat:=74
abbrev H7:Nat:=75
abbrev z7j:Nat:=76
abbrev A1:Nat:=77
abbrev A2:Nat:=78
abbrev A7:Nat:=79
abbrev z3m:Nat:=80
abbrev A0:Nat:=81
abbrev D7:Nat:=82
abbrev G8:Nat:=83
abbrev C4:Nat:=84
abbrev z6u:Nat:=85
abbrev z1q:Nat:=86
abbrev z7n:Nat:=87
abbrev O8:Nat:=88
abbrev z6v:Nat:=89
abbrev y0g:Nat:=90
abbrev y3q:Nat:=91
abbrev z8j:Nat:=92
abbrev z8l:Nat:=93
abbrev z8i:Nat:=94
abbrev z8k:Nat:=95
abbrev y3n:Nat:=96
abbrev I0:Nat:=97
abbrev z0w:Nat:=98
abbrev y1x:Nat:=99
abbrev G1:Nat:=100
abbrev N5:Nat:=101
abbrev H8:Nat:=102
abbrev D8:Nat:=103
abbrev J3:Nat:=104
abbrev z8n:Nat:=105
abbrev F4:Nat:=106
abbrev z3b:Nat:=107
abbrev y3o:Nat:=108
abbrev X9:Nat:=109
abbrev V0:Nat:=110
abbrev V5:Nat:=111
abbrev z6y:Nat:=112
abbrev y3p:Nat:=113
abbrev z1g:Nat:=114
abbrev y0f:Nat:=115
abbrev Z3:Nat:=116
abbrev F0:Nat:=117
abbrev O4:Nat:=118
abbrev O2:Nat:=119
abbrev C5:Nat:=120
abbrev Y9:Nat:=121
abbrev z8h:Nat:=123
abbrev z1o:Nat:=124
abbrev z3d:Nat:=125
abbrev K4:Nat:=126
abbrev N4:Nat:=127
abbrev Y1:Nat:=128
abbrev U1:Nat:=129
abbrev z5f:Nat:=130
abbrev V1:Nat:=132
abbrev z0b:Nat:=134
abbrev y0b:Nat:=135
abbrev y0e:Nat:=136
abbrev z6a:Nat:=138
abbrev z2p:Nat:=139
abbrev z2k:Nat:=140
abbrev I6:Nat:=141
abbrev z7l:Nat:=142
abbrev z0a:Nat:=143
abbrev U2:Nat:=144
abbrev P4:Nat:=147
abbrev z0c:Nat:=148
abbrev X8:Nat:=149
abbrev D5:Nat:=150
abbrev D1:Nat:=155
abbrev z7m:Nat:=156
abbrev z3w:Nat:=157
abbrev z6b:Nat:=158
abbrev z0s:Nat:=159
abbrev Z0:Nat:=160
abbrev V2:Nat:=161
abbrev z5y:Nat:=162
abbrev V3:Nat:=163
abbrev z3f:Nat:=164
abbrev V7:Nat:=170
abbrev M4:Nat:=171
abbrev C7:Nat:=172
abbrev z3e:Nat:=173
abbrev A4:Nat:=174
abbrev C2:Nat:=180
abbrev z1p:Nat:=181
abbrev C6:Nat:=182
abbrev z0t:Nat:=183
abbrev C3:Nat:=184
abbrev Z2:Nat:=185
abbrev z7k:Nat:=186
abbrev P6:Nat:=187
abbrev y0c:Nat:=188
abbrev z5z:Nat:=192
abbrev O7:Nat:=198
abbrev B5:Nat:=201
abbrev z2a:Nat:=202
abbrev Z9:Nat:=203
abbrev z3i:Nat:=204
abbrev z2m:Nat:=205
abbrev z7i:Nat:=206
abbrev z1f:Nat:=207
abbrev z0r:Nat:=217
abbrev U7:Nat:=218
abbrev U9:Nat:=220
abbrev k1y:Nat:=3
abbrev z9y:Nat:=5
abbrev C9:Nat:=25
abbrev A9:Nat:=33
abbrev x0b:Nat:=37
abbrev B6:Nat:=46
abbrev z3y:Nat:=60
abbrev A3:Nat:=102
abbrev x0c:Nat:=139
def thrL:List Nat:=[N7,I0,F0,C2]
def newL:List Nat:=[B3,B7,D1]
end Gev
namespace Gev
open Go Go.Proofs
noncomputable def DD:Tab:=⟨tiOf PP,flatOf PP,fun f=>thrL.contains f,fun f=>newL.contains f⟩
theorem hTT:TabOk PP DD:=tabOk PP _ _
theorem hmm:PP.follows .mixedOrders=true:=by kernel_rfl
abbrev DV.i64 (n:Int):DV:=.int .i64 n
abbrev DV.u64 (n:Int):DV:=.int .u64 n
abbrev DV.u32 (n:Int):DV:=.int .u32 n
abbrev DV.u8 (n:Int):DV:=.int .u8 n
structure Env where
 B0:Nat
 Gd:World→Prop
 hs:Stable B0 Gd
abbrev Fn (E:Env) (f:Nat) (args:List AV) (r:AV):Prop:=FnOk PP DD E.B0 E.Gd f args r
abbrev Rn (E:Env) (f:Nat) (args:List AV) (objs:Objs) (r:AV) (objs':Objs):Prop:=RunOk PP DD E.B0 E.Gd f args objs r objs'
abbrev Lp (E:Env) (n f k:Nat) (st:St) (o:Out) (st':St):Prop:=LoopOk PP DD E.B0 E.Gd n (loopB PP f k) st o st'
def known (P:Program) (f:Nat):Bool:=match P.funcs[f]? with | some fn=>!(fn.name == "runtime.NumGoroutine") && !fn.body.isNone | none=>false
theorem enters_known {P:Program} {f:Nat} (h:known P f=true) (cargs:Array Value) (w:World):(callFunc f cargs).run P w=.ok (.enter f cargs) w:=by
 unfold known at h
 cases hf:P.funcs[f]? with
 | none=>rw [hf] at h; cases h
 | some fn =>
  rw [hf] at h
  simp only [Bool.and_eq_true,Bool.not_eq_true'] at h
  exact enters_of hf h.1 h.2 cargs w
mutual
def AV.isData:AV→Bool
 | .c _ | .undef | .agg _ | .fn _ []=>true
 | .mv _ ds=>AV.areData ds
 | .tup vs=>AV.areData vs
 | _=>false
def AV.areData:List AV→Bool
 | []=>true
 | v::vs=>v.isData && AV.areData vs
end
mutual
theorem AV.isData_ok:∀ {v:AV},v.isData=true→v.Data
 | .c _,_=>.c _
 | .undef,_=>.undef
 | .agg _,_=>.agg _
 | .fn _ [],_=>.fn _
 | .fn _ (_::_),h=>by simp [AV.isData] at h
 | .mv f ds,h=>.mv f ds (AV.areData_ok (by simpa [AV.isData] using h))
 | .tup vs,h=>.tup vs (AV.areData_ok (by simpa [AV.isData] using h))
 | .nils,h=>by simp [AV.isData] at h
 | .ptr _ _,h=>by simp [AV.isData] at h
 | .eptr _,h=>by simp [AV.isData] at h
 | .vptr _ _ _,h=>by simp [AV.isData] at h
 | .vec _ _,h=>by simp [AV.isData] at h
 | .frow _,h=>by simp [AV.isData] at h
 | .frp _,h=>by simp [AV.isData] at h
theorem AV.areData_ok:∀ {vs:List AV},AV.areData vs=true→∀ (i:Nat) v,vs[i]?=some v→v.Data
 | [],_,i,v,h=>by simp at h
 | x::xs,h,i,v,hv=>by
  simp only [AV.areData,Bool.and_eq_true] at h
  cases i with
  | zero=>simp at hv; subst hv; exact AV.isData_ok h.1
  | succ i=>exact AV.areData_ok h.2 i v (by simpa using hv)
end
theorem aN:All []:=trivial
theorem aO {p:Prop} (h:p):All [p]:=h
theorem aC {p q:Prop} {ps:List Prop} (h:p) (k:All (q::ps)):All (p::q::ps):=⟨h,k⟩
theorem dT {p:Prop} [Decidable p] (h:p):decide p=true:=decide_eq_true h
theorem dF {p:Prop} [Decidable p] (h:¬ p):decide p=false:=decide_eq_false h
theorem beT {α:Type} [BEq α] [LawfulBEq α] {a b:α} (h:a=b):(a == b)=true:=by simp [h]
theorem beF {α:Type} [BEq α] [LawfulBEq α] {a b:α} (h:¬ a=b):(a == b)=false:=by simp [h]
theorem bnT {α:Type} [BEq α] [LawfulBEq α] {a b:α} (h:¬ a=b):(a != b)=true:=by simp [h]
theorem bnF {α:Type} [BEq α] [LawfulBEq α] {a b:α} (h:a=b):(a != b)=false:=by simp [h]
theorem bsize (a:ByteArray):a.data.toList.length=a.size:=Array.length_toList
theorem toList_loop (a:ByteArray):∀ (n i:Nat) (r:List UInt8),i+n=a.size→ByteArray.toList.loop a i r=r.reverse++a.data.toList.drop i
 | 0,i,r,h=>by
  unfold ByteArray.toList.loop
  rw [if_neg (by omega),List.drop_eq_nil_of_le (by rw [bsize]; omega),List.append_nil]
 | n+1,i,r,h=>by
  unfold ByteArray.toList.loop
  have hi:i < a.data.toList.length:=by rw [bsize]; omega
  have hj:i < a.data.size:=by rw [← Array.length_toList]; exact hi
  rw [if_pos (by omega),toList_loop a n (i+1) _ (by omega),List.drop_eq_getElem_cons hi]
  have e:a.get! i=a.data.toList[i]:=by
   cases a with
   | mk d=>show d[i]! = d.toList[i]; rw [getElem!_pos d i hj,Array.getElem_toList]
  rw [e]; simp
theorem toList_eq (a:ByteArray):a.toList=a.data.toList:=by
 unfold ByteArray.toList
 rw [toList_loop a a.size 0 [] (by omega)]; simp
theorem bytes_ext {a b:ByteArray} (h:a.toList=b.toList):a=b:=by
 rw [toList_eq,toList_eq] at h
 cases a; cases b; simp at h; simp [h]
theorem seT {a b:ByteArray} (h:a=b):(a.toList == b.toList)=true:=by simp [h]
theorem seF {a b:ByteArray} (h:¬ a=b):(a.toList == b.toList)=false:=by
 rw [beq_eq_false_iff_ne]; exact fun e=>h (bytes_ext e)
theorem snT {a b:ByteArray} (h:¬ a=b):(!(a.toList == b.toList))=true:=by rw [seF h]; rfl
theorem snF {a b:ByteArray} (h:a=b):(!(a.toList == b.toList))=false:=by rw [seT h]; rfl
section
variable {E:Env}
theorem fnMk {f:Nat} {args:List AV} {r:AV} (os:List Orc) {ps:List Prop} (hk:known PP f=true) (hr:r.isData=true) (hp:All ps) (h:pathF DD (sem PP DD E.B0 E.Gd) PP f args [] os=some ((r,[]),[],ps)):Fn E f args r :=
 fn_mk hTT E.hs hmm os (enters_known hk) (AV.isData_ok hr) hp h
theorem rnMk {f:Nat} {args:List AV} {objs objs':Objs} {r:AV} (os:List Orc) {ps:List Prop} (hk:known PP f=true) (hp:All ps) (h:pathF DD (sem PP DD E.B0 E.Gd) PP f args objs os=some ((r,objs'),[],ps)):Rn E f args objs r objs' :=
 run_mk hTT E.hs hmm os (enters_known hk) hp h
theorem lpOn {n f k:Nat} {st st':St} {o:Out} (st2:St) (keep:List Nat) (os:List Orc) {ps:List Prop} (hp:All ps) (h:round DD (sem PP DD E.B0 E.Gd) (loopB PP f k) n keep st os=some (.norm,st2,ps)) (hr:Lp E n f k st2 o st'):Lp E n f k st o st' :=
 loop_on hTT E.hs hmm st2 keep os ps h hp hr
theorem lpOff {n f k:Nat} {st st':St} {o:Out} (keep:List Nat) (os:List Orc) {ps:List Prop} (hp:All ps) (h:round DD (sem PP DD E.B0 E.Gd) (loopB PP f k) n keep st os=some (o,st',ps)) (ho:o≠.norm):Lp E n f k st o st' :=
 loop_off hTT E.hs hmm keep os ps h ho hp
end
end Gev
namespace Gev
open Go Go.Proofs
variable {E:Env}
theorem x0d {a0 a1:Int} (h1:Fn E z0r [.c (.i64 a0)] (.c (.bool false))) (h2:Fn E z0r [.c (.i64 a1)] (.c (.bool false))) (h3:a0 < a1) :Fn E z2a [.c (.i64 a0),.c (.i64 a1)] (.c (.i64 (-1))):=by
 exact fnMk [.v (.c (.bool false)),.v (.c (.bool false)),.t true] (by kernel_rfl) (by kernel_rfl) (aC h1 (aC h2 (aO (dT h3)))) (by kernel_rfl)
theorem x0e {a0 a1:Int} (h1:Fn E z0r [.c (.i64 a0)] (.c (.bool false))) (h2:Fn E z0r [.c (.i64 a1)] (.c (.bool false))) (h3:¬ a0 < a1) (h4:a0 > a1) :Fn E z2a [.c (.i64 a0),.c (.i64 a1)] (.c (.i64 1)):=by
 exact fnMk [.v (.c (.bool false)),.v (.c (.bool false)),.t false,.t true] (by kernel_rfl) (by kernel_rfl) (aC h1 (aC h2 (aC (dF h3) (aO (dT h4))))) (by kernel_rfl)
theorem x0f {a0 a1:Int} (h1:Fn E z0r [.c (.i64 a0)] (.c (.bool false))) (h2:Fn E z0r [.c (.i64 a1)] (.c (.bool false))) (h3:¬ a0 < a1) (h4:¬ a0 > a1) :Fn E z2a [.c (.i64 a0),.c (.i64 a1)] (.c (.i64 0)):=by
 exact fnMk [.v (.c (.bool false)),.v (.c (.bool false)),.t false,.t false] (by kernel_rfl) (by kernel_rfl) (aC h1 (aC h2 (aC (dF h3) (aO (dF h4))))) (by kernel_rfl)
theorem y3r {a0 a1:Int} (h1:Fn E U7 [.c (.u32 a0)] (.c (.bool false))) (h2:Fn E U7 [.c (.u32 a1)] (.c (.bool false))) (h3:a0 < a1) :Fn E Z9 [.c (.u32 a0),.c (.u32 a1)] (.c (.i64 (-1))):=by
 exact fnMk [.v (.c (.bool false)),.v (.c (.bool false)),.t true] (by kernel_rfl) (by kernel_rfl) (aC h1 (aC h2 (aO (dT h3)))) (by kernel_rfl)
theorem y3s {a0 a1:Int} (h1:Fn E U7 [.c (.u32 a0)] (.c (.bool false))) (h2:Fn E U7 [.c (.u32 a1)] (.c (.bool false))) (h3:¬ a0 < a1) (h4:a0 > a1) :Fn E Z9 [.c (.u32 a0),.c (.u32 a1)] (.c (.i64 1)):=by
 exact fnMk [.v (.c (.bool false)),.v (.c (.bool false)),.t false,.t true] (by kernel_rfl) (by kernel_rfl) (aC h1 (aC h2 (aC (dF h3) (aO (dT h4))))) (by kernel_rfl)
theorem y3t {a0 a1:Int} (h1:Fn E U7 [.c (.u32 a0)] (.c (.bool false))) (h2:Fn E U7 [.c (.u32 a1)] (.c (.bool false))) (h3:¬ a0 < a1) (h4:¬ a0 > a1) :Fn E Z9 [.c (.u32 a0),.c (.u32 a1)] (.c (.i64 0)):=by
 exact fnMk [.v (.c (.bool false)),.v (.c (.bool false)),.t false,.t false] (by kernel_rfl) (by kernel_rfl) (aC h1 (aC h2 (aC (dF h3) (aO (dF h4))))) (by kernel_rfl)
theorem y2g {a0:Int} (h1:a0=a0) :Fn E z0r [.c (.i64 a0)] (.c (.bool false)):=by
 exact fnMk [.t false] (by kernel_rfl) (by kernel_rfl) (aO (bnF h1)) (by kernel_rfl)
theorem z8o {a0:Int} (h1:a0=a0) :Fn E U7 [.c (.u32 a0)] (.c (.bool false)):=by
 exact fnMk [.t false] (by kernel_rfl) (by kernel_rfl) (aO (bnF h1)) (by kernel_rfl)
end Gev
namespace Gev
open Go Go.Proofs
variable {E:Env}
theorem x5u {a0 a1:BA} {v3 v4:RW} (h1:Fn E C5 [.c (.str a0)] (.c (.bool true))) (h2:Fn E C5 [.c (.str a1)] (.c (.bool true))) (h3:Fn E V7 [.c (.str a0)] (.c (.list v3))) (h4:Fn E V7 [.c (.str a1)] (.c (.list v4))) :Fn E z0c [.c (.str a0),.c (.str a1)] (.tup [.c (.list v3),.c (.list v4),.c (.i64 0)]):=by
 exact fnMk [.v (.c (.bool true)),.v (.c (.bool true)),.v (.c (.list v3)),.v (.c (.list v4))] (by kernel_rfl) (by kernel_rfl) (aC h1 (aC h2 (aC h3 (aO h4)))) (by kernel_rfl)
theorem x7o {a0 a1:BA} {v1 v2:RW} {v3:Int} {v4:BA} {v5:Int} (h1:Fn E z0c [.c (.str a0),.c (.str a1)] (.tup [.c (.list v1),.c (.list v2),.c (.i64 v3)])) (h2:v3=0) (h3:Fn E X8 [.mv D1 [.c (.list v1)],.c (.list v2)] (.tup [.c (.str v4),.c (.i64 v5)])) :Fn E z2k [.c (.str a0),.c (.str a1)] (.tup [.c (.str v4),.c (.i64 v5)]):=by
 exact fnMk [.v (.tup [.c (.list v1),.c (.list v2),.c (.i64 v3)]),.t false,.v (.tup [.c (.str v4),.c (.i64 v5)])] (by kernel_rfl) (by kernel_rfl) (aC h1 (aC (bnF h2) (aO h3))) (by kernel_rfl)
def M1 (x0:BA) (x17:Int) (x18:Int):St:=stOf 32 [(0,.c (.str x0)),(17,.c (.i64 x17)),(18,.c (.i64 x18))] []
def U8:St:=stOf 32 [(2,.c (.bool false))] []
def Z1:St:=stOf 32 [] []
theorem z7w {x0:BA} {x17 x18 v1 v2:Int} (e1:((x0.data.toList.getD (Int.toNat x18) 0).toNat:Int)=v1) (e2:IntKind.i64.wrap (x18+1)=v2) (h1:x18 < x17) (h2:0≤x18∧x18 < x0.size) (h3:¬ v1 < 48) (h4:¬ v1 > 57) {o:Out} {st':St} (ih:Lp E 0 C5 0 (M1 x0 x17 v2) o st') :Lp E 0 C5 0 (M1 x0 x17 x18) o st':=by
 subst e1 e2
 exact lpOn _ [0,17,18] [.t true,.t false,.t false] (aC (dT h1) (aC h2 (aC (dF h3) (aC h2 (aO (dF h4)))))) (by kernel_rfl) ih
theorem y2z {x0:BA} {x17 x18 v1:Int} (e1:((x0.data.toList.getD (Int.toNat x18) 0).toNat:Int)=v1) (h1:x18 < x17) (h2:0≤x18∧x18 < x0.size) (h3:v1 < 48) :Lp E 0 C5 0 (M1 x0 x17 x18) .ret (U8):=by
 subst e1
 exact lpOff [2] [.t true,.t true] (aC (dT h1) (aC h2 (aO (dT h3)))) (by kernel_rfl) (by simp)
theorem y3a {x0:BA} {x17 x18 v1:Int} (e1:((x0.data.toList.getD (Int.toNat x18) 0).toNat:Int)=v1) (h1:x18 < x17) (h2:0≤x18∧x18 < x0.size) (h3:¬ v1 < 48) (h4:v1 > 57) :Lp E 0 C5 0 (M1 x0 x17 x18) .ret (U8):=by
 subst e1
 exact lpOff [2] [.t true,.t false,.t true] (aC (dT h1) (aC h2 (aC (dF h3) (aC h2 (aO (dT h4)))))) (by kernel_rfl) (by simp)
theorem y3b {x0:BA} {x17 x18:Int} (h1:¬ x18 < x17) :Lp E 0 C5 0 (M1 x0 x17 x18) (.exit 0) (Z1):=by
 exact lpOff [] [.t false] (aO (dF h1)) (by kernel_rfl) (by simp)
theorem x4b {a0:BA} (h1:a0=(⟨#[]⟩:BA)) :Fn E C5 [.c (.str a0)] (.c (.bool false)):=by
 exact fnMk [.t true] (by kernel_rfl) (by kernel_rfl) (aO (seT h1)) (by kernel_rfl)
theorem x4c {a0:BA} {v1:Int} (e1:((a0.data.toList.getD 0 0).toNat:Int)=v1) (h1:¬ a0=(⟨#[]⟩:BA)) (h2:(a0.size:Int) > 1) (h3:0≤(0:Int)∧(0:Int) < a0.size) (h4:v1=48) :Fn E C5 [.c (.str a0)] (.c (.bool false)):=by
 subst e1
 exact fnMk [.t false,.t true,.t true] (by kernel_rfl) (by kernel_rfl) (aC (seF h1) (aC (dT h2) (aC h3 (aO (beT h4))))) (by kernel_rfl)
theorem x4d {a0:BA} {v1:Int} (e1:((a0.data.toList.getD 0 0).toNat:Int)=v1) (h1:¬ a0=(⟨#[]⟩:BA)) (h2:(a0.size:Int) > 1) (h3:0≤(0:Int)∧(0:Int) < a0.size) (h4:¬ v1=48) (h5:Lp E 0 C5 0 (M1 a0 (a0.size:Int) 0) .ret (U8)) :Fn E C5 [.c (.str a0)] (.c (.bool false)):=by
 subst e1
 exact fnMk [.t false,.t true,.t false,.loop [0,17,18] [] .ret (U8)] (by kernel_rfl) (by kernel_rfl) (aC (seF h1) (aC (dT h2) (aC h3 (aC (beF h4) (aO h5))))) (by kernel_rfl)
theorem x4e {a0:BA} {v1:Int} (e1:((a0.data.toList.getD 0 0).toNat:Int)=v1) (h1:¬ a0=(⟨#[]⟩:BA)) (h2:(a0.size:Int) > 1) (h3:0≤(0:Int)∧(0:Int) < a0.size) (h4:¬ v1=48) (h5:Lp E 0 C5 0 (M1 a0 (a0.size:Int) 0) (.exit 0) (Z1)) :Fn E C5 [.c (.str a0)] (.c (.bool true)):=by
 subst e1
 exact fnMk [.t false,.t true,.t false,.loop [0,17,18] [] (.exit 0) (Z1)] (by kernel_rfl) (by kernel_rfl) (aC (seF h1) (aC (dT h2) (aC h3 (aC (beF h4) (aO h5))))) (by kernel_rfl)
theorem x4f {a0:BA} (h1:¬ a0=(⟨#[]⟩:BA)) (h2:¬ (a0.size:Int) > 1) (h3:Lp E 0 C5 0 (M1 a0 (a0.size:Int) 0) .ret (U8)) :Fn E C5 [.c (.str a0)] (.c (.bool false)):=by
 exact fnMk [.t false,.t false,.loop [0,17,18] [] .ret (U8)] (by kernel_rfl) (by kernel_rfl) (aC (seF h1) (aC (dF h2) (aO h3))) (by kernel_rfl)
theorem x4g {a0:BA} (h1:¬ a0=(⟨#[]⟩:BA)) (h2:¬ (a0.size:Int) > 1) (h3:Lp E 0 C5 0 (M1 a0 (a0.size:Int) 0) (.exit 0) (Z1)) :Fn E C5 [.c (.str a0)] (.c (.bool true)):=by
 exact fnMk [.t false,.t false,.loop [0,17,18] [] (.exit 0) (Z1)] (by kernel_rfl) (by kernel_rfl) (aC (seF h1) (aC (dF h2) (aO h3))) (by kernel_rfl)
def z3n (x0:BA) (x3:Nat) (w0:RW):St:=stOf 31 [(0,.c (.str x0)),(3,.vec 0 x3)] [some (.vec A3 w0)]
def z3z (x3':Nat) (w0':RW):St:=stOf 31 [(3,.vec 0 x3')] [some (.vec A3 w0')]
theorem y8p {x0:BA} {x3:Nat} {w0:RW} {v1 v2:Int} {v3:BA} {v4 v5:Int} {v6:RW} {v7:Nat} {v8:BA} (e1:IntKind.i64.wrap ((x0.size:Int) - 9)=v1) (e2:(if 0 > v1 then 0 else v1)=v2) (e3:x0.extract (Int.toNat v2) (Int.toNat (x0.size:Int))=v3) (e4:IntKind.u32.wrap v4=v5) (e5:(w0.take x3)++[[.u32 v5]]=v6) (e6:x3+1=v7) (e7:x0.extract 0 (Int.toNat v2)=v8) (h1:(x0.size:Int) > 0) (h2:0≤v2∧v2≤(x0.size:Int)∧(x0.size:Int)≤x0.size) (h3:Fn E z5z [.c (.str v3),.c (.i64 10),.c (.i64 32)] (.tup [.c (.u64 v4),.undef])) (h4:(x3+1)*4≤140737488355328∧x3+1≤140737488355328) (h5:0≤(0:Int)∧(0:Int)≤v2∧v2≤x0.size) {o:Out} {st':St} (ih:Lp E 0 V7 0 (z3n v8 v7 v6) o st') :Lp E 0 V7 0 (z3n x0 x3 w0) o st':=by
 subst e1 e2 e3 e4 e5 e6 e7
 exact lpOn _ [0,3] [.t true,.v (.tup [.c (.u64 v4),.undef])] (aC (dT h1) (aC h2 (aC h3 (aC (show ∀ y∈([[.u32 (IntKind.u32.wrap v4)]]:RW),y.length=1 from by simp) (aC h4 (aO h5)))))) (by kernel_rfl) ih
theorem y4w {x0:BA} {x3:Nat} {w0:RW} (h1:¬ (x0.size:Int) > 0) :Lp E 0 V7 0 (z3n x0 x3 w0) (.exit 0) (z3z x3 w0):=by
 exact lpOff [3] [.t false] (aO (dF h1)) (by kernel_rfl) (by simp)
theorem x5v {a0:BA} {v1:Nat} {v2:RW} {v3:Nat} {v4:RW} (e1:(v2.take v3)=v4) (h1:Lp E 0 V7 0 (z3n a0 0 []) (.exit 0) (z3z v1 v2)) (h2:Rn E C2 [.vec 0 v1] [some (.vec A3 v2)] (.vec 0 v3) [some (.vec A3 v2)]) :Fn E V7 [.c (.str a0)] (.c (.list v4)):=by
 subst e1
 exact fnMk [.loop [0,3] [(3,A3)] (.exit 0) (z3z v1 v2),.vr (.vec 0 v3)] (by kernel_rfl) (by kernel_rfl) (aC h1 (aO h2)) (by kernel_rfl)
theorem z6r {a0_0 a1 v1:RW} {v2:BA} (h1:Fn E D1 [.c (.list a0_0),.c (.list a1)] (.c (.list v1))) (h2:Fn E M4 [.c (.list v1)] (.c (.str v2))) :Fn E X8 [.mv D1 [.c (.list a0_0)],.c (.list a1)] (.tup [.c (.str v2),.c (.i64 0)]):=by
 exact fnMk [.v (.c (.list v1)),.v (.c (.str v2))] (by kernel_rfl) (by kernel_rfl) (aC h1 (aO h2)) (by kernel_rfl)
theorem x2p {a0 a1:BA} {v1 v2:RW} {v3:Int} {v4 v5:RW} {v6 v7:BA} (h1:Fn E z0c [.c (.str a0),.c (.str a1)] (.tup [.c (.list v1),.c (.list v2),.c (.i64 v3)])) (h2:v3=0) (h3:¬ (v2.length:Int)=0) (h4:Fn E A4 [.c (.list v1),.c (.list v2)] (.tup [.c (.list v4),.c (.list v5)])) (h5:Fn E M4 [.c (.list v4)] (.c (.str v6))) (h6:Fn E M4 [.c (.list v5)] (.c (.str v7))) :Fn E z1f [.c (.str a0),.c (.str a1)] (.tup [.c (.str v6),.c (.str v7),.c (.i64 0)]):=by
 exact fnMk [.v (.tup [.c (.list v1),.c (.list v2),.c (.i64 v3)]),.t false,.t false,.v (.tup [.c (.list v4),.c (.list v5)]),.v (.c (.str v6)),.v (.c (.str v7))] (by kernel_rfl) (by kernel_rfl) (aC h1 (aC (bnF h2) (aC (beF h3) (aC h4 (aC h5 (aO h6)))))) (by kernel_rfl)
def X7 (x0:Nat) (w0:RW):St:=stOf 21 [(0,.vec 0 x0)] [some (.vec A3 w0)]
def Y7 (w0:RW) (x0':Nat):St:=stOf 21 [(0,.vec 0 x0')] [some (.vec A3 w0)]
theorem y2b {x0:Nat} {w0:RW} {v1 v2:Int} {v3:Nat} (e1:IntKind.i64.wrap (((x0:Nat):Int) - 1)=v1) (e2:(Int.toNat v1)=v3) (h1:((x0:Nat):Int) > 0) (h2:0≤v1∧v1 < ((x0:Nat):Int)) (h3:w0[(Int.toNat v1)]?=some [.u32 v2]) (h4:v2=0) (h5:0≤v1∧v1≤((x0:Nat):Int)) {o:Out} {st':St} (ih:Lp E 1 C2 0 (X7 v3 w0) o st') :Lp E 1 C2 0 (X7 x0 w0) o st':=by
 subst e1 e2
 exact lpOn _ [0] [.t true,.d [.u32 v2],.t true] (aC (dT h1) (aC h2 (aC h3 (aC (beT h4) (aO h5))))) (by kernel_rfl) ih
theorem y0n {x0:Nat} {w0:RW} {v1 v2:Int} (e1:IntKind.i64.wrap (((x0:Nat):Int) - 1)=v1) (h1:((x0:Nat):Int) > 0) (h2:0≤v1∧v1 < ((x0:Nat):Int)) (h3:w0[(Int.toNat v1)]?=some [.u32 v2]) (h4:¬ v2=0) :Lp E 1 C2 0 (X7 x0 w0) (.exit 0) (Y7 w0 x0):=by
 subst e1
 exact lpOff [0] [.t true,.d [.u32 v2],.t false] (aC (dT h1) (aC h2 (aC h3 (aO (beF h4))))) (by kernel_rfl) (by simp)
theorem y0o {x0:Nat} {w0:RW} (h1:¬ ((x0:Nat):Int) > 0) :Lp E 1 C2 0 (X7 x0 w0) (.exit 0) (Y7 w0 x0):=by
 exact lpOff [0] [.t false] (aO (dF h1)) (by kernel_rfl) (by simp)
theorem y8o {w0:RW} {a0 v1:Nat} (h1:Lp E 1 C2 0 (X7 a0 w0) (.exit 0) (Y7 w0 v1)) :Rn E C2 [.vec 0 a0] [some (.vec A3 w0)] (.vec 0 v1) [some (.vec A3 w0)]:=by
 exact rnMk [.loop [0] [] (.exit 0) (Y7 w0 v1)] (by kernel_rfl) (aO h1) (by kernel_rfl)
def z0f (x1:RW) (x5:Nat) (x6:Int) (x7:Int) (x8:Int) (x17:RW) (x18:Int) (x19:Int) (x24:RW) (x25:Int) (x26:Int) (w0:RW):St:=stOf 68 [(1,.c (.list x1)),(5,.vec 0 x5),(6,.c (.i64 x6)),(7,.c (.u32 x7)),(8,.c (.u64 x8)),(17,.c (.list x17)),(18,.c (.i64 x18)),(19,.c (.i64 x19)),(24,.c (.list x24)),(25,.c (.i64 x25)),(26,.c (.i64 x26))] [some (.vec A3 w0)]
def z1a (x1:RW) (x5:Nat) (x6:Int) (x17:RW) (x18:Int) (x19:Int) (x8':Int) (w0':RW):St:=stOf 68 [(1,.c (.list x1)),(5,.vec 0 x5),(6,.c (.i64 x6)),(8,.c (.u64 x8')),(17,.c (.list x17)),(18,.c (.i64 x18)),(19,.c (.i64 x19))] [some (.vec A3 w0')]
theorem y1k {x1:RW} {x5:Nat} {x6 x7 x8:Int} {x17:RW} {x18 x19:Int} {x24:RW} {x25 x26:Int} {w0:RW} {v1 v2 v3 v4 v5 v6 v7 v8 v9 v10 v11:Int} {v12:RW} {v13 v14:Int} (e1:IntKind.u64.wrap x7=v2) (e2:IntKind.u64.wrap v1=v3) (e3:IntKind.u64.wrap (v2*v3)=v4) (e4:IntKind.i64.wrap (x6+x26)=v5) (e5:IntKind.u64.wrap v6=v7) (e6:IntKind.u64.wrap (v4+v7)=v8) (e7:IntKind.u64.wrap (x8+v8)=v9) (e8:Int.tmod v9 1000000000=v10) (e9:IntKind.u32.wrap v10=v11) (e10:List.set w0 (Int.toNat v5) [.u32 v11]=v12) (e11:IntKind.u64.wrap (Int.tdiv v9 1000000000)=v13) (e12:IntKind.i64.wrap (x26+1)=v14) (h1:x26 < x25) (h2:0≤x26) (h3:x24[(Int.toNat x26)]?=some [.u32 v1]) (h4:0≤v5∧v5 < ((x5:Nat):Int)) (h5:w0[(Int.toNat v5)]?=some [.u32 v6]) {o:Out} {st':St} (ih:Lp E 1 D1 1 (z0f x1 x5 x6 x7 v13 x17 x18 x19 x24 x25 v14 v12) o st') :Lp E 1 D1 1 (z0f x1 x5 x6 x7 x8 x17 x18 x19 x24 x25 x26 w0) o st':=by
 subst e1 e2 e3 e4 e5 e6 e7 e8 e9 e10 e11 e12
 exact lpOn _ [1,5,6,7,8,17,18,19,24,25,26] [.t true,.d [.u32 v1],.d [.u32 v6],.d [.u32 v6]] (aC (dT h1) (aC h2 (aC h3 (aC h4 (aC h5 (aC (show (1000000000:Int)≠0 from by decide) (aC h4 (aC h5 (aO (show (1000000000:Int)≠0 from by decide)))))))))) (by kernel_rfl) ih
theorem z9r {x1:RW} {x5:Nat} {x6 x7 x8:Int} {x17:RW} {x18 x19:Int} {x24:RW} {x25 x26:Int} {w0:RW} (h1:¬ x26 < x25) :Lp E 1 D1 1 (z0f x1 x5 x6 x7 x8 x17 x18 x19 x24 x25 x26 w0) (.exit 2) (z1a x1 x5 x6 x17 x18 x19 x8 w0):=by
 exact lpOff [1,5,6,8,17,18,19] [.t false] (aO (dF h1)) (by kernel_rfl) (by simp)
def z0e (x1:RW) (x5:Nat) (x17:RW) (x18:Int) (x19:Int) (w0:RW):St:=stOf 68 [(1,.c (.list x1)),(5,.vec 0 x5),(17,.c (.list x17)),(18,.c (.i64 x18)),(19,.c (.i64 x19))] [some (.vec A3 w0)]
def z0z (x5:Nat) (w0':RW):St:=stOf 68 [(5,.vec 0 x5)] [some (.vec A3 w0')]
theorem y1j {x1:RW} {x5:Nat} {x17:RW} {x18 x19:Int} {w0:RW} {v1 v2:Int} {v3:RW} {v4 v5 v6:Int} {v7:RW} {v8:Int} (e1:IntKind.i64.wrap (x19+(x1.length:Int))=v4) (e2:IntKind.u32.wrap v2=v5) (e3:List.set v3 (Int.toNat v4) [.u32 v5]=v7) (e4:IntKind.i64.wrap (x19+1)=v8) (h1:x19 < x18) (h2:0≤x19) (h3:x17[(Int.toNat x19)]?=some [.u32 v1]) (h4:Lp E 1 D1 1 (z0f x1 x5 x19 v1 0 x17 x18 x19 x1 (x1.length:Int) 0 w0) (.exit 2) (z1a x1 x5 x19 x17 x18 x19 v2 v3)) (h5:0≤v4∧v4 < ((x5:Nat):Int)) (h6:v3[(Int.toNat v4)]?=some [.u32 v6]) {o:Out} {st':St} (ih:Lp E 1 D1 0 (z0e x1 x5 x17 x18 v8 v7) o st') :Lp E 1 D1 0 (z0e x1 x5 x17 x18 x19 w0) o st':=by
 subst e1 e2 e3 e4
 exact lpOn _ [1,5,17,18,19] [.t true,.d [.u32 v1],.loop [1,5,6,7,8,17,18,19,24,25,26] [] (.exit 2) (z1a x1 x5 x19 x17 x18 x19 v2 v3),.d [.u32 v6]] (aC (dT h1) (aC h2 (aC h3 (aC h4 (aC h5 (aO h6)))))) (by kernel_rfl) ih
theorem z9q {x1:RW} {x5:Nat} {x17:RW} {x18 x19:Int} {w0:RW} (h1:¬ x19 < x18) :Lp E 1 D1 0 (z0e x1 x5 x17 x18 x19 w0) (.exit 0) (z0z x5 w0):=by
 exact lpOff [5] [.t false] (aO (dF h1)) (by kernel_rfl) (by simp)
theorem y6n {a0 a1:RW} {v1:Int} {v2:Nat} {v3 v4:RW} {v5:Nat} (e1:IntKind.i64.wrap ((a0.length:Int)+(a1.length:Int))=v1) (e2:Int.toNat v1=v2) (e3:List.replicate v2 [.u32 0]=v3) (h1:0≤v1∧v1≤v1∧(Int.toNat v1)*4≤140737488355328∧(Int.toNat v1)≤140737488355328) (h2:Lp E 1 D1 0 (z0e a1 v2 a0 (a0.length:Int) 0 v3) (.exit 0) (z0z v2 v4)) (h3:Rn E C2 [.vec 0 v2] [some (.vec A3 v4)] (.vec 0 v5) [some (.vec A3 v4)]) :Rn E D1 [.c (.list a0),.c (.list a1)] [] (.vec 0 v5) [some (.vec A3 v4)]:=by
 subst e1 e2 e3
 exact rnMk [.loop [1,5,17,18,19] [] (.exit 0) (z0z (Int.toNat (IntKind.i64.wrap ((a0.length:Int)+(a1.length:Int)))) v4),.vr (.vec 0 v5)] (by kernel_rfl) (aC h1 (aC h2 (aO h3))) (by kernel_rfl)
theorem x7n {a0 a1:BA} {v1 v2:RW} {v3:Int} {v4:BA} {v5:Int} (h1:Fn E z0c [.c (.str a0),.c (.str a1)] (.tup [.c (.list v1),.c (.list v2),.c (.i64 v3)])) (h2:v3=0) (h3:Fn E X8 [.mv D5 [.c (.list v1)],.c (.list v2)] (.tup [.c (.str v4),.c (.i64 v5)])) :Fn E y0e [.c (.str a0),.c (.str a1)] (.tup [.c (.str v4),.c (.i64 v5)]):=by
 exact fnMk [.v (.tup [.c (.list v1),.c (.list v2),.c (.i64 v3)]),.t false,.v (.tup [.c (.str v4),.c (.i64 v5)])] (by kernel_rfl) (by kernel_rfl) (aC h1 (aC (bnF h2) (aO h3))) (by kernel_rfl)
def G4 (x10:RW) (x11:Nat) (x12:Nat) (x13:Int) (x14:Nat) (x15:Int) (x17:Int) (x18:Int) (w1:RW) (w2:RW) (w3:RW) (w4:RW):St:=stOf 299 [(10,.c (.list x10)),(11,.vec 2 x11),(12,.vec 3 x12),(13,.c (.i64 x13)),(14,.vec 4 x14),(15,.c (.i64 x15)),(17,.c (.u64 x17)),(18,.c (.u64 x18))] [some .dead,some (.vec A3 w1),some (.vec A3 w2),some (.vec A3 w3),some (.vec A3 w4)]
def H3 (x10:RW) (x11:Nat) (x12:Nat) (x13:Int) (x14:Nat) (x15:Int) (w1:RW) (w2:RW) (w3:RW) (w4:RW) (x17':Int):St:=stOf 299 [(10,.c (.list x10)),(11,.vec 2 x11),(12,.vec 3 x12),(13,.c (.i64 x13)),(14,.vec 4 x14),(15,.c (.i64 x15)),(17,.c (.u64 x17'))] [some .dead,some (.vec A3 w1),some (.vec A3 w2),some (.vec A3 w3),some (.vec A3 w4)]
theorem z9l {x10:RW} {x11 x12:Nat} {x13:Int} {x14:Nat} {x15 x17 x18:Int} {w1 w2 w3 w4:RW} {v1 v2 v3 v4 v5:Int} (e1:IntKind.u64.wrap (x17 - 1)=v1) (e2:IntKind.i64.wrap (x13 - 1)=v2) (e3:IntKind.u64.wrap v3=v4) (e4:IntKind.u64.wrap (x18+v4)=v5) (h1:x17≥1000000000) (h2:0≤v2∧v2 < ((x12:Nat):Int)) (h3:w3[(Int.toNat v2)]?=some [.u32 v3]) (h4:¬ v5≥1000000000) {o:Out} {st':St} (ih:Lp E 5 A4 1 (G4 x10 x11 x12 x13 x14 x15 v1 v5 w1 w2 w3 w4) o st') :Lp E 5 A4 1 (G4 x10 x11 x12 x13 x14 x15 x17 x18 w1 w2 w3 w4) o st':=by
 subst e1 e2 e3 e4
 exact lpOn _ [10,11,12,13,14,15,17,18] [.t true,.d [.u32 v3],.t false] (aC (dT h1) (aC h2 (aC h3 (aO (dF h4))))) (by kernel_rfl) ih
theorem z9m {x10:RW} {x11 x12:Nat} {x13:Int} {x14:Nat} {x15 x17 x18:Int} {w1 w2 w3 w4:RW} {v1 v2 v3 v4 v5 v6 v7 v8 v9 v10 v11 v12 v13 v14 v15:Int} (e1:IntKind.i64.wrap (x13 - 2)=v1) (e2:IntKind.u64.wrap v2=v3) (e3:IntKind.u64.wrap (x17*v3)=v4) (e4:IntKind.u64.wrap (x18*1000000000)=v5) (e5:IntKind.i64.wrap (x15+x13)=v6) (e6:IntKind.i64.wrap (v6 - 2)=v7) (e7:IntKind.u64.wrap v8=v9) (e8:IntKind.u64.wrap (v5+v9)=v10) (e9:IntKind.u64.wrap (x17 - 1)=v11) (e10:IntKind.i64.wrap (x13 - 1)=v12) (e11:IntKind.u64.wrap v13=v14) (e12:IntKind.u64.wrap (x18+v14)=v15) (h1:¬ x17≥1000000000) (h2:0≤v1∧v1 < ((x12:Nat):Int)) (h3:w3[(Int.toNat v1)]?=some [.u32 v2]) (h4:0≤v7∧v7 < ((x11:Nat):Int)) (h5:w2[(Int.toNat v7)]?=some [.u32 v8]) (h6:v4 > v10) (h7:0≤v12∧v12 < ((x12:Nat):Int)) (h8:w3[(Int.toNat v12)]?=some [.u32 v13]) (h9:¬ v15≥1000000000) {o:Out} {st':St} (ih:Lp E 5 A4 1 (G4 x10 x11 x12 x13 x14 x15 v11 v15 w1 w2 w3 w4) o st') :Lp E 5 A4 1 (G4 x10 x11 x12 x13 x14 x15 x17 x18 w1 w2 w3 w4) o st':=by
 subst e1 e2 e3 e4 e5 e6 e7 e8 e9 e10 e11 e12
 exact lpOn _ [10,11,12,13,14,15,17,18] [.t false,.d [.u32 v2],.d [.u32 v8],.t true,.d [.u32 v13],.t false] (aC (dF h1) (aC h2 (aC h3 (aC h4 (aC h5 (aC (dT h6) (aC h7 (aC h8 (aO (dF h9)))))))))) (by kernel_rfl) ih
theorem z8c {x10:RW} {x11 x12:Nat} {x13:Int} {x14:Nat} {x15 x17 x18:Int} {w1 w2 w3 w4:RW} {v1 v2 v3 v4 v5:Int} (e1:IntKind.u64.wrap (x17 - 1)=v1) (e2:IntKind.i64.wrap (x13 - 1)=v2) (e3:IntKind.u64.wrap v3=v4) (e4:IntKind.u64.wrap (x18+v4)=v5) (h1:x17≥1000000000) (h2:0≤v2∧v2 < ((x12:Nat):Int)) (h3:w3[(Int.toNat v2)]?=some [.u32 v3]) (h4:v5≥1000000000) :Lp E 5 A4 1 (G4 x10 x11 x12 x13 x14 x15 x17 x18 w1 w2 w3 w4) (.exit 3) (H3 x10 x11 x12 x13 x14 x15 w1 w2 w3 w4 v1):=by
 subst e1 e2 e3 e4
 exact lpOff [10,11,12,13,14,15,17] [.t true,.d [.u32 v3],.t true] (aC (dT h1) (aC h2 (aC h3 (aO (dT h4))))) (by kernel_rfl) (by simp)
theorem z8d {x10:RW} {x11 x12:Nat} {x13:Int} {x14:Nat} {x15 x17 x18:Int} {w1 w2 w3 w4:RW} {v1 v2 v3 v4 v5 v6 v7 v8 v9 v10 v11 v12 v13 v14 v15:Int} (e1:IntKind.i64.wrap (x13 - 2)=v1) (e2:IntKind.u64.wrap v2=v3) (e3:IntKind.u64.wrap (x17*v3)=v4) (e4:IntKind.u64.wrap (x18*1000000000)=v5) (e5:IntKind.i64.wrap (x15+x13)=v6) (e6:IntKind.i64.wrap (v6 - 2)=v7) (e7:IntKind.u64.wrap v8=v9) (e8:IntKind.u64.wrap (v5+v9)=v10) (e9:IntKind.u64.wrap (x17 - 1)=v11) (e10:IntKind.i64.wrap (x13 - 1)=v12) (e11:IntKind.u64.wrap v13=v14) (e12:IntKind.u64.wrap (x18+v14)=v15) (h1:¬ x17≥1000000000) (h2:0≤v1∧v1 < ((x12:Nat):Int)) (h3:w3[(Int.toNat v1)]?=some [.u32 v2]) (h4:0≤v7∧v7 < ((x11:Nat):Int)) (h5:w2[(Int.toNat v7)]?=some [.u32 v8]) (h6:v4 > v10) (h7:0≤v12∧v12 < ((x12:Nat):Int)) (h8:w3[(Int.toNat v12)]?=some [.u32 v13]) (h9:v15≥1000000000) :Lp E 5 A4 1 (G4 x10 x11 x12 x13 x14 x15 x17 x18 w1 w2 w3 w4) (.exit 3) (H3 x10 x11 x12 x13 x14 x15 w1 w2 w3 w4 v11):=by
 subst e1 e2 e3 e4 e5 e6 e7 e8 e9 e10 e11 e12
 exact lpOff [10,11,12,13,14,15,17] [.t false,.d [.u32 v2],.d [.u32 v8],.t true,.d [.u32 v13],.t true] (aC (dF h1) (aC h2 (aC h3 (aC h4 (aC h5 (aC (dT h6) (aC h7 (aC h8 (aO (dT h9)))))))))) (by kernel_rfl) (by simp)
theorem z8e {x10:RW} {x11 x12:Nat} {x13:Int} {x14:Nat} {x15 x17 x18:Int} {w1 w2 w3 w4:RW} {v1 v2 v3 v4 v5 v6 v7 v8 v9 v10:Int} (e1:IntKind.i64.wrap (x13 - 2)=v1) (e2:IntKind.u64.wrap v2=v3) (e3:IntKind.u64.wrap (x17*v3)=v4) (e4:IntKind.u64.wrap (x18*1000000000)=v5) (e5:IntKind.i64.wrap (x15+x13)=v6) (e6:IntKind.i64.wrap (v6 - 2)=v7) (e7:IntKind.u64.wrap v8=v9) (e8:IntKind.u64.wrap (v5+v9)=v10) (h1:¬ x17≥1000000000) (h2:0≤v1∧v1 < ((x12:Nat):Int)) (h3:w3[(Int.toNat v1)]?=some [.u32 v2]) (h4:0≤v7∧v7 < ((x11:Nat):Int)) (h5:w2[(Int.toNat v7)]?=some [.u32 v8]) (h6:¬ v4 > v10) :Lp E 5 A4 1 (G4 x10 x11 x12 x13 x14 x15 x17 x18 w1 w2 w3 w4) (.exit 3) (H3 x10 x11 x12 x13 x14 x15 w1 w2 w3 w4 x17):=by
 subst e1 e2 e3 e4 e5 e6 e7 e8
 exact lpOff [10,11,12,13,14,15,17] [.t false,.d [.u32 v2],.d [.u32 v8],.t false] (aC (dF h1) (aC h2 (aC h3 (aC h4 (aC h5 (aO (dF h6))))))) (by kernel_rfl) (by simp)
def G5 (x10:RW) (x11:Nat) (x12:Nat) (x13:Int) (x14:Nat) (x15:Int) (x17:Int) (x19:Int) (x20:Int) (x180:Int) (x181:Int) (w1:RW) (w2:RW) (w3:RW) (w4:RW):St:=stOf 299 [(10,.c (.list x10)),(11,.vec 2 x11),(12,.vec 3 x12),(13,.c (.i64 x13)),(14,.vec 4 x14),(15,.c (.i64 x15)),(17,.c (.u64 x17)),(19,.c (.i64 x19)),(20,.c (.i64 x20)),(180,.c (.i64 x180)),(181,.c (.i64 x181))] [some .dead,some (.vec A3 w1),some (.vec A3 w2),some (.vec A3 w3),some (.vec A3 w4)]
def K2 (x10:RW) (x11:Nat) (x12:Nat) (x13:Int) (x14:Nat) (x15:Int) (x17:Int) (w1:RW) (w3:RW) (w4:RW) (x19':Int) (x20':Int) (w2':RW):St:=stOf 299 [(10,.c (.list x10)),(11,.vec 2 x11),(12,.vec 3 x12),(13,.c (.i64 x13)),(14,.vec 4 x14),(15,.c (.i64 x15)),(17,.c (.u64 x17)),(19,.c (.i64 x19')),(20,.c (.i64 x20'))] [some .dead,some (.vec A3 w1),some (.vec A3 w2'),some (.vec A3 w3),some (.vec A3 w4)]
theorem z9n {x10:RW} {x11 x12:Nat} {x13:Int} {x14:Nat} {x15 x17 x19 x20 x180 x181:Int} {w1 w2 w3 w4:RW} {v1 v2 v3 v4 v5 v6 v7 v8 v9 v10 v11 v12 v13 v14:Int} {v15:RW} {v16:Int} (e1:IntKind.i64.wrap x17=v1) (e2:IntKind.i64.wrap v2=v3) (e3:IntKind.i64.wrap (v1*v3)=v4) (e4:IntKind.i64.wrap (v4+x19)=v5) (e5:IntKind.i64.wrap (Int.tdiv v5 1000000000)=v6) (e6:IntKind.i64.wrap (x181+x15)=v7) (e7:IntKind.i64.wrap v8=v9) (e8:Int.tmod v5 1000000000=v10) (e9:IntKind.i64.wrap (v9 - v10)=v11) (e10:IntKind.i64.wrap (v11 - x20)=v12) (e11:IntKind.i64.wrap (v12+1000000000)=v13) (e12:IntKind.u32.wrap v13=v14) (e13:List.set w2 (Int.toNat v7) [.u32 v14]=v15) (e14:IntKind.i64.wrap (x181+1)=v16) (h1:x181 < x180) (h2:0≤x181∧x181 < ((x12:Nat):Int)) (h3:w3[(Int.toNat x181)]?=some [.u32 v2]) (h4:0≤v7∧v7 < ((x11:Nat):Int)) (h5:w2[(Int.toNat v7)]?=some [.u32 v8]) (h6:v12 < 0) {o:Out} {st':St} (ih:Lp E 5 A4 2 (G5 x10 x11 x12 x13 x14 x15 x17 v6 1 x180 v16 w1 v15 w3 w4) o st') :Lp E 5 A4 2 (G5 x10 x11 x12 x13 x14 x15 x17 x19 x20 x180 x181 w1 w2 w3 w4) o st':=by
 subst e1 e2 e3 e4 e5 e6 e7 e8 e9 e10 e11 e12 e13 e14
 exact lpOn _ [10,11,12,13,14,15,17,19,20,180,181] [.t true,.d [.u32 v2],.d [.u32 v8],.t true,.d [.u32 v8]] (aC (dT h1) (aC h2 (aC h3 (aC (show (1000000000:Int)≠0 from by decide) (aC h4 (aC h5 (aC (show (1000000000:Int)≠0 from by decide) (aC (dT h6) (aC h4 (aO h5)))))))))) (by kernel_rfl) ih
theorem z9o {x10:RW} {x11 x12:Nat} {x13:Int} {x14:Nat} {x15 x17 x19 x20 x180 x181:Int} {w1 w2 w3 w4:RW} {v1 v2 v3 v4 v5 v6 v7 v8 v9 v10 v11 v12 v13:Int} {v14:RW} {v15:Int} (e1:IntKind.i64.wrap x17=v1) (e2:IntKind.i64.wrap v2=v3) (e3:IntKind.i64.wrap (v1*v3)=v4) (e4:IntKind.i64.wrap (v4+x19)=v5) (e5:IntKind.i64.wrap (Int.tdiv v5 1000000000)=v6) (e6:IntKind.i64.wrap (x181+x15)=v7) (e7:IntKind.i64.wrap v8=v9) (e8:Int.tmod v5 1000000000=v10) (e9:IntKind.i64.wrap (v9 - v10)=v11) (e10:IntKind.i64.wrap (v11 - x20)=v12) (e11:IntKind.u32.wrap v12=v13) (e12:List.set w2 (Int.toNat v7) [.u32 v13]=v14) (e13:IntKind.i64.wrap (x181+1)=v15) (h1:x181 < x180) (h2:0≤x181∧x181 < ((x12:Nat):Int)) (h3:w3[(Int.toNat x181)]?=some [.u32 v2]) (h4:0≤v7∧v7 < ((x11:Nat):Int)) (h5:w2[(Int.toNat v7)]?=some [.u32 v8]) (h6:¬ v12 < 0) {o:Out} {st':St} (ih:Lp E 5 A4 2 (G5 x10 x11 x12 x13 x14 x15 x17 v6 0 x180 v15 w1 v14 w3 w4) o st') :Lp E 5 A4 2 (G5 x10 x11 x12 x13 x14 x15 x17 x19 x20 x180 x181 w1 w2 w3 w4) o st':=by
 subst e1 e2 e3 e4 e5 e6 e7 e8 e9 e10 e11 e12 e13
 exact lpOn _ [10,11,12,13,14,15,17,19,20,180,181] [.t true,.d [.u32 v2],.d [.u32 v8],.t false,.d [.u32 v8]] (aC (dT h1) (aC h2 (aC h3 (aC (show (1000000000:Int)≠0 from by decide) (aC h4 (aC h5 (aC (show (1000000000:Int)≠0 from by decide) (aC (dF h6) (aC h4 (aO h5)))))))))) (by kernel_rfl) ih
theorem z8f {x10:RW} {x11 x12:Nat} {x13:Int} {x14:Nat} {x15 x17 x19 x20 x180 x181:Int} {w1 w2 w3 w4:RW} (h1:¬ x181 < x180) :Lp E 5 A4 2 (G5 x10 x11 x12 x13 x14 x15 x17 x19 x20 x180 x181 w1 w2 w3 w4) (.exit 5) (K2 x10 x11 x12 x13 x14 x15 x17 w1 w3 w4 x19 x20 w2):=by
 exact lpOff [10,11,12,13,14,15,17,19,20] [.t false] (aO (dF h1)) (by kernel_rfl) (by simp)
def V9 (x10:RW) (x11:Nat) (x12:Nat) (x13:Int) (x14:Nat) (x15:Int) (x17:Int) (x24:Int) (x25:Int) (x235:Int) (x236:Int) (w1:RW) (w2:RW) (w3:RW) (w4:RW):St:=stOf 299 [(10,.c (.list x10)),(11,.vec 2 x11),(12,.vec 3 x12),(13,.c (.i64 x13)),(14,.vec 4 x14),(15,.c (.i64 x15)),(17,.c (.u64 x17)),(24,.c (.i64 x24)),(25,.c (.u64 x25)),(235,.c (.i64 x235)),(236,.c (.i64 x236))] [some .dead,some (.vec A3 w1),some (.vec A3 w2),some (.vec A3 w3),some (.vec A3 w4)]
def Z7 (x10:RW) (x11:Nat) (x12:Nat) (x13:Int) (x14:Nat) (x15:Int) (x17:Int) (x24:Int) (w1:RW) (w3:RW) (w4:RW) (x25':Int) (w2':RW):St:=stOf 299 [(10,.c (.list x10)),(11,.vec 2 x11),(12,.vec 3 x12),(13,.c (.i64 x13)),(14,.vec 4 x14),(15,.c (.i64 x15)),(17,.c (.u64 x17)),(24,.c (.i64 x24)),(25,.c (.u64 x25'))] [some .dead,some (.vec A3 w1),some (.vec A3 w2'),some (.vec A3 w3),some (.vec A3 w4)]
theorem z9p {x10:RW} {x11 x12:Nat} {x13:Int} {x14:Nat} {x15 x17 x24 x25 x235 x236:Int} {w1 w2 w3 w4:RW} {v1 v2 v3 v4 v5 v6 v7 v8 v9:Int} {v10:RW} {v11 v12:Int} (e1:IntKind.i64.wrap (x236+x15)=v1) (e2:IntKind.u64.wrap v2=v3) (e3:IntKind.u64.wrap v4=v5) (e4:IntKind.u64.wrap (v3+v5)=v6) (e5:IntKind.u64.wrap (x25+v6)=v7) (e6:Int.tmod v7 1000000000=v8) (e7:IntKind.u32.wrap v8=v9) (e8:List.set w2 (Int.toNat v1) [.u32 v9]=v10) (e9:IntKind.u64.wrap (Int.tdiv v7 1000000000)=v11) (e10:IntKind.i64.wrap (x236+1)=v12) (h1:x236 < x235) (h2:0≤v1∧v1 < ((x11:Nat):Int)) (h3:w2[(Int.toNat v1)]?=some [.u32 v2]) (h4:0≤x236∧x236 < ((x12:Nat):Int)) (h5:w3[(Int.toNat x236)]?=some [.u32 v4]) {o:Out} {st':St} (ih:Lp E 5 A4 3 (V9 x10 x11 x12 x13 x14 x15 x17 x24 v11 x235 v12 w1 v10 w3 w4) o st') :Lp E 5 A4 3 (V9 x10 x11 x12 x13 x14 x15 x17 x24 x25 x235 x236 w1 w2 w3 w4) o st':=by
 subst e1 e2 e3 e4 e5 e6 e7 e8 e9 e10
 exact lpOn _ [10,11,12,13,14,15,17,24,25,235,236] [.t true,.d [.u32 v2],.d [.u32 v4],.d [.u32 v2]] (aC (dT h1) (aC h2 (aC h3 (aC h4 (aC h5 (aC (show (1000000000:Int)≠0 from by decide) (aC h2 (aC h3 (aO (show (1000000000:Int)≠0 from by decide)))))))))) (by kernel_rfl) ih
theorem z8g {x10:RW} {x11 x12:Nat} {x13:Int} {x14:Nat} {x15 x17 x24 x25 x235 x236:Int} {w1 w2 w3 w4:RW} (h1:¬ x236 < x235) :Lp E 5 A4 3 (V9 x10 x11 x12 x13 x14 x15 x17 x24 x25 x235 x236 w1 w2 w3 w4) (.exit 7) (Z7 x10 x11 x12 x13 x14 x15 x17 x24 w1 w3 w4 x25 w2):=by
 exact lpOff [10,11,12,13,14,15,17,24,25] [.t false] (aO (dF h1)) (by kernel_rfl) (by simp)
def I2 (x10:RW) (x11:Nat) (x12:Nat) (x13:Int) (x14:Nat) (x15:Int) (w1:RW) (w2:RW) (w3:RW) (w4:RW):St:=stOf 299 [(10,.c (.list x10)),(11,.vec 2 x11),(12,.vec 3 x12),(13,.c (.i64 x13)),(14,.vec 4 x14),(15,.c (.i64 x15))] [some .dead,some (.vec A3 w1),some (.vec A3 w2),some (.vec A3 w3),some (.vec A3 w4)]
def Z6 (x10:RW) (x11:Nat) (x13:Int) (x14:Nat) (w1:RW) (w3:RW) (w2':RW) (w4':RW):St:=stOf 299 [(10,.c (.list x10)),(11,.vec 2 x11),(13,.c (.i64 x13)),(14,.vec 4 x14)] [some .dead,some (.vec A3 w1),some (.vec A3 w2'),some (.vec A3 w3),some (.vec A3 w4')]
theorem z9j {x10:RW} {x11 x12:Nat} {x13:Int} {x14:Nat} {x15:Int} {w1 w2 w3 w4:RW} {v1 v2 v3 v4 v5 v6 v7 v8 v9 v10 v11 v12 v13 v14 v15 v16:Int} {v17:RW} {v18 v19 v20 v21 v22 v23:Int} {v24:RW} {v25 v26 v27 v28 v29:Int} {v30:RW} {v31 v32:Int} {v33:RW} {v34:Int} (e1:IntKind.i64.wrap (x15+x13)=v1) (e2:IntKind.u64.wrap v2=v3) (e3:IntKind.u64.wrap (v3*1000000000)=v4) (e4:IntKind.i64.wrap (v1 - 1)=v5) (e5:IntKind.u64.wrap v6=v7) (e6:IntKind.u64.wrap (v4+v7)=v8) (e7:IntKind.i64.wrap (x13 - 1)=v9) (e8:IntKind.u64.wrap v10=v11) (e9:IntKind.u64.wrap (Int.tdiv v8 v11)=v12) (e10:Int.tmod v8 v11=v13) (e11:IntKind.i64.wrap v18=v19) (e12:IntKind.i64.wrap (v19 - v15)=v20) (e13:IntKind.i64.wrap (v20 - v16)=v21) (e14:IntKind.u64.wrap (v14 - 1)=v22) (e15:IntKind.i64.wrap v23=v25) (e16:IntKind.i64.wrap (v21+v25)=v26) (e17:(if 0 > v26 then 0 else v26)=v27) (e18:IntKind.u32.wrap v27=v28) (e19:List.set v24 (Int.toNat v1) [.u32 v28]=v30) (e20:IntKind.u32.wrap v22=v31) (e21:List.set w4 (Int.toNat x15) [.u32 v31]=v33) (e22:IntKind.i64.wrap (x15 - 1)=v34) (h1:x15≥0) (h2:0≤v1∧v1 < ((x11:Nat):Int)) (h3:w2[(Int.toNat v1)]?=some [.u32 v2]) (h4:0≤v5∧v5 < ((x11:Nat):Int)) (h5:w2[(Int.toNat v5)]?=some [.u32 v6]) (h6:0≤v9∧v9 < ((x12:Nat):Int)) (h7:w3[(Int.toNat v9)]?=some [.u32 v10]) (h8:v11≠0) (h9:Lp E 5 A4 1 (G4 x10 x11 x12 x13 x14 x15 v12 v13 w1 w2 w3 w4) (.exit 3) (H3 x10 x11 x12 x13 x14 x15 w1 w2 w3 w4 v14)) (h10:Lp E 5 A4 2 (G5 x10 x11 x12 x13 x14 x15 v14 0 0 x13 0 w1 w2 w3 w4) (.exit 5) (K2 x10 x11 x12 x13 x14 x15 v14 w1 w3 w4 v15 v16 v17)) (h11:v17[(Int.toNat v1)]?=some [.u32 v18]) (h12:v21 < 0) (h13:Lp E 5 A4 3 (V9 x10 x11 x12 x13 x14 x15 v22 v21 0 x13 0 w1 v17 w3 w4) (.exit 7) (Z7 x10 x11 x12 x13 x14 x15 v22 v21 w1 w3 w4 v23 v24)) (h14:v24[(Int.toNat v1)]?=some [.u32 v29]) (h15:0≤x15∧x15 < ((x14:Nat):Int)) (h16:w4[(Int.toNat x15)]?=some [.u32 v32]) {o:Out} {st':St} (ih:Lp E 5 A4 0 (I2 x10 x11 x12 x13 x14 v34 w1 v30 w3 v33) o st') :Lp E 5 A4 0 (I2 x10 x11 x12 x13 x14 x15 w1 w2 w3 w4) o st':=by
 subst e1 e2 e3 e4 e5 e6 e7 e8 e9 e10 e11 e12 e13 e14 e15 e16 e17 e18 e19 e20 e21 e22
 exact lpOn _ [10,11,12,13,14,15] [.t true,.d [.u32 v2],.d [.u32 v6],.d [.u32 v10],.d [.u32 v10],.loop [10,11,12,13,14,15,17,18] [] (.exit 3) (H3 x10 x11 x12 x13 x14 x15 w1 w2 w3 w4 v14),.loop [10,11,12,13,14,15,17,19,20,180,181] [] (.exit 5) (K2 x10 x11 x12 x13 x14 x15 v14 w1 w3 w4 v15 v16 v17),.d [.u32 v18],.t true,.loop [10,11,12,13,14,15,17,24,25,235,236] [] (.exit 7) (Z7 x10 x11 x12 x13 x14 x15 (IntKind.u64.wrap (v14 - 1)) (IntKind.i64.wrap ((IntKind.i64.wrap ((IntKind.i64.wrap v18) - v15)) - v16)) w1 w3 w4 v23 v24),.d [.u32 v29],.d [.u32 v32]] (aC (dT h1) (aC h2 (aC h3 (aC h4 (aC h5 (aC h6 (aC h7 (aC h8 (aC h6 (aC h7 (aC h8 (aC h9 (aC h10 (aC h2 (aC h11 (aC (dT h12) (aC h13 (aC h2 (aC h14 (aC h15 (aO h16))))))))))))))))))))) (by kernel_rfl) ih
theorem z9k {x10:RW} {x11 x12:Nat} {x13:Int} {x14:Nat} {x15:Int} {w1 w2 w3 w4:RW} {v1 v2 v3 v4 v5 v6 v7 v8 v9 v10 v11 v12 v13 v14 v15 v16:Int} {v17:RW} {v18 v19 v20 v21 v22 v23:Int} {v24:RW} {v25 v26:Int} {v27:RW} {v28:Int} (e1:IntKind.i64.wrap (x15+x13)=v1) (e2:IntKind.u64.wrap v2=v3) (e3:IntKind.u64.wrap (v3*1000000000)=v4) (e4:IntKind.i64.wrap (v1 - 1)=v5) (e5:IntKind.u64.wrap v6=v7) (e6:IntKind.u64.wrap (v4+v7)=v8) (e7:IntKind.i64.wrap (x13 - 1)=v9) (e8:IntKind.u64.wrap v10=v11) (e9:IntKind.u64.wrap (Int.tdiv v8 v11)=v12) (e10:Int.tmod v8 v11=v13) (e11:IntKind.i64.wrap v18=v19) (e12:IntKind.i64.wrap (v19 - v15)=v20) (e13:IntKind.i64.wrap (v20 - v16)=v21) (e14:(if 0 > v21 then 0 else v21)=v22) (e15:IntKind.u32.wrap v22=v23) (e16:List.set v17 (Int.toNat v1) [.u32 v23]=v24) (e17:IntKind.u32.wrap v14=v25) (e18:List.set w4 (Int.toNat x15) [.u32 v25]=v27) (e19:IntKind.i64.wrap (x15 - 1)=v28) (h1:x15≥0) (h2:0≤v1∧v1 < ((x11:Nat):Int)) (h3:w2[(Int.toNat v1)]?=some [.u32 v2]) (h4:0≤v5∧v5 < ((x11:Nat):Int)) (h5:w2[(Int.toNat v5)]?=some [.u32 v6]) (h6:0≤v9∧v9 < ((x12:Nat):Int)) (h7:w3[(Int.toNat v9)]?=some [.u32 v10]) (h8:v11≠0) (h9:Lp E 5 A4 1 (G4 x10 x11 x12 x13 x14 x15 v12 v13 w1 w2 w3 w4) (.exit 3) (H3 x10 x11 x12 x13 x14 x15 w1 w2 w3 w4 v14)) (h10:Lp E 5 A4 2 (G5 x10 x11 x12 x13 x14 x15 v14 0 0 x13 0 w1 w2 w3 w4) (.exit 5) (K2 x10 x11 x12 x13 x14 x15 v14 w1 w3 w4 v15 v16 v17)) (h11:v17[(Int.toNat v1)]?=some [.u32 v18]) (h12:¬ v21 < 0) (h13:0≤x15∧x15 < ((x14:Nat):Int)) (h14:w4[(Int.toNat x15)]?=some [.u32 v26]) {o:Out} {st':St} (ih:Lp E 5 A4 0 (I2 x10 x11 x12 x13 x14 v28 w1 v24 w3 v27) o st') :Lp E 5 A4 0 (I2 x10 x11 x12 x13 x14 x15 w1 w2 w3 w4) o st':=by
 subst e1 e2 e3 e4 e5 e6 e7 e8 e9 e10 e11 e12 e13 e14 e15 e16 e17 e18 e19
 exact lpOn _ [10,11,12,13,14,15] [.t true,.d [.u32 v2],.d [.u32 v6],.d [.u32 v10],.d [.u32 v10],.loop [10,11,12,13,14,15,17,18] [] (.exit 3) (H3 x10 x11 x12 x13 x14 x15 w1 w2 w3 w4 v14),.loop [10,11,12,13,14,15,17,19,20,180,181] [] (.exit 5) (K2 x10 x11 x12 x13 x14 x15 v14 w1 w3 w4 v15 v16 v17),.d [.u32 v18],.t false,.d [.u32 v18],.d [.u32 v26]] (aC (dT h1) (aC h2 (aC h3 (aC h4 (aC h5 (aC h6 (aC h7 (aC h8 (aC h6 (aC h7 (aC h8 (aC h9 (aC h10 (aC h2 (aC h11 (aC (dF h12) (aC h2 (aC h11 (aC h13 (aO h14)))))))))))))))))))) (by kernel_rfl) ih
theorem z8b {x10:RW} {x11 x12:Nat} {x13:Int} {x14:Nat} {x15:Int} {w1 w2 w3 w4:RW} (h1:¬ x15≥0) :Lp E 5 A4 0 (I2 x10 x11 x12 x13 x14 x15 w1 w2 w3 w4) (.exit 1) (Z6 x10 x11 x13 x14 w1 w3 w2 w4):=by
 exact lpOff [10,11,13,14] [.t false] (aO (dF h1)) (by kernel_rfl) (by simp)
theorem y4s {a0 a1:RW} {v1:Int} (h1:Fn E C6 [.c (.list a0),.c (.list a1)] (.c (.i64 v1))) (h2:v1 < 0) :Fn E A4 [.c (.list a0),.c (.list a1)] (.tup [.c (.list []),.c (.list a0)]):=by
 exact fnMk [.v (.c (.i64 v1)),.t true] (by kernel_rfl) (by kernel_rfl) (aC h1 (aO (dT h2))) (by kernel_rfl)
theorem y4t {a0 a1:RW} {v1 v2 v4 v6:Int} {v7:RW} {v8:Int} {v9:RW} (e1:IntKind.u64.wrap (Int.tdiv v2 v4)=v6) (e2:Int.tmod v2 v4=v8) (h1:Fn E C6 [.c (.list a0),.c (.list a1)] (.c (.i64 v1))) (h2:¬ v1 < 0) (h3:Fn E C7 [.c (.list a0)] (.tup [.c (.u64 v2),.c (.bool true)])) (h4:Fn E C7 [.c (.list a1)] (.tup [.c (.u64 v4),.c (.bool true)])) (h5:v4≠0) (h6:Fn E z3e [.c (.u64 v6)] (.c (.list v7))) (h7:Fn E z3e [.c (.u64 v8)] (.c (.list v9))) :Fn E A4 [.c (.list a0),.c (.list a1)] (.tup [.c (.list v7),.c (.list v9)]):=by
 subst e1 e2
 exact fnMk [.v (.c (.i64 v1)),.t false,.v (.tup [.c (.u64 v2),.c (.bool true)]),.v (.tup [.c (.u64 v4),.c (.bool true)]),.v (.c (.list v7)),.v (.c (.list v9))] (by kernel_rfl) (by kernel_rfl) (aC h1 (aC (dF h2) (aC h3 (aC h4 (aC h5 (aC h6 (aC h5 (aO h7)))))))) (by kernel_rfl)
theorem y4u {a0 a1:RW} {v1 v2 v4:Int} {v5:Bool} {v6 v7:Int} {v8 v9:RW} (e1:IntKind.u64.wrap v6=v7) (h1:Fn E C6 [.c (.list a0),.c (.list a1)] (.c (.i64 v1))) (h2:¬ v1 < 0) (h3:Fn E C7 [.c (.list a0)] (.tup [.c (.u64 v2),.c (.bool false)])) (h4:Fn E C7 [.c (.list a1)] (.tup [.c (.u64 v4),.c (.bool v5)])) (h5:(a1.length:Int)=1) (h6:a1[0]?=some [.u32 v6]) (h7:Fn E O7 [.c (.list a0),.c (.u64 v7)] (.tup [.c (.list v8),.c (.list v9)])) :Fn E A4 [.c (.list a0),.c (.list a1)] (.tup [.c (.list v8),.c (.list v9)]):=by
 subst e1
 exact fnMk [.v (.c (.i64 v1)),.t false,.v (.tup [.c (.u64 v2),.c (.bool false)]),.v (.tup [.c (.u64 v4),.c (.bool v5)]),.t true,.d [.u32 v6],.v (.tup [.c (.list v8),.c (.list v9)])] (by kernel_rfl) (by kernel_rfl) (aC h1 (aC (dF h2) (aC h3 (aC h4 (aC (beT h5) (aC (show (0:Int)≤0 from by decide) (aC h6 (aO h7)))))))) (by kernel_rfl)
theorem z7q {a0 a1:RW} {v1 v2 v4:Int} {v5:Bool} {v6 v7 v8 v9 v10:Int} {v11:RW} {v12:Nat} {v13 v14:RW} {v15 v16:Nat} {v17:RW} {v18:Int} {v19:Nat} {v20:RW} {v21:Int} {v22 v23:RW} {v24:Int} {v25:Bool} {v26 v27:Nat} {v28 v29 v30:RW} {v31:Nat} {v32:RW} (e1:IntKind.i64.wrap ((a1.length:Int) - 1)=v6) (e2:IntKind.u64.wrap v7=v8) (e3:IntKind.u64.wrap (v8+1)=v9) (e4:IntKind.u64.wrap (Int.tdiv 1000000000 v9)=v10) (e5:(v13.take v12)++[[.u32 0]]=v14) (e6:v12+1=v15) (e7:IntKind.i64.wrap (((v15:Nat):Int) - ((v16:Nat):Int))=v18) (e8:Int.toNat v18=v19) (e9:List.replicate v19 [.u32 0]=v20) (e10:IntKind.i64.wrap (((v19:Nat):Int) - 1)=v21) (e11:(Int.toNat ((v16:Nat):Int))=v26) (e12:(v22.take v27)=v28) (e13:(v23.take v31)=v32) (h1:Fn E C6 [.c (.list a0),.c (.list a1)] (.c (.i64 v1))) (h2:¬ v1 < 0) (h3:Fn E C7 [.c (.list a0)] (.tup [.c (.u64 v2),.c (.bool false)])) (h4:Fn E C7 [.c (.list a1)] (.tup [.c (.u64 v4),.c (.bool v5)])) (h5:¬ (a1.length:Int)=1) (h6:0≤v6) (h7:a1[(Int.toNat v6)]?=some [.u32 v7]) (h8:v9≠0) (h9:Fn E z3e [.c (.u64 v10)] (.c (.list v11))) (h10:Rn E D1 [.c (.list a0),.c (.list v11)] [] (.vec 0 v12) [some (.vec A3 v13)]) (h11:(v12+1)*4≤140737488355328∧v12+1≤140737488355328) (h12:Rn E D1 [.c (.list a1),.c (.list v11)] [] (.vec 0 v16) [some (.vec A3 v17)]) (h13:¬ ((v15:Nat):Int)=(a0.length:Int)) (h14:0≤v18∧v18≤v18∧(Int.toNat v18)*4≤140737488355328∧(Int.toNat v18)≤140737488355328) (h15:Lp E 5 A4 0 (I2 v11 v15 v16 ((v16:Nat):Int) v19 v21 [[.u32 0]] v14 v17 v20) (.exit 1) (Z6 v11 v15 ((v16:Nat):Int) v19 [[.u32 0]] v17 v22 v23)) (h16:Fn E C7 [.c (.list v11)] (.tup [.c (.u64 v24),.c (.bool v25)])) (h17:0≤((v16:Nat):Int)∧((v16:Nat):Int)≤((v15:Nat):Int)) (h18:Rn E C2 [.vec 2 v26] [some .dead,some (.vec A3 [[.u32 0]]),some (.vec A3 v22),some (.vec A3 v17),some (.vec A3 v23)] (.vec 2 v27) [some .dead,some (.vec A3 [[.u32 0]]),some (.vec A3 v22),some (.vec A3 v17),some (.vec A3 v23)]) (h19:Fn E O7 [.c (.list v28),.c (.u64 v24)] (.tup [.c (.list v29),.c (.list v30)])) (h20:Rn E C2 [.vec 4 v19] [some .dead,some (.vec A3 [[.u32 0]]),some (.fro v22),some (.vec A3 v17),some (.vec A3 v23)] (.vec 4 v31) [some .dead,some (.vec A3 [[.u32 0]]),some (.fro v22),some (.vec A3 v17),some (.vec A3 v23)]) :Fn E A4 [.c (.list a0),.c (.list a1)] (.tup [.c (.list v32),.c (.list v29)]):=by
 subst e1 e2 e3 e4 e5 e6 e7 e8 e9 e10 e11 e12 e13
 exact fnMk [.v (.c (.i64 v1)),.t false,.v (.tup [.c (.u64 v2),.c (.bool false)]),.v (.tup [.c (.u64 v4),.c (.bool v5)]),.t false,.d [.u32 v7],.v (.c (.list v11)),.nw v12 A3 v13,.nw v16 A3 v17,.t false,.loop [10,11,12,13,14,15] [] (.exit 1) (Z6 v11 (v12+1) ((v16:Nat):Int) (Int.toNat (IntKind.i64.wrap ((((v12+1):Nat):Int) - ((v16:Nat):Int)))) [[.u32 0]] v17 v22 v23),.v (.tup [.c (.u64 v24),.c (.bool v25)]),.vr (.vec 2 v27),.v (.tup [.c (.list v29),.c (.list v30)]),.vr (.vec 4 v31)] (by kernel_rfl) (by kernel_rfl) (aC h1 (aC (dF h2) (aC h3 (aC h4 (aC (beF h5) (aC h6 (aC h7 (aC h8 (aC h9 (aC h10 (aC (show ∀ y∈([[.u32 0]]:RW),y.length=1 from by simp) (aC h11 (aC h12 (aC (beF h13) (aC h14 (aC h15 (aC h16 (aC h17 (aC h18 (aC h19 (aO h20))))))))))))))))))))) (by kernel_rfl)
theorem x7m {a0 a1:BA} {v1 v2:RW} {v3:Int} {v4:BA} {v5:Int} (h1:Fn E z0c [.c (.str a0),.c (.str a1)] (.tup [.c (.list v1),.c (.list v2),.c (.i64 v3)])) (h2:v3=0) (h3:Fn E X8 [.mv z1p [.c (.list v1)],.c (.list v2)] (.tup [.c (.str v4),.c (.i64 v5)])) :Fn E z7m [.c (.str a0),.c (.str a1)] (.tup [.c (.str v4),.c (.i64 v5)]):=by
 exact fnMk [.v (.tup [.c (.list v1),.c (.list v2),.c (.i64 v3)]),.t false,.v (.tup [.c (.str v4),.c (.i64 v5)])] (by kernel_rfl) (by kernel_rfl) (aC h1 (aC (bnF h2) (aO h3))) (by kernel_rfl)
theorem x0i {a0 a1:BA} {v1 v2:RW} {v3 v4:Int} (h1:Fn E z0c [.c (.str a0),.c (.str a1)] (.tup [.c (.list v1),.c (.list v2),.c (.i64 v3)])) (h2:v3=0) (h3:Fn E C6 [.c (.list v1),.c (.list v2)] (.c (.i64 v4))) :Fn E z3w [.c (.str a0),.c (.str a1)] (.tup [.c (.i64 v4),.c (.i64 0)]):=by
 exact fnMk [.v (.tup [.c (.list v1),.c (.list v2),.c (.i64 v3)]),.t false,.v (.c (.i64 v4))] (by kernel_rfl) (by kernel_rfl) (aC h1 (aC (bnF h2) (aO h3))) (by kernel_rfl)
theorem x7p {a0 a1:BA} {v1 v2:RW} {v3 v4:Int} {v5:BA} {v6:Int} (h1:Fn E z0c [.c (.str a0),.c (.str a1)] (.tup [.c (.list v1),.c (.list v2),.c (.i64 v3)])) (h2:v3=0) (h3:Fn E C6 [.c (.list v1),.c (.list v2)] (.c (.i64 v4))) (h4:¬ v4 < 0) (h5:Fn E X8 [.mv z0t [.c (.list v1)],.c (.list v2)] (.tup [.c (.str v5),.c (.i64 v6)])) :Fn E z6b [.c (.str a0),.c (.str a1)] (.tup [.c (.str v5),.c (.i64 v6)]):=by
 exact fnMk [.v (.tup [.c (.list v1),.c (.list v2),.c (.i64 v3)]),.t false,.v (.c (.i64 v4)),.t false,.v (.tup [.c (.str v5),.c (.i64 v6)])] (by kernel_rfl) (by kernel_rfl) (aC h1 (aC (bnF h2) (aC h3 (aC (dF h4) (aO h5))))) (by kernel_rfl)
theorem z7b {a0_0 a1 v1:RW} {v2:BA} (h1:Fn E D5 [.c (.list a0_0),.c (.list a1)] (.c (.list v1))) (h2:Fn E M4 [.c (.list v1)] (.c (.str v2))) :Fn E X8 [.mv D5 [.c (.list a0_0)],.c (.list a1)] (.tup [.c (.str v2),.c (.i64 0)]):=by
 exact fnMk [.v (.c (.list v1)),.v (.c (.str v2))] (by kernel_rfl) (by kernel_rfl) (aC h1 (aO h2)) (by kernel_rfl)
def J8 (x0:RW) (x1:RW) (x5:Int):St:=stOf 41 [(0,.c (.list x0)),(1,.c (.list x1)),(5,.c (.i64 x5))] []
def Z4 (x4':Int):St:=stOf 41 [(4,.c (.i64 x4'))] []
def Z5:St:=stOf 41 [] []
theorem z5x {x0 x1:RW} {x5 v1 v2 v3:Int} (e1:IntKind.i64.wrap (x5 - 1)=v3) (h1:x5≥0) (h2:0≤x5) (h3:x0[(Int.toNat x5)]?=some [.u32 v1]) (h4:x1[(Int.toNat x5)]?=some [.u32 v2]) (h5:v1=v2) {o:Out} {st':St} (ih:Lp E 0 C6 0 (J8 x0 x1 v3) o st') :Lp E 0 C6 0 (J8 x0 x1 x5) o st':=by
 subst e1
 exact lpOn _ [0,1,5] [.t true,.d [.u32 v1],.d [.u32 v2],.t false] (aC (dT h1) (aC h2 (aC h3 (aC h2 (aC h4 (aO (bnF h5))))))) (by kernel_rfl) ih
theorem z7z {x0 x1:RW} {x5 v1 v2 v3:Int} (h1:x5≥0) (h2:0≤x5) (h3:x0[(Int.toNat x5)]?=some [.u32 v1]) (h4:x1[(Int.toNat x5)]?=some [.u32 v2]) (h5:¬ v1=v2) (h6:Fn E Z9 [.c (.u32 v1),.c (.u32 v2)] (.c (.i64 v3))) :Lp E 0 C6 0 (J8 x0 x1 x5) .ret (Z4 v3):=by
 exact lpOff [4] [.t true,.d [.u32 v1],.d [.u32 v2],.t true,.d [.u32 v1],.d [.u32 v2],.v (.c (.i64 v3))] (aC (dT h1) (aC h2 (aC h3 (aC h2 (aC h4 (aC (bnT h5) (aC h2 (aC h3 (aC h2 (aC h4 (aO h6))))))))))) (by kernel_rfl) (by simp)
theorem z8a {x0 x1:RW} {x5:Int} (h1:¬ x5≥0) :Lp E 0 C6 0 (J8 x0 x1 x5) (.exit 0) (Z5):=by
 exact lpOff [] [.t false] (aO (dF h1)) (by kernel_rfl) (by simp)
theorem y3c {a0 a1:RW} {v1:Int} (h1:¬ (a0.length:Int)=(a1.length:Int)) (h2:Fn E z2a [.c (.i64 (a0.length:Int)),.c (.i64 (a1.length:Int))] (.c (.i64 v1))) :Fn E C6 [.c (.list a0),.c (.list a1)] (.c (.i64 v1)):=by
 exact fnMk [.t true,.v (.c (.i64 v1))] (by kernel_rfl) (by kernel_rfl) (aC (bnT h1) (aO h2)) (by kernel_rfl)
theorem y3d {a0 a1:RW} {v1 v2:Int} (e1:IntKind.i64.wrap ((a0.length:Int) - 1)=v1) (h1:(a0.length:Int)=(a1.length:Int)) (h2:Lp E 0 C6 0 (J8 a0 a1 v1) .ret (Z4 v2)) :Fn E C6 [.c (.list a0),.c (.list a1)] (.c (.i64 v2)):=by
 subst e1
 exact fnMk [.t false,.loop [0,1,5] [] .ret (Z4 v2)] (by kernel_rfl) (by kernel_rfl) (aC (bnF h1) (aO h2)) (by kernel_rfl)
theorem y3e {a0 a1:RW} {v1:Int} (e1:IntKind.i64.wrap ((a0.length:Int) - 1)=v1) (h1:(a0.length:Int)=(a1.length:Int)) (h2:Lp E 0 C6 0 (J8 a0 a1 v1) (.exit 0) (Z5)) :Fn E C6 [.c (.list a0),.c (.list a1)] (.c (.i64 0)):=by
 subst e1
 exact fnMk [.t false,.loop [0,1,5] [] (.exit 0) (Z5)] (by kernel_rfl) (by kernel_rfl) (aC (bnF h1) (aO h2)) (by kernel_rfl)
theorem y6j {a0:RW} (h1:(a0.length:Int)=0) :Fn E C7 [.c (.list a0)] (.tup [.c (.u64 0),.c (.bool true)]):=by
 exact fnMk [.t true] (by kernel_rfl) (by kernel_rfl) (aO (beT h1)) (by kernel_rfl)
theorem y6k {a0:RW} {v1 v2:Int} (e1:IntKind.u64.wrap v1=v2) (h1:¬ (a0.length:Int)=0) (h2:(a0.length:Int)=1) (h3:a0[0]?=some [.u32 v1]) :Fn E C7 [.c (.list a0)] (.tup [.c (.u64 v2),.c (.bool true)]):=by
 subst e1
 exact fnMk [.t false,.t true,.d [.u32 v1]] (by kernel_rfl) (by kernel_rfl) (aC (beF h1) (aC (beT h2) (aC (show (0:Int)≤0 from by decide) (aO h3)))) (by kernel_rfl)
theorem y6l {a0:RW} {v1 v2 v3 v4 v5 v6:Int} (e1:IntKind.u64.wrap v1=v2) (e2:IntKind.u64.wrap v3=v4) (e3:IntKind.u64.wrap (1000000000*v4)=v5) (e4:IntKind.u64.wrap (v2+v5)=v6) (h1:¬ (a0.length:Int)=0) (h2:¬ (a0.length:Int)=1) (h3:(a0.length:Int)=2) (h4:a0[0]?=some [.u32 v1]) (h5:a0[1]?=some [.u32 v3]) :Fn E C7 [.c (.list a0)] (.tup [.c (.u64 v6),.c (.bool true)]):=by
 subst e1 e2 e3 e4
 exact fnMk [.t false,.t false,.t true,.d [.u32 v1],.d [.u32 v3]] (by kernel_rfl) (by kernel_rfl) (aC (beF h1) (aC (beF h2) (aC (beT h3) (aC (show (0:Int)≤0 from by decide) (aC h4 (aC (show (0:Int)≤1 from by decide) (aO h5))))))) (by kernel_rfl)
theorem y6m {a0:RW} (h1:¬ (a0.length:Int)=0) (h2:¬ (a0.length:Int)=1) (h3:¬ (a0.length:Int)=2) :Fn E C7 [.c (.list a0)] (.tup [.c (.u64 0),.c (.bool false)]):=by
 exact fnMk [.t false,.t false,.t false] (by kernel_rfl) (by kernel_rfl) (aC (beF h1) (aC (beF h2) (aO (beF h3)))) (by kernel_rfl)
theorem x8s {a0 v1 v2 v3 v4:Int} {v5:Nat} {v6:RW} (e1:Int.tmod a0 1000000000=v1) (e2:IntKind.u32.wrap v1=v2) (e3:IntKind.u64.wrap (Int.tdiv a0 1000000000)=v3) (e4:IntKind.u32.wrap v3=v4) (e5:(([[.u32 v2],[.u32 v4]]:RW).take v5)=v6) (h1:Rn E C2 [.vec 0 2] [some (.vec A3 [[.u32 v2],[.u32 v4]])] (.vec 0 v5) [some (.vec A3 [[.u32 v2],[.u32 v4]])]) :Fn E z3e [.c (.u64 a0)] (.c (.list v6)):=by
 subst e1 e2 e3 e4 e5
 exact fnMk [.vr (.vec 0 v5)] (by kernel_rfl) (by kernel_rfl) (aC (show (1000000000:Int)≠0 from by decide) (aC (show (1000000000:Int)≠0 from by decide) (aO h1))) (by kernel_rfl)
def z2d (x0:RW) (x1:Int) (x6:Nat) (x7:Int) (x8:Int) (w0:RW):St:=stOf 41 [(0,.c (.list x0)),(1,.c (.u64 x1)),(6,.vec 0 x6),(7,.c (.u64 x7)),(8,.c (.i64 x8))] [some (.vec A3 w0)]
def z2o (x6:Nat) (x7':Int) (w0':RW):St:=stOf 41 [(6,.vec 0 x6),(7,.c (.u64 x7'))] [some (.vec A3 w0')]
theorem y4r {x0:RW} {x1:Int} {x6:Nat} {x7 x8:Int} {w0:RW} {v1 v2 v3 v4 v5 v6 v7:Int} {v8:RW} {v9 v10:Int} (e1:IntKind.u64.wrap (x7*1000000000)=v1) (e2:IntKind.u64.wrap v2=v3) (e3:IntKind.u64.wrap (v1+v3)=v4) (e4:IntKind.u64.wrap (Int.tdiv v4 x1)=v5) (e5:IntKind.u32.wrap v5=v6) (e6:List.set w0 (Int.toNat x8) [.u32 v6]=v8) (e7:Int.tmod v4 x1=v9) (e8:IntKind.i64.wrap (x8 - 1)=v10) (h1:x8≥0) (h2:0≤x8) (h3:x0[(Int.toNat x8)]?=some [.u32 v2]) (h4:x1≠0) (h5:0≤x8∧x8 < ((x6:Nat):Int)) (h6:w0[(Int.toNat x8)]?=some [.u32 v7]) {o:Out} {st':St} (ih:Lp E 1 O7 0 (z2d x0 x1 x6 v9 v10 v8) o st') :Lp E 1 O7 0 (z2d x0 x1 x6 x7 x8 w0) o st':=by
 subst e1 e2 e3 e4 e5 e6 e7 e8
 exact lpOn _ [0,1,6,7,8] [.t true,.d [.u32 v2],.d [.u32 v7]] (aC (dT h1) (aC h2 (aC h3 (aC h4 (aC h5 (aC h6 (aO h4))))))) (by kernel_rfl) ih
theorem y2a {x0:RW} {x1:Int} {x6:Nat} {x7 x8:Int} {w0:RW} (h1:¬ x8≥0) :Lp E 1 O7 0 (z2d x0 x1 x6 x7 x8 w0) (.exit 0) (z2o x6 x7 w0):=by
 exact lpOff [6,7] [.t false] (aO (dF h1)) (by kernel_rfl) (by simp)
theorem x2q {a0:RW} {a1:Int} {v1:Nat} {v2:RW} {v3 v4:Int} {v5:RW} {v6:Nat} {v7 v8:RW} (e1:Int.toNat (a0.length:Int)=v1) (e2:List.replicate v1 [.u32 0]=v2) (e3:IntKind.i64.wrap ((a0.length:Int) - 1)=v3) (e4:(v5.take v6)=v8) (h1:0≤(a0.length:Int)∧(a0.length:Int)≤(a0.length:Int)∧(Int.toNat (a0.length:Int))*4≤140737488355328∧(Int.toNat (a0.length:Int))≤140737488355328) (h2:Lp E 1 O7 0 (z2d a0 a1 v1 0 v3 v2) (.exit 0) (z2o v1 v4 v5)) (h3:Rn E C2 [.vec 0 v1] [some (.vec A3 v5)] (.vec 0 v6) [some (.vec A3 v5)]) (h4:Fn E z3e [.c (.u64 v4)] (.c (.list v7))) :Fn E O7 [.c (.list a0),.c (.u64 a1)] (.tup [.c (.list v8),.c (.list v7)]):=by
 subst e1 e2 e3 e4
 exact fnMk [.loop [0,1,6,7,8] [] (.exit 0) (z2o (Int.toNat (a0.length:Int)) v4 v5),.vr (.vec 0 v6),.v (.c (.list v7))] (by kernel_rfl) (by kernel_rfl) (aC h1 (aC h2 (aC h3 (aO h4)))) (by kernel_rfl)
theorem z6x {a0_0 a1 v1:RW} {v2:BA} (h1:Fn E z1p [.c (.list a0_0),.c (.list a1)] (.c (.list v1))) (h2:Fn E M4 [.c (.list v1)] (.c (.str v2))) :Fn E X8 [.mv z1p [.c (.list a0_0)],.c (.list a1)] (.tup [.c (.str v2),.c (.i64 0)]):=by
 exact fnMk [.v (.c (.list v1)),.v (.c (.str v2))] (by kernel_rfl) (by kernel_rfl) (aC h1 (aO h2)) (by kernel_rfl)
theorem z6q {a0_0 a1 v1:RW} {v2:BA} (h1:Fn E z0t [.c (.list a0_0),.c (.list a1)] (.c (.list v1))) (h2:Fn E M4 [.c (.list v1)] (.c (.str v2))) :Fn E X8 [.mv z0t [.c (.list a0_0)],.c (.list a1)] (.tup [.c (.str v2),.c (.i64 0)]):=by
 exact fnMk [.v (.c (.list v1)),.v (.c (.str v2))] (by kernel_rfl) (by kernel_rfl) (aC h1 (aO h2)) (by kernel_rfl)
def z1s (x5:Int) (x7:Int):St:=stOf 45 [(5,.c (.u64 x5)),(7,.c (.u64 x7))] []
def z2g (x5':Int):St:=stOf 45 [(5,.c (.u64 x5'))] []
theorem y3f {x5 x7 v1:Int} (e1:Int.tmod x5 x7=v1) (h1:x7 > 0) (h2:x7≠0) {o:Out} {st':St} (ih:Lp E 0 D5 1 (z1s x7 v1) o st') :Lp E 0 D5 1 (z1s x5 x7) o st':=by
 subst e1
 exact lpOn _ [5,7] [.t true] (aC (dT h1) (aO h2)) (by kernel_rfl) ih
theorem y1i {x5 x7:Int} (h1:¬ x7 > 0) :Lp E 0 D5 1 (z1s x5 x7) (.exit 2) (z2g x5):=by
 exact lpOff [5] [.t false] (aO (dF h1)) (by kernel_rfl) (by simp)
def K3 (x0:RW) (x1:RW):St:=stOf 45 [(0,.c (.list x0)),(1,.c (.list x1))] []
def z2e (x4':RW):St:=stOf 45 [(4,.c (.list x4'))] []
def z2f (x0':RW):St:=stOf 45 [(0,.c (.list x0'))] []
theorem z7g {x0 x1:RW} {v1 v3:Int} {v5 v6:RW} (h1:(x1.length:Int) > 0) (h2:Fn E C7 [.c (.list x0)] (.tup [.c (.u64 v1),.c (.bool true)])) (h3:Fn E C7 [.c (.list x1)] (.tup [.c (.u64 v3),.c (.bool false)])) (h4:Fn E A4 [.c (.list x0),.c (.list x1)] (.tup [.c (.list v5),.c (.list v6)])) {o:Out} {st':St} (ih:Lp E 0 D5 0 (K3 x1 v6) o st') :Lp E 0 D5 0 (K3 x0 x1) o st':=by
 exact lpOn _ [0,1] [.t true,.v (.tup [.c (.u64 v1),.c (.bool true)]),.v (.tup [.c (.u64 v3),.c (.bool false)]),.v (.tup [.c (.list v5),.c (.list v6)])] (aC (dT h1) (aC h2 (aC h3 (aO h4)))) (by kernel_rfl) ih
theorem z7h {x0 x1:RW} {v1 v3:Int} {v4:Bool} {v5 v6:RW} (h1:(x1.length:Int) > 0) (h2:Fn E C7 [.c (.list x0)] (.tup [.c (.u64 v1),.c (.bool false)])) (h3:Fn E C7 [.c (.list x1)] (.tup [.c (.u64 v3),.c (.bool v4)])) (h4:Fn E A4 [.c (.list x0),.c (.list x1)] (.tup [.c (.list v5),.c (.list v6)])) {o:Out} {st':St} (ih:Lp E 0 D5 0 (K3 x1 v6) o st') :Lp E 0 D5 0 (K3 x0 x1) o st':=by
 exact lpOn _ [0,1] [.t true,.v (.tup [.c (.u64 v1),.c (.bool false)]),.v (.tup [.c (.u64 v3),.c (.bool v4)]),.v (.tup [.c (.list v5),.c (.list v6)])] (aC (dT h1) (aC h2 (aC h3 (aO h4)))) (by kernel_rfl) ih
theorem y1g {x0 x1:RW} {v1 v3 v5:Int} {v6:RW} (h1:(x1.length:Int) > 0) (h2:Fn E C7 [.c (.list x0)] (.tup [.c (.u64 v1),.c (.bool true)])) (h3:Fn E C7 [.c (.list x1)] (.tup [.c (.u64 v3),.c (.bool true)])) (h4:Lp E 0 D5 1 (z1s v1 v3) (.exit 2) (z2g v5)) (h5:Fn E z3e [.c (.u64 v5)] (.c (.list v6))) :Lp E 0 D5 0 (K3 x0 x1) .ret (z2e v6):=by
 exact lpOff [4] [.t true,.v (.tup [.c (.u64 v1),.c (.bool true)]),.v (.tup [.c (.u64 v3),.c (.bool true)]),.loop [5,7] [] (.exit 2) (z2g v5),.v (.c (.list v6))] (aC (dT h1) (aC h2 (aC h3 (aC h4 (aO h5))))) (by kernel_rfl) (by simp)
theorem y1h {x0 x1:RW} (h1:¬ (x1.length:Int) > 0) :Lp E 0 D5 0 (K3 x0 x1) (.exit 0) (z2f x0):=by
 exact lpOff [0] [.t false] (aO (dF h1)) (by kernel_rfl) (by simp)
theorem x0j {a0 a1 v1:RW} (h1:Lp E 0 D5 0 (K3 a0 a1) .ret (z2e v1)) :Fn E D5 [.c (.list a0),.c (.list a1)] (.c (.list v1)):=by
 exact fnMk [.loop [0,1] [] .ret (z2e v1)] (by kernel_rfl) (by kernel_rfl) (aO h1) (by kernel_rfl)
theorem x0k {a0 a1 v1:RW} (h1:Lp E 0 D5 0 (K3 a0 a1) (.exit 0) (z2f v1)) :Fn E D5 [.c (.list a0),.c (.list a1)] (.c (.list v1)):=by
 exact fnMk [.loop [0,1] [] (.exit 0) (z2f v1)] (by kernel_rfl) (by kernel_rfl) (aO h1) (by kernel_rfl)
theorem y8n {a0 a1 v1:RW} (h1:Fn E B5 [.c (.list a0),.c (.list a1),.c (.i64 1)] (.c (.list v1))) :Fn E z1p [.c (.list a0),.c (.list a1)] (.c (.list v1)):=by
 exact fnMk [.v (.c (.list v1))] (by kernel_rfl) (by kernel_rfl) (aO h1) (by kernel_rfl)
theorem y6i {a0 a1 v1 v2:RW} (h1:Fn E B5 [.c (.list a0),.c (.list a1),.c (.i64 (-1))] (.c (.list v1))) (h2:Rn E C2 [.c (.list v1)] [] (.c (.list v2)) []) :Fn E z0t [.c (.list a0),.c (.list a1)] (.c (.list v2)):=by
 exact fnMk [.v (.c (.list v1)),.vr (.c (.list v2))] (by kernel_rfl) (by kernel_rfl) (aC h1 (aO h2)) (by kernel_rfl)
def C0 (x0:RW) (x1:RW) (x2:Int) (x7:Nat) (x8:Int) (x19:Int) (x20:Int) (w1:RW):St:=stOf 71 [(0,.c (.list x0)),(1,.c (.list x1)),(2,.c (.i64 x2)),(7,.vec 1 x7),(8,.c (.i64 x8)),(19,.c (.i64 x19)),(20,.c (.i64 x20))] [some .dead,some (.vec A3 w1)]
def O9 (x7':Nat) (x8':Int) (w1':RW):St:=stOf 71 [(7,.vec 1 x7'),(8,.c (.i64 x8'))] [some .dead,some (.vec A3 w1')]
theorem y0y {x0 x1:RW} {x2:Int} {x7:Nat} {x8 x19 x20:Int} {w1:RW} {v1 v2 v3 v4 v5 v6 v7 v8 v9 v10 v11 v12:Int} {v13:RW} {v14:Nat} {v15:Int} (e1:IntKind.i64.wrap v1=v2) (e2:IntKind.i64.wrap (x8+v2)=v3) (e3:IntKind.i64.wrap v4=v5) (e4:IntKind.i64.wrap (x2*v5)=v6) (e5:IntKind.i64.wrap (v3+v6)=v7) (e6:Int.tmod v7 1000000000=v8) (e7:IntKind.i64.wrap (Int.tdiv v7 1000000000)=v9) (e8:IntKind.i64.wrap (v8+1000000000)=v10) (e9:IntKind.i64.wrap (v9 - 1)=v11) (e10:IntKind.u32.wrap v10=v12) (e11:(w1.take x7)++[[.u32 v12]]=v13) (e12:x7+1=v14) (e13:IntKind.i64.wrap (x20+1)=v15) (h1:x20 < x19) (h2:x20 < (x0.length:Int)) (h3:0≤x20) (h4:x0[(Int.toNat x20)]?=some [.u32 v1]) (h5:x20 < (x1.length:Int)) (h6:x1[(Int.toNat x20)]?=some [.u32 v4]) (h7:v8 < 0) (h8:(x7+1)*4≤140737488355328∧x7+1≤140737488355328) {o:Out} {st':St} (ih:Lp E 1 B5 0 (C0 x0 x1 x2 v14 v11 x19 v15 v13) o st') :Lp E 1 B5 0 (C0 x0 x1 x2 x7 x8 x19 x20 w1) o st':=by
 subst e1 e2 e3 e4 e5 e6 e7 e8 e9 e10 e11 e12 e13
 exact lpOn _ [0,1,2,7,8,19,20] [.t true,.t true,.d [.u32 v1],.t true,.d [.u32 v4],.t true] (aC (dT h1) (aC (dT h2) (aC h3 (aC h4 (aC (dT h5) (aC h3 (aC h6 (aC (show (1000000000:Int)≠0 from by decide) (aC (show (1000000000:Int)≠0 from by decide) (aC (dT h7) (aC (show ∀ y∈([[.u32 (IntKind.u32.wrap (IntKind.i64.wrap ((Int.tmod (IntKind.i64.wrap ((IntKind.i64.wrap (x8+(IntKind.i64.wrap v1)))+(IntKind.i64.wrap (x2*(IntKind.i64.wrap v4))))) 1000000000)+1000000000)))]]:RW),y.length=1 from by simp) (aO h8)))))))))))) (by kernel_rfl) ih
theorem y0z {x0 x1:RW} {x2:Int} {x7:Nat} {x8 x19 x20:Int} {w1:RW} {v1 v2 v3 v4 v5 v6 v7 v8 v9 v10:Int} {v11:RW} {v12:Nat} {v13:Int} (e1:IntKind.i64.wrap v1=v2) (e2:IntKind.i64.wrap (x8+v2)=v3) (e3:IntKind.i64.wrap v4=v5) (e4:IntKind.i64.wrap (x2*v5)=v6) (e5:IntKind.i64.wrap (v3+v6)=v7) (e6:Int.tmod v7 1000000000=v8) (e7:IntKind.i64.wrap (Int.tdiv v7 1000000000)=v9) (e8:IntKind.u32.wrap v8=v10) (e9:(w1.take x7)++[[.u32 v10]]=v11) (e10:x7+1=v12) (e11:IntKind.i64.wrap (x20+1)=v13) (h1:x20 < x19) (h2:x20 < (x0.length:Int)) (h3:0≤x20) (h4:x0[(Int.toNat x20)]?=some [.u32 v1]) (h5:x20 < (x1.length:Int)) (h6:x1[(Int.toNat x20)]?=some [.u32 v4]) (h7:¬ v8 < 0) (h8:(x7+1)*4≤140737488355328∧x7+1≤140737488355328) {o:Out} {st':St} (ih:Lp E 1 B5 0 (C0 x0 x1 x2 v12 v9 x19 v13 v11) o st') :Lp E 1 B5 0 (C0 x0 x1 x2 x7 x8 x19 x20 w1) o st':=by
 subst e1 e2 e3 e4 e5 e6 e7 e8 e9 e10 e11
 exact lpOn _ [0,1,2,7,8,19,20] [.t true,.t true,.d [.u32 v1],.t true,.d [.u32 v4],.t false] (aC (dT h1) (aC (dT h2) (aC h3 (aC h4 (aC (dT h5) (aC h3 (aC h6 (aC (show (1000000000:Int)≠0 from by decide) (aC (show (1000000000:Int)≠0 from by decide) (aC (dF h7) (aC (show ∀ y∈([[.u32 (IntKind.u32.wrap (Int.tmod (IntKind.i64.wrap ((IntKind.i64.wrap (x8+(IntKind.i64.wrap v1)))+(IntKind.i64.wrap (x2*(IntKind.i64.wrap v4))))) 1000000000))]]:RW),y.length=1 from by simp) (aO h8)))))))))))) (by kernel_rfl) ih
theorem y1a {x0 x1:RW} {x2:Int} {x7:Nat} {x8 x19 x20:Int} {w1:RW} {v1 v2 v3 v4 v5 v6 v7 v8:Int} {v9:RW} {v10:Nat} {v11:Int} (e1:IntKind.i64.wrap v1=v2) (e2:IntKind.i64.wrap (x8+v2)=v3) (e3:Int.tmod v3 1000000000=v4) (e4:IntKind.i64.wrap (Int.tdiv v3 1000000000)=v5) (e5:IntKind.i64.wrap (v4+1000000000)=v6) (e6:IntKind.i64.wrap (v5 - 1)=v7) (e7:IntKind.u32.wrap v6=v8) (e8:(w1.take x7)++[[.u32 v8]]=v9) (e9:x7+1=v10) (e10:IntKind.i64.wrap (x20+1)=v11) (h1:x20 < x19) (h2:x20 < (x0.length:Int)) (h3:0≤x20) (h4:x0[(Int.toNat x20)]?=some [.u32 v1]) (h5:¬ x20 < (x1.length:Int)) (h6:v4 < 0) (h7:(x7+1)*4≤140737488355328∧x7+1≤140737488355328) {o:Out} {st':St} (ih:Lp E 1 B5 0 (C0 x0 x1 x2 v10 v7 x19 v11 v9) o st') :Lp E 1 B5 0 (C0 x0 x1 x2 x7 x8 x19 x20 w1) o st':=by
 subst e1 e2 e3 e4 e5 e6 e7 e8 e9 e10
 exact lpOn _ [0,1,2,7,8,19,20] [.t true,.t true,.d [.u32 v1],.t false,.t true] (aC (dT h1) (aC (dT h2) (aC h3 (aC h4 (aC (dF h5) (aC (show (1000000000:Int)≠0 from by decide) (aC (show (1000000000:Int)≠0 from by decide) (aC (dT h6) (aC (show ∀ y∈([[.u32 (IntKind.u32.wrap (IntKind.i64.wrap ((Int.tmod (IntKind.i64.wrap (x8+(IntKind.i64.wrap v1))) 1000000000)+1000000000)))]]:RW),y.length=1 from by simp) (aO h7)))))))))) (by kernel_rfl) ih
theorem y1b {x0 x1:RW} {x2:Int} {x7:Nat} {x8 x19 x20:Int} {w1:RW} {v1 v2 v3 v4 v5 v6:Int} {v7:RW} {v8:Nat} {v9:Int} (e1:IntKind.i64.wrap v1=v2) (e2:IntKind.i64.wrap (x8+v2)=v3) (e3:Int.tmod v3 1000000000=v4) (e4:IntKind.i64.wrap (Int.tdiv v3 1000000000)=v5) (e5:IntKind.u32.wrap v4=v6) (e6:(w1.take x7)++[[.u32 v6]]=v7) (e7:x7+1=v8) (e8:IntKind.i64.wrap (x20+1)=v9) (h1:x20 < x19) (h2:x20 < (x0.length:Int)) (h3:0≤x20) (h4:x0[(Int.toNat x20)]?=some [.u32 v1]) (h5:¬ x20 < (x1.length:Int)) (h6:¬ v4 < 0) (h7:(x7+1)*4≤140737488355328∧x7+1≤140737488355328) {o:Out} {st':St} (ih:Lp E 1 B5 0 (C0 x0 x1 x2 v8 v5 x19 v9 v7) o st') :Lp E 1 B5 0 (C0 x0 x1 x2 x7 x8 x19 x20 w1) o st':=by
 subst e1 e2 e3 e4 e5 e6 e7 e8
 exact lpOn _ [0,1,2,7,8,19,20] [.t true,.t true,.d [.u32 v1],.t false,.t false] (aC (dT h1) (aC (dT h2) (aC h3 (aC h4 (aC (dF h5) (aC (show (1000000000:Int)≠0 from by decide) (aC (show (1000000000:Int)≠0 from by decide) (aC (dF h6) (aC (show ∀ y∈([[.u32 (IntKind.u32.wrap (Int.tmod (IntKind.i64.wrap (x8+(IntKind.i64.wrap v1))) 1000000000))]]:RW),y.length=1 from by simp) (aO h7)))))))))) (by kernel_rfl) ih
theorem y1c {x0 x1:RW} {x2:Int} {x7:Nat} {x8 x19 x20:Int} {w1:RW} {v1 v2 v3 v4 v5 v6 v7 v8 v9:Int} {v10:RW} {v11:Nat} {v12:Int} (e1:IntKind.i64.wrap v1=v2) (e2:IntKind.i64.wrap (x2*v2)=v3) (e3:IntKind.i64.wrap (x8+v3)=v4) (e4:Int.tmod v4 1000000000=v5) (e5:IntKind.i64.wrap (Int.tdiv v4 1000000000)=v6) (e6:IntKind.i64.wrap (v5+1000000000)=v7) (e7:IntKind.i64.wrap (v6 - 1)=v8) (e8:IntKind.u32.wrap v7=v9) (e9:(w1.take x7)++[[.u32 v9]]=v10) (e10:x7+1=v11) (e11:IntKind.i64.wrap (x20+1)=v12) (h1:x20 < x19) (h2:¬ x20 < (x0.length:Int)) (h3:x20 < (x1.length:Int)) (h4:0≤x20) (h5:x1[(Int.toNat x20)]?=some [.u32 v1]) (h6:v5 < 0) (h7:(x7+1)*4≤140737488355328∧x7+1≤140737488355328) {o:Out} {st':St} (ih:Lp E 1 B5 0 (C0 x0 x1 x2 v11 v8 x19 v12 v10) o st') :Lp E 1 B5 0 (C0 x0 x1 x2 x7 x8 x19 x20 w1) o st':=by
 subst e1 e2 e3 e4 e5 e6 e7 e8 e9 e10 e11
 exact lpOn _ [0,1,2,7,8,19,20] [.t true,.t false,.t true,.d [.u32 v1],.t true] (aC (dT h1) (aC (dF h2) (aC (dT h3) (aC h4 (aC h5 (aC (show (1000000000:Int)≠0 from by decide) (aC (show (1000000000:Int)≠0 from by decide) (aC (dT h6) (aC (show ∀ y∈([[.u32 (IntKind.u32.wrap (IntKind.i64.wrap ((Int.tmod (IntKind.i64.wrap (x8+(IntKind.i64.wrap (x2*(IntKind.i64.wrap v1))))) 1000000000)+1000000000)))]]:RW),y.length=1 from by simp) (aO h7)))))))))) (by kernel_rfl) ih
theorem y1d {x0 x1:RW} {x2:Int} {x7:Nat} {x8 x19 x20:Int} {w1:RW} {v1 v2 v3 v4 v5 v6 v7:Int} {v8:RW} {v9:Nat} {v10:Int} (e1:IntKind.i64.wrap v1=v2) (e2:IntKind.i64.wrap (x2*v2)=v3) (e3:IntKind.i64.wrap (x8+v3)=v4) (e4:Int.tmod v4 1000000000=v5) (e5:IntKind.i64.wrap (Int.tdiv v4 1000000000)=v6) (e6:IntKind.u32.wrap v5=v7) (e7:(w1.take x7)++[[.u32 v7]]=v8) (e8:x7+1=v9) (e9:IntKind.i64.wrap (x20+1)=v10) (h1:x20 < x19) (h2:¬ x20 < (x0.length:Int)) (h3:x20 < (x1.length:Int)) (h4:0≤x20) (h5:x1[(Int.toNat x20)]?=some [.u32 v1]) (h6:¬ v5 < 0) (h7:(x7+1)*4≤140737488355328∧x7+1≤140737488355328) {o:Out} {st':St} (ih:Lp E 1 B5 0 (C0 x0 x1 x2 v9 v6 x19 v10 v8) o st') :Lp E 1 B5 0 (C0 x0 x1 x2 x7 x8 x19 x20 w1) o st':=by
 subst e1 e2 e3 e4 e5 e6 e7 e8 e9
 exact lpOn _ [0,1,2,7,8,19,20] [.t true,.t false,.t true,.d [.u32 v1],.t false] (aC (dT h1) (aC (dF h2) (aC (dT h3) (aC h4 (aC h5 (aC (show (1000000000:Int)≠0 from by decide) (aC (show (1000000000:Int)≠0 from by decide) (aC (dF h6) (aC (show ∀ y∈([[.u32 (IntKind.u32.wrap (Int.tmod (IntKind.i64.wrap (x8+(IntKind.i64.wrap (x2*(IntKind.i64.wrap v1))))) 1000000000))]]:RW),y.length=1 from by simp) (aO h7)))))))))) (by kernel_rfl) ih
theorem y1e {x0 x1:RW} {x2:Int} {x7:Nat} {x8 x19 x20:Int} {w1:RW} {v1 v2 v3 v4 v5:Int} {v6:RW} {v7:Nat} {v8:Int} (e1:Int.tmod x8 1000000000=v1) (e2:IntKind.i64.wrap (Int.tdiv x8 1000000000)=v2) (e3:IntKind.i64.wrap (v1+1000000000)=v3) (e4:IntKind.i64.wrap (v2 - 1)=v4) (e5:IntKind.u32.wrap v3=v5) (e6:(w1.take x7)++[[.u32 v5]]=v6) (e7:x7+1=v7) (e8:IntKind.i64.wrap (x20+1)=v8) (h1:x20 < x19) (h2:¬ x20 < (x0.length:Int)) (h3:¬ x20 < (x1.length:Int)) (h4:v1 < 0) (h5:(x7+1)*4≤140737488355328∧x7+1≤140737488355328) {o:Out} {st':St} (ih:Lp E 1 B5 0 (C0 x0 x1 x2 v7 v4 x19 v8 v6) o st') :Lp E 1 B5 0 (C0 x0 x1 x2 x7 x8 x19 x20 w1) o st':=by
 subst e1 e2 e3 e4 e5 e6 e7 e8
 exact lpOn _ [0,1,2,7,8,19,20] [.t true,.t false,.t false,.t true] (aC (dT h1) (aC (dF h2) (aC (dF h3) (aC (show (1000000000:Int)≠0 from by decide) (aC (show (1000000000:Int)≠0 from by decide) (aC (dT h4) (aC (show ∀ y∈([[.u32 (IntKind.u32.wrap (IntKind.i64.wrap ((Int.tmod x8 1000000000)+1000000000)))]]:RW),y.length=1 from by simp) (aO h5)))))))) (by kernel_rfl) ih
theorem y1f {x0 x1:RW} {x2:Int} {x7:Nat} {x8 x19 x20:Int} {w1:RW} {v1 v2 v3:Int} {v4:RW} {v5:Nat} {v6:Int} (e1:Int.tmod x8 1000000000=v1) (e2:IntKind.i64.wrap (Int.tdiv x8 1000000000)=v2) (e3:IntKind.u32.wrap v1=v3) (e4:(w1.take x7)++[[.u32 v3]]=v4) (e5:x7+1=v5) (e6:IntKind.i64.wrap (x20+1)=v6) (h1:x20 < x19) (h2:¬ x20 < (x0.length:Int)) (h3:¬ x20 < (x1.length:Int)) (h4:¬ v1 < 0) (h5:(x7+1)*4≤140737488355328∧x7+1≤140737488355328) {o:Out} {st':St} (ih:Lp E 1 B5 0 (C0 x0 x1 x2 v5 v2 x19 v6 v4) o st') :Lp E 1 B5 0 (C0 x0 x1 x2 x7 x8 x19 x20 w1) o st':=by
 subst e1 e2 e3 e4 e5 e6
 exact lpOn _ [0,1,2,7,8,19,20] [.t true,.t false,.t false,.t false] (aC (dT h1) (aC (dF h2) (aC (dF h3) (aC (show (1000000000:Int)≠0 from by decide) (aC (show (1000000000:Int)≠0 from by decide) (aC (dF h4) (aC (show ∀ y∈([[.u32 (IntKind.u32.wrap (Int.tmod x8 1000000000))]]:RW),y.length=1 from by simp) (aO h5)))))))) (by kernel_rfl) ih
theorem z9i {x0 x1:RW} {x2:Int} {x7:Nat} {x8 x19 x20:Int} {w1:RW} (h1:¬ x20 < x19) :Lp E 1 B5 0 (C0 x0 x1 x2 x7 x8 x19 x20 w1) (.exit 0) (O9 x7 x8 w1):=by
 exact lpOff [7,8] [.t false] (aO (dF h1)) (by kernel_rfl) (by simp)
theorem y6g {a0 a1:RW} {a2 v1 v2:Int} {v3:Nat} {v4:Int} {v5:RW} {v6:Int} {v7:RW} {v8:Nat} {v9:RW} (e1:IntKind.i64.wrap ((a0.length:Int)+1)=v1) (e2:(if (a1.length:Int) > (a0.length:Int) then (a1.length:Int) else (a0.length:Int))=v2) (e3:IntKind.u32.wrap v4=v6) (e4:(v5.take v3)++[[.u32 v6]]=v7) (e5:v3+1=v8) (e6:(v7.take v8)=v9) (h1:0≤(0:Int)∧(0:Int)≤v1∧(Int.toNat v1)*4≤140737488355328∧(Int.toNat v1)≤140737488355328) (h2:Lp E 1 B5 0 (C0 a0 a1 a2 0 0 v2 0 []) (.exit 0) (O9 v3 v4 v5)) (h3:v4 > 0) (h4:(v3+1)*4≤140737488355328∧v3+1≤140737488355328) :Fn E B5 [.c (.list a0),.c (.list a1),.c (.i64 a2)] (.c (.list v9)):=by
 subst e1 e2 e3 e4 e5 e6
 exact fnMk [.loop [0,1,2,7,8,19,20] [(7,A3)] (.exit 0) (O9 v3 v4 v5),.t true] (by kernel_rfl) (by kernel_rfl) (aC h1 (aC h2 (aC (dT h3) (aC (show ∀ y∈([[.u32 (IntKind.u32.wrap v4)]]:RW),y.length=1 from by simp) (aO h4))))) (by kernel_rfl)
theorem y6h {a0 a1:RW} {a2 v1 v2:Int} {v3:Nat} {v4:Int} {v5 v6:RW} (e1:IntKind.i64.wrap ((a0.length:Int)+1)=v1) (e2:(if (a1.length:Int) > (a0.length:Int) then (a1.length:Int) else (a0.length:Int))=v2) (e3:(v5.take v3)=v6) (h1:0≤(0:Int)∧(0:Int)≤v1∧(Int.toNat v1)*4≤140737488355328∧(Int.toNat v1)≤140737488355328) (h2:Lp E 1 B5 0 (C0 a0 a1 a2 0 0 v2 0 []) (.exit 0) (O9 v3 v4 v5)) (h3:¬ v4 > 0) :Fn E B5 [.c (.list a0),.c (.list a1),.c (.i64 a2)] (.c (.list v6)):=by
 subst e1 e2 e3
 exact fnMk [.loop [0,1,2,7,8,19,20] [(7,A3)] (.exit 0) (O9 v3 v4 v5),.t false] (by kernel_rfl) (by kernel_rfl) (aC h1 (aC h2 (aO (dF h3)))) (by kernel_rfl)
def V4 (x0:RW):St:=stOf 21 [(0,.c (.list x0))] []
def X0 (x0':RW):St:=stOf 21 [(0,.c (.list x0'))] []
theorem y1l {x0:RW} {v1 v2:Int} {v3:RW} (e1:IntKind.i64.wrap ((x0.length:Int) - 1)=v1) (e2:List.drop 0 (x0.take (Int.toNat v1))=v3) (h1:(x0.length:Int) > 0) (h2:0≤v1) (h3:x0[(Int.toNat v1)]?=some [.u32 v2]) (h4:v2=0) (h5:0≤(0:Int)∧(0:Int)≤v1∧v1≤x0.length∧∀ x∈x0,x.length=1) {o:Out} {st':St} (ih:Lp E 0 C2 0 (V4 v3) o st') :Lp E 0 C2 0 (V4 x0) o st':=by
 subst e1 e2
 exact lpOn _ [0] [.t true,.d [.u32 v2],.t true] (aC (dT h1) (aC h2 (aC h3 (aC (beT h4) (aO h5))))) (by kernel_rfl) ih
theorem z9s {x0:RW} {v1 v2:Int} (e1:IntKind.i64.wrap ((x0.length:Int) - 1)=v1) (h1:(x0.length:Int) > 0) (h2:0≤v1) (h3:x0[(Int.toNat v1)]?=some [.u32 v2]) (h4:¬ v2=0) :Lp E 0 C2 0 (V4 x0) (.exit 0) (X0 x0):=by
 subst e1
 exact lpOff [0] [.t true,.d [.u32 v2],.t false] (aC (dT h1) (aC h2 (aC h3 (aO (beF h4))))) (by kernel_rfl) (by simp)
theorem z9t {x0:RW} (h1:¬ (x0.length:Int) > 0) :Lp E 0 C2 0 (V4 x0) (.exit 0) (X0 x0):=by
 exact lpOff [0] [.t false] (aO (dF h1)) (by kernel_rfl) (by simp)
theorem y4v {a0 v1:RW} (h1:Lp E 0 C2 0 (V4 a0) (.exit 0) (X0 v1)) :Rn E C2 [.c (.list a0)] [] (.c (.list v1)) []:=by
 exact rnMk [.loop [0] [] (.exit 0) (X0 v1)] (by kernel_rfl) (aO h1) (by kernel_rfl)
end Gev
namespace Gev
open Go Go.Proofs
variable {E:Env}
theorem x7f {a0:BA} {v1:Bool} {v2:BA} {v3:Int} {v4:Bool} {v5 v6:BA} (h1:Fn E z6a [.c (.str a0)] (.tup [.agg [.bool v1,.str v2],.c (.i64 v3)])) (h2:v3=0) (h3:Fn E Y1 [.agg [.bool v1,.str v2]] (.agg [.bool v4,.str v5])) (h4:Fn E K4 [.agg [.bool v4,.str v5]] (.c (.str v6))) :Fn E y0c [.c (.str a0)] (.tup [.c (.str v6),.c (.i64 0)]):=by
 exact fnMk [.v (.tup [.agg [.bool v1,.str v2],.c (.i64 v3)]),.t false,.v (.agg [.bool v4,.str v5]),.v (.c (.str v6))] (by kernel_rfl) (by kernel_rfl) (aC h1 (aC (bnF h2) (aC h3 (aO h4)))) (by kernel_rfl)
theorem x7e {a0 a1:BA} {v1:Bool} {v2:BA} {v3:Bool} {v4:BA} {v5:Int} {v6:Bool} {v7 v8:BA} (h1:Fn E z1o [.c (.str a0),.c (.str a1)] (.tup [.agg [.bool v1,.str v2],.agg [.bool v3,.str v4],.c (.i64 v5)])) (h2:v5=0) (h3:Fn E z3d [.agg [.bool v1,.str v2],.agg [.bool v3,.str v4]] (.agg [.bool v6,.str v7])) (h4:Fn E K4 [.agg [.bool v6,.str v7]] (.c (.str v8))) :Fn E V5 [.c (.str a0),.c (.str a1)] (.tup [.c (.str v8),.c (.i64 0)]):=by
 exact fnMk [.v (.tup [.agg [.bool v1,.str v2],.agg [.bool v3,.str v4],.c (.i64 v5)]),.t false,.v (.agg [.bool v6,.str v7]),.v (.c (.str v8))] (by kernel_rfl) (by kernel_rfl) (aC h1 (aC (bnF h2) (aC h3 (aO h4)))) (by kernel_rfl)
theorem x7d {a0 a1:BA} {v1:Bool} {v2:BA} {v3:Bool} {v4:BA} {v5:Int} {v6:Bool} {v7 v8:BA} (h1:Fn E z1o [.c (.str a0),.c (.str a1)] (.tup [.agg [.bool v1,.str v2],.agg [.bool v3,.str v4],.c (.i64 v5)])) (h2:v5=0) (h3:Fn E N4 [.agg [.bool v1,.str v2],.agg [.bool v3,.str v4]] (.agg [.bool v6,.str v7])) (h4:Fn E K4 [.agg [.bool v6,.str v7]] (.c (.str v8))) :Fn E z7k [.c (.str a0),.c (.str a1)] (.tup [.c (.str v8),.c (.i64 0)]):=by
 exact fnMk [.v (.tup [.agg [.bool v1,.str v2],.agg [.bool v3,.str v4],.c (.i64 v5)]),.t false,.v (.agg [.bool v6,.str v7]),.v (.c (.str v8))] (by kernel_rfl) (by kernel_rfl) (aC h1 (aC (bnF h2) (aC h3 (aO h4)))) (by kernel_rfl)
theorem x7i {a0:BA} {v1:Bool} {v2:BA} {v3:Bool} {v4:BA} {v5:Int} (h1:Fn E z1o [.c (.str a0),.c (.str ⟨#[48]⟩)] (.tup [.agg [.bool v1,.str v2],.agg [.bool v3,.str v4],.c (.i64 v5)])) :Fn E z6a [.c (.str a0)] (.tup [.agg [.bool v1,.str v2],.c (.i64 v5)]):=by
 exact fnMk [.v (.tup [.agg [.bool v1,.str v2],.agg [.bool v3,.str v4],.c (.i64 v5)])] (by kernel_rfl) (by kernel_rfl) (aO h1) (by kernel_rfl)
theorem z9f {a0_0:Bool} {a0_1:BA} {v1:Bool} {v2:BA} (h1:Fn E I6 [.c (.bool (!a0_0)),.c (.str a0_1)] (.agg [.bool v1,.str v2])) :Fn E Y1 [.agg [.bool a0_0,.str a0_1]] (.agg [.bool v1,.str v2]):=by
 exact fnMk [.v (.agg [.bool v1,.str v2])] (by kernel_rfl) (by kernel_rfl) (aO h1) (by kernel_rfl)
theorem y2r {a0_1 v1:BA} (e1:(⟨#[45]⟩:BA)++a0_1=v1) (h1:(⟨#[45]⟩:BA).size+a0_1.size≤9223372036854775807) :Fn E K4 [.agg [.bool true,.str a0_1]] (.c (.str v1)):=by
 subst e1
 exact fnMk [] (by kernel_rfl) (by kernel_rfl) (aO h1) (by kernel_rfl)
theorem y2s {a0_1:BA}  :Fn E K4 [.agg [.bool false,.str a0_1]] (.c (.str a0_1)):=by
 exact fnMk [] (by kernel_rfl) (by kernel_rfl) aN (by kernel_rfl)
theorem x5o {a0 a1:BA} {v1:Bool} {v2:BA} {v4:Bool} {v5:BA} (h1:Fn E z0b [.c (.str a0)] (.tup [.agg [.bool v1,.str v2],.c (.bool true)])) (h2:Fn E z0b [.c (.str a1)] (.tup [.agg [.bool v4,.str v5],.c (.bool true)])) :Fn E z1o [.c (.str a0),.c (.str a1)] (.tup [.agg [.bool v1,.str v2],.agg [.bool v4,.str v5],.c (.i64 0)]):=by
 exact fnMk [.v (.tup [.agg [.bool v1,.str v2],.c (.bool true)]),.v (.tup [.agg [.bool v4,.str v5],.c (.bool true)])] (by kernel_rfl) (by kernel_rfl) (aC h1 (aO h2)) (by kernel_rfl)
theorem y1y {a0_0:Bool} {a0_1:BA} {a1_0:Bool} {a1_1 v1:BA} {v2:Int} {v3 v4:Bool} {v5:BA} (e1:(!(a0_0 == a1_0))=v3) (h1:Fn E z2k [.c (.str a0_1),.c (.str a1_1)] (.tup [.c (.str v1),.c (.i64 v2)])) (h2:Fn E I6 [.c (.bool v3),.c (.str v1)] (.agg [.bool v4,.str v5])) :Fn E z3d [.agg [.bool a0_0,.str a0_1],.agg [.bool a1_0,.str a1_1]] (.agg [.bool v4,.str v5]):=by
 subst e1
 exact fnMk [.v (.tup [.c (.str v1),.c (.i64 v2)]),.keep,.v (.agg [.bool v4,.str v5])] (by kernel_rfl) (by kernel_rfl) (aC h1 (aO h2)) (by kernel_rfl)
theorem y2k {a0_0:Bool} {a0_1:BA} {a1_0:Bool} {a1_1:BA} {v3:Bool} {v4:BA} (h1:Fn E U2 [.c (.bool a0_0)] (.c (.i64 0))) (h2:Fn E U2 [.c (.bool a1_0)] (.c (.i64 0))) (h3:Fn E z7l [.agg [.bool a0_0,.str a0_1],.agg [.bool a1_0,.str a1_1]] (.agg [.bool v3,.str v4])) :Fn E N4 [.agg [.bool a0_0,.str a0_1],.agg [.bool a1_0,.str a1_1]] (.agg [.bool v3,.str v4]):=by
 exact fnMk [.v (.c (.i64 0)),.v (.c (.i64 0)),.v (.agg [.bool v3,.str v4])] (by kernel_rfl) (by kernel_rfl) (aC h1 (aC h2 (aC (show (0:Int)≤0∧(0:Int) < 2 from by decide) (aC (show (0:Int)≤0∧(0:Int) < 2 from by decide) (aO h3))))) (by kernel_rfl)
theorem y2l {a0_0:Bool} {a0_1:BA} {a1_0:Bool} {a1_1:BA} {v3:Bool} {v4:BA} (h1:Fn E U2 [.c (.bool a0_0)] (.c (.i64 0))) (h2:Fn E U2 [.c (.bool a1_0)] (.c (.i64 1))) (h3:Fn E z0a [.agg [.bool a0_0,.str a0_1],.agg [.bool a1_0,.str a1_1]] (.agg [.bool v3,.str v4])) :Fn E N4 [.agg [.bool a0_0,.str a0_1],.agg [.bool a1_0,.str a1_1]] (.agg [.bool v3,.str v4]):=by
 exact fnMk [.v (.c (.i64 0)),.v (.c (.i64 1)),.v (.agg [.bool v3,.str v4])] (by kernel_rfl) (by kernel_rfl) (aC h1 (aC h2 (aC (show (0:Int)≤0∧(0:Int) < 2 from by decide) (aC (show (0:Int)≤1∧(1:Int) < 2 from by decide) (aO h3))))) (by kernel_rfl)
theorem y2m {a0_0:Bool} {a0_1:BA} {a1_0:Bool} {a1_1:BA} {v3:Bool} {v4:BA} (h1:Fn E U2 [.c (.bool a0_0)] (.c (.i64 1))) (h2:Fn E U2 [.c (.bool a1_0)] (.c (.i64 0))) (h3:Fn E z0a [.agg [.bool a0_0,.str a0_1],.agg [.bool a1_0,.str a1_1]] (.agg [.bool v3,.str v4])) :Fn E N4 [.agg [.bool a0_0,.str a0_1],.agg [.bool a1_0,.str a1_1]] (.agg [.bool v3,.str v4]):=by
 exact fnMk [.v (.c (.i64 1)),.v (.c (.i64 0)),.v (.agg [.bool v3,.str v4])] (by kernel_rfl) (by kernel_rfl) (aC h1 (aC h2 (aC (show (0:Int)≤1∧(1:Int) < 2 from by decide) (aC (show (0:Int)≤0∧(0:Int) < 2 from by decide) (aO h3))))) (by kernel_rfl)
theorem y2n {a0_0:Bool} {a0_1:BA} {a1_0:Bool} {a1_1:BA} {v3:Bool} {v4:BA} (h1:Fn E U2 [.c (.bool a0_0)] (.c (.i64 1))) (h2:Fn E U2 [.c (.bool a1_0)] (.c (.i64 1))) (h3:Fn E z7l [.agg [.bool a0_0,.str a0_1],.agg [.bool a1_0,.str a1_1]] (.agg [.bool v3,.str v4])) :Fn E N4 [.agg [.bool a0_0,.str a0_1],.agg [.bool a1_0,.str a1_1]] (.agg [.bool v3,.str v4]):=by
 exact fnMk [.v (.c (.i64 1)),.v (.c (.i64 1)),.v (.agg [.bool v3,.str v4])] (by kernel_rfl) (by kernel_rfl) (aC h1 (aC h2 (aC (show (0:Int)≤1∧(1:Int) < 2 from by decide) (aC (show (0:Int)≤1∧(1:Int) < 2 from by decide) (aO h3))))) (by kernel_rfl)
theorem x2o {a0 a1:BA} {v1:Bool} {v2:BA} {v3:Bool} {v4:BA} {v5:Int} {v6:Bool} {v7:BA} {v8:Bool} {v9:BA} {v10:Bool} {v11 v12 v13:BA} (h1:Fn E z1o [.c (.str a0),.c (.str a1)] (.tup [.agg [.bool v1,.str v2],.agg [.bool v3,.str v4],.c (.i64 v5)])) (h2:v5=0) (h3:Fn E z2p [] (.agg [.bool v6,.str v7])) (h4:((v3 == v6) && ((v4 == v7) && true))=false) (h5:Fn E U9 [.agg [.bool v1,.str v2],.agg [.bool v3,.str v4]] (.tup [.agg [.bool v8,.str v9],.agg [.bool v10,.str v11]])) (h6:Fn E K4 [.agg [.bool v8,.str v9]] (.c (.str v12))) (h7:Fn E K4 [.agg [.bool v10,.str v11]] (.c (.str v13))) :Fn E z7i [.c (.str a0),.c (.str a1)] (.tup [.c (.str v12),.c (.str v13),.c (.i64 0)]):=by
 exact fnMk [.v (.tup [.agg [.bool v1,.str v2],.agg [.bool v3,.str v4],.c (.i64 v5)]),.t false,.v (.agg [.bool v6,.str v7]),.t false,.v (.tup [.agg [.bool v8,.str v9],.agg [.bool v10,.str v11]]),.v (.c (.str v12)),.v (.c (.str v13))] (by kernel_rfl) (by kernel_rfl) (aC h1 (aC (bnF h2) (aC h3 (aC (id h4) (aC h5 (aC h6 (aO h7))))))) (by kernel_rfl)
theorem x3z {a0:BA} {v1:Bool} {v2:BA} {v3:Bool} (h1:Fn E z0b [.c (.str a0)] (.tup [.agg [.bool v1,.str v2],.c (.bool v3)])) :Fn E O2 [.c (.str a0)] (.c (.bool v3)):=by
 exact fnMk [.v (.tup [.agg [.bool v1,.str v2],.c (.bool v3)])] (by kernel_rfl) (by kernel_rfl) (aO h1) (by kernel_rfl)
theorem x0g {a0 a1:BA} {v1:Bool} {v2:BA} {v3:Bool} {v4:BA} {v5:Int} {v6:Bool} {v7:BA} {v8:Bool} {v9:BA} {v10:Int} (h1:Fn E z1o [.c (.str a0),.c (.str a1)] (.tup [.agg [.bool v1,.str v2],.agg [.bool v3,.str v4],.c (.i64 v5)])) (h2:Fn E Y1 [.agg [.bool v3,.str v4]] (.agg [.bool v6,.str v7])) (h3:Fn E N4 [.agg [.bool v1,.str v2],.agg [.bool v6,.str v7]] (.agg [.bool v8,.str v9])) (h4:Fn E U1 [.agg [.bool v8,.str v9]] (.c (.i64 v10))) :Fn E z6y [.c (.str a0),.c (.str a1)] (.tup [.c (.i64 v10),.c (.i64 v5)]):=by
 exact fnMk [.v (.tup [.agg [.bool v1,.str v2],.agg [.bool v3,.str v4],.c (.i64 v5)]),.v (.agg [.bool v6,.str v7]),.v (.agg [.bool v8,.str v9]),.v (.c (.i64 v10))] (by kernel_rfl) (by kernel_rfl) (aC h1 (aC h2 (aC h3 (aO h4)))) (by kernel_rfl)
theorem x5q {a1:BA} (h1:¬ a1=(⟨#[48]⟩:BA)) :Fn E I6 [.c (.bool true),.c (.str a1)] (.agg [.bool true,.str a1]):=by
 exact fnMk [.t true] (by kernel_rfl) (by kernel_rfl) (aO (snT h1)) (by kernel_rfl)
theorem x5r {a1:BA} (h1:a1=(⟨#[48]⟩:BA)) :Fn E I6 [.c (.bool true),.c (.str a1)] (.agg [.bool false,.str a1]):=by
 exact fnMk [.t false] (by kernel_rfl) (by kernel_rfl) (aO (snF h1)) (by kernel_rfl)
theorem x5s {a1:BA}  :Fn E I6 [.c (.bool false),.c (.str a1)] (.agg [.bool false,.str a1]):=by
 exact fnMk [] (by kernel_rfl) (by kernel_rfl) aN (by kernel_rfl)
theorem y3w {a0 v1:BA} {v2:Bool} (h1:Fn E P4 [.c (.str a0),.c (.str ⟨#[45]⟩)] (.tup [.c (.str v1),.c (.bool v2)])) (h2:Fn E C5 [.c (.str v1)] (.c (.bool true))) (h3:(!((v2 == true) && ((v1 == (⟨#[48]⟩:BA)) && true)))=true) :Fn E z0b [.c (.str a0)] (.tup [.agg [.bool v2,.str v1],.c (.bool true)]):=by
 exact fnMk [.v (.tup [.c (.str v1),.c (.bool v2)]),.v (.c (.bool true)),.t true] (by kernel_rfl) (by kernel_rfl) (aC h1 (aC h2 (aO (id h3)))) (by kernel_rfl)
theorem x5p {a0 v1:BA} {v2:Bool} (h1:Fn E P4 [.c (.str a0),.c (.str ⟨#[45]⟩)] (.tup [.c (.str v1),.c (.bool v2)])) (h2:Fn E C5 [.c (.str v1)] (.c (.bool true))) (h3:(!((v2 == true) && ((v1 == (⟨#[48]⟩:BA)) && true)))=false) :Fn E z0b [.c (.str a0)] (.tup [.agg [.bool v2,.str v1],.c (.bool false)]):=by
 exact fnMk [.v (.tup [.c (.str v1),.c (.bool v2)]),.v (.c (.bool true)),.t false] (by kernel_rfl) (by kernel_rfl) (aC h1 (aC h2 (aO (id h3)))) (by kernel_rfl)
theorem y3x {a0 v1:BA} {v2:Bool} (h1:Fn E P4 [.c (.str a0),.c (.str ⟨#[45]⟩)] (.tup [.c (.str v1),.c (.bool v2)])) (h2:Fn E C5 [.c (.str v1)] (.c (.bool false))) :Fn E z0b [.c (.str a0)] (.tup [.agg [.bool v2,.str v1],.c (.bool false)]):=by
 exact fnMk [.v (.tup [.c (.str v1),.c (.bool v2)]),.v (.c (.bool false))] (by kernel_rfl) (by kernel_rfl) (aC h1 (aO h2)) (by kernel_rfl)
theorem x5t   :Fn E z2p [] (.agg [.bool false,.str ⟨#[48]⟩]):=by
 exact fnMk [] (by kernel_rfl) (by kernel_rfl) aN (by kernel_rfl)
theorem x7g   :Fn E U2 [.c (.bool true)] (.c (.i64 1)):=by
 exact fnMk [] (by kernel_rfl) (by kernel_rfl) aN (by kernel_rfl)
theorem x7h   :Fn E U2 [.c (.bool false)] (.c (.i64 0)):=by
 exact fnMk [] (by kernel_rfl) (by kernel_rfl) aN (by kernel_rfl)
theorem x7j {a0_0:Bool} {a0_1:BA} {a1_0:Bool} {a1_1 v1:BA} {v2:Int} {v3:Bool} {v4:BA} (h1:Fn E z7m [.c (.str a0_1),.c (.str a1_1)] (.tup [.c (.str v1),.c (.i64 v2)])) (h2:Fn E I6 [.c (.bool a0_0),.c (.str v1)] (.agg [.bool v3,.str v4])) :Fn E z7l [.agg [.bool a0_0,.str a0_1],.agg [.bool a1_0,.str a1_1]] (.agg [.bool v3,.str v4]):=by
 exact fnMk [.v (.tup [.c (.str v1),.c (.i64 v2)]),.v (.agg [.bool v3,.str v4])] (by kernel_rfl) (by kernel_rfl) (aC h1 (aO h2)) (by kernel_rfl)
theorem y3u {a0_0:Bool} {a0_1:BA} {a1_0:Bool} {a1_1:BA} {v1 v2:Int} {v3:BA} {v4:Int} {v5:Bool} {v6:BA} (h1:Fn E z3w [.c (.str a0_1),.c (.str a1_1)] (.tup [.c (.i64 v1),.c (.i64 v2)])) (h2:v1 < 0) (h3:Fn E z6b [.c (.str a1_1),.c (.str a0_1)] (.tup [.c (.str v3),.c (.i64 v4)])) (h4:Fn E I6 [.c (.bool a1_0),.c (.str v3)] (.agg [.bool v5,.str v6])) :Fn E z0a [.agg [.bool a0_0,.str a0_1],.agg [.bool a1_0,.str a1_1]] (.agg [.bool v5,.str v6]):=by
 exact fnMk [.v (.tup [.c (.i64 v1),.c (.i64 v2)]),.t true,.v (.tup [.c (.str v3),.c (.i64 v4)]),.v (.agg [.bool v5,.str v6])] (by kernel_rfl) (by kernel_rfl) (aC h1 (aC (dT h2) (aC h3 (aO h4)))) (by kernel_rfl)
theorem y3v {a0_0:Bool} {a0_1:BA} {a1_0:Bool} {a1_1:BA} {v1 v2:Int} {v3:BA} {v4:Int} {v5:Bool} {v6:BA} (h1:Fn E z3w [.c (.str a0_1),.c (.str a1_1)] (.tup [.c (.i64 v1),.c (.i64 v2)])) (h2:¬ v1 < 0) (h3:Fn E z6b [.c (.str a0_1),.c (.str a1_1)] (.tup [.c (.str v3),.c (.i64 v4)])) (h4:Fn E I6 [.c (.bool a0_0),.c (.str v3)] (.agg [.bool v5,.str v6])) :Fn E z0a [.agg [.bool a0_0,.str a0_1],.agg [.bool a1_0,.str a1_1]] (.agg [.bool v5,.str v6]):=by
 exact fnMk [.v (.tup [.c (.i64 v1),.c (.i64 v2)]),.t false,.v (.tup [.c (.str v3),.c (.i64 v4)]),.v (.agg [.bool v5,.str v6])] (by kernel_rfl) (by kernel_rfl) (aC h1 (aC (dF h2) (aC h3 (aO h4)))) (by kernel_rfl)
theorem x7c {a0:BA} {v1:Bool} {v2:BA} {v3:Int} (h1:Fn E z6a [.c (.str a0)] (.tup [.agg [.bool v1,.str v2],.c (.i64 v3)])) (h2:v3=0) :Fn E y0b [.c (.str a0)] (.tup [.c (.str v2),.c (.i64 0)]):=by
 exact fnMk [.v (.tup [.agg [.bool v1,.str v2],.c (.i64 v3)]),.t false] (by kernel_rfl) (by kernel_rfl) (aC h1 (aO (bnF h2))) (by kernel_rfl)
theorem y0v {a0_1:BA} {a1_0:Bool} {a1_1 v1 v2:BA} {v3:Int} {v4:BA} {v5:Int} {v6:BA} {v7:Int} {v8 v9:Bool} {v10:BA} {v11:Bool} {v12:BA} (e1:(!(true == a1_0))=v8) (h1:Fn E z1f [.c (.str a0_1),.c (.str a1_1)] (.tup [.c (.str v1),.c (.str v2),.c (.i64 v3)])) (h2:¬ v2=(⟨#[48]⟩:BA)) (h3:Fn E z7m [.c (.str v1),.c (.str ⟨#[49]⟩)] (.tup [.c (.str v4),.c (.i64 v5)])) (h4:Fn E z6b [.c (.str a1_1),.c (.str v2)] (.tup [.c (.str v6),.c (.i64 v7)])) (h5:Fn E I6 [.c (.bool v8),.c (.str v4)] (.agg [.bool v9,.str v10])) (h6:Fn E I6 [.c (.bool false),.c (.str v6)] (.agg [.bool v11,.str v12])) :Fn E U9 [.agg [.bool true,.str a0_1],.agg [.bool a1_0,.str a1_1]] (.tup [.agg [.bool v9,.str v10],.agg [.bool v11,.str v12]]):=by
 subst e1
 exact fnMk [.v (.tup [.c (.str v1),.c (.str v2),.c (.i64 v3)]),.t true,.v (.tup [.c (.str v4),.c (.i64 v5)]),.v (.tup [.c (.str v6),.c (.i64 v7)]),.keep,.v (.agg [.bool v9,.str v10]),.v (.agg [.bool v11,.str v12])] (by kernel_rfl) (by kernel_rfl) (aC h1 (aC (snT h2) (aC h3 (aC h4 (aC h5 (aO h6)))))) (by kernel_rfl)
theorem y0w {a0_1:BA} {a1_0:Bool} {a1_1 v1 v2:BA} {v3:Int} {v4 v5:Bool} {v6:BA} {v7:Bool} {v8:BA} (e1:(!(true == a1_0))=v4) (h1:Fn E z1f [.c (.str a0_1),.c (.str a1_1)] (.tup [.c (.str v1),.c (.str v2),.c (.i64 v3)])) (h2:v2=(⟨#[48]⟩:BA)) (h3:Fn E I6 [.c (.bool v4),.c (.str v1)] (.agg [.bool v5,.str v6])) (h4:Fn E I6 [.c (.bool false),.c (.str v2)] (.agg [.bool v7,.str v8])) :Fn E U9 [.agg [.bool true,.str a0_1],.agg [.bool a1_0,.str a1_1]] (.tup [.agg [.bool v5,.str v6],.agg [.bool v7,.str v8]]):=by
 subst e1
 exact fnMk [.v (.tup [.c (.str v1),.c (.str v2),.c (.i64 v3)]),.t false,.keep,.v (.agg [.bool v5,.str v6]),.v (.agg [.bool v7,.str v8])] (by kernel_rfl) (by kernel_rfl) (aC h1 (aC (snF h2) (aC h3 (aO h4)))) (by kernel_rfl)
theorem y0x {a0_1:BA} {a1_0:Bool} {a1_1 v1 v2:BA} {v3:Int} {v4 v5:Bool} {v6:BA} {v7:Bool} {v8:BA} (e1:(!(false == a1_0))=v4) (h1:Fn E z1f [.c (.str a0_1),.c (.str a1_1)] (.tup [.c (.str v1),.c (.str v2),.c (.i64 v3)])) (h2:Fn E I6 [.c (.bool v4),.c (.str v1)] (.agg [.bool v5,.str v6])) (h3:Fn E I6 [.c (.bool false),.c (.str v2)] (.agg [.bool v7,.str v8])) :Fn E U9 [.agg [.bool false,.str a0_1],.agg [.bool a1_0,.str a1_1]] (.tup [.agg [.bool v5,.str v6],.agg [.bool v7,.str v8]]):=by
 subst e1
 exact fnMk [.v (.tup [.c (.str v1),.c (.str v2),.c (.i64 v3)]),.keep,.v (.agg [.bool v5,.str v6]),.v (.agg [.bool v7,.str v8])] (by kernel_rfl) (by kernel_rfl) (aC h1 (aC h2 (aO h3))) (by kernel_rfl)
theorem x5n {a0:BA} {v1:Bool} {v2:BA} {v3 v4:Int} (h1:Fn E z6a [.c (.str a0)] (.tup [.agg [.bool v1,.str v2],.c (.i64 v3)])) (h2:Fn E U1 [.agg [.bool v1,.str v2]] (.c (.i64 v4))) :Fn E z8h [.c (.str a0)] (.tup [.c (.i64 v4),.c (.i64 v3)]):=by
 exact fnMk [.v (.tup [.agg [.bool v1,.str v2],.c (.i64 v3)]),.v (.c (.i64 v4))] (by kernel_rfl) (by kernel_rfl) (aC h1 (aO h2)) (by kernel_rfl)
theorem y2o {a0_0:Bool} {a0_1:BA} {v1:Bool} {v2:BA} (h1:Fn E z2p [] (.agg [.bool v1,.str v2])) (h2:((a0_0 == v1) && ((a0_1 == v2) && true))=true) :Fn E U1 [.agg [.bool a0_0,.str a0_1]] (.c (.i64 0)):=by
 exact fnMk [.v (.agg [.bool v1,.str v2]),.t true] (by kernel_rfl) (by kernel_rfl) (aC h1 (aO (id h2))) (by kernel_rfl)
theorem y2p {a0_1:BA} {v1:Bool} {v2:BA} (h1:Fn E z2p [] (.agg [.bool v1,.str v2])) (h2:((true == v1) && ((a0_1 == v2) && true))=false) :Fn E U1 [.agg [.bool true,.str a0_1]] (.c (.i64 (-1))):=by
 exact fnMk [.v (.agg [.bool v1,.str v2]),.t false] (by kernel_rfl) (by kernel_rfl) (aC h1 (aO (id h2))) (by kernel_rfl)
theorem y2q {a0_1:BA} {v1:Bool} {v2:BA} (h1:Fn E z2p [] (.agg [.bool v1,.str v2])) (h2:((false == v1) && ((a0_1 == v2) && true))=false) :Fn E U1 [.agg [.bool false,.str a0_1]] (.c (.i64 1)):=by
 exact fnMk [.v (.agg [.bool v1,.str v2]),.t false] (by kernel_rfl) (by kernel_rfl) (aC h1 (aO (id h2))) (by kernel_rfl)
end Gev
namespace Gev
open Go Go.Proofs
variable {E:Env}
theorem x4i {a0_0 a0_1 a1_0 a1_1:BA} {v1 v2 v4 v5 v7 v8 v9 v10:Int} {v11 v12:BA} (e1:IntKind.i64.wrap (v1*v5)=v7) (e2:IntKind.i64.wrap (v4*v2)=v8) (e3:IntKind.i64.wrap (v7+v8)=v9) (e4:IntKind.i64.wrap (v2*v5)=v10) (h1:Fn E C3 [.agg [.str a0_0,.str a0_1]] (.tup [.c (.i64 v1),.c (.i64 v2),.c (.bool true)])) (h2:Fn E C3 [.agg [.str a1_0,.str a1_1]] (.tup [.c (.i64 v4),.c (.i64 v5),.c (.bool true)])) (h3:Fn E Z2 [.c (.i64 v9),.c (.i64 v10)] (.agg [.str v11,.str v12])) :Fn E z0s [.agg [.str a0_0,.str a0_1],.agg [.str a1_0,.str a1_1]] (.agg [.str v11,.str v12]):=by
 subst e1 e2 e3 e4
 exact fnMk [.v (.tup [.c (.i64 v1),.c (.i64 v2),.c (.bool true)]),.v (.tup [.c (.i64 v4),.c (.i64 v5),.c (.bool true)]),.v (.agg [.str v11,.str v12])] (by kernel_rfl) (by kernel_rfl) (aC h1 (aC h2 (aO h3))) (by kernel_rfl)
theorem x4j {a0_0 a0_1 a1_0 a1_1:BA} {v1 v2 v4 v5:Int} {v7:BA} {v8:Int} {v9:BA} {v10:Int} {v11:BA} {v12:Int} {v13:BA} {v14:Int} {v15 v16:BA} (h1:Fn E C3 [.agg [.str a0_0,.str a0_1]] (.tup [.c (.i64 v1),.c (.i64 v2),.c (.bool true)])) (h2:Fn E C3 [.agg [.str a1_0,.str a1_1]] (.tup [.c (.i64 v4),.c (.i64 v5),.c (.bool false)])) (h3:Fn E V5 [.c (.str a0_0),.c (.str a1_1)] (.tup [.c (.str v7),.c (.i64 v8)])) (h4:Fn E V5 [.c (.str a1_0),.c (.str a0_1)] (.tup [.c (.str v9),.c (.i64 v10)])) (h5:Fn E z7k [.c (.str v7),.c (.str v9)] (.tup [.c (.str v11),.c (.i64 v12)])) (h6:Fn E z2k [.c (.str a0_1),.c (.str a1_1)] (.tup [.c (.str v13),.c (.i64 v14)])) (h7:Fn E P6 [.c (.str v11),.c (.str v13)] (.agg [.str v15,.str v16])) :Fn E z0s [.agg [.str a0_0,.str a0_1],.agg [.str a1_0,.str a1_1]] (.agg [.str v15,.str v16]):=by
 exact fnMk [.v (.tup [.c (.i64 v1),.c (.i64 v2),.c (.bool true)]),.v (.tup [.c (.i64 v4),.c (.i64 v5),.c (.bool false)]),.v (.tup [.c (.str v7),.c (.i64 v8)]),.v (.tup [.c (.str v9),.c (.i64 v10)]),.v (.tup [.c (.str v11),.c (.i64 v12)]),.v (.tup [.c (.str v13),.c (.i64 v14)]),.v (.agg [.str v15,.str v16])] (by kernel_rfl) (by kernel_rfl) (aC h1 (aC h2 (aC h3 (aC h4 (aC h5 (aC h6 (aO h7))))))) (by kernel_rfl)
theorem x4k {a0_0 a0_1 a1_0 a1_1:BA} {v1 v2 v4 v5:Int} {v6:Bool} {v7:BA} {v8:Int} {v9:BA} {v10:Int} {v11:BA} {v12:Int} {v13:BA} {v14:Int} {v15 v16:BA} (h1:Fn E C3 [.agg [.str a0_0,.str a0_1]] (.tup [.c (.i64 v1),.c (.i64 v2),.c (.bool false)])) (h2:Fn E C3 [.agg [.str a1_0,.str a1_1]] (.tup [.c (.i64 v4),.c (.i64 v5),.c (.bool v6)])) (h3:Fn E V5 [.c (.str a0_0),.c (.str a1_1)] (.tup [.c (.str v7),.c (.i64 v8)])) (h4:Fn E V5 [.c (.str a1_0),.c (.str a0_1)] (.tup [.c (.str v9),.c (.i64 v10)])) (h5:Fn E z7k [.c (.str v7),.c (.str v9)] (.tup [.c (.str v11),.c (.i64 v12)])) (h6:Fn E z2k [.c (.str a0_1),.c (.str a1_1)] (.tup [.c (.str v13),.c (.i64 v14)])) (h7:Fn E P6 [.c (.str v11),.c (.str v13)] (.agg [.str v15,.str v16])) :Fn E z0s [.agg [.str a0_0,.str a0_1],.agg [.str a1_0,.str a1_1]] (.agg [.str v15,.str v16]):=by
 exact fnMk [.v (.tup [.c (.i64 v1),.c (.i64 v2),.c (.bool false)]),.v (.tup [.c (.i64 v4),.c (.i64 v5),.c (.bool v6)]),.v (.tup [.c (.str v7),.c (.i64 v8)]),.v (.tup [.c (.str v9),.c (.i64 v10)]),.v (.tup [.c (.str v11),.c (.i64 v12)]),.v (.tup [.c (.str v13),.c (.i64 v14)]),.v (.agg [.str v15,.str v16])] (by kernel_rfl) (by kernel_rfl) (aC h1 (aC h2 (aC h3 (aC h4 (aC h5 (aC h6 (aO h7))))))) (by kernel_rfl)
theorem x2r {a0_0 a0_1 a1_0 a1_1:BA} {v1 v2 v4 v5 v7 v8:Int} {v9 v10:BA} (e1:IntKind.i64.wrap (v1*v4)=v7) (e2:IntKind.i64.wrap (v2*v5)=v8) (h1:Fn E C3 [.agg [.str a0_0,.str a0_1]] (.tup [.c (.i64 v1),.c (.i64 v2),.c (.bool true)])) (h2:Fn E C3 [.agg [.str a1_0,.str a1_1]] (.tup [.c (.i64 v4),.c (.i64 v5),.c (.bool true)])) (h3:Fn E Z2 [.c (.i64 v7),.c (.i64 v8)] (.agg [.str v9,.str v10])) :Fn E Z0 [.agg [.str a0_0,.str a0_1],.agg [.str a1_0,.str a1_1]] (.agg [.str v9,.str v10]):=by
 subst e1 e2
 exact fnMk [.v (.tup [.c (.i64 v1),.c (.i64 v2),.c (.bool true)]),.v (.tup [.c (.i64 v4),.c (.i64 v5),.c (.bool true)]),.v (.agg [.str v9,.str v10])] (by kernel_rfl) (by kernel_rfl) (aC h1 (aC h2 (aO h3))) (by kernel_rfl)
theorem x2s {a0_0 a0_1 a1_0 a1_1:BA} {v1 v2 v4 v5:Int} {v7:BA} {v8:Int} {v9:BA} {v10:Int} {v11 v12:BA} (h1:Fn E C3 [.agg [.str a0_0,.str a0_1]] (.tup [.c (.i64 v1),.c (.i64 v2),.c (.bool true)])) (h2:Fn E C3 [.agg [.str a1_0,.str a1_1]] (.tup [.c (.i64 v4),.c (.i64 v5),.c (.bool false)])) (h3:Fn E V5 [.c (.str a0_0),.c (.str a1_0)] (.tup [.c (.str v7),.c (.i64 v8)])) (h4:Fn E z2k [.c (.str a0_1),.c (.str a1_1)] (.tup [.c (.str v9),.c (.i64 v10)])) (h5:Fn E P6 [.c (.str v7),.c (.str v9)] (.agg [.str v11,.str v12])) :Fn E Z0 [.agg [.str a0_0,.str a0_1],.agg [.str a1_0,.str a1_1]] (.agg [.str v11,.str v12]):=by
 exact fnMk [.v (.tup [.c (.i64 v1),.c (.i64 v2),.c (.bool true)]),.v (.tup [.c (.i64 v4),.c (.i64 v5),.c (.bool false)]),.v (.tup [.c (.str v7),.c (.i64 v8)]),.v (.tup [.c (.str v9),.c (.i64 v10)]),.v (.agg [.str v11,.str v12])] (by kernel_rfl) (by kernel_rfl) (aC h1 (aC h2 (aC h3 (aC h4 (aO h5))))) (by kernel_rfl)
theorem x2t {a0_0 a0_1 a1_0 a1_1:BA} {v1 v2 v4 v5:Int} {v6:Bool} {v7:BA} {v8:Int} {v9:BA} {v10:Int} {v11 v12:BA} (h1:Fn E C3 [.agg [.str a0_0,.str a0_1]] (.tup [.c (.i64 v1),.c (.i64 v2),.c (.bool false)])) (h2:Fn E C3 [.agg [.str a1_0,.str a1_1]] (.tup [.c (.i64 v4),.c (.i64 v5),.c (.bool v6)])) (h3:Fn E V5 [.c (.str a0_0),.c (.str a1_0)] (.tup [.c (.str v7),.c (.i64 v8)])) (h4:Fn E z2k [.c (.str a0_1),.c (.str a1_1)] (.tup [.c (.str v9),.c (.i64 v10)])) (h5:Fn E P6 [.c (.str v7),.c (.str v9)] (.agg [.str v11,.str v12])) :Fn E Z0 [.agg [.str a0_0,.str a0_1],.agg [.str a1_0,.str a1_1]] (.agg [.str v11,.str v12]):=by
 exact fnMk [.v (.tup [.c (.i64 v1),.c (.i64 v2),.c (.bool false)]),.v (.tup [.c (.i64 v4),.c (.i64 v5),.c (.bool v6)]),.v (.tup [.c (.str v7),.c (.i64 v8)]),.v (.tup [.c (.str v9),.c (.i64 v10)]),.v (.agg [.str v11,.str v12])] (by kernel_rfl) (by kernel_rfl) (aC h1 (aC h2 (aC h3 (aC h4 (aO h5))))) (by kernel_rfl)
theorem y1n {a0_0 a0_1 a1_0 a1_1 v1 v2 v3 v4:BA} (h1:Fn E z5y [.agg [.str a1_0,.str a1_1]] (.agg [.str v1,.str v2])) (h2:Fn E z0s [.agg [.str a0_0,.str a0_1],.agg [.str v1,.str v2]] (.agg [.str v3,.str v4])) :Fn E V2 [.agg [.str a0_0,.str a0_1],.agg [.str a1_0,.str a1_1]] (.agg [.str v3,.str v4]):=by
 exact fnMk [.v (.agg [.str v1,.str v2]),.v (.agg [.str v3,.str v4])] (by kernel_rfl) (by kernel_rfl) (aC h1 (aO h2)) (by kernel_rfl)
theorem y1o {a0_0 a0_1 a1_0 a1_1 v1 v2 v3 v4:BA} (h1:Fn E z3f [.agg [.str a1_0,.str a1_1]] (.agg [.str v1,.str v2])) (h2:Fn E Z0 [.agg [.str a0_0,.str a0_1],.agg [.str v1,.str v2]] (.agg [.str v3,.str v4])) :Fn E V3 [.agg [.str a0_0,.str a0_1],.agg [.str a1_0,.str a1_1]] (.agg [.str v3,.str v4]):=by
 exact fnMk [.v (.agg [.str v1,.str v2]),.v (.agg [.str v3,.str v4])] (by kernel_rfl) (by kernel_rfl) (aC h1 (aO h2)) (by kernel_rfl)
theorem y4y {a0_0 a0_1:BA} (h1:a0_1=(⟨#[49]⟩:BA)) :Fn E V1 [.agg [.str a0_0,.str a0_1]] (.c (.str a0_0)):=by
 exact fnMk [.t true] (by kernel_rfl) (by kernel_rfl) (aO (seT h1)) (by kernel_rfl)
theorem y4z {a0_0 a0_1 v1 v2:BA} (e1:a0_0++(⟨#[47]⟩:BA)=v1) (e2:v1++a0_1=v2) (h1:¬ a0_1=(⟨#[49]⟩:BA)) (h2:a0_0.size+(⟨#[47]⟩:BA).size≤9223372036854775807) (h3:v1.size+a0_1.size≤9223372036854775807) :Fn E V1 [.agg [.str a0_0,.str a0_1]] (.c (.str v2)):=by
 subst e1 e2
 exact fnMk [.t false] (by kernel_rfl) (by kernel_rfl) (aC (seF h1) (aC h2 (aO h3))) (by kernel_rfl)
theorem x4h {a0 a1 v1 v2 v4 v5:BA} (h1:Fn E J3 [.c (.str a0)] (.tup [.agg [.str v1,.str v2],.c (.bool true)])) (h2:Fn E J3 [.c (.str a1)] (.tup [.agg [.str v4,.str v5],.c (.bool true)])) :Fn E X9 [.c (.str a0),.c (.str a1)] (.tup [.agg [.str v1,.str v2],.agg [.str v4,.str v5],.c (.i64 0)]):=by
 exact fnMk [.v (.tup [.agg [.str v1,.str v2],.c (.bool true)]),.v (.tup [.agg [.str v4,.str v5],.c (.bool true)])] (by kernel_rfl) (by kernel_rfl) (aC h1 (aO h2)) (by kernel_rfl)
theorem y2c {a0_0 a0_1:BA} (h1:(a0_0.size:Int) > 9) :Fn E C3 [.agg [.str a0_0,.str a0_1]] (.tup [.c (.i64 0),.c (.i64 0),.c (.bool false)]):=by
 exact fnMk [.t true] (by kernel_rfl) (by kernel_rfl) (aO (dT h1)) (by kernel_rfl)
theorem y2d {a0_0 a0_1:BA} (h1:¬ (a0_0.size:Int) > 9) (h2:(a0_1.size:Int) > 9) :Fn E C3 [.agg [.str a0_0,.str a0_1]] (.tup [.c (.i64 0),.c (.i64 0),.c (.bool false)]):=by
 exact fnMk [.t false,.t true] (by kernel_rfl) (by kernel_rfl) (aC (dF h1) (aO (dT h2))) (by kernel_rfl)
theorem y2e {a0_0 a0_1:BA} {v1 v2:Int} (h1:¬ (a0_0.size:Int) > 9) (h2:¬ (a0_1.size:Int) > 9) (h3:Fn E z3i [.c (.str a0_0),.c (.i64 10),.c (.i64 64)] (.tup [.c (.i64 v1),.undef])) (h4:Fn E z3i [.c (.str a0_1),.c (.i64 10),.c (.i64 64)] (.tup [.c (.i64 v2),.undef])) :Fn E C3 [.agg [.str a0_0,.str a0_1]] (.tup [.c (.i64 v1),.c (.i64 v2),.c (.bool true)]):=by
 exact fnMk [.t false,.t false,.v (.tup [.c (.i64 v1),.undef]),.v (.tup [.c (.i64 v2),.undef])] (by kernel_rfl) (by kernel_rfl) (aC (dF h1) (aC (dF h2) (aC h3 (aO h4)))) (by kernel_rfl)
def z4l (x0:Int) (x1:Int) (x5:Int) (x6:Int) (c0_0:BA) (c0_1:BA):St:=stOf 28 [(0,.c (.i64 x0)),(1,.c (.i64 x1)),(4,.ptr 0 0),(5,.c (.i64 x5)),(6,.c (.i64 x6))] [some (.cells [.c (.str c0_0),.c (.str c0_1)])]
def z5h (x0:Int) (x1:Int) (c0_0:BA) (c0_1:BA) (x5':Int):St:=stOf 28 [(0,.c (.i64 x0)),(1,.c (.i64 x1)),(4,.ptr 0 0),(5,.c (.i64 x5'))] [some (.cells [.c (.str c0_0),.c (.str c0_1)])]
theorem x0n {x0 x1 x5 x6:Int} {c0_0 c0_1:BA} {v1:Int} (e1:Int.tmod x5 x6=v1) (h1:¬ x6=0) (h2:x6≠0) {o:Out} {st':St} (ih:Lp E 1 Z2 0 (z4l x0 x1 x6 v1 c0_0 c0_1) o st') :Lp E 1 Z2 0 (z4l x0 x1 x5 x6 c0_0 c0_1) o st':=by
 subst e1
 exact lpOn _ [0,1,4,5,6] [.t true] (aC (bnT h1) (aO h2)) (by kernel_rfl) ih
theorem y6o {x0 x1 x5 x6:Int} {c0_0 c0_1:BA} (h1:x6=0) :Lp E 1 Z2 0 (z4l x0 x1 x5 x6 c0_0 c0_1) (.exit 0) (z5h x0 x1 c0_0 c0_1 x5):=by
 exact lpOff [0,1,4,5] [.t false] (aO (bnF h1)) (by kernel_rfl) (by simp)
theorem x7q {a0 a1 v1 v2 v3 v4:Int} {v5:BA} {v6:Int} {v7:BA} (e1:IntKind.i64.wrap (0 - v1)=v2) (e2:(if v2 > v1 then v2 else v1)=v3) (e3:IntKind.i64.wrap (Int.tdiv a0 v3)=v4) (e4:IntKind.i64.wrap (Int.tdiv a1 v3)=v6) (h1:Lp E 1 Z2 0 (z4l a0 a1 a0 a1 ⟨#[]⟩ ⟨#[]⟩) (.exit 0) (z5h a0 a1 ⟨#[]⟩ ⟨#[]⟩ v1)) (h2:v3≠0) (h3:Fn E z2m [.c (.i64 v4),.c (.i64 10)] (.c (.str v5))) (h4:Fn E z2m [.c (.i64 v6),.c (.i64 10)] (.c (.str v7))) :Fn E Z2 [.c (.i64 a0),.c (.i64 a1)] (.agg [.str v5,.str v7]):=by
 subst e1 e2 e3 e4
 exact fnMk [.loop [0,1,4,5,6] [] (.exit 0) (z5h a0 a1 ⟨#[]⟩ ⟨#[]⟩ v1),.v (.c (.str v5)),.v (.c (.str v7))] (by kernel_rfl) (by kernel_rfl) (aC h1 (aC h2 (aC h3 (aC h2 (aO h4))))) (by kernel_rfl)
theorem x0l {a0 a1 v1 v2 v3:BA} {v4:Int} {v5 v6:BA} {v7:Int} (h1:Fn E Y9 [.c (.str a0),.c (.str a1)] (.c (.str v1))) (h2:¬ v1=(⟨#[49]⟩:BA)) (h3:Fn E z7i [.c (.str a0),.c (.str v1)] (.tup [.c (.str v2),.c (.str v3),.c (.i64 v4)])) (h4:Fn E z1f [.c (.str a1),.c (.str v1)] (.tup [.c (.str v5),.c (.str v6),.c (.i64 v7)])) :Fn E P6 [.c (.str a0),.c (.str a1)] (.agg [.str v2,.str v5]):=by
 exact fnMk [.v (.c (.str v1)),.t true,.v (.tup [.c (.str v2),.c (.str v3),.c (.i64 v4)]),.v (.tup [.c (.str v5),.c (.str v6),.c (.i64 v7)])] (by kernel_rfl) (by kernel_rfl) (aC h1 (aC (snT h2) (aC h3 (aO h4)))) (by kernel_rfl)
theorem x0m {a0 a1 v1:BA} (h1:Fn E Y9 [.c (.str a0),.c (.str a1)] (.c (.str v1))) (h2:v1=(⟨#[49]⟩:BA)) :Fn E P6 [.c (.str a0),.c (.str a1)] (.agg [.str a0,.str a1]):=by
 exact fnMk [.v (.c (.str v1)),.t false] (by kernel_rfl) (by kernel_rfl) (aC h1 (aO (snF h2))) (by kernel_rfl)
theorem y6p {a0_0 a0_1 v1:BA} {v2:Int} (h1:Fn E y0c [.c (.str a0_0)] (.tup [.c (.str v1),.c (.i64 v2)])) :Fn E z5y [.agg [.str a0_0,.str a0_1]] (.agg [.str v1,.str a0_1]):=by
 exact fnMk [.v (.tup [.c (.str v1),.c (.i64 v2)])] (by kernel_rfl) (by kernel_rfl) (aO h1) (by kernel_rfl)
theorem y8u {a0_0 a0_1 v1 v3:BA} (e1:(⟨#[45]⟩:BA)++a0_1=v3) (h1:Fn E P4 [.c (.str a0_0),.c (.str ⟨#[45]⟩)] (.tup [.c (.str v1),.c (.bool true)])) (h2:(⟨#[45]⟩:BA).size+a0_1.size≤9223372036854775807) :Fn E z3f [.agg [.str a0_0,.str a0_1]] (.agg [.str v3,.str v1]):=by
 subst e1
 exact fnMk [.v (.tup [.c (.str v1),.c (.bool true)])] (by kernel_rfl) (by kernel_rfl) (aC h1 (aO h2)) (by kernel_rfl)
theorem y8v {a0_0 a0_1 v1:BA} (h1:Fn E P4 [.c (.str a0_0),.c (.str ⟨#[45]⟩)] (.tup [.c (.str v1),.c (.bool false)])) :Fn E z3f [.agg [.str a0_0,.str a0_1]] (.agg [.str a0_1,.str a0_0]):=by
 exact fnMk [.v (.tup [.c (.str v1),.c (.bool false)])] (by kernel_rfl) (by kernel_rfl) (aO h1) (by kernel_rfl)
theorem x4l {a0 v1 v2 v6:BA} (h1:Fn E O4 [.c (.str a0),.c (.str ⟨#[47]⟩)] (.tup [.c (.str v1),.c (.str v2),.c (.bool true)])) (h2:Fn E O2 [.c (.str v1)] (.c (.bool true))) (h3:¬ v1=(⟨#[48]⟩:BA)) (h4:Fn E C5 [.c (.str v2)] (.c (.bool true))) (h5:¬ v2=(⟨#[48]⟩:BA)) (h6:¬ v2=(⟨#[49]⟩:BA)) (h7:Fn E Y9 [.c (.str v1),.c (.str v2)] (.c (.str v6))) (h8:v6=(⟨#[49]⟩:BA)) :Fn E J3 [.c (.str a0)] (.tup [.agg [.str v1,.str v2],.c (.bool true)]):=by
 exact fnMk [.v (.tup [.c (.str v1),.c (.str v2),.c (.bool true)]),.v (.c (.bool true)),.t true,.v (.c (.bool true)),.t true,.t true,.v (.c (.str v6)),.t true] (by kernel_rfl) (by kernel_rfl) (aC h1 (aC h2 (aC (snT h3) (aC h4 (aC (snT h5) (aC (snT h6) (aC h7 (aO (seT h8))))))))) (by kernel_rfl)
theorem x4m {a0 v1 v2 v6:BA} (h1:Fn E O4 [.c (.str a0),.c (.str ⟨#[47]⟩)] (.tup [.c (.str v1),.c (.str v2),.c (.bool true)])) (h2:Fn E O2 [.c (.str v1)] (.c (.bool true))) (h3:¬ v1=(⟨#[48]⟩:BA)) (h4:Fn E C5 [.c (.str v2)] (.c (.bool true))) (h5:¬ v2=(⟨#[48]⟩:BA)) (h6:¬ v2=(⟨#[49]⟩:BA)) (h7:Fn E Y9 [.c (.str v1),.c (.str v2)] (.c (.str v6))) (h8:¬ v6=(⟨#[49]⟩:BA)) :Fn E J3 [.c (.str a0)] (.tup [.agg [.str v1,.str v2],.c (.bool false)]):=by
 exact fnMk [.v (.tup [.c (.str v1),.c (.str v2),.c (.bool true)]),.v (.c (.bool true)),.t true,.v (.c (.bool true)),.t true,.t true,.v (.c (.str v6)),.t false] (by kernel_rfl) (by kernel_rfl) (aC h1 (aC h2 (aC (snT h3) (aC h4 (aC (snT h5) (aC (snT h6) (aC h7 (aO (seF h8))))))))) (by kernel_rfl)
theorem x4n {a0 v1 v2:BA} (h1:Fn E O4 [.c (.str a0),.c (.str ⟨#[47]⟩)] (.tup [.c (.str v1),.c (.str v2),.c (.bool true)])) (h2:Fn E O2 [.c (.str v1)] (.c (.bool true))) (h3:¬ v1=(⟨#[48]⟩:BA)) (h4:Fn E C5 [.c (.str v2)] (.c (.bool true))) (h5:¬ v2=(⟨#[48]⟩:BA)) (h6:v2=(⟨#[49]⟩:BA)) :Fn E J3 [.c (.str a0)] (.tup [.agg [.str v1,.str v2],.c (.bool false)]):=by
 exact fnMk [.v (.tup [.c (.str v1),.c (.str v2),.c (.bool true)]),.v (.c (.bool true)),.t true,.v (.c (.bool true)),.t true,.t false] (by kernel_rfl) (by kernel_rfl) (aC h1 (aC h2 (aC (snT h3) (aC h4 (aC (snT h5) (aO (snF h6))))))) (by kernel_rfl)
theorem x4o {a0 v1 v2:BA} (h1:Fn E O4 [.c (.str a0),.c (.str ⟨#[47]⟩)] (.tup [.c (.str v1),.c (.str v2),.c (.bool true)])) (h2:Fn E O2 [.c (.str v1)] (.c (.bool true))) (h3:¬ v1=(⟨#[48]⟩:BA)) (h4:Fn E C5 [.c (.str v2)] (.c (.bool true))) (h5:v2=(⟨#[48]⟩:BA)) :Fn E J3 [.c (.str a0)] (.tup [.agg [.str v1,.str v2],.c (.bool false)]):=by
 exact fnMk [.v (.tup [.c (.str v1),.c (.str v2),.c (.bool true)]),.v (.c (.bool true)),.t true,.v (.c (.bool true)),.t false] (by kernel_rfl) (by kernel_rfl) (aC h1 (aC h2 (aC (snT h3) (aC h4 (aO (snF h5)))))) (by kernel_rfl)
theorem x4p {a0 v1 v2:BA} (h1:Fn E O4 [.c (.str a0),.c (.str ⟨#[47]⟩)] (.tup [.c (.str v1),.c (.str v2),.c (.bool true)])) (h2:Fn E O2 [.c (.str v1)] (.c (.bool true))) (h3:¬ v1=(⟨#[48]⟩:BA)) (h4:Fn E C5 [.c (.str v2)] (.c (.bool false))) :Fn E J3 [.c (.str a0)] (.tup [.agg [.str v1,.str v2],.c (.bool false)]):=by
 exact fnMk [.v (.tup [.c (.str v1),.c (.str v2),.c (.bool true)]),.v (.c (.bool true)),.t true,.v (.c (.bool false))] (by kernel_rfl) (by kernel_rfl) (aC h1 (aC h2 (aC (snT h3) (aO h4)))) (by kernel_rfl)
theorem x4q {a0 v1 v2:BA} (h1:Fn E O4 [.c (.str a0),.c (.str ⟨#[47]⟩)] (.tup [.c (.str v1),.c (.str v2),.c (.bool true)])) (h2:Fn E O2 [.c (.str v1)] (.c (.bool true))) (h3:v1=(⟨#[48]⟩:BA)) :Fn E J3 [.c (.str a0)] (.tup [.agg [.str v1,.str v2],.c (.bool false)]):=by
 exact fnMk [.v (.tup [.c (.str v1),.c (.str v2),.c (.bool true)]),.v (.c (.bool true)),.t false] (by kernel_rfl) (by kernel_rfl) (aC h1 (aC h2 (aO (snF h3)))) (by kernel_rfl)
theorem x4r {a0 v1 v2:BA} (h1:Fn E O4 [.c (.str a0),.c (.str ⟨#[47]⟩)] (.tup [.c (.str v1),.c (.str v2),.c (.bool true)])) (h2:Fn E O2 [.c (.str v1)] (.c (.bool false))) :Fn E J3 [.c (.str a0)] (.tup [.agg [.str v1,.str v2],.c (.bool false)]):=by
 exact fnMk [.v (.tup [.c (.str v1),.c (.str v2),.c (.bool true)]),.v (.c (.bool false))] (by kernel_rfl) (by kernel_rfl) (aC h1 (aO h2)) (by kernel_rfl)
theorem y2h {a0 v1 v2:BA} {v4:Bool} (h1:Fn E O4 [.c (.str a0),.c (.str ⟨#[47]⟩)] (.tup [.c (.str v1),.c (.str v2),.c (.bool false)])) (h2:Fn E O2 [.c (.str v1)] (.c (.bool v4))) :Fn E J3 [.c (.str a0)] (.tup [.agg [.str v1,.str ⟨#[49]⟩],.c (.bool v4)]):=by
 exact fnMk [.v (.tup [.c (.str v1),.c (.str v2),.c (.bool false)]),.v (.c (.bool v4))] (by kernel_rfl) (by kernel_rfl) (aC h1 (aO h2)) (by kernel_rfl)
theorem y8q {a0 a1 v1 v2 v3 v4:BA} {v5:Int} (h1:Fn E X9 [.c (.str a0),.c (.str a1)] (.tup [.agg [.str v1,.str v2],.agg [.str v3,.str v4],.c (.i64 v5)])) (h2:v5=0) (h3:a0=a1) :Fn E z1q [.c (.str a0),.c (.str a1)] (.tup [.c (.i64 0),.c (.i64 v5)]):=by
 exact fnMk [.v (.tup [.agg [.str v1,.str v2],.agg [.str v3,.str v4],.c (.i64 v5)]),.t false,.t true] (by kernel_rfl) (by kernel_rfl) (aC h1 (aC (bnF h2) (aO (seT h3)))) (by kernel_rfl)
theorem y8r {a0 a1 v1 v2 v3 v4:BA} {v5 v6 v7 v8 v9 v10:Int} (e1:IntKind.i64.wrap (v6 - v7)=v8) (e2:(if 1 < v8 then 1 else v8)=v9) (e3:(if v9 > (-1) then v9 else (-1))=v10) (h1:Fn E X9 [.c (.str a0),.c (.str a1)] (.tup [.agg [.str v1,.str v2],.agg [.str v3,.str v4],.c (.i64 v5)])) (h2:v5=0) (h3:¬ a0=a1) (h4:Fn E V0 [.agg [.str v1,.str v2]] (.c (.i64 v6))) (h5:Fn E V0 [.agg [.str v3,.str v4]] (.c (.i64 v7))) (h6:¬ v6=v7) :Fn E z1q [.c (.str a0),.c (.str a1)] (.tup [.c (.i64 v10),.c (.i64 0)]):=by
 subst e1 e2 e3
 exact fnMk [.v (.tup [.agg [.str v1,.str v2],.agg [.str v3,.str v4],.c (.i64 v5)]),.t false,.t false,.v (.c (.i64 v6)),.v (.c (.i64 v7)),.t true] (by kernel_rfl) (by kernel_rfl) (aC h1 (aC (bnF h2) (aC (seF h3) (aC h4 (aC h5 (aO (bnT h6))))))) (by kernel_rfl)
theorem y8s {a0 a1 v1 v2 v3 v4:BA} {v5 v6 v7:Int} {v8:BA} {v9:Int} {v10:BA} {v11 v12 v13:Int} (h1:Fn E X9 [.c (.str a0),.c (.str a1)] (.tup [.agg [.str v1,.str v2],.agg [.str v3,.str v4],.c (.i64 v5)])) (h2:v5=0) (h3:¬ a0=a1) (h4:Fn E V0 [.agg [.str v1,.str v2]] (.c (.i64 v6))) (h5:Fn E V0 [.agg [.str v3,.str v4]] (.c (.i64 v7))) (h6:v6=v7) (h7:Fn E V5 [.c (.str v1),.c (.str v4)] (.tup [.c (.str v8),.c (.i64 v9)])) (h8:Fn E V5 [.c (.str v3),.c (.str v2)] (.tup [.c (.str v10),.c (.i64 v11)])) (h9:Fn E z6y [.c (.str v8),.c (.str v10)] (.tup [.c (.i64 v12),.c (.i64 v13)])) :Fn E z1q [.c (.str a0),.c (.str a1)] (.tup [.c (.i64 v12),.c (.i64 v13)]):=by
 exact fnMk [.v (.tup [.agg [.str v1,.str v2],.agg [.str v3,.str v4],.c (.i64 v5)]),.t false,.t false,.v (.c (.i64 v6)),.v (.c (.i64 v7)),.t false,.v (.tup [.c (.str v8),.c (.i64 v9)]),.v (.tup [.c (.str v10),.c (.i64 v11)]),.v (.tup [.c (.i64 v12),.c (.i64 v13)])] (by kernel_rfl) (by kernel_rfl) (aC h1 (aC (bnF h2) (aC (seF h3) (aC h4 (aC h5 (aC (bnF h6) (aC h7 (aC h8 (aO h9))))))))) (by kernel_rfl)
theorem y8t {a0 a1 v1:BA} {v2:Int} {v3:BA} {v4:Int} (h1:Fn E y0b [.c (.str a0)] (.tup [.c (.str v1),.c (.i64 v2)])) (h2:Fn E y0e [.c (.str v1),.c (.str a1)] (.tup [.c (.str v3),.c (.i64 v4)])) :Fn E Y9 [.c (.str a0),.c (.str a1)] (.c (.str v3)):=by
 exact fnMk [.v (.tup [.c (.str v1),.c (.i64 v2)]),.v (.tup [.c (.str v3),.c (.i64 v4)])] (by kernel_rfl) (by kernel_rfl) (aC h1 (aO h2)) (by kernel_rfl)
theorem y4x {a0_0 a0_1:BA} {v1 v2:Int} (h1:Fn E z8h [.c (.str a0_0)] (.tup [.c (.i64 v1),.c (.i64 v2)])) :Fn E V0 [.agg [.str a0_0,.str a0_1]] (.c (.i64 v1)):=by
 exact fnMk [.v (.tup [.c (.i64 v1),.c (.i64 v2)])] (by kernel_rfl) (by kernel_rfl) (aO h1) (by kernel_rfl)
theorem x5z {a0 a1 v1:BA} {v2:Int} (h1:Fn E z1g [.c (.u8 45),.c (.str a0),.c (.str a1)] (.tup [.c (.str v1),.c (.i64 v2)])) :Fn E z8l [.c (.str a0),.c (.str a1)] (.tup [.c (.str v1),.c (.i64 v2)]):=by
 exact fnMk [.v (.tup [.c (.str v1),.c (.i64 v2)])] (by kernel_rfl) (by kernel_rfl) (aO h1) (by kernel_rfl)
theorem x5x {a0 a1 v1:BA} {v2:Int} (h1:Fn E z1g [.c (.u8 47),.c (.str a0),.c (.str a1)] (.tup [.c (.str v1),.c (.i64 v2)])) :Fn E z8j [.c (.str a0),.c (.str a1)] (.tup [.c (.str v1),.c (.i64 v2)]):=by
 exact fnMk [.v (.tup [.c (.str v1),.c (.i64 v2)])] (by kernel_rfl) (by kernel_rfl) (aO h1) (by kernel_rfl)
theorem x5y {a0 a1 v1:BA} {v2:Int} (h1:Fn E z1g [.c (.u8 42),.c (.str a0),.c (.str a1)] (.tup [.c (.str v1),.c (.i64 v2)])) :Fn E z8k [.c (.str a0),.c (.str a1)] (.tup [.c (.str v1),.c (.i64 v2)]):=by
 exact fnMk [.v (.tup [.c (.str v1),.c (.i64 v2)])] (by kernel_rfl) (by kernel_rfl) (aO h1) (by kernel_rfl)
theorem x5w {a0 a1 v1:BA} {v2:Int} (h1:Fn E z1g [.c (.u8 43),.c (.str a0),.c (.str a1)] (.tup [.c (.str v1),.c (.i64 v2)])) :Fn E z8i [.c (.str a0),.c (.str a1)] (.tup [.c (.str v1),.c (.i64 v2)]):=by
 exact fnMk [.v (.tup [.c (.str v1),.c (.i64 v2)])] (by kernel_rfl) (by kernel_rfl) (aO h1) (by kernel_rfl)
theorem y1m {a0 v1 v2:BA} {v3:Bool} (h1:Fn E J3 [.c (.str a0)] (.tup [.agg [.str v1,.str v2],.c (.bool v3)])) :Fn E z7j [.c (.str a0)] (.c (.bool v3)):=by
 exact fnMk [.v (.tup [.agg [.str v1,.str v2],.c (.bool v3)])] (by kernel_rfl) (by kernel_rfl) (aO h1) (by kernel_rfl)
end Gev
