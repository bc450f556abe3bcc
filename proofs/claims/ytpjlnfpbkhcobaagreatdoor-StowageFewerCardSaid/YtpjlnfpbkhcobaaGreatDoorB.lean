/- A part of the proof: see the last text of this claim. -/
import Derived.Test.YtpjlnfpbkhcobaaGreatDoorA
import Derived.Laws.IdiomCopy
import Derived.OrdersIn
import Derived.Orders
import Derived.Tactics
import Derived.Laws.StructEq
import Derived.Deep.Draws
import Derived.Below
import Derived.Test.YtpjlnfpbkhcobaaGreatDoorProg
import Derived.KernelRfl
set_option linter.unusedSectionVars false
set_option linter.unusedVariables false
set_option linter.unusedSimpArgs false
namespace Gev
open Go
variable {D:Tab} {B0:Nat} {Gd:World→Prop} {P:Program}
theorem x2o {Γ Γ':Ctx} (ht:Tr D Γ Γ') {v a:AV} {u:Ups} {r:List Nat} (h:y2n (lk Γ.objs) v=some (a,u,r)) (hu:∀ p∈u,lk Γ'.objs p.1=some p.2) {vc:Value} (hr:RepA D Γ vc v):RepA D Γ' vc a:=by
 unfold y2n at h
 split at h
 · cases h;exact ht.rep hr
 · cases h;exact ht.rep hr
 · cases h;exact ht.rep hr
 · split at h
   · rename_i e;cases h;exact .c (q7r ht e hu hr)
   · cases h
theorem RepA.mv_data {Γ:Ctx} {v:Value} {f:Nat} {ds:List AV} (h:RepA D Γ v (.mv f ds)):(AV.mv f ds).Data:=by
 cases h with
 | mv _ vs _ hl hd h=>exact .mv f ds hd
theorem q6j {objs:Objs} {v a:AV} {u:Ups} {r:List Nat} (h:y2n (lk objs) v=some (a,u,r)):Frz objs u:=by
 unfold y2n at h
 split at h
 · cases h;intro p hp;cases hp
 · cases h;intro p hp;cases hp
 · cases h;intro p hp;cases hp
 · split at h
   · rename_i e;cases h;exact q7p e
   · cases h
theorem y2o {objs:Objs}:∀ {vs avz:List AV} {u:Ups} {r:List Nat},Z4 (lk objs) vs=some (avz,u,r)→Frz objs u∧avz.length=vs.length∧∀ (i:Nat) v a,vs[i]?=some v→avz[i]?=some a→∃ u' r',y2n (lk objs) v=some (a,u',r')∧∀ p∈u',p∈u
 | [],avz,u,r,h=>by cases h;exact ⟨fun p hp=>by (cases hp),rfl,fun i v a h=>by simp at h⟩
 | v::vs,avz,u,r,h=>by
  simp only [Z4] at h
  cases h1:y2n (lk objs) v with
  | none=>rw [h1] at h;cases h
  | some x =>
   cases h2:Z4 (lk objs) vs with
   | none=>rw [h1,h2] at h;cases h
   | some y =>
    obtain ⟨d,u1,r1⟩:=x
    obtain ⟨ds,us,rs⟩:=y
    rw [h1,h2] at h
    cases h
    obtain ⟨f,l,g⟩:=y2o h2
    refine ⟨fun p hp=>?_,by simp [l],fun i v' a hv ha=>?_⟩
    · rcases List.mem_append.1 hp with hp | hp
      · exact q6j h1 p hp
      · exact f p hp
    · cases i with
      | zero=>simp at hv ha;subst hv;subst ha;exact ⟨u1,r1,h1,fun p hp=>by simp [hp]⟩
      | succ i =>
       obtain ⟨u',r',e,m⟩:=g i v' a (by simpa using hv) (by simpa using ha)
       exact ⟨u',r',e,fun p hp=>List.mem_append_right _ (m p hp)⟩
def putC (arr:Array Value):Nat→List Value→Array Value
 | _,[]=>arr
 | o,v::r=>putC (arr.setIfInBounds o v) (o+1) r
theorem j9z:∀ (vs:List Value) (o:Nat) (arr:Array Value),(putC arr o vs).size=arr.size
 | [],_,_=>rfl
 | v::r,o,arr=>by show (putC (arr.setIfInBounds o v) (o+1) r).size=_;rw [j9z];simp
theorem q3z:∀ (vs:List Value) (o:Nat) (arr:Array Value) (j:Nat),o+vs.length≤arr.size→(putC arr o vs)[j]?=if o≤j∧j<o+vs.length then vs[j-o]? else arr[j]?
 | [],o,arr,j,_=>by rw [if_neg (by simp only [List.length_nil];omega)];rfl
 | v::r,o,arr,j,h=>by
  show (putC (arr.setIfInBounds o v) (o+1) r)[j]?=_
  rw [List.length_cons] at h ⊢
  rw [q3z r (o+1) _ j (by simp;omega),Array.getElem?_setIfInBounds]
  by_cases e:o=j
  · subst e
    rw [if_neg (by omega),if_pos rfl,if_pos (by omega),if_pos (by omega),Nat.sub_self];rfl
  · rw [if_neg e]
    by_cases c:o+1≤j∧j<o+1+r.length
    · rw [if_pos c,if_pos (by omega),show j-o=(j-(o+1))+1 by omega,List.getElem?_cons_succ]
    · rw [if_neg c,if_neg (by omega)]
theorem q4q {w:World} {b:Nat} {arr:Array Value} {t:TypeId} {fr:Nat × Nat} (h:w.heap[b]?=some (.cells arr t fr)):w.setRow b arr=w:=by
 have e:(w.setRow b arr).heap=w.heap:=by
  apply Array.ext_getElem?
  intro j
  show (w.heap.modify b _)[j]?=_
  rw [Array.getElem?_modify]
  by_cases e:b=j
  · subst e;rw [if_pos rfl,h];rfl
  · rw [if_neg e]
 show ({ w with heap:=(w.setRow b arr).heap }:World)=w
 rw [e]
theorem v0c {w:World} {b o:Nat} {v:Value} {arr:Array Value} {t:TypeId} {fr:Nat × Nat} (h:w.heap[b]?=some (.cells arr t fr)):w.setCell ⟨b,o,none⟩ v=w.setRow b (arr.setIfInBounds o v):=by
 have e:(w.setCell ⟨b,o,none⟩ v).heap=(w.setRow b (arr.setIfInBounds o v)).heap:=by
  apply Array.ext_getElem?
  intro j
  show (w.heap.modify b _)[j]?=(w.heap.modify b _)[j]?
  rw [Array.getElem?_modify,Array.getElem?_modify]
  by_cases e:b=j
  · subst e;rw [if_pos rfl,if_pos rfl,h];rfl
  · rw [if_neg e,if_neg e]
 show ({ w with heap:=(w.setCell ⟨b,o,none⟩ v).heap }:World)={ w with heap:=(w.setRow b (arr.setIfInBounds o v)).heap }
 rw [e]
theorem v4j {w:World} {b:Nat} (c d:Array Value):(w.setRow b c).setRow b d=w.setRow b d:=by
 have e:((w.setRow b c).setRow b d).heap=(w.setRow b d).heap:=by
  apply Array.ext_getElem?
  intro j
  simp only [World.setRow,Array.getElem?_modify]
  by_cases e:b=j
  · subst e
    simp only [if_true]
    cases w.heap[b]? with
    | none=>rfl
    | some o=>cases o <;> rfl
  · simp only [if_neg e]
 show ({ w with heap:=((w.setRow b c).setRow b d).heap }:World)={ w with heap:=(w.setRow b d).heap }
 rw [e]
theorem j9b {b:Nat} {t:TypeId} {fr:Nat × Nat}:∀ (vs:List Value) (o:Nat) (w:World) (arr:Array Value),w.heap[b]?=some (.cells arr t fr)→w.setCells b o vs=w.setRow b (putC arr o vs)
 | [],o,w,arr,h=>(q4q h).symm
 | v::r,o,w,arr,h=>by
  show (w.setCell ⟨b,o,none⟩ v).setCells b (o+1) r=w.setRow b (putC (arr.setIfInBounds o v) (o+1) r)
  rw [v0c h,j9b r (o+1) _ _ (setRow_heap _ _ _ _ _ _ h),v4j]
theorem mid_eq {α:Type} {az bs cs:List α} {n m:Nat} (h1:az.length=n)(h2:bs.length=m):((az++bs++cs).drop n).take m=bs:=by
 subst h1
 subst h2
 rw [List.append_assoc,List.drop_left,List.take_left]
theorem v1t (hT:TabOk P D) {Γ:Ctx} (hG:Good D B0 Gd Γ) {ρ:Operand→AV} {ρc:Operand→Value} (hρ:∀ x,RepA D Γ (ρc x) (ρ x)) {o:Oper} {t:Nat} {x:Operand} {l off:Nat} {cs:List AV} {v:AV} {u:Ups} {r':List Nat} (ho:o.op=.load t x) (hx:ρ x=.ptr l off) (hg:lk Γ.objs l=some (.cells cs)) (h:j5v D (lk Γ.objs) t cs off=some (v,u,r')):G8 P D B0 Gd Γ ((execOp ρc o).run P) (.val v u (l::r')):=by
 unfold j5v at h
 cases hn:D.size t with
 | none=>rw [hn] at h;cases h
 | some n =>
  rw [hn] at h
  simp only at h
  by_cases hle:off+n≤cs.length
  · rw [if_pos hle] at h
    by_cases ha:D.isAgg t=true
    · rw [if_pos ha] at h
      cases hd:Z4 (lk Γ.objs) ((cs.drop off).take n) with
      | none=>rw [hd] at h;cases h
      | some cur =>
       obtain ⟨avs,u1,r1⟩:=cur
       rw [hd] at h
       simp only at h
       cases hds:asDs avs with
       | none=>rw [hds] at h;cases h
       | some ds =>
        rw [hds] at h
        cases h
        obtain ⟨f1,f2,f3⟩:=y2o hd
        obtain ⟨g1,g2⟩:=z9f u hG f1
        have hx1:=hρ x
        rw [hx] at hx1
        generalize hxv:ρc x=vx at hx1
        cases hx1 with
        | ptr _ _ b cs' hl hb =>
         rw [hg] at hl;cases hl
         obtain ⟨b',arr,ty,k1,k2,k3,k4⟩:=hG.ob l _ hg
         rw [hb] at k1;cases k1
         have hal:avs.length=n:=by rw [f2,List.length_take,List.length_drop];omega
         have htl:(cs.take off).length=off:=by rw [List.length_take];omega
         have hpa:k0a D t (cs.take off++avs++cs.drop (off+n)) off=some (.agg ds):=by
          unfold k0a
          rw [hn]
          simp only
          rw [if_pos (by simp only [List.length_append,htl,hal];omega),if_pos ha,mid_eq htl hal,hds]
         obtain ⟨vc,e1,e2⟩:=k6x hT (Γ:=⟨Γ.S,C3 Γ.objs u,Γ.w⟩) hpa k2 (by simp only [List.length_append,htl,hal,List.length_drop];omega) (by
          intro j v w1 hv hw
          by_cases c1:j<off
          · rw [List.append_assoc,List.getElem?_append_left (by omega),List.getElem?_take,if_pos c1] at hv
            exact g2.rep (k4 j v w1 hv hw)
          · by_cases c2:j<off+n
            · rw [List.append_assoc,List.getElem?_append_right (by omega),htl,List.getElem?_append_left (by omega)] at hv
              have hjc:j<cs.length:=by omega
              have hcv:((cs.drop off).take n)[j-off]?=some cs[j]:=by
               rw [List.getElem?_take,if_pos (by omega),List.getElem?_drop,show off+(j-off)=j by omega,List.getElem?_eq_getElem hjc]
              obtain ⟨u',r2,e,m⟩:=f3 (j-off) _ v hcv hv
              exact x2o g2 e (fun p hp=>k0y f1 (m p hp)) (k4 j _ w1 (List.getElem?_eq_getElem hjc) hw)
            · rw [List.getElem?_append_right (by simp only [List.length_append,htl,hal];omega)] at hv
              simp only [List.length_append,htl,hal] at hv
              rw [List.getElem?_drop,show off+n+(j-(off+n))=j by omega] at hv
              exact g2.rep (k4 j v w1 hv hw))
         refine ⟨vc,Γ.S,Γ.w,.inl ?_,g1,g2,e2⟩
         simp [execOp,ho,hxv,Instr.loadAt,Instr.sureAddr,e1]
    · rw [if_neg ha] at h;cases h
  · rw [if_neg hle] at h;cases h
section
variable (hT:TabOk P D) (hs:Stable B0 Gd) {Γ:Ctx} (hG:Good D B0 Gd Γ) {ρ:Operand→AV} {ρc:Operand→Value} (hρ:∀ x,RepA D Γ (ρc x) (ρ x))
include hT hs hG hρ
theorem j3k {o:Oper} {f:Nat} {cargs:Array Value} {avs:List AV} {os:List Orc} {r:Eff × List Orc × List Prop}
    (hrun:(∀ args w,(callFunc f args).run P w=.ok (.enter f args) w)→(execOp ρc o).run P Γ.w=.ok (.enter f cargs) Γ.w) (hsz:cargs.size=avs.length) (hargs:∀ (i:Nat) v a,cargs[i]?=some v→avs[i]?=some a→RepA D Γ v a)
    (h:y1w D (lk Γ.objs) f avs os=some r):G8 P D B0 Gd Γ ((execOp ρc o).run P) r.1:=by
 unfold y1w at h
 split at h
 · cases A5 h
   exact ⟨_,hrun,hsz,hargs⟩
 · cases hd:Z4 (lk Γ.objs) avs with
   | none=>rw [hd] at h;cases h
   | some x =>
    obtain ⟨ds,u,rr⟩:=x
    rw [hd] at h
    cases A5 h
    obtain ⟨k1,k2,k3⟩:=y2o hd
    obtain ⟨m1,m2⟩:=z9f u hG k1
    refine ⟨_,hrun,m1,m2,by rw [hsz,k2],fun i a ha=>x2p (fun v hv g es e=>?_) hd i a ha,fun i v a hv ha=>?_⟩
    · obtain ⟨k,hk⟩:=List.getElem?_of_mem hv
      have hkl:k<cargs.size:=by rw [hsz];exact (List.getElem?_eq_some_iff.1 hk).1
      have:=hargs k _ v (Array.getElem?_eq_getElem hkl) hk
      subst e
      exact this.mv_data
    · have hi:i<avs.length:=by rw [← k2];exact (List.getElem?_eq_some_iff.1 ha).1
      obtain ⟨u',r',e1,e2⟩:=k3 i _ a (List.getElem?_eq_getElem hi) ha
      exact x2o (Γ:=Γ) (Γ':=⟨Γ.S,C3 Γ.objs u,Γ.w⟩) m2 e1 (fun p hp=>k0y k1 (e2 p hp)) (hargs i v _ hv (List.getElem?_eq_getElem hi))
theorem k2h (args:Array Operand):∀ (i:Nat) v a,(args.map ρc)[i]?=some v→(args.toList.map ρ)[i]?=some a→RepA D Γ v a:=by
 intro i v a hv ha
 by_cases c:i<args.size
 · have hx:=List.getElem?_eq_getElem (l:=args.toList) (i:=i) (by simpa using c)
   rw [List.getElem?_map,hx] at ha
   rw [Array.getElem?_map,Array.getElem?_eq_getElem c] at hv
   cases ha
   cases hv
   exact hρ _
 · rw [Array.getElem?_eq_none (by simp;omega)] at hv
   cases hv
theorem v3w {o:Oper} {f:Nat} {cap:List AV} {g:Operand} {args:Array Operand} {ts:Array TypeId} {os:List Orc} {r:Eff × List Orc × List Prop} (ho:o.op=.call ⟨.value g,args,ts⟩) (hg:ρ g=.fn f cap)
    (h:y1w D (lk Γ.objs) f (args.toList.map ρ++cap) os=some r):G8 P D B0 Gd Γ ((execOp ρc o).run P) r.1:=by
 obtain ⟨vs,h1,h2,h3⟩:=RepA.fn_inv (hg ▸ hρ g)
 refine j3k hT hs hG hρ (cargs:=args.map ρc++vs.toArray) (fun he=>by simp [execOp,ho,resolve,h1,Deferred.ofValue,invoke,he]) (by simp [h2]) (fun i v a hv ha=>?_) h
 rw [Array.getElem?_append] at hv
 rw [List.getElem?_append] at ha
 simp only [Array.size_map,List.length_map,Array.length_toList] at hv ha
 by_cases c:i<args.size
 · rw [if_pos c] at hv ha
   exact k2h hT hs hG hρ args i v a hv ha
 · rw [if_neg c] at hv ha
   exact h3 _ v a (by simpa using hv) ha
theorem v1n {o:Oper} {f:Nat} {g:Operand} {args:Array Operand} {ts:Array TypeId} {os:List Orc} {r:Eff × List Orc × List Prop} (ho:o.op=.call ⟨.value g,args,ts⟩) (hg:ρ g=.c (.fn f))
    (h:y1w D (lk Γ.objs) f (args.toList.map ρ) os=some r):G8 P D B0 Gd Γ ((execOp ρc o).run P) r.1:=by
 have hx:=hρ g
 rw [hg] at hx
 generalize hv:ρc g=vg at hx
 cases hx with
 | c hd =>
  cases hd
  refine j3k hT hs hG hρ (cargs:=args.map ρc) (fun he=>by simp [execOp,ho,resolve,hv,Deferred.ofValue,invoke,he]) (by simp) (fun i v a hv ha=>?_) h
  exact k2h hT hs hG hρ args i v a hv ha
theorem v1o {o:Oper} {f:Nat} {ds:List AV} {g:Operand} {args:Array Operand} {ts:Array TypeId} {os:List Orc} {r:Eff × List Orc × List Prop} (ho:o.op=.call ⟨.value g,args,ts⟩) (hg:ρ g=.mv f ds)
    (h:y1w D (lk Γ.objs) f (ds++args.toList.map ρ) os=some r):G8 P D B0 Gd Γ ((execOp ρc o).run P) r.1:=by
 have hx:=hρ g
 rw [hg] at hx
 generalize hv:ρc g=vg at hx
 cases hx with
 | mv _ vs _ h2 hd h3 =>
  refine j3k hT hs hG hρ (cargs:=vs.toArray++args.map ρc) (fun he=>by simp [execOp,ho,resolve,hv,Deferred.ofValue,invoke,he]) (by simp [h2]) (fun i v a hv ha=>?_) h
  rw [Array.getElem?_append] at hv
  rw [List.getElem?_append] at ha
  simp only [List.size_toArray] at hv
  rw [← h2] at ha
  by_cases c:i<vs.length
  · rw [if_pos c] at hv ha
    exact h3 i v a (by simpa using hv) ha
  · rw [if_neg c] at hv ha
    exact k2h hT hs hG hρ args _ v a hv ha
theorem j8o {o:Oper} {f:Nat} {first cap:Array Operand} {ds:List AV} {u:Ups} {r:List Nat} (ho:o.op=.makeFunc (.func f) first cap) (hc:cap.isEmpty=true) (h:Z4 (lk Γ.objs) (first.toList.map ρ)=some (ds,u,r)):G8 P D B0 Gd Γ ((execOp ρc o).run P) (.val (.mv f ds) u r):=by
 have hc':cap=#[]:=Array.isEmpty_iff.1 hc
 obtain ⟨k1,k2,k3⟩:=y2o h
 obtain ⟨m1,m2⟩:=z9f u hG k1
 have hargs:=k2h hT hs hG hρ first
 have hlen:(first.toList.map ρc).length=ds.length:=by rw [k2];simp
 refine ⟨.func (.func f) (first.map ρc) #[],Γ.S,Γ.w,.inl (by simp [execOp,ho,hc',Instr.makeFunc]),m1,m2,?_⟩
 have:=RepA.mv (D:=D) (Γ:=⟨Γ.S,C3 Γ.objs u,Γ.w⟩) f (first.toList.map ρc) ds hlen (fun i a ha=>x2p (fun v hv g es e=>by
     obtain ⟨k,hk⟩:=List.getElem?_of_mem hv
     have hkl:k<(first.map ρc).size:=by have:=(List.getElem?_eq_some_iff.1 hk).1;simpa using this
     have:=hargs k _ v (Array.getElem?_eq_getElem hkl) hk
     subst e
     exact this.mv_data) h i a ha) (fun i v a hv ha=>by
     have hi:i<(first.toList.map ρ).length:=by rw [← k2];exact (List.getElem?_eq_some_iff.1 ha).1
     obtain ⟨u',r',e1,e2⟩:=k3 i _ a (List.getElem?_eq_getElem hi) ha
     exact x2o (Γ:=Γ) (Γ':=⟨Γ.S,C3 Γ.objs u,Γ.w⟩) m2 e1 (fun p hp=>k0y k1 (e2 p hp)) (hargs i v _ (by rw [← Array.getElem?_toList,Array.toList_map];exact hv) (List.getElem?_eq_getElem hi)))
 have e:(first.toList.map ρc).toArray=first.map ρc:=by rw [← Array.toList_map]
 rwa [e] at this
theorem op_len {o:Oper} {x:Operand} {ts:Array TypeId} {os:List Orc} {r:Eff × List Orc × List Prop} {fr:Nat} (ho:o.op=.call ⟨.builtin .len,#[x],ts⟩)
    (h:O9 D (lk Γ.objs) fr .len ts [ρ x] os=some r):G8 P D B0 Gd Γ ((execOp ρc o).run P) r.1:=by
 have fin:∀ (t:TypeId) (d:TypeDesc) (n:Nat),ts[0]?=some t→P.underlying t=some d→((d=.string∧∃ s,ρc x=.string s∧s.size=n)∨(∃ e A c,d=.slice e∧ρc x=.slice A n c))→(execOp ρc o).run P Γ.w=.ok (.value (.int .i64 n)) Γ.w:=by
  intro t d n h1 h2 h3
  rcases h3 with ⟨rfl,s,h4,rfl⟩ | ⟨e,A,c,rfl,h4⟩
  · simp [execOp,ho,resolve,invoke,builtin,Builtin.len_,h1,run_underlying h2,h4,goInt]
  · simp [execOp,ho,resolve,invoke,builtin,Builtin.len_,h1,run_underlying h2,h4,goInt]
 have hx:=hρ x
 generalize ρ x=av at h hx
 cases ht0:ts[0]? with
 | none =>
  simp only [O9,ht0] at h
  cases av with
  | c d=>cases d <;> cases h
  | _=>cases h
 | some t =>
 cases ht:D.ty t with
 | none =>
  simp only [O9,ht0,ht] at h
  cases av with
  | c d=>cases d <;> cases h
  | _=>cases h
 | some tt =>
 obtain ⟨sz,by',u,zz⟩:=tt
 obtain ⟨d,hu1,hu2⟩:=hT.und ht
 simp only [O9,ht0,ht] at h
 cases av with
 | c dv =>
  cases dv with
  | str s =>
   cases u with
   | str =>
    cases J6 h
    cases q0k hu2
    exact D3 hG (fin t _ s.size ht0 hu1 (.inl ⟨rfl,s,RepA.str_inv hx,rfl⟩)) (.c (.int _ _))
   | _=>cases h
  | list xs =>
   cases u with
   | slice e =>
    cases J6 h
    have hu:=z7x hu2
    subst hu
    generalize hxv:ρc x=vx at hx
    cases hx with
    | c hd =>
     cases hd with
     | list A c _ sz u hc hA hx2 hu hdd=>exact D3 hG (fin t _ xs.length ht0 hu1 (.inr ⟨e,A,c,rfl,hxv⟩)) (.c (.int _ _))
   | _=>cases h
  | _=>cases u <;> cases h
 | nils =>
  cases u with
  | slice e =>
   cases J6 h
   have hu:=z7x hu2
   subst hu
   exact D3 hG (fin t _ 0 ht0 hu1 (.inr ⟨e,none,0,rfl,RepA.nils_inv hx⟩)) (.c (.int _ _))
  | _=>cases h
 | frow vs =>
  cases u with
  | slice e =>
   cases J6 h
   have hu:=z7x hu2
   subst hu
   generalize hxv:ρc x=vx at hx
   cases hx with
   | frow a n c _ _ _ hl=>exact D3 hG (fin t _ vs.length ht0 hu1 (.inr ⟨e,some a,c,rfl,by rw [hxv,hl]⟩)) (.c (.int _ _))
  | _=>cases h
 | vec l len =>
  cases u with
  | slice e =>
   have hu:=z7x hu2
   subst hu
   simp only at h
   cases hlv:lk Γ.objs l with
   | none=>rw [hlv] at h;cases h
   | some ob =>
   rw [hlv] at h
   generalize hxv:ρc x=vx at hx
   cases ob with
   | vec e' xs =>
    cases A5 h
    cases hx with
    | vnil _ t' a1 a2=>exact D3 hG (fin t _ 0 ht0 hu1 (.inr ⟨e,none,0,rfl,hxv⟩)) (.c (.int _ _))
    | vec _ _ cap b t' ti xs arr a1 a2 a3 a4 a5 a6 a7=>exact D3 hG (fin t _ len ht0 hu1 (.inr ⟨e,_,cap,rfl,hxv⟩)) (.c (.int _ _))
    | fvec _ _ _ a1=>rw [hlv] at a1;cases a1
    | gone _ _ a1=>rw [hlv] at a1;cases a1
   | fro ys =>
    cases A5 h
    cases hx with
    | vnil _ t' a1 a2=>rw [hlv] at a1;cases a1
    | vec _ _ cap b t' ti xs arr a1=>rw [hlv] at a1;cases a1
    | fvec _ _ _ a1 a2 a3 =>
     rw [hlv] at a1;cases a1
     have hlen:(ys.take len).length=len:=by simp;omega
     generalize hzs:ys.take len=zs at a2
     rw [hzs] at hlen
     cases a2 with
     | list A c _ sz u hc hA hx2 hu hdd=>exact D3 hG (fin t _ len ht0 hu1 (.inr ⟨e,A,c,rfl,by rw [hxv,hlen]⟩)) (.c (.int _ _))
    | gone _ _ a1=>rw [hlv] at a1;cases a1
   | _=>cases h
  | _=>cases h
 | _=>cases u <;> cases h
theorem v1p {o:Oper} {x:Operand} {ts:Array TypeId} {e l lo hi t sz by':Nat} {zz:List DV} {e':Nat} {xs:List (List DV)} {ti:TI} (ho:o.op=.call ⟨.builtin .clear,#[x],ts⟩) (hx:ρ x=.vtl e l lo hi) (hl:lk Γ.objs l=some (.vec e' xs)) (he:D.ty e=some ti) (hts:ts.toList=[t]) (ht:D.ty t=some ⟨sz,by',.slice e,zz⟩)
    (h1:e'=e)(h2:ti.zero.length=ti.size)(h3:ti.size≠0):G8 P D B0 Gd Γ ((execOp ρc o).run P) (.val (.tup []) [(l,.vec e (xs.take lo++List.replicate (hi-lo) ti.zero++xs.drop hi))] [l]):=by
 subst h1
 obtain ⟨i,d,z,a1,a2,a3,a4,a5,a6,a7,a8⟩:=hT.ty e' ti he
 obtain ⟨z1,z2⟩:=z2l a7
 obtain ⟨dt,hu1,hu2⟩:=hT.und ht
 have hu:=z7x hu2
 subst hu
 have hzs:z.cells.size=ti.size:=by simp at z1;omega
 have hzv:∀ w,(zeroValue e').run P w=.ok z w:=fun w=>by simp [zeroValue,typeInfo,a1,a6]
 have ets:ts=#[t]:=by rw [← Array.toArray_toList (xs:=ts),hts]
 subst ets
 have hxr:=hρ x
 rw [hx] at hxr
 generalize hxv:ρc x=vx at hxr
 have hrow:=hG.ob l _ hl
 cases hxr with
 | vtl _ _ _ _ ti' ht' hw hlo hv =>
  rw [he] at ht';cases ht'
  obtain ⟨ti2,q0,q1,q2⟩:=hrow
  rw [he] at q0;cases q0
  have nothing:lo=hi→∀ A c,vx=.slice A 0 c→G8 P D B0 Gd Γ ((execOp ρc o).run P) (.val (.tup []) [(l,.vec e' (xs.take lo++List.replicate (hi-lo) ti.zero++xs.drop hi))] [l]):=by
   intro hlh A c hvx
   subst hlh
   rw [Nat.sub_self,List.replicate_zero,List.append_nil,List.take_append_drop]
   have hr:(execOp ρc o).run P Γ.w=.ok (.value (.tuple #[])) Γ.w:=by
    simp [execOp,ho,resolve,invoke,builtin,hxv,hvx,Builtin.clear_,run_underlying hu1]
    cases A <;> simp
   have hset:C3 Γ.objs [(l,.vec e' xs)]=Γ.objs:=j6i hl
   refine ⟨.tuple #[],Γ.S,Γ.w,.inl hr,?_,?_,?_⟩
   · rw [hset];exact hG
   · rw [hset];exact Tr.refl _
   · exact .tup [] [] rfl fun i v a h=>by simp at h
  cases hw with
  | vnil _ t' b1 b2 =>
   obtain rfl:lo=0:=by omega
   exact nothing rfl none 0 (by rw [hv];simp [k8y])
  | fvec _ _ _ b1=>rw [hl] at b1;cases b1
  | gone _ _ b1=>rw [hl] at b1;cases b1
  | vec _ _ cap b t' ti3 ys arr b1 b2 b3 b4 b5 b6 b7 =>
   rw [hl] at b1;cases b1
   rw [he] at b2;cases b2
   by_cases hlh:lo=hi
   · exact nothing hlh _ _ (by rw [hv];simp only [k8y];rw [show hi-lo=0 by omega])
   · have hclt:¬ cap=lo:=by omega
     have hvx:vx=.slice (some ⟨b,lo*ti.size,none⟩) (hi-lo) (cap-lo):=by
      rw [hv];simp only [k8y,if_neg hclt,Option.map_some,add_plain,Nat.zero_add]
     have hzl:(Builtin.zeroCells z.cells (hi-lo)).toList.length=(hi-lo)*ti.size:=by simp [Builtin.zeroCells,hzs]
     have hzg:∀ j v,(Builtin.zeroCells z.cells (hi-lo)).toList[j]?=some v→z.cells[j % ti.size]?=some v:=fun j v hj=>by
      have hjl:=(List.getElem?_eq_some_iff.1 hj).1
      rw [hzl] at hjl
      simp only [Builtin.zeroCells,Array.getElem?_toList,Array.getElem?_map,Array.getElem?_range] at hj
      rw [if_pos (by rw [hzs];exact hjl)] at hj
      simp only [Option.map_some,hzs] at hj
      have hm:j % ti.size<z.cells.size:=by rw [hzs];exact Nat.mod_lt _ (Nat.pos_of_ne_zero h3)
      rw [Array.getElem?_eq_getElem hm]
      rw [getElem!_pos z.cells _ hm] at hj
      exact hj
     have hcap:hi*ti.size≤arr.size:=by rw [b6];exact Nat.mul_le_mul_right _ (by omega)
     have hsum:lo*ti.size+(hi-lo)*ti.size=hi*ti.size:=by rw [← Nat.add_mul];congr 1;omega
     have hst:=run_storeCells_cells (P:=P) b (lo*ti.size) (Builtin.zeroCells z.cells (hi-lo)).toList 0 Γ.w
      (fun j hj=>by
       rw [hzl] at hj
       rw [y1u b5,Array.getElem?_eq_getElem (by omega)];rfl)
      (fun j hj=>by simp [World.frozen?,b5])
      (fun v hv'=>by
       obtain ⟨j,hj⟩:=List.getElem?_of_mem hv'
       have hzj:=hzg j v hj
       have hm:j % ti.size<ti.zero.length:=by rw [h2];exact Nat.mod_lt _ (Nat.pos_of_ne_zero h3)
       exact y4l (z1f (z2 _ v _ (by simpa using hzj) (List.getElem?_eq_getElem hm)) Γ.w Γ.own))
     rw [Nat.add_zero,j9b _ _ _ _ b5] at hst
     have hr:(execOp ρc o).run P Γ.w=.ok (.value (.tuple #[])) (Γ.w.setRow b (putC arr (lo*ti.size) (Builtin.zeroCells z.cells (hi-lo)).toList)):=by
      obtain ⟨m,hm⟩:∃ m,hi-lo=m+1:=⟨hi-lo-1,by omega⟩
      rw [hm] at hst hvx ⊢
      simp [execOp,ho,resolve,invoke,builtin,hxv,hvx,Builtin.clear_,run_underlying hu1,hzv,hst]
     obtain ⟨g1,g2⟩:=v2y hs hG hl he b3 b5 (ys:=xs.take lo++List.replicate (hi-lo) ti.zero++xs.drop hi) (arr':=putC arr (lo*ti.size) (Builtin.zeroCells z.cells (hi-lo)).toList) (j9z _ _ _) (by simp;omega) (fun y hy=>by
         rcases List.mem_append.1 hy with hy | hy
         · rcases List.mem_append.1 hy with hy | hy
           · exact q1 y (List.mem_of_mem_take hy)
           · rw [List.eq_of_mem_replicate hy];exact h2
         · exact q1 y (List.mem_of_mem_drop hy)) (fun k y j d u c1 c2 c3=>by
      obtain ⟨c4,_⟩ | ⟨b',arr2,cap2,c4,c5,c6,c7,c8⟩:=q2
      · rw [b3] at c4;cases c4
      rw [b3] at c4;cases c4
      rw [b5] at c5;cases c5
      rw [q3z _ _ _ _ (by rw [hzl];omega),hzl,hsum] at c3
      have hyl:y.length=ti.size:=by
       have hy:=List.mem_of_getElem? c1
       rcases List.mem_append.1 hy with hy | hy
       · rcases List.mem_append.1 hy with hy | hy
         · exact q1 y (List.mem_of_mem_take hy)
         · rw [List.eq_of_mem_replicate hy];exact h2
       · exact q1 y (List.mem_of_mem_drop hy)
      have hjl:j<ti.size:=by rw [← hyl];exact (List.getElem?_eq_some_iff.1 c2).1
      have htl:(xs.take lo).length=lo:=by rw [List.length_take];omega
      by_cases k1:k<lo
      · have:=z1c k1 hjl
        rw [if_neg (by omega)] at c3
        rw [List.append_assoc,List.getElem?_append_left (by omega),List.getElem?_take,if_pos k1] at c1
        exact c8 k y j d u c1 c2 c3
      · by_cases k2:k<hi
        · have h5:=z1c k2 hjl
          have h6:lo*ti.size≤k*ti.size:=Nat.mul_le_mul_right _ (by omega)
          rw [if_pos (by omega)] at c3
          rw [List.append_assoc,List.getElem?_append_right (by omega),htl,List.getElem?_append_left (by simp;omega),List.getElem?_replicate,if_pos (by omega)] at c1
          cases c1
          have hzj:=hzg _ u c3
          rw [show k*ti.size+j-lo*ti.size=j+(k-lo)*ti.size by rw [Nat.sub_mul];omega,Nat.add_mul_mod_self_right,Nat.mod_eq_of_lt hjl] at hzj
          exact z1f (z2 j u d (by simpa using hzj) c2) _ _
        · have h6:hi*ti.size≤k*ti.size:=Nat.mul_le_mul_right _ (by omega)
          rw [if_neg (by omega)] at c3
          rw [List.getElem?_append_right (by simp;omega)] at c1
          simp only [List.length_append,htl,List.length_replicate] at c1
          rw [List.getElem?_drop,show hi+(k-(lo+(hi-lo)))=k by omega] at c1
          exact c8 k y j d u c1 c2 c3)
     exact ⟨.tuple #[],Γ.S,_,.inl hr,g1,g2,.tup [] [] rfl fun i v a h=>by simp at h⟩
theorem k0x {f:Int→Int→Int} {g:Value→Value→Sem Value} (hg:∀ k a k' b,(g (.int k a) (.int k' b)).run P Γ.w=.ok (.int k (f a b)) Γ.w) {k:IntKind}:∀ (xs:List Operand) (a:Int) (v:AV),k6r f k a (xs.map ρ)=some v →
    ∃ n,v=.c (.int k n)∧((xs.map ρc).foldlM g (.int k a)).run P Γ.w=.ok (.int k n) Γ.w
 | [],a,v,h=>by cases h;exact ⟨a,rfl,rfl⟩
 | x::xs,a,v,h=>by
  have hx:=hρ x
  simp only [List.map_cons] at h
  generalize hxa:ρ x=av at h hx
  cases av with
  | c d =>
   cases d with
   | int k' b =>
    obtain ⟨n,h1,h2⟩:=k0x hg xs (f a b) v h
    refine ⟨n,h1,?_⟩
    simp only [List.map_cons,List.foldlM_cons,RepA.int_inv hx,Sem.run_bind,hg,Result.andThen_ok]
    exact h2
   | _=>cases h
  | _=>cases h
theorem op_max {o:Oper} {x:Operand} {xs:List Operand} {args:Array Operand} {ts:Array TypeId} {k:IntKind} {a:Int} {v:AV} (ho:o.op=.call ⟨.builtin .max,args,ts⟩) (ha:args.toList=x::xs) (hx:ρ x=.c (.int k a))
    (h:k6r (fun a b=>if b>a then b else a) k a (xs.map ρ)=some v):G8 P D B0 Gd Γ ((execOp ρc o).run P) (.val v [] []):=by
 obtain ⟨n,rfl,h2⟩:=k0x hT hs hG hρ (g:=Builtin.max2) (fun k a k' b=>rfl) xs a v h
 refine D3 hG (vc:=.int k n) ?_ (.c (.int _ _))
 have hxi:ρc x=.int k a:=RepA.int_inv (hx ▸ hρ x)
 have e:List.map ρc args.toList=.int k a::xs.map ρc:=by rw [ha,List.map_cons,hxi]
 simp [execOp,ho,resolve,invoke,builtin,Builtin.max_,e,h2]
theorem op_min {o:Oper} {x:Operand} {xs:List Operand} {args:Array Operand} {ts:Array TypeId} {k:IntKind} {a:Int} {v:AV} (ho:o.op=.call ⟨.builtin .min,args,ts⟩) (ha:args.toList=x::xs) (hx:ρ x=.c (.int k a))
    (h:k6r (fun a b=>if b<a then b else a) k a (xs.map ρ)=some v):G8 P D B0 Gd Γ ((execOp ρc o).run P) (.val v [] []):=by
 obtain ⟨n,rfl,h2⟩:=k0x hT hs hG hρ (g:=Builtin.min2) (fun k a k' b=>rfl) xs a v h
 refine D3 hG (vc:=.int k n) ?_ (.c (.int _ _))
 have hxi:ρc x=.int k a:=RepA.int_inv (hx ▸ hρ x)
 have e:List.map ρc args.toList=.int k a::xs.map ρc:=by rw [ha,List.map_cons,hxi]
 simp [execOp,ho,resolve,invoke,builtin,Builtin.min_,e,h2]
end
theorem j9u (hT:TabOk P D) {Γ:Ctx} {t off b n:Nat} {cs:List AV} (hn:D.size t=some n) (ha:D.isAgg t=true) (hle:off+n≤cs.length) (hall:∀ v∈(cs.drop off).take n,v.holds=true∧v.alive (lk Γ.objs)=true) {arr:Array Value} {ty:TypeId} {fr:Nat × Nat} (k2:Γ.w.heap[b]?=some (.cells arr ty fr)) (k3:arr.size=cs.length)
    (k4:∀ (j:Nat) v u,cs[j]?=some v→arr[j]?=some u→RepA D Γ u v):∃ vc,(loadVar t ⟨b,off,none⟩).run P Γ.w=.ok vc Γ.w∧RepA D Γ vc (.agv ((cs.drop off).take n)):=by
 obtain ⟨i,hi,hin⟩:=hT.size hn
 have hf:∀ j,j<n→Γ.w.cell? ((⟨b,off,none⟩:Addr).add j)=some (arr[off+j]?.getD undef):=by
  intro j hj
  rw [add_plain,y1u k2,Array.getElem?_eq_getElem (show off+j<arr.size by omega)]
  rfl
 have hget:∀ (j:Nat) u a,(((List.range n).map fun j=>arr[off+j]?.getD undef).toArray)[j]?=some u→((cs.drop off).take n)[j]?=some a→RepA D Γ u a∧a∈(cs.drop off).take n:=by
  intro j u a hu hd
  have hm:=List.mem_of_getElem? hd
  have hj:j<n:=by
   have:=(List.getElem?_eq_some_iff.1 hd).1
   simp at this;omega
  rw [List.getElem?_take,if_pos hj,List.getElem?_drop] at hd
  have hlt:=(List.getElem?_eq_some_iff.1 hd).1
  simp [hj] at hu
  rw [Array.getElem?_eq_getElem (show off+j<arr.size by omega)] at hu
  simp at hu
  exact ⟨k4 (off+j) a u hd (by rw [Array.getElem?_eq_getElem (show off+j<arr.size by omega),hu]),hm⟩
 have hsz:(((List.range n).map fun j=>arr[off+j]?.getD undef).toArray).size=((cs.drop off).take n).length:=by simp;omega
 refine ⟨.agg ((List.range n).map fun j=>arr[off+j]?.getD undef).toArray,?_,.agv _ _ hsz (fun u hu=>?_) fun j u a hu hd=>(hget j u a hu hd).1⟩
 · unfold loadVar
   rw [Sem.run_bind,y8j hT hn]
   simp only [Result.andThen_ok,ha,if_true]
   rw [Sem.run_bind,z8r hi]
   simp only [Result.andThen_ok,hin]
   rw [Sem.run_bind,run_loadCells _ _ _ _ hf]
   rfl
 · obtain ⟨j,hj⟩:=List.getElem?_of_mem hu
   have hj':(((List.range n).map fun j=>arr[off+j]?.getD undef).toArray)[j]?=some u:=by rw [← Array.getElem?_toList];exact hj
   have hlt:=(Array.getElem?_eq_some_iff.1 hj').1
   obtain ⟨g1,g2⟩:=hget j u _ hj' (List.getElem?_eq_getElem (by omega))
   have:=hall _ g2
   obtain ⟨d1,d2⟩:=x1l this.2
   exact (j3a g1 this.1 d1 d2).1
theorem v1u (hT:TabOk P D) {Γ:Ctx} (hG:Good D B0 Gd Γ) {ρ:Operand→AV} {ρc:Operand→Value} (hρ:∀ x,RepA D Γ (ρc x) (ρ x)) {o:Oper} {t:Nat} {x:Operand} {os:List Orc} {r:Eff × List Orc × List Prop} (ho:o.op=.load t x) (h:y9w D (lk Γ.objs) t (ρ x) os=some r) :
    G8 P D B0 Gd Γ ((execOp ρc o).run P) r.1:=by
 have hx:=hρ x
 generalize ρ x=av at h hx
 cases av with
 | ptr l off =>
  simp only [y9w] at h
  cases hg:lk Γ.objs l with
  | none=>rw [hg] at h;cases h
  | some ob =>
   rw [hg] at h
   cases ob with
   | cells cs =>
    cases hn:D.size t with
    | none=>rw [hn] at h;cases h
    | some n =>
     rw [hn] at h
     simp only at h
     obtain ⟨_,os1,p1,b1,os2,q1,h1,h2,rfl⟩:=bind_some h
     obtain ⟨k1,e1⟩:=G4 h1
     cases e1
     cases A5 h2
     simp only [Bool.and_eq_true,decide_eq_true_eq,List.all_eq_true] at k1
     obtain ⟨⟨ha,hle⟩,hall⟩:=k1
     generalize hx':ρc x=vx at hx
     cases hx with
     | ptr _ _ b cs' hl hb =>
      rw [hg] at hl;cases hl
      obtain ⟨b',arr,ty,k1,k2,k3,k4⟩:=hG.ob l _ hg
      rw [hb] at k1;cases k1
      obtain ⟨vc,hrun,hr⟩:=j9u (P:=P) hT hn ha hle hall k2 k3 k4
      exact D3 hG (by simp [execOp,ho,hx',Instr.loadAt,Instr.sureAddr,hrun]) hr
   | _=>cases h
 | _=>cases h
theorem v3y (hT:TabOk P D) {Γ:Ctx} (hG:Good D B0 Gd Γ) {ρ:Operand→AV} {ρc:Operand→Value} (hρ:∀ x,RepA D Γ (ρc x) (ρ x)) {o:Oper} {t:Nat} {x:Operand} {os:List Orc} {r:Eff × List Orc × List Prop} (ho:o.op=.load t x) (h:x7l D (lk Γ.objs) t (ρ x) os=some r) (hp:All r.2.2) :
    G8 P D B0 Gd Γ ((execOp ρc o).run P) r.1:=by
 have h0:z3h D (lk Γ.objs) t (ρ x) os=some r→G8 P D B0 Gd Γ ((execOp ρc o).run P) r.1:=fun h=>v1s hT hG hρ ho h hp fun l off cs v u r' hx hl hF=>v1t hT hG hρ ho hx hl hF
 unfold x7l at h
 cases os with
 | nil=>exact h0 h
 | cons q os =>
  cases q with
  | tv =>
   simp only at h
   cases hc:D.isAgg t with
   | true=>rw [hc] at h;exact v1u hT hG hρ ho h
   | false=>rw [hc] at h;exact h0 h
  | _=>exact h0 h
end Gev
namespace Gev
open Go
variable {D:Tab} {B0:Nat} {Gd:World→Prop} {P:Program}
section
variable (hT:TabOk P D) (hs:Stable B0 Gd) {Γ:Ctx} (hG:Good D B0 Gd Γ) {ρ:Operand→AV} {ρc:Operand→Value} (hρ:∀ x,RepA D Γ (ρc x) (ρ x))
include hT hs hG hρ
theorem v3o {o:Oper} {fr:Nat} (hfr:Z6 D o.op=true→fr<Γ.objs.length∧lk Γ.objs fr=none) {os:List Orc} {r:Eff × List Orc × List Prop} (h:eff D ρ (lk Γ.objs) fr o.op os=some r) (hp:All r.2.2) :
    G8 P D B0 Gd Γ ((execOp ρc o).run P) r.1:=by
 cases ho:o.op with
 | move x=>rw [ho] at h;cases J6 h;exact q7f hG hρ (.inl ho)
 | assign x=>rw [ho] at h;cases J6 h;exact q7f hG hρ (.inr ho)
 | pick c a b =>
  rw [ho] at h
  simp only [eff] at h
  cases hc:ρ c with
  | c d =>
   rw [hc] at h
   cases d with
   | bool t =>
    obtain ⟨t',os1,p1,b1,os2,q1,h1,h2,rfl⟩:=bind_some h
    cases k8z h1
    cases J6 h2
    exact v3z hG hρ ho hc
   | _=>cases h
  | _=>rw [hc] at h;cases h
 | alloc t =>
  obtain ⟨hf,hn⟩:=hfr (by rw [ho];rfl)
  rw [ho] at h
  simp only [eff] at h
  cases ht:D.ty t with
  | none=>rw [ht] at h;cases h
  | some ti =>
   rw [ht] at h
   cases A5 h
   exact v1k hT hs hG hρ hf hn ho ht
 | box t x =>
  obtain ⟨hf,hn⟩:=hfr (by rw [ho];rfl)
  exact op_box hT hs hG hρ hf hn ho h
 | build t parts =>
  · skip
    rw [ho] at h
    simp only [eff] at h
    cases ht:D.ty t with
    | none=>rw [ht] at h;cases h
    | some ti =>
     rw [ht] at h
     have new:∀ os,(do
         sure (D.isAgg t)
         let vs ← lift (x2x (place D t) (lk Γ.objs) (ti.zero.map fun | .list _=>.nils | d=>.c d) (parts.toList.map fun p=>(p.1,ρ p.2)))
         pure (.val (.agv vs) [] ((parts.toList.map fun p=>(p.1,ρ p.2)).flatMap fun p=>p.2.rd)):M Eff) os=some r→G8 P D B0 Gd Γ ((execOp ρc o).run P) r.1:=by
      intro os h
      obtain ⟨_,os1,p1,b1,os2,q1,h1,h2,rfl⟩:=bind_some h
      obtain ⟨k1,e1⟩:=G4 h1
      cases e1
      obtain ⟨x,os3,p3,b3,os4,q3,h3,h4,e4⟩:=bind_some h2
      cases e4
      obtain ⟨x',h5,e5⟩:=K4 h3
      cases e5
      cases A5 h4
      exact q8t hT hs hG hρ ho ht k1 h5
     have old:∀ os,(do
         sure (D.isAgg t)
         let (cs,u,r) ← lift (y1f (place D t) (lk Γ.objs) ti.zero (parts.toList.map fun p=>(p.1,ρ p.2)))
         pure (.val (.agg cs) u r):M Eff) os=some r→G8 P D B0 Gd Γ ((execOp ρc o).run P) r.1:=by
      intro os h
      obtain ⟨_,os1,p1,b1,os2,q1,h1,h2,rfl⟩:=bind_some h
      obtain ⟨k1,e1⟩:=G4 h1
      cases e1
      obtain ⟨x,os3,p3,b3,os4,q3,h3,h4,e4⟩:=bind_some h2
      cases e4
      obtain ⟨x',h5,e5⟩:=K4 h3
      cases e5
      obtain ⟨cs,u,r⟩:=x
      cases A5 h4
      exact v1m hT hs hG hρ ho ht k1 h5
     cases os with
     | nil=>exact old _ h
     | cons q os=>cases q <;> first | exact new _ h | exact old _ h
 | buildSlice t len parts =>
  obtain ⟨hf,hn⟩:=hfr (by rw [ho];rfl)
  rw [ho] at h
  simp only [eff] at h
  cases ht:D.ty t with
  | none=>rw [ht] at h;cases h
  | some tt =>
   obtain ⟨sz,by',u,zz⟩:=tt
   rw [ht] at h
   cases u with
   | slice e =>
    simp only at h
    cases he:D.ty e with
    | none=>rw [he] at h;cases h
    | some ti =>
     rw [he] at h
     cases hca:(parts.toList.any fun p=>(ρ p.2).caps) with
     | true =>
      rw [hca] at h
      obtain ⟨_,os1,p1,b1,os2,q1,h1,h2,rfl⟩:=bind_some h
      obtain ⟨k1,e1⟩:=G4 h1
      cases e1
      cases A5 h2
      simp only [Bool.and_eq_true,decide_eq_true_eq,beq_iff_eq,List.all_eq_true] at k1
      exact v3x hT hs hG hρ hf hn ho ht he k1.1.1.1 k1.1.1.2 k1.1.2 k1.2 (fun e0=>by
       subst e0
       have:=k1.1.2
       rw [List.range_zero,List.map_eq_nil_iff] at this
       rw [this] at hca
       cases hca)
     | false =>
      rw [hca] at h
      obtain ⟨_,os1,p1,b1,os2,q1,h1,h2,rfl⟩:=bind_some h
      obtain ⟨k1,e1⟩:=G4 h1
      cases e1
      obtain ⟨x,os3,p3,b3,os4,q3,h3,h4,e4⟩:=bind_some h2
      cases e4
      obtain ⟨x',h5,e5⟩:=K4 h3
      cases e5
      obtain ⟨cs,u,r⟩:=x
      cases A5 h4
      simp only [Bool.and_eq_true,decide_eq_true_eq,beq_iff_eq,bne_iff_ne] at k1
      exact j8n hT hs hG hρ hf hn ho ht he k1.1.1 k1.1.2 k1.2 h5
   | _=>cases h
 | load t a=>rw [ho] at h;exact v3y hT hG hρ ho h hp
 | store t a x=>rw [ho] at h;exact v1w hT hs hG hρ ho h hp
 | nilCheck x =>
  rw [ho] at h
  simp only [eff] at h
  cases hx:ρ x with
  | ptr l off =>
   rw [hx] at h
   cases J6 h
   rw [← hx]
   refine k9h hG hρ ho fun v hv=>?_
   rw [hx] at hv
   cases hv with
   | ptr _ _ b cs a1 a2=>exact ⟨_,rfl⟩
  | eptr cs =>
   rw [hx] at h
   cases J6 h
   rw [← hx]
   refine k9h hG hρ ho fun v hv=>?_
   rw [hx] at hv
   cases hv with
   | eptr a _ _ _ _=>exact ⟨_,rfl⟩
  | _=>rw [hx] at h;cases h
 | binOp op t x y z =>
  rw [ho] at h
  obtain ⟨d,os1,p1,b1,os2,q1,h1,h2,rfl⟩:=bind_some h
  obtain ⟨d2,os3,p3,b3,os4,q3,h3,h4,e4⟩:=bind_some h2
  cases e4
  cases J6 h4
  have h5:=q4t h3 (all_append (all_append hp).2).1
  simp only at h5
  rw [h5]
  exact v1l hT hs hG hρ ho h1 (all_append hp).1
 | unOp op t x =>
  rw [ho] at h
  simp only [eff] at h
  cases hx:ρ x with
  | c d =>
   rw [hx] at h
   cases d with
   | bool b =>
    cases op with
    | not=>cases J6 h;exact op_not hG hρ ho hx
    | _=>cases h
   | int k n =>
    cases op with
    | neg=>cases J6 h;exact op_neg hG hρ ho hx
    | _=>cases h
   | _=>cases op <;> cases h
  | _=>rw [hx] at h;cases op <;> cases h
 | convert src dst x=>rw [ho] at h;exact q5z hT hs hG hρ ho h hp
 | makeFunc fn first cap =>
  rw [ho] at h
  cases fn with
  | func f =>
   simp only [eff] at h
   split at h
   · rename_i k1
     cases J6 h
     exact q3u hG hρ ho k1
   · obtain ⟨_,os1,p1,b1,os2,q1,h1,h2,rfl⟩:=bind_some h
     obtain ⟨k1,e1⟩:=G4 h1
     cases e1
     obtain ⟨x,os3,p3,b3,os4,q3,h3,h4,e4⟩:=bind_some h2
     cases e4
     obtain ⟨x',h5,e5⟩:=K4 h3
     cases e5
     obtain ⟨ds,u,r⟩:=x
     cases A5 h4
     exact j8o hT hs hG hρ ho k1 h5
  | _=>cases h
 | makeSlice t x y =>
  obtain ⟨hf,hn⟩:=hfr (by rw [ho];rfl)
  rw [ho] at h
  simp only [eff] at h
  cases ht:D.ty t with
  | none=>rw [ht] at h;cases h
  | some tt =>
   obtain ⟨sz,by',u,zz⟩:=tt
   rw [ht] at h
   cases u with
   | slice e =>
    cases hx:ρ x with
    | c dx =>
     cases dx with
     | int kx n =>
      cases hy:ρ y with
      | c dy =>
       cases dy with
       | int ky m =>
        rw [hx,hy] at h
        cases kx with
        | i64 =>
         cases ky with
         | i64 =>
          simp only at h
          cases he:D.ty e with
          | none=>rw [he] at h;cases h
          | some ti =>
           rw [he] at h
           obtain ⟨_,os1,p1,b1,os2,q1,h1,h2,rfl⟩:=bind_some h
           obtain ⟨k1,e1⟩:=G4 h1
           cases e1
           obtain ⟨_,os3,p3,b3,os4,q3,h3,h4,e4⟩:=bind_some h2
           cases e4
           cases K5 h3
           cases A5 h4
           exact q1z hT hs hG hρ hf hn ho ht he hx hy (by simpa using k1) (by simpa [All] using hp)
         | _=>cases h
        | _=>cases ky <;> cases h
       | _=>rw [hx,hy] at h;cases kx <;> cases h
      | _=>rw [hx,hy] at h;cases kx <;> cases h
     | _=>rw [hx] at h;cases h
    | _=>rw [hx] at h;cases h
   | _=>cases h
 | slice t x lo hi mx =>
  rw [ho] at h
  cases mx with
  | none =>
   obtain ⟨l,os1,p1,b1,os2,q1,h1,h2,rfl⟩:=bind_some h
   obtain ⟨_,k1,e1⟩:=K4 h1
   cases e1
   obtain ⟨hh,os3,p3,b3,os4,q3,h3,h4,e4⟩:=bind_some h2
   cases e4
   obtain ⟨_,k3,e3⟩:=K4 h3
   cases e3
   exact v1v hT hs hG hρ ho (j5u hρ k1) (j5u hρ k3) h4 (by simpa using hp)
  | some _=>cases h
 | fieldAddr t x f=>rw [ho] at h;exact v1q hT hG hρ ho h
 | field t x f =>
  rw [ho] at h
  simp only [eff] at h
  cases hx:ρ x with
  | agg cs =>
   rw [hx] at h
   cases ht:D.ty t with
   | none=>rw [ht] at h;cases h
   | some tt =>
    obtain ⟨sz,by',u,zz⟩:=tt
    rw [ht] at h
    cases u with
    | struct fs =>
     obtain ⟨p,os1,p1,b1,os2,q1,h1,h2,rfl⟩:=bind_some h
     obtain ⟨_,k1,e1⟩:=K4 h1
     cases e1
     obtain ⟨v,os3,p3,b3,os4,q3,h3,h4,e4⟩:=bind_some h2
     cases e4
     obtain ⟨_,k3,e3⟩:=K4 h3
     cases e3
     cases J6 h4
     exact q3t hT hs hG hρ ho hx ht k1 k3
    | _=>cases h
  | _=>rw [hx] at h;cases h
 | indexAddr t x i =>
  rw [ho] at h
  simp only [eff] at h
  cases hi:ρ i with
  | c d =>
   rw [hi] at h
   cases d with
   | int k n=>exact q1y hT hs hG hρ ho hi h hp
   | _=>cases h
  | _=>rw [hi] at h;cases h
 | index t x i =>
  rw [ho] at h
  simp only [eff] at h
  cases hi:ρ i with
  | c d =>
   rw [hi] at h
   cases d with
   | int k n=>exact v1r hT hs hG hρ ho hi h hp
   | _=>cases h
  | _=>rw [hi] at h;cases h
 | extract x i =>
  rw [ho] at h
  simp only [eff] at h
  cases hx:ρ x with
  | tup vs =>
   rw [hx] at h
   obtain ⟨v,os3,p3,b3,os4,q3,h3,h4,rfl⟩:=bind_some h
   obtain ⟨_,k3,e3⟩:=K4 h3
   cases e3
   cases J6 h4
   exact q6a hG hρ ho hx k3
  | _=>rw [hx] at h;cases h
 | call c =>
  obtain ⟨cal,args,ts⟩:=c
  cases cal with
  | value g =>
   rw [ho] at h
   simp only [eff] at h
   cases hg:ρ g with
   | fn f cap=>rw [hg] at h;exact v3w hT hs hG hρ ho hg h
   | mv f ds=>rw [hg] at h;exact v1o hT hs hG hρ ho hg h
   | c d =>
    rw [hg] at h
    cases d with
    | fn f=>exact v1n hT hs hG hρ ho hg h
    | _=>cases h
   | _=>rw [hg] at h;cases h
  | builtin b =>
   have hargs:∀ l:List Operand,args.toList=l→args=l.toArray:=fun l e=>by rw [← e]
   have ho':=ho
   rw [ho] at h
   simp only [eff] at h
   cases b with
   | len =>
    cases hl:args.toList with
    | nil=>rw [hl] at h;cases h
    | cons x xs =>
     cases xs with
     | nil =>
      rw [hl] at h
      have:=hargs _ hl
      subst this
      exact op_len hT hs hG hρ ho h
     | cons y ys =>
      rw [hl] at h
      simp only [List.map_cons,O9] at h
      cases hx:ρ x with
      | c d=>rw [hx] at h;cases d <;> cases h
      | _=>rw [hx] at h;cases h
   | append =>
    obtain ⟨hf,hn⟩:=hfr (by rw [ho];rfl)
    cases hl:args.toList with
    | nil=>rw [hl] at h;cases h
    | cons x xs =>
     cases xs with
     | nil=>rw [hl] at h;cases h
     | cons y ys =>
      cases ys with
      | nil =>
       rw [hl] at h
       have:=hargs _ hl
       subst this
       simp only [List.map_cons,List.map_nil,O9] at h
       cases ht:ts.toList with
       | nil=>rw [ht] at h;cases h
       | cons t ts' =>
        cases ts' with
        | nil=>rw [ht] at h;cases h
        | cons t' ts'' =>
         cases ts'' with
         | nil =>
          rw [ht] at h
          obtain ⟨_,os1,p1,b1,os2,q1,h1,h2,rfl⟩:=bind_some h
          obtain ⟨k1,e1⟩:=G4 h1
          cases e1
          have k1':t'=t:=by simpa using k1
          subst k1'
          have e2:ts=#[t',t']:=by rw [← Array.toArray_toList (xs:=ts),ht]
          subst e2
          exact q8s hT hs hG hf hn hρ ho h2 (by simpa using hp)
         | cons _ _=>rw [ht] at h;cases h
      | cons _ _=>rw [hl] at h;cases h
   | clear =>
    cases hl:args.toList with
    | nil=>rw [hl] at h;cases h
    | cons x xs =>
     cases xs with
     | cons y ys =>
      rw [hl] at h
      simp only [List.map_cons,O9] at h
      cases hx:ρ x <;> rw [hx] at h <;> cases h
     | nil =>
      rw [hl] at h
      have:=hargs _ hl
      subst this
      simp only [List.map_cons,List.map_nil] at h
      cases hx:ρ x with
      | vtl e l lo hi =>
       rw [hx] at h
       simp only [O9] at h
       cases hk:lk Γ.objs l with
       | none=>rw [hk] at h;cases h
       | some ob =>
        rw [hk] at h
        cases ob with
        | vec e' xs =>
         cases he:D.ty e with
         | none=>rw [he] at h;cases h
         | some ti =>
          cases hts:ts.toList with
          | nil=>rw [he,hts] at h;cases h
          | cons t ts' =>
           cases ts' with
           | cons _ _=>rw [he,hts] at h;cases h
           | nil =>
            rw [he,hts] at h
            simp only at h
            cases ht:D.ty t with
            | none=>rw [ht] at h;cases h
            | some tt =>
             obtain ⟨sz,by',u,zz⟩:=tt
             rw [ht] at h
             cases u with
             | slice e2 =>
              obtain ⟨_,os1,p1,b1,os2,q1,h3,h4,rfl⟩:=bind_some h
              obtain ⟨k1,e1⟩:=G4 h3
              cases e1
              cases A5 h4
              simp only [Bool.and_eq_true,beq_iff_eq,bne_iff_ne] at k1
              obtain ⟨⟨⟨k1,k2⟩,k3⟩,k4⟩:=k1
              subst k2
              exact v1p hT hs hG hρ ho hx hk he hts ht k1 k3 k4
             | _=>cases h
        | _=>cases h
      | _=>rw [hx] at h;cases h
   | max =>
    cases hl:args.toList with
    | nil=>rw [hl] at h;cases h
    | cons x xs =>
     rw [hl] at h
     simp only [List.map_cons,O9] at h
     cases hx:ρ x with
     | c d =>
      rw [hx] at h
      cases d with
      | int k a =>
       obtain ⟨v,os3,p3,b3,os4,q3,h3,h4,rfl⟩:=bind_some h
       obtain ⟨_,k3,e3⟩:=K4 h3
       cases e3
       cases J6 h4
       exact op_max hT hs hG hρ ho hl hx k3
      | _=>cases h
     | _=>rw [hx] at h;cases h
   | min =>
    cases hl:args.toList with
    | nil=>rw [hl] at h;cases h
    | cons x xs =>
     rw [hl] at h
     simp only [List.map_cons,O9] at h
     cases hx:ρ x with
     | c d =>
      rw [hx] at h
      cases d with
      | int k a =>
       obtain ⟨v,os3,p3,b3,os4,q3,h3,h4,rfl⟩:=bind_some h
       obtain ⟨_,k3,e3⟩:=K4 h3
       cases e3
       cases J6 h4
       exact op_min hT hs hG hρ ho hl hx k3
      | _=>cases h
     | _=>rw [hx] at h;cases h
   | _=>cases h
  | _=>rw [ho] at h;cases h
 | _=>rw [ho] at h;cases h
end
end Gev
namespace Gev
open Go
variable {P:Program} {D:Tab} {B0:Nat} {Gd:World→Prop}
theorem RepD.same {w:World} {own own':Nat→Prop} (h:∀ b,own' b→own b) {v:Value} {d:DV} (hv:RepD w own v d):RepD w own' v d:=hv.mono (Kept.refl _ _) fun b _=>h b
theorem x7r {S:Sig} {w:World} {b:Nat}:¬ (Ctx.mk S [] w).mine b:=by
 rintro ⟨l,o,h,_⟩
 simp [lk] at h
theorem x6m {S:Nat→Option Nat} {p:Nat→Prop} {w:World} {b:Nat}:(Ctx.mk ⟨S,p⟩ [] w).own b↔p b :=
 ⟨fun h=>h.elim id fun h=>(x7r h).elim,.inl⟩
theorem y4g {Γ Γ':Ctx} (hw:Γ'.w=Γ.w) (ho:∀ b,Γ'.own b→Γ.own b) {v:Value} {a:AV} (hd:a.Data) (h:RepA D Γ v a):RepA D Γ' v a:=by
 induction h with
 | c h=>exact .c (by rw [hw];exact h.same ho)
 | agg vs cs hl h=>exact .agg vs cs hl fun j u d h1 h2=>by rw [hw];exact (h j u d h1 h2).same ho
 | fn f vs cap hl h ih =>
  cases hd
  exact .fn f vs [] hl fun i v a _ h2=>by simp at h2
 | undef v=>exact .undef v
 | mv f vs ds hl hd2 h ih=>exact .mv f vs ds hl hd2 fun i v a h1 h2=>ih i v a h1 h2 (hd2 i a h2)
 | tup vs us hl h ih =>
  cases hd with
  | tup _ hd=>exact .tup vs us hl fun i v a h1 h2=>ih i v a h1 h2 (hd i a h2)
 | _=>cases hd
structure TrB (D:Tab) (n:Nat) (Γ Γ':Ctx):Prop where
 kept:Kept Γ.mine Γ.w Γ'.w
 ext:Γ'.S.ext=Γ.S.ext
 mine:∀ b,Γ'.mine b→Γ.mine b∨Γ.w.heap.size≤b
 ptr:∀ l cs,l<n→lk Γ.objs l=some (.cells cs)→∃ cs',lk Γ'.objs l=some (.cells cs')∧Γ'.S l=Γ.S l
 vec:∀ v l len,l<n→RepA D Γ v (.vec l len)→RepA D Γ' v (.vec l len)
 vptr:∀ v l i off,l<n→RepA D Γ v (.vptr l i off)→RepA D Γ' v (.vptr l i off)
theorem Tr.toB {Γ Γ':Ctx} (h:Tr D Γ Γ') (n:Nat):TrB D n Γ Γ':=⟨h.kept,h.ext,h.mine,fun l cs _=>h.ptr l cs,fun v l len _=>h.vec v l len,fun v l i off _=>h.vptr v l i off⟩
theorem TrB.trans {n m:Nat} {Γ Γ1 Γ2:Ctx} (h:TrB D n Γ Γ1) (k:TrB D m Γ1 Γ2) (hm:n≤m):TrB D n Γ Γ2 where
 kept:=h.kept.trans k.kept h.mine
 ext:=k.ext.trans h.ext
 mine b hb:=(k.mine b hb).elim (h.mine b) fun h2=>.inr (Nat.le_trans h.kept.size h2)
 ptr l cs hn hl:=by
  obtain ⟨cs1,h1,e1⟩:=h.ptr l cs hn hl
  obtain ⟨cs2,h2,e2⟩:=k.ptr l cs1 (by omega) h1
  exact ⟨cs2,h2,e2.trans e1⟩
 vec v l len hn hv:=k.vec v l len (by omega) (h.vec v l len hn hv)
 vptr v l i off hn hv:=k.vptr v l i off (by omega) (h.vptr v l i off hn hv)
structure FnOk (P:Program) (D:Tab) (B0:Nat) (Gd:World→Prop) (f:Nat) (args:List AV) (r:AV):Prop where
 enters:∀ cargs w,(callFunc f cargs).run P w=.ok (.enter f cargs) w
 data:r.Data
 calls:∀ (w:World) (ext:Nat→Prop) (cargs:Array Value),Gd w→B0≤w.heap.size→(∀ b,ext b→B0≤b∧b<w.heap.size)→cargs.size=args.length →
  (∀ (i:Nat) v a,cargs[i]?=some v→args[i]?=some a→RepA D ⟨⟨fun _=>none,ext⟩,[],w⟩ v a) →
  Calls P f cargs w fun e w'=>∃ v,e=.returned v∧Gd w'∧Kept (fun _=>False) w w'∧RepA D ⟨⟨fun _=>none,ext⟩,[],w'⟩ v r
structure RunOk (P:Program) (D:Tab) (B0:Nat) (Gd:World→Prop) (f:Nat) (args:List AV) (objs:Objs) (r:AV) (objs':Objs):Prop where
 enters:∀ cargs w,(callFunc f cargs).run P w=.ok (.enter f cargs) w
 calls:∀ (Γ:Ctx) (cargs:Array Value),Γ.objs=objs→Good D B0 Gd Γ→cargs.size=args.length→(∀ (i:Nat) v a,cargs[i]?=some v→args[i]?=some a→RepA D Γ v a) →
  Calls P f cargs Γ.w fun e w'=>∃ v Γ',e=.returned v∧Γ'.objs=objs'∧Γ'.w=w'∧Good D B0 Gd Γ'∧Tr D Γ Γ'∧RepA D Γ' v r
def Out.fits:Out→Exit→Prop
 | .norm,e=>e=.normal
 | .exit id,e=>e=.exit id
 | .ret,e=>e=.ret
abbrev Fr (ro:Option Nat):Fence:={ Fence.wide with round:=ro }
theorem Fr.calls {ro:Option Nat} {m:Nat} {f:Nat} {args:Array Value} {w:World} {R:Ending→World→Prop} (h:Calls P f args w R):CallsIn (Fr ro) m P f args w R:=(callsIn_wide (n:=m)).2 h
theorem Fr.none:Fr none=Fence.wide:=rfl
def q9r (P:Program) (D:Tab) (B0:Nat) (Gd:World→Prop) (n:Nat) (b:Code) (o:Out) (st':St):Nat→St→Prop
 | 0,_=>False
 | k+1,st=>∀ (ro:Option Nat) (m:Nat) (Γ:Ctx) (a:Act),n≤st.objs.length→Γ.objs=st.objs→Good D B0 Gd Γ→Slots D Γ st.slots a →
  b.wpIn (Fr ro) m P (fun e a' w' =>
   (e=.normal∧∃ st1 Γ1,n≤st1.objs.length∧Γ1.objs=st1.objs∧Γ1.w=w'∧Good D B0 Gd Γ1∧Slots D Γ1 st1.slots a'∧TrB D n Γ Γ1∧a'.defers=a.defers∧q9r P D B0 Gd n b o st' k st1) ∨
   (e≠.normal∧o.fits e∧∃ Γ',Γ'.objs=st'.objs∧Γ'.w=w'∧Good D B0 Gd Γ'∧Slots D Γ' st'.slots a'∧TrB D n Γ Γ'∧a'.defers=a.defers)) a Γ.w
def y8w (P:Program) (D:Tab) (B0:Nat) (Gd:World→Prop) (n:Nat) (b:Code) (st:St) (o:Out) (st':St):Prop:=∃ k,q9r P D B0 Gd n b o st' k st
def sem (P:Program) (D:Tab) (B0:Nat) (Gd:World→Prop):Sem3:=⟨FnOk P D B0 Gd,RunOk P D B0 Gd,y8w P D B0 Gd⟩
end Gev
namespace Gev
open Go
variable {P:Program} {D:Tab} {B0:Nat} {Gd:World→Prop}
def Ob.plain:Ob→Bool
 | .cells cs=>cs.all fun v=>match v with | .c _ | .nils=>true | _=>false
 | _=>true
def Ob.ren (ρ:Nat→Nat):Ob→Ob
 | .cells cs=>.cells (cs.map (AV.ren ρ))
 | o=>o
def Ob.inB (k:Nat):Ob→Bool
 | .cells cs=>cs.all (AV.inB k)
 | _=>true
theorem Ob.ren_live (ρ:Nat→Nat) (o:Ob):(o.ren ρ).live=o.live:=by cases o <;> rfl
structure Like (D:Tab) (ρ:Nat→Nat) (k:Nat) (Γ Γ':Ctx):Prop where
 w:Γ'.w=Γ.w
 own:∀ b,Γ'.own b↔Γ.own b
 lk:∀ i,i<k→Gev.lk Γ'.objs (ρ i)=(Gev.lk Γ.objs i).map (Ob.ren ρ)
 S:∀ i,i<k→(Gev.lk Γ.objs i).isSome=true→Γ'.S (ρ i)=Γ.S i
theorem Like.fw {ρ:Nat→Nat} {k:Nat} {Γ Γ':Ctx} (h:Like D ρ k Γ Γ') {l:Nat} (hl:l<k) {o:Ob} (h1:Gev.lk Γ.objs l=some o):Gev.lk Γ'.objs (ρ l)=some (o.ren ρ):=by
 rw [h.lk l hl,h1];rfl
theorem Like.bwc {ρ:Nat→Nat} {k:Nat} {Γ Γ':Ctx} (h:Like D ρ k Γ Γ') {l:Nat} (hl:l<k) {o:Ob} (h1:Gev.lk Γ'.objs (ρ l)=some o):∃ o0,Gev.lk Γ.objs l=some o0∧o0.ren ρ=o:=by
 rw [h.lk l hl] at h1
 exact Option.map_eq_some_iff.1 h1
theorem Like.bw {ρ:Nat→Nat} {k:Nat} {Γ Γ':Ctx} (h:Like D ρ k Γ Γ') {l:Nat} (hl:l<k) {o:Ob} (ho:∀ cs,o≠.cells cs)(h1:Gev.lk Γ'.objs (ρ l)=some o):Gev.lk Γ.objs l=some o:=by
 obtain ⟨o0,e1,e2⟩:=h.bwc hl h1
 cases o0 with
 | cells cs=>exact absurd e2.symm (ho _)
 | _=>rw [e1,← e2];rfl
theorem Like.repD {ρ:Nat→Nat} {k:Nat} {Γ Γ':Ctx} (h:Like D ρ k Γ Γ') {v:Value} {d:DV} (hv:RepD Γ.w Γ.own v d):RepD Γ'.w Γ'.own v d:=by
 have:Γ'.own=Γ.own:=funext fun b=>propext (h.own b)
 rw [h.w,this];exact hv
theorem Like.repD' {ρ:Nat→Nat} {k:Nat} {Γ Γ':Ctx} (h:Like D ρ k Γ Γ') {v:Value} {d:DV} (hv:RepD Γ'.w Γ'.own v d):RepD Γ.w Γ.own v d:=by
 have:Γ'.own=Γ.own:=funext fun b=>propext (h.own b)
 rw [h.w,this] at hv;exact hv
theorem Like.dat {ρ:Nat→Nat} {k:Nat} {Γ Γ':Ctx} (h:Like D ρ k Γ Γ') {v:Value} {a:AV} (ha:AV.isDat a=true):RepA D Γ v a↔RepA D Γ' v a:=by
 have one:∀ (u:Value) (a:AV),(match a with | .c _ | .undef | .agg _=>true | _=>false)=true→(RepA D Γ u a↔RepA D Γ' u a):=by
  intro u a ha
  cases a with
  | c d=>exact ⟨fun x=>by cases x with | c hd=>exact .c (h.repD hd),fun x=>by cases x with | c hd=>exact .c (h.repD' hd)⟩
  | undef=>exact ⟨fun _=>.undef _,fun _=>.undef _⟩
  | agg cs=>exact ⟨fun x=>by cases x with | agg vs _ hl hd=>exact .agg vs cs hl fun j u d a b=>h.repD (hd j u d a b),fun x=>by cases x with | agg vs _ hl hd=>exact .agg vs cs hl fun j u d a b=>h.repD' (hd j u d a b)⟩
  | _=>simp at ha
 cases a with
 | c d=>exact one v _ rfl
 | undef=>exact one v _ rfl
 | agg cs=>exact one v _ rfl
 | nils=>exact ⟨fun x=>by cases x;exact .nils,fun x=>by cases x;exact .nils⟩
 | tup us =>
  simp only [AV.isDat,List.all_eq_true] at ha
  exact ⟨fun x=>by cases x with | tup vs _ hl hd=>exact .tup vs us hl fun i u a p q=>(one u a (ha a (List.mem_of_getElem? q))).1 (hd i u a p q),fun x=>by cases x with | tup vs _ hl hd=>exact .tup vs us hl fun i u a p q=>(one u a (ha a (List.mem_of_getElem? q))).2 (hd i u a p q)⟩
 | mv f us =>
  simp only [AV.isDat,List.all_eq_true] at ha
  exact ⟨fun x=>by cases x with | mv _ vs _ hl hq hd=>exact .mv f vs us hl hq fun i u a p q=>(one u a (ha a (List.mem_of_getElem? q))).1 (hd i u a p q),fun x=>by cases x with | mv _ vs _ hl hq hd=>exact .mv f vs us hl hq fun i u a p q=>(one u a (ha a (List.mem_of_getElem? q))).2 (hd i u a p q)⟩
 | _=>simp [AV.isDat] at ha
theorem y4f {α:Type} {o:Option α} {a:α} (h:o=some a):o.isSome=true:=by rw [h];rfl
theorem Like.up {ρ:Nat→Nat} {k:Nat} {Γ Γ':Ctx} (h:Like D ρ k Γ Γ') {v:Value} {a:AV} (ha:a.inB k=true):RepA D Γ v a↔RepA D Γ' v (a.ren ρ):=by
 have hp:∀ (u:Value) l o,l<k→(RepA D Γ u (.ptr l o)↔RepA D Γ' u (.ptr (ρ l) o)):=fun u l o hl =>
  ⟨fun x=>by cases x with | ptr _ _ b cs h1 h2=>exact .ptr (ρ l) o b _ (h.fw hl h1) ((h.S l hl (y4f h1)).trans h2),
   fun x=>by
    cases x with
    | ptr _ _ b cs h1 h2 =>
     obtain ⟨o0,e1,e2⟩:=h.bwc hl h1
     cases o0 with
     | cells cs0=>exact .ptr l o b cs0 e1 ((h.S l hl (y4f e1)).symm.trans h2)
     | _=>cases e2⟩
 have hfn:∀ (v:Value) (f:Nat) (cap:List AV),(∀ a∈cap,AV.in1 k a=true)→(RepA D Γ v (.fn f cap)↔RepA D Γ' v (.fn f (cap.map (AV.ren1 ρ)))):=by
  intro v f cap ha
  have one:∀ (u:Value) (a:AV),AV.in1 k a=true→(RepA D Γ u a↔RepA D Γ' u (a.ren1 ρ)):=by
   intro u a ha
   cases a with
   | ptr l o=>exact hp u l o (by simpa [AV.in1] using ha)
   | c d=>exact ⟨fun x=>by cases x with | c hd=>exact .c (h.repD hd),fun x=>by cases x with | c hd=>exact .c (h.repD' hd)⟩
   | _=>simp [AV.in1] at ha
  constructor
  · intro x
    cases x with
    | fn _ vs _ hl hd =>
     refine .fn f vs _ (by simp [hl]) fun i u a p q=>?_
     rw [List.getElem?_map] at q
     cases hc:cap[i]? with
     | none=>rw [hc] at q;cases q
     | some a'=>rw [hc] at q;cases q;exact (one u a' (ha a' (List.mem_of_getElem? hc))).1 (hd i u a' p hc)
  · intro x
    generalize hcap:AV.fn f (cap.map (AV.ren1 ρ))=y at x
    cases x with
    | fn _ vs cap' hl hd =>
     cases hcap
     refine .fn f vs _ (by simpa using hl) fun i u a p q=>?_
     exact (one u a (ha a (List.mem_of_getElem? q))).2 (hd i u (a.ren1 ρ) p (by rw [List.getElem?_map,q];rfl))
    | _=>cases hcap
 have hvec:∀ (v:Value) (l n:Nat),l<k→(RepA D Γ v (.vec l n)↔RepA D Γ' v (.vec (ρ l) n)):=by
  intro v l n hl
  constructor
  · intro x
    cases x with
    | vnil _ t h1 h2=>exact .vnil (ρ l) t (h.fw hl h1) ((h.S l hl (y4f h1)).trans h2)
    | vec _ _ cap b t ti xs arr h1 h2 h3 h4 h5 h6 h7=>exact .vec (ρ l) n cap b t ti xs arr (h.fw hl h1) h2 ((h.S l hl (y4f h1)).trans h3) h4 (by rw [h.w];exact h5) h6 h7
    | fvec _ _ xs h1 h2 h3=>exact .fvec (ρ l) n xs (h.fw hl h1) (h.repD h2) h3
    | gone _ _ h1=>exact .gone (ρ l) n (h.fw hl h1)
  · intro x
    have hs:∀ {o:Ob},(∀ cs,o≠.cells cs)→Gev.lk Γ'.objs (ρ l)=some o→Gev.lk Γ.objs l=some o:=fun hc h1=>h.bw hl hc h1
    cases x with
    | vnil _ t h1 h2=>exact .vnil l t (hs (fun _ e=>by cases e) h1) ((h.S l hl (y4f (hs (fun _ e=>by cases e) h1))).symm.trans h2)
    | vec _ _ cap b t ti xs arr h1 h2 h3 h4 h5 h6 h7=>exact .vec l n cap b t ti xs arr (hs (fun _ e=>by cases e) h1) h2 ((h.S l hl (y4f (hs (fun _ e=>by cases e) h1))).symm.trans h3) h4 (by rw [h.w] at h5;exact h5) h6 h7
    | fvec _ _ xs h1 h2 h3=>exact .fvec l n xs (hs (fun _ e=>by cases e) h1) (h.repD' h2) h3
    | gone _ _ h1=>exact .gone l n (hs (fun _ e=>by cases e) h1)
 have h3:∀ (u:Value) (a:AV),AV.in3 k a=true→(RepA D Γ u a↔RepA D Γ' u (a.ren3 ρ)):=by
  intro u a ha
  cases a with
  | vec l n=>exact hvec u l n (by simpa [AV.in3] using ha)
  | c d=>exact h.dat rfl
  | undef=>exact h.dat rfl
  | agg cs=>exact h.dat rfl
  | nils=>exact h.dat rfl
  | _=>simp [AV.in3] at ha
 cases a with
 | vec l n=>exact hvec v l n (by simpa [AV.inB] using ha)
 | ptr l o=>exact hp v l o (by simpa [AV.inB] using ha)
 | vptr l i o =>
  have hl:l<k:=by simpa [AV.inB] using ha
  have hs:∀ {o:Ob},(∀ cs,o≠.cells cs)→Gev.lk Γ'.objs (ρ l)=some o→Gev.lk Γ.objs l=some o:=fun hc h1=>h.bw hl hc h1
  constructor
  · intro x
    cases x with
    | vptr _ _ _ b t ti xs h1 h2 h3 h4=>exact .vptr (ρ l) i o b t ti xs (h.fw hl h1) h2 ((h.S l hl (y4f h1)).trans h3) h4
    | fptr _ _ _ a xs x h1 h2 h3 h4 h5=>exact .fptr (ρ l) i o a xs x (h.fw hl h1) h2 (by rw [h.w];exact h3) (fun e=>h4 ((h.own _).1 e)) fun j d hj=>(h5 j d hj).imp fun u e=>⟨by rw [h.w];exact e.1,h.repD e.2⟩
    | pgone _ _ _ h1=>exact .pgone (ρ l) i o (h.fw hl h1)
  · intro x
    cases x with
    | vptr _ _ _ b t ti xs h1 h2 h3 h4=>exact .vptr l i o b t ti xs (hs (fun _ e=>by cases e) h1) h2 ((h.S l hl (y4f (hs (fun _ e=>by cases e) h1))).symm.trans h3) h4
    | fptr _ _ _ a xs x h1 h2 h3 h4 h5=>exact .fptr l i o a xs x (hs (fun _ e=>by cases e) h1) h2 (by rw [h.w] at h3;exact h3) (fun e=>h4 ((h.own _).2 e)) fun j d hj=>(h5 j d hj).imp fun u e=>⟨by rw [← h.w];exact e.1,h.repD' e.2⟩
    | pgone _ _ _ h1=>exact .pgone l i o (hs (fun _ e=>by cases e) h1)
 | fn f cap =>
  simp only [AV.inB,List.all_eq_true] at ha
  exact hfn v f cap ha
 | frow vs =>
  simp only [AV.inB,List.all_eq_true] at ha
  have one:∀ (u:Value) (a:AV),AV.in2 k a=true→(RepA D Γ u a↔RepA D Γ' u (a.ren2 ρ)):=by
   intro u a ha
   cases a with
   | fn f cap=>exact hfn u f cap (by simpa [AV.in2] using ha)
   | _=>simp [AV.in2] at ha
  constructor
  · intro x
    cases x with
    | frow a n cap _ hs ho hl us hu hc hd =>
     refine .frow a n cap _ (by rw [h.w];exact hs) (fun e=>ho ((h.own _).1 e)) (by rw [List.length_map];exact hl) us hu (fun j u hj=>by rw [h.w];exact hc j u hj) fun i u a p q=>?_
     rw [List.getElem?_map] at q
     obtain ⟨a',e1,rfl⟩:=Option.map_eq_some_iff.1 q
     exact (one u a' (ha a' (List.mem_of_getElem? e1))).1 (hd i u a' p e1)
  · intro x
    generalize hvs:AV.ren ρ (.frow vs)=y at x
    cases x with
    | frow a n cap vs' hs ho hl us hu hc hd =>
     cases hvs
     refine .frow a n cap _ (by rw [h.w] at hs;exact hs) (fun e=>ho ((h.own _).2 e)) (by rw [List.length_map] at hl;exact hl) us hu (fun j u hj=>by rw [← h.w];exact hc j u hj) fun i u a p q=>?_
     exact (one u a (ha a (List.mem_of_getElem? q))).2 (hd i u (a.ren2 ρ) p (by rw [List.getElem?_map,q];rfl))
    | _=>cases hvs
 | c d=>exact h.dat rfl
 | undef=>exact h.dat rfl
 | agg cs=>exact h.dat rfl
 | nils=>exact h.dat rfl
 | tup us =>
  simp only [AV.inB,List.all_eq_true] at ha
  constructor
  · intro x
    cases x with
    | tup vs _ hl hd =>
     refine .tup vs _ (by simp [hl]) fun i u a p q=>?_
     rw [List.getElem?_map] at q
     obtain ⟨a',e1,rfl⟩:=Option.map_eq_some_iff.1 q
     exact (h3 u a' (ha a' (List.mem_of_getElem? e1))).1 (hd i u a' p e1)
  · intro x
    generalize hvs:AV.ren ρ (.tup us)=y at x
    cases x with
    | tup vs us' hl hd =>
     cases hvs
     exact .tup vs us (by simpa using hl) fun i u a p q=>(h3 u a (ha a (List.mem_of_getElem? q))).2 (hd i u (a.ren3 ρ) p (by rw [List.getElem?_map,q];rfl))
    | _=>cases hvs
 | mv f us=>exact h.dat ha
 | eptr cs=>simp [AV.inB,AV.isDat] at ha
 | frp v=>simp [AV.inB,AV.isDat] at ha
 | vtl e l lo hi=>simp [AV.inB,AV.isDat] at ha
 | agv us =>
  simp only [AV.inB,List.all_eq_true] at ha
  constructor
  · intro x
    cases x with
    | agv vs _ hl h1 hd =>
     refine .agv vs _ (by simp [hl]) h1 fun i u a p q=>?_
     rw [List.getElem?_map] at q
     obtain ⟨a',e1,rfl⟩:=Option.map_eq_some_iff.1 q
     exact (h3 u a' (ha a' (List.mem_of_getElem? e1))).1 (hd i u a' p e1)
  · intro x
    generalize hvs:AV.ren ρ (.agv us)=y at x
    cases x with
    | agv vs us' hl h1 hd =>
     cases hvs
     exact .agv vs us (by simpa using hl) h1 fun i u a p q=>(h3 u a (ha a (List.mem_of_getElem? q))).2 (hd i u (a.ren3 ρ) p (by rw [List.getElem?_map,q];rfl))
    | _=>cases hvs
theorem Like.ob {ρ:Nat→Nat} {k:Nat} {Γ Γ':Ctx} (h:Like D ρ k Γ Γ') {i:Nat} (hi:i<k) {o:Ob} (ho:o.inB k=true) (hl:Gev.lk Γ.objs i=some o):x4r D Γ i o↔x4r D Γ' (ρ i) (o.ren ρ):=by
 have hS:=h.S i hi (y4f hl)
 cases o with
 | cells cs =>
  simp only [Ob.inB,List.all_eq_true] at ho
  constructor
  · rintro ⟨b,arr,ty,h1,h2,h3,h4⟩
    refine ⟨b,arr,ty,hS.trans h1,by rw [h.w];exact h2,by rw [List.length_map];exact h3,fun j v u p q=>?_⟩
    rw [List.getElem?_map] at p
    obtain ⟨a,e1,rfl⟩:=Option.map_eq_some_iff.1 p
    exact (h.up (ho a (List.mem_of_getElem? e1))).1 (h4 j a u e1 q)
  · rintro ⟨b,arr,ty,h1,h2,h3,h4⟩
    refine ⟨b,arr,ty,hS.symm.trans h1,by rw [h.w] at h2;exact h2,by rw [List.length_map] at h3;exact h3,fun j v u p q=>?_⟩
    exact (h.up (ho v (List.mem_of_getElem? p))).2 (h4 j (v.ren ρ) u (by rw [List.getElem?_map,p];rfl) q)
 | vec t xs =>
  constructor
  · rintro ⟨ti,h0,h1,⟨h2,h3⟩ | ⟨b,arr,cap,h2,h3,h4,h5,h6⟩⟩
    · exact ⟨ti,h0,h1,.inl ⟨hS.trans h2,h3⟩⟩
    · exact ⟨ti,h0,h1,.inr ⟨b,arr,cap,hS.trans h2,by rw [h.w];exact h3,h4,h5,fun i x j d u p q r=>h.repD (h6 i x j d u p q r)⟩⟩
  · rintro ⟨ti,h0,h1,⟨h2,h3⟩ | ⟨b,arr,cap,h2,h3,h4,h5,h6⟩⟩
    · exact ⟨ti,h0,h1,.inl ⟨hS.symm.trans h2,h3⟩⟩
    · exact ⟨ti,h0,h1,.inr ⟨b,arr,cap,hS.symm.trans h2,by rw [h.w] at h3;exact h3,h4,h5,fun i x j d u p q r=>h.repD' (h6 i x j d u p q r)⟩⟩
 | fro xs=>exact Iff.rfl
 | dead=>exact Iff.rfl
open Classical in
theorem RunOk.frameG {f:Nat} {args:List AV} {sm sm':Objs} {r:AV} (h:RunOk P D B0 Gd f args sm r sm') (ρ:Nat→Nat) (big big':Objs)
    (inj:∀ i j,i<sm'.length→j<sm'.length→ρ i=ρ j→i=j) (hlen:sm.length≤sm'.length)
    (a1:∀ i,i<sm.length→lk big (ρ i)=(lk sm i).map (Ob.ren ρ)) (a2:∀ i,sm.length≤i→i<sm'.length→lk big (ρ i)=none)
    (a3:∀ i,i<sm'.length→lk big' (ρ i)=(lk sm' i).map (Ob.ren ρ)) (a4:∀ l,(∀ i,i<sm'.length→ρ i≠l)→lk big' l=lk big l)
    (s1:∀ i o,lk sm i=some o→o.inB sm.length=true) (s2:∀ i o,lk sm' i=some o→o.inB sm'.length=true)
    (hargs:∀ a∈args,a.inB sm.length=true) (hr:r.inB sm'.length=true) :
    RunOk P D B0 Gd f (args.map (AV.ren ρ)) big (r.ren ρ) big':=by
 refine ⟨h.enters,fun Γ cargs hΓ hG hl ha=>?_⟩
 subst hΓ
 have b1:∀ {i o},i<sm.length→lk sm i=some o→lk Γ.objs (ρ i)=some (o.ren ρ):=fun hi h=>by rw [a1 _ hi,h];rfl
 have lv:∀ {o:Ob},o.live=true→(o.ren ρ).live=true:=fun h=>(Ob.ren_live ρ _).trans h
 obtain ⟨M0,hM0⟩:∃ M0:Nat→Prop,M0=fun b=>∃ i o,i<sm.length∧lk sm i=some o∧o.live=true∧Γ.S (ρ i)=some b:=⟨_,rfl⟩
 obtain ⟨Γ0,hΓ0⟩:∃ Γ0:Ctx,Γ0=⟨⟨fun i=>if i<sm.length then Γ.S (ρ i) else none,fun b=>Γ.own b∧¬ M0 b⟩,sm,Γ.w⟩:=⟨_,rfl⟩
 have hm0:∀ b,Γ0.mine b↔M0 b:=by
  intro b;rw [hΓ0,hM0]
  constructor
  · rintro ⟨i,o,h1,h2,h3⟩
    have hi:=z3d h1
    simp only [if_pos hi] at h3
    exact ⟨i,o,hi,h1,h2,h3⟩
  · rintro ⟨i,o,hi,h1,h2,h3⟩
    exact ⟨i,o,h1,h2,by simp only [if_pos hi];exact h3⟩
 have hM:∀ b,M0 b→Γ.mine b:=by
  rw [hM0];rintro b ⟨i,o,hi,h1,h2,h3⟩
  exact ⟨ρ i,o.ren ρ,b1 hi h1,lv h2,h3⟩
 have hown:∀ b,Γ.own b↔Γ0.own b:=by
  intro b
  constructor
  · intro hb
    by_cases c:M0 b
    · exact .inr ((hm0 b).2 c)
    · exact .inl (by rw [hΓ0];exact ⟨hb,c⟩)
  · rintro (hb | hb)
    · rw [hΓ0] at hb;exact hb.1
    · exact .inr (hM b ((hm0 b).1 hb))
 have hk:Like D ρ sm.length Γ0 Γ:=⟨by rw [hΓ0],hown,fun i hi=>by rw [hΓ0];exact a1 i hi,fun i hi _=>by rw [hΓ0];simp [hi]⟩
 have hlive:∀ b,Γ.mine b→¬ M0 b→∃ l o,lk Γ.objs l=some o∧o.live=true∧Γ.S l=some b∧∀ i,i<sm'.length→ρ i≠l:=by
  rintro b ⟨l,o,h1,h2,h3⟩ hn
  refine ⟨l,o,h1,h2,h3,fun i hi e=>?_⟩
  subst e
  by_cases c:i<sm.length
  · rw [a1 i c] at h1
    obtain ⟨o0,e1,rfl⟩:=Option.map_eq_some_iff.1 h1
    exact hn (by rw [hM0];exact ⟨i,o0,c,e1,(Ob.ren_live ρ o0).symm.trans h2,h3⟩)
  · rw [a2 i (by omega) hi] at h1;cases h1
 have hG0:Good D B0 Gd Γ0:=by
  have hob:Γ0.objs=sm:=by rw [hΓ0]
  refine ⟨fun i o hi=>?_,fun i j o o' b hi hj l1 l2 e1 e2=>?_,fun b hb=>hG.own b ((hown b).2 hb),fun b hb=>?_,by rw [hΓ0];exact hG.size,by rw [hΓ0];exact hG.gd⟩
  · rw [hob] at hi
    have hil:=z3d hi
    exact (hk.ob hil (s1 i o hi) (by rw [hob];exact hi)).2 (hG.ob (ρ i) (o.ren ρ) (b1 hil hi))
  · rw [hob] at hi hj
    have hil:=z3d hi
    have hjl:=z3d hj
    refine inj i j (by omega) (by omega) (hG.inj (ρ i) (ρ j) (o.ren ρ) (o'.ren ρ) b (b1 hil hi) (b1 hjl hj) (lv l1) (lv l2) ?_ ?_)
    · rw [hΓ0] at e1;simpa [hil] using e1
    · rw [hΓ0] at e2;simpa [hjl] using e2
  · have hb':Γ.own b∧¬ M0 b:=by rw [hΓ0] at hb;exact hb
    exact ⟨by rw [hk.w.symm];exact z8n hG b hb'.1,fun hm=>hb'.2 ((hm0 b).1 hm)⟩
 have hob0:Γ0.objs=sm:=by rw [hΓ0]
 have ha0:∀ (i:Nat) v a,cargs[i]?=some v→args[i]?=some a→RepA D Γ0 v a:=fun i v a hv hai =>
  (hk.up (hargs a (List.mem_of_getElem? hai))).2 (ha i v (a.ren ρ) hv (by rw [List.getElem?_map,hai];rfl))
 have hc:=h.calls Γ0 cargs hob0 hG0 (by simpa using hl) ha0
 rw [hk.w]
 refine Calls.mono hc ?_
 rintro e w' ⟨v,Γ1,rfl,k1,rfl,k2,k3,k4⟩
 obtain ⟨Γ',hΓ'⟩:∃ Γ':Ctx,Γ'=⟨⟨fun l=>if c:∃ i,i<sm'.length∧ρ i=l then Γ1.S (choose c) else Γ.S l,Γ.S.ext⟩,big',Γ1.w⟩:=⟨_,rfl⟩
 have hS1:∀ i,i<sm'.length→Γ'.S (ρ i)=Γ1.S i:=by
  intro i hi
  have c:∃ j,j<sm'.length∧ρ j=ρ i:=⟨i,hi,rfl⟩
  rw [hΓ']
  simp only [dif_pos c]
  congr 1
  exact inj _ _ (choose_spec c).1 hi (choose_spec c).2
 have hS2:∀ l,(∀ i,i<sm'.length→ρ i≠l)→Γ'.S l=Γ.S l:=by
  intro l hn
  rw [hΓ']
  simp only
  rw [dif_neg (fun ⟨i,hi,e⟩=>hn i hi e)]
 have hob':Γ'.objs=big':=by rw [hΓ']
 have hw':Γ'.w=Γ1.w:=by rw [hΓ']
 have hL2:∀ l,(∀ i,i<sm'.length→ρ i≠l)→lk Γ'.objs l=lk Γ.objs l:=fun l hn=>by rw [hob'];exact a4 l hn
 have oth:∀ b,Γ.mine b→¬ M0 b→Γ'.mine b:=by
  intro b hb hn
  obtain ⟨l,o,h1,h2,h3,h4⟩:=hlive b hb hn
  exact ⟨l,o,(hL2 l h4).trans h1,h2,(hS2 l h4).trans h3⟩
 have hmine:∀ b,Γ'.mine b→Γ1.mine b∨(Γ.mine b∧¬ M0 b):=by
  rintro b ⟨l,o,h1,h2,h3⟩
  by_cases c:∃ i,i<sm'.length∧ρ i=l
  · obtain ⟨i,hi,rfl⟩:=c
    rw [hob',a3 i hi] at h1
    obtain ⟨o0,e1,rfl⟩:=Option.map_eq_some_iff.1 h1
    rw [hS1 i hi] at h3
    exact .inl ⟨i,o0,by rw [k1];exact e1,(Ob.ren_live ρ o0).symm.trans h2,h3⟩
  · have hn:∀ i,i<sm'.length→ρ i≠l:=fun i hi e=>c ⟨i,hi,e⟩
    rw [hL2 l hn] at h1
    rw [hS2 l hn] at h3
    refine .inr ⟨⟨l,o,h1,h2,h3⟩,?_⟩
    rw [hM0]
    rintro ⟨i,o',hi,g1,g2,g3⟩
    exact hn i (by omega) (hG.inj (ρ i) l (o'.ren ρ) o b (b1 hi g1) h1 (lv g2) h2 g3 h3)
 have hmine1:∀ b,Γ1.mine b→Γ'.mine b:=by
  rintro b ⟨i,o,h1,h2,h3⟩
  rw [k1] at h1
  have hi:=z3d h1
  exact ⟨ρ i,o.ren ρ,by rw [hob',a3 i hi,h1];rfl,lv h2,(hS1 i hi).trans h3⟩
 have hext0:∀ b,Γ0.S.ext b↔Γ.own b∧¬ M0 b:=fun b=>by rw [hΓ0]
 have hown':∀ b,Γ'.own b↔Γ1.own b:=by
  intro b
  constructor
  · rintro (hb | hb)
    · have hb':Γ.S.ext b:=by rw [hΓ'] at hb;exact hb
      have:Γ0.S.ext b:=(hext0 b).2 ⟨.inl hb',fun hm=>(hG.ext b hb').2 (hM b hm)⟩
      exact .inl (by rw [k3.ext];exact this)
    · rcases hmine b hb with h1 | ⟨h1,h2⟩
      · exact .inr h1
      · exact .inl (by rw [k3.ext];exact (hext0 b).2 ⟨.inr h1,h2⟩)
  · rintro (hb | hb)
    · rw [k3.ext] at hb
      obtain ⟨h1,h2⟩:=(hext0 b).1 hb
      rcases h1 with h1 | h1
      · exact .inl (by rw [hΓ'];exact h1)
      · exact .inr (oth b h1 h2)
    · exact .inr (hmine1 b hb)
 have hk':Like D ρ sm'.length Γ1 Γ':=⟨hw',hown',fun i hi=>by rw [hob',k1];exact a3 i hi,fun i hi _=>hS1 i hi⟩
 have hkept:Kept Γ.mine Γ.w Γ'.w:=by
  rw [hw',hk.w]
  exact k3.kept.mono fun b hb=>hM b ((hm0 b).1 hb)
 have hkept0:∀ b,b<Γ.w.heap.size→¬ M0 b→Γ'.w.heap[b]?=Γ.w.heap[b]?:=fun b hb hn=>by
  rw [hw',hk.w]
  exact k3.kept.heap b (by rw [← hk.w];exact hb) fun hm=>hn ((hm0 b).1 hm)
 have hmine':∀ b,Γ'.mine b→Γ.mine b∨Γ.w.heap.size≤b:=fun b hb=>by
  rcases hmine b hb with h1 | ⟨h1,_⟩
  · rcases k3.mine b h1 with h2 | h2
    · exact .inl (hM b ((hm0 b).1 h2))
    · exact .inr (by rw [hk.w];exact h2)
  · exact .inl h1
 have hextE:Γ'.S.ext=Γ.S.ext:=by rw [hΓ']
 have hTown:∀ b,Γ'.own b→Γ.own b∨Γ.w.heap.size≤b:=Ctx.own_of hextE hmine'
 have hd:∀ v d,RepD Γ.w Γ.own v d→RepD Γ'.w Γ'.own v d:=fun v d hv=>hv.mono hkept.up fun b hb ho=>(hTown b ho).resolve_right (by omega)
 have blk:∀ l o b,(∀ i,i<sm'.length→ρ i≠l)→lk Γ.objs l=some o→o.live=true→Γ.S l=some b→Γ'.w.heap[b]?=Γ.w.heap[b]?:=by
  intro l o b hn h1 h2 h3
  refine hkept0 b (z8n hG b (.inr ⟨l,o,h1,h2,h3⟩)) ?_
  rw [hM0]
  rintro ⟨i,o',hi,g1,g2,g3⟩
  exact hn i (by omega) (hG.inj (ρ i) l (o'.ren ρ) o b (b1 hi g1) h1 (lv g2) h2 g3 h3)
 have hT:Tr D Γ Γ':=by
  refine ⟨hkept,hextE,hmine',fun l cs h1=>?_,fun v l len hv=>?_,fun v l i off hv=>?_⟩
  · by_cases c:∃ i,i<sm'.length∧ρ i=l
    · obtain ⟨i,hi,rfl⟩:=c
      have hi0:i<sm.length:=by
       rcases Nat.lt_or_ge i sm.length with h2 | h2
       · exact h2
       · rw [a2 i h2 hi] at h1;cases h1
      rw [a1 i hi0] at h1
      obtain ⟨o0,e1,e2⟩:=Option.map_eq_some_iff.1 h1
      cases o0 with
      | cells cs0 =>
       obtain ⟨cs',g1,g2⟩:=k3.ptr i cs0 (by rw [hob0];exact e1)
       refine ⟨cs'.map (AV.ren ρ),by rw [hob',a3 i hi,← k1,g1];rfl,?_⟩
       rw [hS1 i hi,g2]
       exact (hk.S i hi0 (by rw [hob0];exact y4f e1)).symm
      | _=>cases e2
    · have hn:∀ i,i<sm'.length→ρ i≠l:=fun i hi e=>c ⟨i,hi,e⟩
      exact ⟨cs,(hL2 l hn).trans h1,hS2 l hn⟩
  · by_cases c:∃ i,i<sm'.length∧ρ i=l
    · obtain ⟨i,hi,rfl⟩:=c
      have hi0:i<sm.length:=by
       rcases Nat.lt_or_ge i sm.length with h2 | h2
       · exact h2
       · cases hv with
         | vnil _ _ h1=>rw [a2 i h2 hi] at h1;cases h1
         | vec _ _ _ _ _ _ _ _ h1=>rw [a2 i h2 hi] at h1;cases h1
         | fvec _ _ _ h1=>rw [a2 i h2 hi] at h1;cases h1
         | gone _ _ h1=>rw [a2 i h2 hi] at h1;cases h1
      have h0:=(hk.up (a:=.vec i len) (by simpa [AV.inB] using hi0)).2 hv
      exact (hk'.up (a:=.vec i len) (by simpa [AV.inB] using hi)).1 (k3.vec v i len h0)
    · have hn:∀ i,i<sm'.length→ρ i≠l:=fun i hi e=>c ⟨i,hi,e⟩
      exact RepA.vec_same hd (hL2 l hn) (hS2 l hn) (fun b t xs h1 h2=>blk l (.vec t xs) b hn h1 rfl h2) hv
  · by_cases c:∃ j,j<sm'.length∧ρ j=l
    · obtain ⟨j,hj,rfl⟩:=c
      have hj0:j<sm.length:=by
       rcases Nat.lt_or_ge j sm.length with h2 | h2
       · exact h2
       · cases hv with
         | vptr _ _ _ _ _ _ _ h1=>rw [a2 j h2 hj] at h1;cases h1
         | fptr _ _ _ _ _ _ h1=>rw [a2 j h2 hj] at h1;cases h1
         | pgone _ _ _ h1=>rw [a2 j h2 hj] at h1;cases h1
      have h0:=(hk.up (a:=.vptr j i off) (by simpa [AV.inB] using hj0)).2 hv
      exact (hk'.up (a:=.vptr j i off) (by simpa [AV.inB] using hj)).1 (k3.vptr v j i off h0)
    · have hn:∀ i,i<sm'.length→ρ i≠l:=fun i hi e=>c ⟨i,hi,e⟩
      exact RepA.vptr_same (fun a d _ h2 ⟨u,h3,h4⟩=>⟨u,hkept.up.cell h3 h2,hd u d h4⟩) hkept.size (fun x hx hno h'=>(hTown x h').elim hno (fun h5=>by omega)) (hL2 l hn) (hS2 l hn) hv
 have hG':Good D B0 Gd Γ':=by
  refine ⟨fun l o h1=>?_,fun l l' o o' b h1 h2 l1 l2 e1 e2=>?_,fun b hb=>k2.own b ((hown' b).1 hb),fun b hb=>?_,by rw [hw'];exact k2.size,by rw [hw'];exact k2.gd⟩
  · by_cases c:∃ i,i<sm'.length∧ρ i=l
    · obtain ⟨i,hi,rfl⟩:=c
      rw [hob',a3 i hi] at h1
      obtain ⟨o0,e1,rfl⟩:=Option.map_eq_some_iff.1 h1
      exact (hk'.ob hi (s2 i o0 e1) (by rw [k1];exact e1)).1 (k2.ob i o0 (by rw [k1];exact e1))
    · have hn:∀ i,i<sm'.length→ρ i≠l:=fun i hi e=>c ⟨i,hi,e⟩
      rw [hL2 l hn] at h1
      exact x4r.same hT (hS2 l hn) (fun b h2 h3=>blk l o b hn h1 h2 h3) (hG.ob l o h1)
  · -- two objects at one block
    have key:∀ i l o o',i<sm'.length→(∀ j,j<sm'.length→ρ j≠l)→lk Γ'.objs (ρ i)=some o→lk Γ'.objs l=some o'→o.live=true→o'.live=true→Γ'.S (ρ i)=some b→Γ'.S l=some b→False:=by
     intro i l o o' hi hn h1 h2 l1 l2 e1 e2
     rw [hob',a3 i hi,← k1] at h1
     obtain ⟨o0,f1,rfl⟩:=Option.map_eq_some_iff.1 h1
     rw [hS1 i hi] at e1
     rw [hL2 l hn] at h2
     rw [hS2 l hn] at e2
     have hmb:Γ.mine b:=⟨l,o',h2,l2,e2⟩
     have hnM:¬ M0 b:=by
      rw [hM0]
      rintro ⟨j,o2,hj,g1,g2,g3⟩
      exact hn j (by omega) (hG.inj (ρ j) l (o2.ren ρ) o' b (b1 hj g1) h2 (lv g2) l2 g3 e2)
     have:Γ1.S.ext b:=by rw [k3.ext];exact (hext0 b).2 ⟨.inr hmb,hnM⟩
     exact (k2.ext b this).2 ⟨i,o0,f1,(Ob.ren_live ρ o0).symm.trans l1,e1⟩
    by_cases c:∃ i,i<sm'.length∧ρ i=l
    · obtain ⟨i,hi,rfl⟩:=c
      by_cases c':∃ j,j<sm'.length∧ρ j=l'
      · obtain ⟨j,hj,rfl⟩:=c'
        rw [hob',a3 i hi,← k1] at h1
        rw [hob',a3 j hj,← k1] at h2
        obtain ⟨o0,f1,rfl⟩:=Option.map_eq_some_iff.1 h1
        obtain ⟨o1,f2,rfl⟩:=Option.map_eq_some_iff.1 h2
        rw [hS1 i hi] at e1
        rw [hS1 j hj] at e2
        rw [k2.inj i j o0 o1 b f1 f2 ((Ob.ren_live ρ o0).symm.trans l1) ((Ob.ren_live ρ o1).symm.trans l2) e1 e2]
      · exact (key i l' o o' hi (fun j hj e=>c' ⟨j,hj,e⟩) h1 h2 l1 l2 e1 e2).elim
    · have hn:∀ i,i<sm'.length→ρ i≠l:=fun i hi e=>c ⟨i,hi,e⟩
      by_cases c':∃ j,j<sm'.length∧ρ j=l'
      · obtain ⟨j,hj,rfl⟩:=c'
        exact (key j l o' o hj hn h2 h1 l2 l1 e2 e1).elim
      · have hn':∀ i,i<sm'.length→ρ i≠l':=fun i hi e=>c' ⟨i,hi,e⟩
        rw [hL2 l hn] at h1
        rw [hL2 l' hn'] at h2
        rw [hS2 l hn] at e1
        rw [hS2 l' hn'] at e2
        exact hG.inj l l' o o' b h1 h2 l1 l2 e1 e2
  · exact hT.extOk hG.ext b hb
 exact ⟨v,Γ',rfl,hob',hw',hG',hT,(hk'.up hr).1 k4⟩
theorem q8w {o:Ob} (h:o.plain=true) (ρ:Nat→Nat):o.ren ρ=o:=by
 cases o with
 | cells cs =>
  simp only [Ob.plain,List.all_eq_true] at h
  show Ob.cells (cs.map (AV.ren ρ))=_
  congr 1
  conv=>rhs;rw [← List.map_id cs]
  refine List.map_congr_left fun v hv=>?_
  have:=h v hv
  cases v <;> first | rfl | (simp at this)
 | _=>rfl
theorem j9y {o:Ob} (h:o.plain=true) (k:Nat):o.inB k=true:=by
 cases o with
 | cells cs =>
  simp only [Ob.plain,List.all_eq_true] at h
  simp only [Ob.inB,List.all_eq_true]
  intro v hv
  have:=h v hv
  cases v <;> first | rfl | (simp at this)
 | _=>rfl
theorem RunOk.frame {f:Nat} {args:List AV} {sm sm':Objs} {r:AV} (h:RunOk P D B0 Gd f args sm r sm') (ρ:Nat→Nat) (big big':Objs)
    (inj:∀ i j,i<sm'.length→j<sm'.length→ρ i=ρ j→i=j) (hlen:sm.length≤sm'.length)
    (a1:∀ i,i<sm.length→lk big (ρ i)=lk sm i) (a2:∀ i,sm.length≤i→i<sm'.length→lk big (ρ i)=none)
    (a3:∀ i,i<sm'.length→lk big' (ρ i)=lk sm' i) (a4:∀ l,(∀ i,i<sm'.length→ρ i≠l)→lk big' l=lk big l)
    (s1:∀ i o,lk sm i=some o→o.plain=true) (s2:∀ i o,lk sm' i=some o→o.plain=true)
    (hargs:∀ a∈args,a.inB sm.length=true) (hr:r.inB sm'.length=true) :
    RunOk P D B0 Gd f (args.map (AV.ren ρ)) big (r.ren ρ) big':=by
 have m:∀ {objs:Objs},(∀ i o,lk objs i=some o→o.plain=true)→∀ i,(lk objs i).map (Ob.ren ρ)=lk objs i:=fun hs i=>by
  cases hl:lk _ i with
  | none=>rfl
  | some o=>show some (o.ren ρ)=_;rw [q8w (hs i o hl)]
 exact h.frameG ρ big big' inj hlen (fun i hi=>(a1 i hi).trans (m s1 i).symm) a2 (fun i hi=>(a3 i hi).trans (m s2 i).symm) a4 (fun i o hl=>j9y (s1 i o hl) _) (fun i o hl=>j9y (s2 i o hl) _) hargs hr
end Gev
namespace Gev
open Go
variable {P:Program} {D:Tab} {B0:Nat} {Gd:World→Prop}
theorem q7n {ρ:Nat→Nat} {a:AV} (h:a.isDat=true):a.ren ρ=a:=by
 cases a with
 | tup vs =>
  simp only [AV.isDat,List.all_eq_true] at h
  show AV.tup (vs.map (AV.ren3 ρ))=_
  rw [List.map_congr_left fun a ha=>(show AV.ren3 ρ a=a by have:=h a ha;cases a <;> first | rfl | cases this),List.map_id']
 | _=>first | rfl | simp [AV.isDat] at h
theorem x7p {k:Nat} {a:AV} (h:a.isDat=true):a.inB k=true:=by
 cases a with
 | tup vs =>
  simp only [AV.isDat,List.all_eq_true] at h
  simp only [AV.inB,List.all_eq_true]
  intro a ha
  have:=h a ha
  cases a <;> first | rfl | cases this
 | _=>first | exact h | simp [AV.isDat] at h
theorem y4i {ρ:Nat→Nat} {args:List AV} (h:args.all AV.isDat=true):args.map (AV.ren ρ)=args:=by
 simp only [List.all_eq_true] at h
 exact (List.map_congr_left fun a ha=>q7n (h a ha)).trans (List.map_id _)
theorem j5o (l:Nat):lk [] l=none:=by simp [lk]
theorem q8n {objs more:Objs} {l:Nat} (h:l<objs.length):lk (objs++more) l=lk objs l:=by
 unfold lk;rw [List.getD_eq_getElem?_getD,List.getD_eq_getElem?_getD,List.getElem?_append_left h]
theorem q5w {objs:Objs} {o:Option Ob}:lk (objs++[o]) objs.length=o:=by
 unfold lk;rw [List.getD_eq_getElem?_getD,List.getElem?_append_right (Nat.le_refl _)];simp
theorem v0y {objs:Objs} {l:Nat} (h:objs.length≤l):lk objs l=none:=by
 unfold lk;rw [List.getD_eq_getElem?_getD,List.getElem?_eq_none h];rfl
theorem RunOk.data {f:Nat} {args:List AV} {r:AV} (h:RunOk P D B0 Gd f args [] r []) (ha:args.all AV.isDat=true) (hr:r.isDat=true) (objs:Objs):RunOk P D B0 Gd f args objs r objs:=by
 have:=h.frame id objs objs (fun i j hi _ _=>by simp at hi) (Nat.le_refl _) (fun i hi=>by simp at hi) (fun i _ hi=>by simp at hi) (fun i hi=>by simp at hi) (fun _ _=>rfl)
  (fun i o hi=>by rw [j5o] at hi;cases hi) (fun i o hi=>by rw [j5o] at hi;cases hi) (fun a hx=>x7p (by simp only [List.all_eq_true] at ha;exact ha a hx)) (x7p hr)
 rwa [y4i ha,q7n hr] at this
theorem RunOk.new {f:Nat} {args:List AV} {n:Nat} {o:Ob} (h:RunOk P D B0 Gd f args [] (.vec 0 n) [some o]) (ha:args.all AV.isDat=true) (ho:o.plain=true) (objs:Objs):RunOk P D B0 Gd f args objs (.vec objs.length n) (objs++[some o]):=by
 have h1:∀ (i:Nat) o',lk [some o] i=some o'→o'=o:=by
  intro i o' hi
  have:=z3d hi
  simp at this;subst this
  exact (Option.some.inj hi).symm
 have:=h.frame (fun _=>objs.length) objs (objs++[some o]) (fun i j hi hj _=>by simp at hi hj;omega) (by simp) (fun i hi=>by simp at hi) (fun i _ hi=>v0y (Nat.le_refl _))
  (fun i hi=>by simp at hi;subst hi;exact q5w) (fun l hl=>by
   have hne:objs.length≠l:=hl 0 (by simp)
   rcases Nat.lt_or_ge l objs.length with c | c
   · exact q8n c
   · rw [v0y c,v0y (by simp;omega)])
  (fun i o hi=>by rw [j5o] at hi;cases hi) (fun i o' hi=>by rw [h1 i o' hi];exact ho) (fun a hx=>x7p (by simp only [List.all_eq_true] at ha;exact ha a hx)) (by simp [AV.inB])
 rwa [y4i ha] at this
theorem RunOk.newAtV {f:Nat} {args:List AV} {r:AV} {o:Ob} (h:RunOk P D B0 Gd f args [] r [some o]) (ha:args.all AV.isDat=true) (hr:r.inB 1=true) (ho:o.plain=true) {objs:Objs} {fr:Nat} (hl:fr<objs.length) (hn:lk objs fr=none):RunOk P D B0 Gd f args objs (r.ren fun _=>fr) (objs.set fr (some o)):=by
 have h1:∀ (i:Nat) o',lk [some o] i=some o'→o'=o:=by
  intro i o' hi
  have:=z3d hi
  simp at this;subst this
  exact (Option.some.inj hi).symm
 have:=h.frame (fun _=>fr) objs (objs.set fr (some o)) (fun i j hi hj _=>by simp at hi hj;omega) (by simp) (fun i hi=>by simp at hi) (fun i _ hi=>hn)
  (fun i hi=>by simp at hi;subst hi;rw [X3 hl,if_pos rfl];rfl) (fun l hx=>by
   have hne:fr≠l:=hx 0 (by simp)
   rw [X3 hl,if_neg (Ne.symm hne)])
  (fun i o hi=>by rw [j5o] at hi;cases hi) (fun i o' hi=>by rw [h1 i o' hi];exact ho) (fun a hx=>x7p (by simp only [List.all_eq_true] at ha;exact ha a hx)) hr
 rwa [y4i ha] at this
theorem RunOk.newAt {f:Nat} {args:List AV} {n:Nat} {o:Ob} (h:RunOk P D B0 Gd f args [] (.vec 0 n) [some o]) (ha:args.all AV.isDat=true) (ho:o.plain=true) {objs:Objs} {fr:Nat} (hl:fr<objs.length) (hn:lk objs fr=none):RunOk P D B0 Gd f args objs (.vec fr n) (objs.set fr (some o)):=by
 have h1:∀ (i:Nat) o',lk [some o] i=some o'→o'=o:=by
  intro i o' hi
  have:=z3d hi
  simp at this;subst this
  exact (Option.some.inj hi).symm
 have:=h.frame (fun _=>fr) objs (objs.set fr (some o)) (fun i j hi hj _=>by simp at hi hj;omega) (by simp) (fun i hi=>by simp at hi) (fun i _ hi=>hn)
  (fun i hi=>by simp at hi;subst hi;rw [X3 hl,if_pos rfl];rfl) (fun l hx=>by
   have hne:fr≠l:=hx 0 (by simp)
   rw [X3 hl,if_neg (Ne.symm hne)])
  (fun i o hi=>by rw [j5o] at hi;cases hi) (fun i o' hi=>by rw [h1 i o' hi];exact ho) (fun a hx=>x7p (by simp only [List.all_eq_true] at ha;exact ha a hx)) (by simp [AV.inB])
 rwa [y4i ha] at this
theorem v3b {k:Nat} {args:List AV} (ha:args.all AV.isDat=true) (a:AV) (hx:a∈args):a.inB k=true:=by
 simp only [List.all_eq_true] at ha;exact x7p (ha a hx)
theorem RunOk.at {f:Nat} {args:List AV} {n:Nat} {o o':Ob} {r:AV} (h:RunOk P D B0 Gd f (.vec 0 n::args) [some o] r [some o']) (ha:args.all AV.isDat=true) (ho:o.plain=true) (ho':o'.plain=true) (hr:r.inB 1=true) {objs:Objs} {l:Nat} (hl:lk objs l=some o) :
    RunOk P D B0 Gd f (.vec l n::args) objs (r.ren fun _=>l) (objs.set l (some o')):=by
 have h1:∀ (o:Ob) (i:Nat) o',lk [some o] i=some o'→o'=o:=by
  intro o i o' hi
  have:=z3d hi
  simp at this;subst this
  exact (Option.some.inj hi).symm
 have hll:=z3d hl
 have:=h.frame (fun _=>l) objs (objs.set l (some o')) (fun i j hi hj _=>by simp at hi hj;omega) (by simp) (fun i hi=>by simp at hi;subst hi;exact hl) (fun i h1 h2=>by simp at h1 h2;omega)
  (fun i hi=>by simp at hi;subst hi;rw [X3 hll,if_pos rfl];rfl) (fun k hk=>by
   have hne:l≠k:=hk 0 (by simp)
   rw [X3 hll,if_neg (Ne.symm hne)])
  (fun i x hi=>by rw [h1 _ i x hi];exact ho) (fun i x hi=>by rw [h1 _ i x hi];exact ho') (fun a hx=>by
   rcases List.mem_cons.1 hx with rfl | hx
   · simp [AV.inB]
   · exact v3b ha a hx) hr
 rwa [List.map_cons,y4i ha] at this
theorem RunOk.sub {f:Nat} {args:List AV} {sm:Objs} {r:AV} (h:RunOk P D B0 Gd f args sm r sm) (ls:List Nat) (hn:ls.Nodup) (hlen:ls.length=sm.length) {objs:Objs} (hs:∀ i,i<sm.length→lk objs (ls.getD i 0)=lk sm i)
    (hp:∀ o∈sm,(match o with | some o=>o.plain | none=>true)=true) (ha:args.all (AV.inB sm.length)=true) (hr:r.inB sm.length=true) :
    RunOk P D B0 Gd f (args.map (AV.ren fun i=>ls.getD i 0)) objs (r.ren fun i=>ls.getD i 0) objs:=by
 have hp':∀ (i:Nat) o,lk sm i=some o→o.plain=true:=by
  intro i o hi
  have hil:=z3d hi
  have:sm[i]?=some (some o):=by
   unfold lk at hi
   rw [List.getD_eq_getElem?_getD,List.getElem?_eq_getElem hil] at hi
   rw [List.getElem?_eq_getElem hil];exact congrArg some hi
  exact hp _ (List.mem_of_getElem? this)
 refine h.frame (fun i=>ls.getD i 0) objs objs (fun i j hi hj e=>?_) (Nat.le_refl _) hs (fun i h1 h2=>by omega) hs (fun _ _=>rfl) hp' hp' (fun a hx=>by simp only [List.all_eq_true] at ha;exact ha a hx) hr
 have e':ls[i]?=ls[j]?:=by
  have e2:=e
  simp only [List.getD_eq_getElem?_getD] at e2
  rw [List.getElem?_eq_getElem (by omega),List.getElem?_eq_getElem (by omega)] at e2 ⊢
  exact congrArg some e2
 exact (List.getElem?_inj (by omega) hn).1 e'
end Gev
namespace Gev
open Go
variable {D:Tab}
theorem U2 {α β:Type} {m:M α} {k:α→M β} {os os1 os2:List Orc} {a:α} {b:β} {p q:List Prop} (h1:m os=some (a,os1,p))(h2:k a os1=some (b,os2,q)):(m >>= k) os=some (b,os2,p++q):=by
 show M.bind m k os=_
 unfold M.bind
 rw [h1]
 simp only
 rw [h2]
def Eff.reads:Eff→List Nat
 | .val _ _ r=>r
 | .call _ _ _ r=>r
 | .tcall _ _=>[]
def AV.at:AV→List Nat
 | .ptr l _=>[l]
 | .vptr l _ _=>[l]
 | .vec l _=>[l]
 | _=>[]
section
variable {lk lk':Nat→Option Ob}
theorem v2v {v:AV} (h:∀ l∈v.at,lk' l=lk l):toD lk' v=toD lk v:=by
 cases v with
 | vec l len=>simp only [toD,h l (by simp [AV.at])]
 | _=>rfl
theorem q9h {v:AV} {d:DV} {u:Ups} {r:List Nat} (h:toD lk v=some (d,u,r)):∀ l∈v.at,l∈r:=by
 intro l hl
 cases v with
 | vec k len =>
  have e:l=k:=by simpa [AV.at] using hl
  subst e
  simp only [toD] at h
  cases hk:lk l with
  | none=>rw [hk] at h;cases h
  | some o=>rw [hk] at h;cases o <;> cases h <;> simp
 | ptr=>cases h
 | vptr=>cases h
 | _=>simp [AV.at] at hl
theorem q7q {v:AV} {d:DV} {u:Ups} {r:List Nat} (h:toD lk v=some (d,u,r)) (hl:∀ l∈r,lk' l=lk l):toD lk' v=some (d,u,r):=by
 rw [v2v fun l h'=>hl l (q9h h l h')];exact h
theorem k9t {v:AV} {cs:List DV} {u:Ups} {r:List Nat} (h:z7w lk v=some (cs,u,r)) (hl:∀ l∈r,lk' l=lk l):z7w lk' v=some (cs,u,r):=by
 unfold z7w at h ⊢
 split at h
 · exact h
 · exact h
 · cases hd:toD lk v with
   | none=>rw [hd] at h;cases h
   | some x =>
    obtain ⟨d,u',r'⟩:=x
    rw [hd] at h
    cases h
    rw [q7q hd hl]
theorem q6k {v a:AV} {u:Ups} {r:List Nat} (h:y2n lk v=some (a,u,r)) (hl:∀ l∈r,lk' l=lk l):y2n lk' v=some (a,u,r):=by
 unfold y2n at h ⊢
 split at h
 · exact h
 · exact h
 · exact h
 · cases hd:toD lk v with
   | none=>rw [hd] at h;cases h
   | some x =>
    obtain ⟨d,u',r'⟩:=x
    rw [hd] at h
    cases h
    rw [q7q hd hl]
theorem y8q:∀ {vs avz:List AV} {u:Ups} {r:List Nat},Z4 lk vs=some (avz,u,r)→(∀ l∈r,lk' l=lk l)→Z4 lk' vs=some (avz,u,r)
 | [],avz,u,r,h,_=>h
 | v::vs,avz,u,r,h,hl=>by
  simp only [Z4] at h ⊢
  cases h1:y2n lk v with
  | none=>rw [h1] at h;cases h
  | some x =>
   cases h2:Z4 lk vs with
   | none=>rw [h1,h2] at h;cases h
   | some y =>
    obtain ⟨d,u1,r1⟩:=x
    obtain ⟨ds,us,rs⟩:=y
    rw [h1,h2] at h
    cases h
    rw [q6k h1 fun l hm=>hl l (List.mem_append_left _ hm),y8q h2 fun l hm=>hl l (List.mem_append_right _ hm)]
theorem j6d {v:AV} {xs:List (List DV)} {r:List Nat} (h:z3q lk v=some (xs,r)) (hl:∀ l∈r,lk' l=lk l):z3q lk' v=some (xs,r):=by
 cases v with
 | vec l len =>
  have hm:l∈r:=by
   simp only [z3q] at h
   cases hk:lk l with
   | none=>rw [hk] at h;cases h
   | some o=>rw [hk] at h;cases o <;> cases h <;> simp
  simp only [z3q,hl l hm] at h ⊢
  exact h
 | c d=>cases d <;> exact h
 | _=>exact h
theorem k6q {pl:Nat→Option (Nat × Nat)}:∀ {parts:List (Nat × AV)} {cells ds:List DV} {u:Ups} {r:List Nat},y1f pl lk cells parts=some (ds,u,r)→(∀ l∈r,lk' l=lk l)→y1f pl lk' cells parts=some (ds,u,r)
 | [],cells,ds,u,r,h,_=>h
 | (i,v)::parts,cells,ds,u,r,h,hl=>by
  simp only [y1f] at h ⊢
  cases hp:pl i with
  | none=>rw [hp] at h;cases h
  | some os =>
   obtain ⟨off,size⟩:=os
   cases hc:z7w lk v with
   | none=>rw [hp,hc] at h;cases h
   | some cur =>
    obtain ⟨cs,u1,r1⟩:=cur
    rw [hp,hc] at h
    simp only at h
    split at h
    · rename_i hcond
      cases hrest:y1f pl lk (V0 cells off cs) parts with
      | none=>rw [hrest] at h;cases h
      | some dur =>
       obtain ⟨ds',us,rs⟩:=dur
       rw [hrest] at h
       cases h
       rw [k9t hc fun l hm=>hl l (List.mem_append_left _ hm)]
       simp only
       rw [if_pos hcond,k6q hrest fun l hm=>hl l (List.mem_append_right _ hm)]
    · cases h
theorem q8u {t:Nat} {cs:List AV} {off:Nat} {x:AV × Ups × List Nat} (h:j5v D lk t cs off=some x) (hl:∀ l∈x.2.2,lk' l=lk l):j5v D lk' t cs off=some x:=by
 unfold j5v at h ⊢
 cases hn:D.size t with
 | none=>rw [hn] at h;cases h
 | some n =>
  rw [hn] at h
  simp only at h ⊢
  split at h
  · rename_i c1
    rw [if_pos c1]
    split at h
    · rename_i c2
      rw [if_pos c2]
      cases hd:Z4 lk ((cs.drop off).take n) with
      | none=>rw [hd] at h;cases h
      | some cur =>
       obtain ⟨avs,u,r⟩:=cur
       rw [hd] at h
       simp only at h
       cases ha:asDs avs with
       | none=>rw [ha] at h;cases h
       | some ds =>
        rw [ha] at h
        cases h
        rw [y8q hd hl]
        simp only [ha]
    · cases h
  · cases h
theorem x1o {t:Nat} {v:AV} {os:List Orc} {r:Eff × List Orc × List Prop} (h:z3h D lk t v os=some r) (hl:∀ l∈r.1.reads,lk' l=lk l):z3h D lk' t v os=some r:=by
 have key:∀ l∈v.at,l∈r.1.reads:=by
  intro l hm
  cases v with
  | ptr k off =>
   have e:l=k:=by simpa [AV.at] using hm
   subst e
   simp only [z3h] at h
   cases hk:lk l with
   | none=>rw [hk] at h;cases h
   | some o =>
    rw [hk] at h
    cases o with
    | cells cs =>
     simp only at h
     cases hp:k0a D t cs off with
     | some w =>
      rw [hp] at h
      cases A5 h
      simp [Eff.reads]
     | none =>
      rw [hp] at h
      obtain ⟨v,os1,p1,b,os2,q,h1,h2,rfl⟩:=bind_some h
      cases A5 h2
      simp [Eff.reads]
    | _=>cases h
  | vptr k i off =>
   have e:l=k:=by simpa [AV.at] using hm
   subst e
   simp only [z3h] at h
   cases hk:lk l with
   | none=>rw [hk] at h;cases h
   | some o =>
    rw [hk] at h
    have fin:∀ xs,(do let cs ← elem xs i;let v ← lift (x2z D t cs off);pure (Eff.val v [] [l]):M Eff) os=some r→l∈r.1.reads:=by
     intro xs h
     obtain ⟨cs,os1,p1,b,os2,q,h1,h2,rfl⟩:=bind_some h
     obtain ⟨v,os3,p3,b',os4,q',h3,h4,e⟩:=bind_some h2
     cases e
     cases A5 h4
     simp [Eff.reads]
    cases o with
    | vec t xs=>exact fin xs h
    | fro xs=>exact fin xs h
    | _=>cases h
  | vec=>cases h
  | _=>simp [AV.at] at hm
 cases v with
 | ptr l off =>
  simp only [z3h,hl l (key l (by simp [AV.at]))] at h ⊢
  cases hk:lk l with
  | none=>rw [hk] at h;cases h
  | some o =>
   rw [hk] at h
   cases o with
   | cells cs =>
    simp only at h ⊢
    cases hp:k0a D t cs off with
    | some v=>rw [hp] at h;exact h
    | none =>
     rw [hp] at h
     have h':=h
     obtain ⟨v,os1,p1,b,os2,q,h1,h2,rfl⟩:=bind_some h
     obtain ⟨w,h3,e⟩:=K4 h1
     cases e
     cases A5 h2
     have h4:=q8u (lk':=lk') h3 fun k hk=>hl k (by simp [Eff.reads,hk])
     rw [h3] at h'
     rw [h4]
     exact h'
   | _=>cases h
 | vptr l i off=>simp only [z3h,hl l (key l (by simp [AV.at]))] at h ⊢;exact h
 | _=>exact h
theorem x1k {v:AV} (h:∀ l∈v.rd,lk' l=lk l):v.alive lk'=v.alive lk:=by
 cases v with
 | vec l len=>simp only [AV.alive,h l (by simp [AV.rd])]
 | vptr l i off=>simp only [AV.alive,h l (by simp [AV.rd])]
 | _=>rfl
theorem q1f {t:Nat} {v:AV} {os:List Orc} {r:Eff × List Orc × List Prop} (h:y9w D lk t v os=some r) (hl:∀ l∈r.1.reads,lk' l=lk l):y9w D lk' t v os=some r:=by
 cases v with
 | ptr l off =>
  simp only [y9w] at h ⊢
  cases hk:lk l with
  | none=>rw [hk] at h;cases h
  | some ob =>
   rw [hk] at h
   cases ob with
   | cells cs =>
    cases hn:D.size t with
    | none=>rw [hn] at h;cases h
    | some n =>
     rw [hn] at h
     have h':=h
     obtain ⟨_,os1,p1,b1,os2,q1,h1,h2,rfl⟩:=bind_some h
     cases A5 h2
     rw [hl l (by simp [Eff.reads]),hk]
     have e:(((cs.drop off).take n).all fun v=>v.holds && v.alive lk')=((cs.drop off).take n).all fun v=>v.holds && v.alive lk:=by
      rw [Bool.eq_iff_iff,List.all_eq_true,List.all_eq_true]
      have e:∀ v∈(cs.drop off).take n,v.alive lk'=v.alive lk:=fun v hv=>x1k fun l hm=>hl l (by
       simp only [Eff.reads,List.mem_cons,List.mem_flatMap];exact .inr ⟨v,hv,hm⟩)
      exact ⟨fun h v hv=>by rw [← e v hv];exact h v hv,fun h v hv=>by rw [e v hv];exact h v hv⟩
     simp only [e]
     exact h'
   | _=>cases h
 | _=>cases h
theorem q3a {t:Nat} {v:AV} {os:List Orc} {r:Eff × List Orc × List Prop} (h:x7l D lk t v os=some r) (hl:∀ l∈r.1.reads,lk' l=lk l):x7l D lk' t v os=some r:=by
 cases os with
 | nil=>exact x1o h hl
 | cons q os =>
  cases q with
  | tv =>
   unfold x7l at h ⊢
   cases hc:D.isAgg t with
   | true=>rw [hc] at h;exact q1f h hl
   | false=>rw [hc] at h;exact x1o h hl
  | _=>exact x1o h hl
theorem q5j {v:AV} (hl:∀ l∈v.rd,lk' l=lk l):k0n lk' v=k0n lk v:=by
 cases v <;> first | rfl | (simp only [k0n];rw [x1k (lk:=lk) (lk':=lk') hl])
theorem j9k {pl:Nat→Option (Nat × Nat)}:∀ {parts:List (Nat × AV)} {cells bs:List AV},x2x pl lk cells parts=some bs→(∀ l,(∃ p∈parts,l∈p.2.rd)→lk' l=lk l)→x2x pl lk' cells parts=some bs
 | [],cells,bs,h,_=>h
 | (i,v)::parts,cells,bs,h,hl=>by
  simp only [x2x] at h ⊢
  cases hp:pl i with
  | none=>rw [hp] at h;cases h
  | some os =>
   rw [q5j (lk:=lk) (lk':=lk') fun l hm=>hl l ⟨_,List.mem_cons_self,hm⟩]
   cases hc:k0n lk v with
   | none=>rw [hp,hc] at h;cases h
   | some cs =>
    rw [hp,hc] at h
    simp only at h ⊢
    split at h
    · rename_i hcond
      rw [if_pos hcond]
      exact j9k h fun l ⟨p,hp,hm⟩=>hl l ⟨p,List.mem_cons_of_mem _ hp,hm⟩
    · cases h
theorem q1h {t:Nat} {v x:AV} {os:List Orc} {r:Eff × List Orc × List Prop} (h:z6o D lk t v x os=some r) (hl:∀ l∈r.1.reads,lk' l=lk l):z6o D lk' t v x os=some r:=by
 cases x with
 | ptr l off =>
  simp only [z6o] at h
  cases hk:lk l with
  | none=>rw [hk] at h;cases h
  | some o =>
   rw [hk] at h
   cases hz:D.size t with
   | none=>rw [hz] at h;cases o <;> cases h
   | some n =>
    rw [hz] at h
    cases o with
    | cells cs =>
     by_cases ha:∃ ds,v=.agg ds
     · obtain ⟨ds,rfl⟩:=ha
       have h':=h
       obtain ⟨_,os1,p1,b,os2,q,h1,h2,rfl⟩:=bind_some h
       cases A5 h2
       have:=hl l (by simp [Eff.reads])
       simp only [z6o,this,hk,hz]
       exact h'
     · by_cases hb2:∃ vs,v=.agv vs
       · obtain ⟨vs,rfl⟩:=hb2
         have h':=h
         obtain ⟨_,os1,p1,b,os2,q,h1,h2,rfl⟩:=bind_some h
         cases A5 h2
         have:=hl l (by simp [Eff.reads])
         simp only [z6o,this,hk,hz]
         exact h'
       have h':(do sure (v.holds && v.alive lk && n == 1 && decide (off+1≤cs.length));pure (.val .undef [(l,.cells (cs.set off v))] (l::v.rd)):M Eff) os=some r:=by
        cases v with
        | agg ds=>exact absurd ⟨_,rfl⟩ ha
        | agv vs=>exact absurd ⟨_,rfl⟩ hb2
        | _=>exact h
       obtain ⟨_,os1,p1,b,os2,q,h1,h2,e⟩:=bind_some h'
       have h3:=A5 h2
       have hr:r.1.reads=l::v.rd:=by rw [e];cases h3;rfl
       have e1:=hl l (by rw [hr];simp)
       have e2:=x1k (lk:=lk) (lk':=lk') (v:=v) fun k hk=>hl k (by rw [hr];simp [hk])
       have h4:(do sure (v.holds && v.alive lk' && n == 1 && decide (off+1≤cs.length));pure (.val .undef [(l,.cells (cs.set off v))] (l::v.rd)):M Eff) os=some r:=by rw [e2];exact h'
       simp only [z6o,e1,hk,hz]
       cases v with
       | agg ds=>exact absurd ⟨_,rfl⟩ ha
       | agv vs=>exact absurd ⟨_,rfl⟩ hb2
       | _=>exact h4
    | _=>cases h
 | vptr l i off =>
  simp only [z6o] at h
  cases hk:lk l with
  | none=>rw [hk] at h;cases h
  | some o =>
   rw [hk] at h
   cases hz:D.size t with
   | none=>rw [hz] at h;cases o <;> cases h
   | some n =>
    cases hc:z7w lk v with
    | none=>rw [hz,hc] at h;cases o <;> cases h
    | some x =>
     obtain ⟨ds,u,r'⟩:=x
     rw [hz,hc] at h
     cases o with
     | vec e xs =>
      have h':=h
      obtain ⟨cs,os1,p1,b,os2,q,h1,h2,rfl⟩:=bind_some h
      obtain ⟨_,os3,p3,b',os4,q',h3,h4,e⟩:=bind_some h2
      cases e
      cases A5 h4
      simp only [z6o,hl l (by simp [Eff.reads]),hk,hz,k9t hc fun k hm=>hl k (by simp [Eff.reads,hm])]
      exact h'
     | _=>cases h
 | _=>cases h
theorem q1e {t f:Nat} {v:AV} {os:List Orc} {r:Eff × List Orc × List Prop} (h:y7c D lk t f v os=some r) (hl:∀ l∈r.1.reads,lk' l=lk l):y7c D lk' t f v os=some r:=by
 cases v with
 | vptr l i off =>
  have hm:l∈r.1.reads:=by
   unfold y7c at h
   cases hp:x5q D t f with
   | none=>rw [hp] at h;cases h
   | some p =>
    obtain ⟨o,n⟩:=p
    rw [hp] at h
    obtain ⟨_,os1,p1,b,os2,q,h1,h2,rfl⟩:=bind_some h
    simp only at h2
    cases hk:lk l with
    | none=>rw [hk] at h2;cases h2
    | some o=>rw [hk] at h2;cases o <;> first | (cases A5 h2;simp [Eff.reads]) | cases h2
  simp only [y7c,hl l hm] at h ⊢
  exact h
 | _=>exact h
theorem k6o {t:Nat} {v:AV} {i:Int} {os:List Orc} {r:Eff × List Orc × List Prop} (h:z1m D lk t v i os=some r) (hl:∀ l∈r.1.reads,lk' l=lk l):z1m D lk' t v i os=some r:=by
 cases v with
 | vec l len =>
  have hm:l∈r.1.reads:=by
   unfold z1m at h
   cases ht:D.ty t with
   | none=>rw [ht] at h;cases h
   | some tt =>
    obtain ⟨_,_,u,_⟩:=tt
    rw [ht] at h
    cases u with
    | slice e =>
     simp only at h
     cases hk:lk l with
     | none=>rw [hk] at h;cases h
     | some o =>
      rw [hk] at h
      cases o with
      | vec e' xs =>
       obtain ⟨_,os1,p1,b,os2,q,h1,h2,rfl⟩:=bind_some h
       obtain ⟨_,os3,p3,b',os4,q',h3,h4,e⟩:=bind_some h2
       cases e
       cases A5 h4
       simp [Eff.reads]
      | fro xs =>
       obtain ⟨_,os1,p1,b,os2,q,h1,h2,rfl⟩:=bind_some h
       obtain ⟨_,os3,p3,b',os4,q',h3,h4,e⟩:=bind_some h2
       cases e
       obtain ⟨_,os5,p5,b5,os6,q5,h5,h6,e⟩:=bind_some h4
       cases e
       cases A5 h6
       simp [Eff.reads]
      | _=>cases h
    | _=>cases h
  have e:=hl l hm
  unfold z1m at h ⊢
  cases ht:D.ty t with
  | none=>rw [ht] at h;cases h
  | some tt =>
   obtain ⟨_,_,u,_⟩:=tt
   rw [ht] at h
   cases u <;> first | exact h | (simp only [e];exact h)
 | c d =>
  cases d <;>
  (unfold z1m at h ⊢
   cases ht:D.ty t with
   | none=>rw [ht] at h;first | exact h | cases h
   | some tt =>
    obtain ⟨_,_,u,_⟩:=tt
    rw [ht] at h
    cases u <;> first | exact h | cases h)
 | _ =>
  unfold z1m at h ⊢
  cases ht:D.ty t with
  | none=>rw [ht] at h;first | exact h | cases h
  | some tt =>
   obtain ⟨_,_,u,_⟩:=tt
   rw [ht] at h
   cases u <;> first | exact h | cases h
theorem y8z {t:Nat} {v:AV} {lo hi:Option Int} {os:List Orc} {r:Eff × List Orc × List Prop} (h:z6v D lk t v lo hi os=some r) (hl:∀ l∈r.1.reads,lk' l=lk l):z6v D lk' t v lo hi os=some r:=by
 cases v with
 | vec l len =>
  have hm:l∈r.1.reads:=by
   unfold z6v at h
   cases ht:D.ty t with
   | none=>rw [ht] at h;cases h
   | some tt =>
    obtain ⟨_,_,u,_⟩:=tt
    rw [ht] at h
    cases u with
    | slice e =>
     simp only at h
     cases he:D.size e with
     | none=>rw [he] at h;cases h
     | some m =>
     rw [he] at h
     simp only at h
     cases lo with
     | none =>
      simp only at h
      cases hk:lk l with
      | none=>rw [hk] at h;cases h
      | some o =>
       rw [hk] at h
       cases o with
       | vec e' xs =>
        obtain ⟨_,os1,p1,b,os2,q,h1,h2,rfl⟩:=bind_some h
        cases A5 h2
        simp [Eff.reads]
       | fro xs =>
        obtain ⟨_,os1,p1,b,os2,q,h1,h2,rfl⟩:=bind_some h
        cases A5 h2
        simp [Eff.reads]
       | _=>cases h
     | some lo =>
      simp only at h
      cases hk:lk l with
      | none=>rw [hk] at h;cases h
      | some o =>
       rw [hk] at h
       cases o with
       | vec e' xs =>
        obtain ⟨_,os1,p1,b,os2,q,h1,h2,rfl⟩:=bind_some h
        obtain ⟨_,os3,p3,b',os4,q',h3,h4,e⟩:=bind_some h2
        cases e
        cases A5 h4
        simp [Eff.reads]
       | fro xs =>
        obtain ⟨_,os1,p1,b,os2,q,h1,h2,rfl⟩:=bind_some h
        cases A5 h2
        simp [Eff.reads]
       | _=>cases h
    | _=>cases h
  have e:=hl l hm
  unfold z6v at h ⊢
  cases ht:D.ty t with
  | none=>rw [ht] at h;cases h
  | some tt =>
   obtain ⟨_,_,u,_⟩:=tt
   rw [ht] at h
   cases u <;> first | exact h | (simp only [e];exact h)
 | c d =>
  cases d <;>
  (unfold z6v at h ⊢
   cases ht:D.ty t with
   | none=>rw [ht] at h;first | exact h | cases h
   | some tt =>
    obtain ⟨_,_,u,_⟩:=tt
    rw [ht] at h
    cases u <;> first | exact h | cases h)
 | _ =>
  unfold z6v at h ⊢
  cases ht:D.ty t with
  | none=>rw [ht] at h;first | exact h | cases h
  | some tt =>
   obtain ⟨_,_,u,_⟩:=tt
   rw [ht] at h
   cases u <;> first | exact h | cases h
theorem q3b {t:Nat} {v:AV} {lo hi:Option Int} {os:List Orc} {r:Eff × List Orc × List Prop} (h:x7m D lk t v lo hi os=some r) (hl:∀ l∈r.1.reads,lk' l=lk l):x7m D lk' t v lo hi os=some r:=by
 unfold x7m at h ⊢
 cases ht:D.ty t with
 | none=>rw [ht] at h;cases h
 | some tt =>
 obtain ⟨sz,by',u,zz⟩:=tt
 rw [ht] at h
 cases u with
 | slice e =>
  cases v with
  | vec l len =>
   cases lo with
   | none=>cases h
   | some lo =>
    simp only at h ⊢
    cases hk:lk l with
    | none=>rw [hk] at h;cases h
    | some ob =>
     rw [hk] at h
     cases ob with
     | vec e' ys =>
      cases he:D.ty e with
      | none=>rw [he] at h;cases h
      | some ti =>
       rw [he] at h
       have h':=h
       obtain ⟨_,os1,p1,b1,os2,q1,h3,h4,rfl⟩:=bind_some h
       obtain ⟨_,os3,p3,b3,os4,q3,h5,h6,e2⟩:=bind_some h4
       cases e2
       cases A5 h6
       rw [hl l (by simp [Eff.reads]),hk]
       exact h'
     | _=>cases h
  | _=>cases h
 | _=>cases h
theorem q1g {t:Nat} {v:AV} {lo hi:Option Int} {os:List Orc} {r:Eff × List Orc × List Prop} (h:y9x D lk t v lo hi os=some r) (hl:∀ l∈r.1.reads,lk' l=lk l):y9x D lk' t v lo hi os=some r:=by
 cases os with
 | nil=>exact y8z h hl
 | cons q os =>
  cases q with
  | tl =>
   unfold y9x at h ⊢
   cases hc:lo.isSome && v.isRow with
   | true=>rw [hc] at h;exact q3b h hl
   | false=>rw [hc] at h;exact y8z h hl
  | _=>exact y8z h hl
theorem j4m {src dst:Nat} {v:AV} {os:List Orc} {r:Eff × List Orc × List Prop} (h:z5m D lk src dst v os=some r) (hl:∀ l∈r.1.reads,lk' l=lk l):z5m D lk' src dst v os=some r:=by
 cases v with
 | vec l len =>
  have hm:l∈r.1.reads:=by
   unfold z5m at h
   cases ht:D.ty src with
   | none=>rw [ht] at h;cases h
   | some tt =>
   cases ht2:D.ty dst with
   | none=>rw [ht,ht2] at h;cases h
   | some tt2 =>
   obtain ⟨_,_,u,_⟩:=tt
   obtain ⟨_,_,u2,_⟩:=tt2
   rw [ht,ht2] at h
   cases u with
   | slice e =>
    cases u2 with
    | str =>
     simp only at h
     cases he:D.ty e with
     | none=>rw [he] at h;cases h
     | some te =>
     cases hr:z3q lk (.vec l len) with
     | none =>
      rw [he,hr] at h
      obtain ⟨_,_,ue,_⟩:=te
      cases ue with
      | int k=>cases k <;> cases h
      | _=>cases h
     | some yr =>
      obtain ⟨ys,rr⟩:=yr
      rw [he,hr] at h
      have hm':l∈rr:=by
       simp only [z3q] at hr
       cases hk:lk l with
       | none=>rw [hk] at hr;cases hr
       | some o=>rw [hk] at hr;cases o <;> cases hr <;> simp
      obtain ⟨_,_,ue,_⟩:=te
      cases ue with
      | int k =>
       cases k with
       | u8 =>
        obtain ⟨_,os1,p1,b1,os2,q1,h3,h4,rfl⟩:=bind_some h
        cases A5 h4
        exact hm'
       | _=>cases h
      | _=>cases h
    | _=>cases h
   | _=>cases u2 <;> cases h
  have e:z3q lk' (.vec l len)=z3q lk (.vec l len):=by simp only [z3q,hl l hm]
  unfold z5m at h ⊢
  cases ht:D.ty src with
  | none=>rw [ht] at h;cases h
  | some tt =>
  cases ht2:D.ty dst with
  | none=>rw [ht,ht2] at h;cases h
  | some tt2 =>
   obtain ⟨_,_,u,_⟩:=tt
   obtain ⟨_,_,u2,_⟩:=tt2
   rw [ht,ht2] at h
   cases u <;> cases u2 <;> first | exact h | (simp only [e];exact h)
 | c d =>
  cases d <;>
  (unfold z5m at h ⊢
   cases ht:D.ty src with
   | none=>rw [ht] at h;first | exact h | cases h
   | some tt =>
   cases ht2:D.ty dst with
   | none=>rw [ht,ht2] at h;first | exact h | cases h
   | some tt2 =>
    obtain ⟨_,_,u,_⟩:=tt
    obtain ⟨_,_,u2,_⟩:=tt2
    rw [ht,ht2] at h
    cases u <;> cases u2 <;> first | exact h | cases h)
 | _ =>
  unfold z5m at h ⊢
  cases ht:D.ty src with
  | none=>rw [ht] at h;first | exact h | cases h
  | some tt =>
  cases ht2:D.ty dst with
  | none=>rw [ht,ht2] at h;first | exact h | cases h
  | some tt2 =>
   obtain ⟨_,_,u,_⟩:=tt
   obtain ⟨_,_,u2,_⟩:=tt2
   rw [ht,ht2] at h
   cases u <;> cases u2 <;> first | exact h | cases h
theorem y7b {fr t:Nat} {s x:AV} {os:List Orc} {r:Eff × List Orc × List Prop} (h:z5l D lk fr t s x os=some r) (hl:∀ l∈r.1.reads,lk' l=lk l):z5l D lk' fr t s x os=some r:=by
 have h0:=h
 unfold z5l at h
 cases ht:D.ty t with
 | none=>rw [ht] at h;cases h
 | some tt =>
 obtain ⟨sz,by',u,zz⟩:=tt
 rw [ht] at h
 cases u with
 | slice e =>
  cases hrow:z3q lk x with
  | none=>rw [hrow] at h;cases h
  | some yr =>
  obtain ⟨ys,rr⟩:=yr
  rw [hrow] at h
  simp only at h
  cases he:D.ty e with
  | none=>rw [he] at h;cases h
  | some ti =>
  rw [he] at h
  obtain ⟨_,os1,p1,b1,os2,q1,h1,h2,rfl⟩:=bind_some h
  obtain ⟨_,os3,p2,b2,os4,q2,h3,h4,e2⟩:=bind_some h2
  cases e2
  cases s with
  | nils =>
   simp only at h4
   obtain ⟨_,os5,p5,b5,os6,q5,h5,h6,e5⟩:=bind_some h4
   cases e5
   cases A5 h6
   have e:=j6d hrow (lk':=lk') fun l hm=>hl l hm
   simp only [z5l,ht,hrow,e,he] at h0 ⊢
   exact h0
  | vec l len =>
   simp only at h4
   cases hlv:lk l with
   | none=>rw [hlv] at h4;cases h4
   | some ob =>
   rw [hlv] at h4
   cases ob with
   | vec e' xs =>
    simp only at h4
    obtain ⟨_,os5,p5,b5,os6,q5,h5,h6,e5⟩:=bind_some h4
    cases e5
    obtain ⟨_,os7,p7,b7,os8,q7,h7,h8,e7⟩:=bind_some h6
    cases e7
    cases A5 h8
    have e:=j6d hrow (lk':=lk') fun k hm=>hl k (by simp [Eff.reads,hm])
    have e1:=hl l (by simp [Eff.reads])
    simp only [z5l,ht,hrow,e,he,e1] at h0 ⊢
    exact h0
   | _=>cases h4
  | _=>cases h4
 | _=>cases h
theorem j4k {fr t:Nat} {s x:AV} {os:List Orc} {r:Eff × List Orc × List Prop} (h:y3h D lk fr t s x os=some r) (hl:∀ l∈r.1.reads,lk' l=lk l):y3h D lk' fr t s x os=some r:=by
 unfold y3h at h ⊢
 cases ht:D.ty t with
 | none=>rw [ht] at h;cases h
 | some tt =>
 obtain ⟨sz,by',u,zz⟩:=tt
 rw [ht] at h
 cases u with
 | slice e =>
  cases s with
  | vec l len =>
   cases x with
   | vtl e' l' lo hi =>
    simp only at h ⊢
    cases hk:lk l with
    | none=>rw [hk] at h;cases h
    | some ob =>
     rw [hk] at h
     cases ob with
     | vec e2 xs =>
      cases he:D.ty e with
      | none=>rw [he] at h;cases h
      | some ti =>
       rw [he] at h
       have h':=h
       obtain ⟨_,os1,p1,b1,os2,q1,h1,h2,rfl⟩:=bind_some h
       obtain ⟨_,os3,p3,b3,os4,q3,h3,h4,e3⟩:=bind_some h2
       cases e3
       cases A5 h4
       rw [hl l (by simp [Eff.reads]),hk]
       exact h'
     | _=>cases h
   | _=>cases h
  | _=>cases h
 | _=>cases h
theorem j7u {fr t:Nat} {s x:AV} {os:List Orc} {r:Eff × List Orc × List Prop} (h:y6m D lk fr t s x os=some r) (hl:∀ l∈r.1.reads,lk' l=lk l):y6m D lk' fr t s x os=some r:=by
 cases os with
 | nil=>exact y7b h hl
 | cons q os =>
  cases q with
  | ta =>
   unfold y6m at h ⊢
   cases hc:x.isVtl with
   | true=>rw [hc] at h;exact j4k h hl
   | false=>rw [hc] at h;exact y7b h hl
  | _=>exact y7b h hl
theorem j4l {fr:Nat} {b:Builtin} {ts:Array Nat} {args:List AV} {os:List Orc} {r:Eff × List Orc × List Prop} (h:O9 D lk fr b ts args os=some r) (hl:∀ l∈r.1.reads,lk' l=lk l):O9 D lk' fr b ts args os=some r:=by
 cases b with
 | len =>
  cases args with
  | nil=>exact h
  | cons x xs =>
   cases xs with
   | cons y ys =>
    cases x with
    | c d=>cases d <;> exact h
    | _=>exact h
   | nil =>
    cases x with
    | vec l len =>
     have hm:l∈r.1.reads:=by
      simp only [O9] at h
      cases ht0:ts[0]? with
      | none=>rw [ht0] at h;cases h
      | some t =>
      rw [ht0] at h
      simp only at h
      cases ht:D.ty t with
      | none=>rw [ht] at h;cases h
      | some tt =>
      obtain ⟨_,_,u,_⟩:=tt
      rw [ht] at h
      cases u with
      | slice e =>
       simp only at h
       cases hk:lk l with
       | none=>rw [hk] at h;cases h
       | some o=>rw [hk] at h;cases o <;> first | (cases A5 h;simp [Eff.reads]) | cases h
      | _=>cases h
     have e:=hl l hm
     simp only [O9] at h ⊢
     cases ht0:ts[0]? with
     | none=>rw [ht0] at h;cases h
     | some t =>
     rw [ht0] at h
     simp only at h ⊢
     cases ht:D.ty t with
     | none=>rw [ht] at h;cases h
     | some tt =>
     obtain ⟨_,_,u,_⟩:=tt
     rw [ht] at h
     cases u <;> first | exact h | (simp only [e];exact h)
    | c d =>
     cases d <;>
     (simp only [O9] at h ⊢
      cases ht0:ts[0]? with
      | none=>rw [ht0] at h;first | exact h | cases h
      | some t =>
      rw [ht0] at h
      simp only at h ⊢
      cases ht:D.ty t with
      | none=>rw [ht] at h;first | exact h | cases h
      | some tt =>
      obtain ⟨_,_,u,_⟩:=tt
      rw [ht] at h
      cases u <;> first | exact h | cases h)
    | _ =>
     simp only [O9] at h ⊢
     cases ht0:ts[0]? with
     | none=>rw [ht0] at h;first | exact h | cases h
     | some t =>
     rw [ht0] at h
     simp only at h ⊢
     cases ht:D.ty t with
     | none=>rw [ht] at h;first | exact h | cases h
     | some tt =>
     obtain ⟨_,_,u,_⟩:=tt
     rw [ht] at h
     cases u <;> first | exact h | cases h
 | append =>
  cases args with
  | nil=>exact h
  | cons x xs =>
   cases xs with
   | nil=>exact h
   | cons y ys =>
    cases ys with
    | cons z zs=>exact h
    | nil =>
     simp only [O9] at h ⊢
     cases ht:ts.toList with
     | nil=>rw [ht] at h;cases h
     | cons t ts' =>
      cases ts' with
      | nil=>rw [ht] at h;cases h
      | cons t' ts'' =>
       cases ts'' with
       | nil =>
        rw [ht] at h
        obtain ⟨_,os1,p1,b1,os2,q1,h1,h2,rfl⟩:=bind_some h
        have h3:=j7u h2 (lk':=lk') hl
        exact U2 h1 h3
       | cons _ _=>rw [ht] at h;cases h
 | clear =>
  cases args with
  | nil=>exact h
  | cons x xs =>
   cases xs with
   | cons _ _=>cases x <;> exact h
   | nil =>
    cases x with
    | vtl e l lo hi =>
     simp only [O9] at h ⊢
     cases hk:lk l with
     | none=>rw [hk] at h;cases h
     | some ob =>
      rw [hk] at h
      cases ob with
      | vec e' xs =>
       have h':=h
       cases he:D.ty e with
       | none=>rw [he] at h;cases h
       | some ti =>
        cases hts:ts.toList with
        | nil=>rw [he,hts] at h;cases h
        | cons t ts' =>
         cases ts' with
         | cons _ _=>rw [he,hts] at h;cases h
         | nil =>
          rw [he,hts] at h
          simp only at h
          cases ht:D.ty t with
          | none=>rw [ht] at h;cases h
          | some tt =>
           obtain ⟨_,_,u,_⟩:=tt
           rw [ht] at h
           cases u with
           | slice e2 =>
            obtain ⟨_,os1,p1,b1,os2,q1,h3,h4,rfl⟩:=bind_some h
            cases A5 h4
            rw [hl l (by simp [Eff.reads]),hk]
            rw [he,hts] at h'
            exact h'
           | _=>cases h
      | _=>cases h
    | _=>exact h
 | max =>
  cases args with
  | nil=>exact h
  | cons x xs =>
   cases x with
   | c d=>cases d <;> exact h
   | _=>exact h
 | min =>
  cases args with
  | nil=>exact h
  | cons x xs =>
   cases x with
   | c d=>cases d <;> exact h
   | _=>exact h
 | _=>exact h
theorem x5n {f:Nat} {args:List AV} {os:List Orc} {r:Eff × List Orc × List Prop} (h:y1w D lk f args os=some r) (hl:∀ l∈r.1.reads,lk' l=lk l):y1w D lk' f args os=some r:=by
 unfold y1w at h ⊢
 split at h
 · rename_i c;rw [if_pos c];exact h
 · rename_i c
   rw [if_neg c]
   cases hd:Z4 lk args with
   | none=>rw [hd] at h;cases h
   | some x =>
    obtain ⟨ds,u,rr⟩:=x
    rw [hd] at h
    cases A5 h
    rw [y8q hd hl]
    rfl
theorem q1i {ρ:Operand→AV} {fr:Nat} {o:Op} {os:List Orc} {r:Eff × List Orc × List Prop} (h:eff D ρ lk fr o os=some r) (hl:∀ l∈r.1.reads,lk' l=lk l):eff D ρ lk' fr o os=some r:=by
 cases o with
 | box t x =>
  simp only [eff] at h ⊢
  by_cases ha:∃ ds,ρ x=.agg ds
  · obtain ⟨ds,e⟩:=ha
    rw [e] at h ⊢
    exact h
  · generalize ρ x=v at h ha ⊢
    have h':(do sure (v.holds && v.alive lk);pure (.val (.ptr fr 0) [(fr,.cells [v])] v.rd):M Eff) os=some r:=by
     cases v with
     | agg ds=>exact absurd ⟨_,rfl⟩ ha
     | _=>exact h
    obtain ⟨_,os1,p1,q,os2,p2,h1,h2,e⟩:=bind_some h'
    have h3:=A5 h2
    have hr:r.1.reads=v.rd:=by rw [e];cases h3;rfl
    have e2:=x1k (lk:=lk) (lk':=lk') (v:=v) fun k hk=>hl k (by rw [hr];exact hk)
    have h4:(do sure (v.holds && v.alive lk');pure (.val (.ptr fr 0) [(fr,.cells [v])] v.rd):M Eff) os=some r:=by rw [e2];exact h'
    cases v with
    | agg ds=>exact absurd ⟨_,rfl⟩ ha
    | _=>exact h4
 | build t parts =>
  simp only [eff] at h ⊢
  cases ht:D.ty t with
  | none=>rw [ht] at h;cases h
  | some ti =>
   rw [ht] at h
   simp only at h ⊢
   have old:∀ os,(do
       sure (D.isAgg t)
       let (cs,u,r) ← lift (y1f (place D t) lk ti.zero (parts.toList.map fun p=>(p.1,ρ p.2)))
       pure (.val (.agg cs) u r):M Eff) os=some r→(do
       sure (D.isAgg t)
       let (cs,u,r) ← lift (y1f (place D t) lk' ti.zero (parts.toList.map fun p=>(p.1,ρ p.2)))
       pure (.val (.agg cs) u r):M Eff) os=some r:=by
    intro os h
    have h0:=h
    obtain ⟨_,os1,p1,b1,os2,q1,h1,h2,rfl⟩:=bind_some h
    obtain ⟨x,os3,p3,b3,os4,q3,h3,h4,e4⟩:=bind_some h2
    cases e4
    obtain ⟨x',h5,e5⟩:=K4 h3
    cases e5
    obtain ⟨cs,u,r⟩:=x
    cases A5 h4
    rw [k6q h5 hl]
    rw [h5] at h0
    exact h0
   have new:∀ os,(do
       sure (D.isAgg t)
       let vs ← lift (x2x (place D t) lk (ti.zero.map fun | .list _=>.nils | d=>.c d) (parts.toList.map fun p=>(p.1,ρ p.2)))
       pure (.val (.agv vs) [] ((parts.toList.map fun p=>(p.1,ρ p.2)).flatMap fun p=>p.2.rd)):M Eff) os=some r→(do
       sure (D.isAgg t)
       let vs ← lift (x2x (place D t) lk' (ti.zero.map fun | .list _=>.nils | d=>.c d) (parts.toList.map fun p=>(p.1,ρ p.2)))
       pure (.val (.agv vs) [] ((parts.toList.map fun p=>(p.1,ρ p.2)).flatMap fun p=>p.2.rd)):M Eff) os=some r:=by
    intro os h
    have h0:=h
    obtain ⟨_,os1,p1,b1,os2,q1,h1,h2,rfl⟩:=bind_some h
    obtain ⟨x,os3,p3,b3,os4,q3,h3,h4,e4⟩:=bind_some h2
    cases e4
    obtain ⟨x',h5,e5⟩:=K4 h3
    cases e5
    cases A5 h4
    have:=j9k (lk':=lk') h5 fun l hm=>hl l (by
     obtain ⟨p,hp,hm⟩:=hm
     exact List.mem_flatMap.2 ⟨p,hp,hm⟩)
    rw [this]
    rw [h5] at h0
    exact h0
   cases os with
   | nil=>exact old _ h
   | cons q os=>cases q <;> first | exact new _ h | exact old _ h
 | buildSlice t len parts =>
  simp only [eff] at h ⊢
  cases ht:D.ty t with
  | none=>rw [ht] at h;cases h
  | some tt =>
   obtain ⟨sz,by',u,zz⟩:=tt
   rw [ht] at h
   cases u with
   | slice e =>
    simp only at h ⊢
    cases he:D.ty e with
    | none=>rw [he] at h;cases h
    | some ti =>
     rw [he] at h
     simp only at h ⊢
     cases hca:(parts.toList.any fun p=>(ρ p.2).caps) with
     | true=>rw [hca] at h;exact h
     | false =>
      rw [hca] at h
      simp only [cond_false] at h ⊢
      have h0:=h
      obtain ⟨_,os1,p1,b1,os2,q1,h1,h2,rfl⟩:=bind_some h
      obtain ⟨x,os3,p3,b3,os4,q3,h3,h4,e4⟩:=bind_some h2
      cases e4
      obtain ⟨x',h5,e5⟩:=K4 h3
      cases e5
      obtain ⟨cs,u,r⟩:=x
      cases A5 h4
      rw [k6q h5 hl]
      rw [h5] at h0
      exact h0
   | _=>cases h
 | makeFunc fn first cap =>
  cases fn with
  | func f =>
   simp only [eff] at h ⊢
   split at h
   · rename_i c;rw [if_pos c];exact h
   · rename_i c
     rw [if_neg c]
     have h0:=h
     obtain ⟨_,os1,p1,b1,os2,q1,h1,h2,rfl⟩:=bind_some h
     obtain ⟨x,os3,p3,b3,os4,q3,h3,h4,e4⟩:=bind_some h2
     cases e4
     obtain ⟨x',h5,e5⟩:=K4 h3
     cases e5
     obtain ⟨ds,u,r⟩:=x
     cases A5 h4
     rw [y8q h5 hl]
     rw [h5] at h0
     exact h0
  | _=>exact h
 | load t a=>exact q3a h hl
 | store t a x=>exact q1h h hl
 | convert src dst x=>exact j4m h hl
 | slice t x lo hi mx =>
  cases mx with
  | none =>
   simp only [eff] at h ⊢
   obtain ⟨l,os1,p1,b1,os2,q1,h1,h2,rfl⟩:=bind_some h
   obtain ⟨hh,os3,p3,b3,os4,q3,h3,h4,e4⟩:=bind_some h2
   cases e4
   have h5:=q1g h4 (lk':=lk') hl
   exact U2 h1 (U2 h3 h5)
  | some _=>exact h
 | fieldAddr t x f=>exact q1e h hl
 | indexAddr t x i =>
  simp only [eff] at h ⊢
  cases hi:ρ i with
  | c d =>
   rw [hi] at h
   cases d with
   | int k n=>exact k6o h hl
   | _=>cases h
  | _=>rw [hi] at h;cases h
 | call c =>
  obtain ⟨cal,args,ts⟩:=c
  cases cal with
  | value g =>
   simp only [eff] at h ⊢
   cases hg:ρ g with
   | fn f cap=>rw [hg] at h;exact x5n h hl
   | mv f ds=>rw [hg] at h;exact x5n h hl
   | c d =>
    rw [hg] at h
    cases d with
    | fn f=>exact x5n h hl
    | _=>cases h
   | _=>rw [hg] at h;cases h
  | builtin b=>exact j4l h hl
  | _=>cases h
 | _=>exact h
theorem k3d {ρ ρ':Operand→AV} {fr:Nat} {o:Op} (h:∀ x∈o.operands,ρ' x=ρ x):eff D ρ' lk fr o=eff D ρ lk fr o:=by
 have arr:∀ xs:Array Operand,(∀ x∈xs,ρ' x=ρ x)→xs.toList.map ρ'=xs.toList.map ρ:=fun xs hx=>List.map_congr_left fun x hm=>hx x (by simpa using hm)
 have pairs:∀ ps:Array (Nat × Operand),(∀ x∈ps.map (·.2),ρ' x=ρ x)→(ps.toList.map fun p=>(p.1,ρ' p.2))=ps.toList.map fun p=>(p.1,ρ p.2):=fun ps hp =>
  List.map_congr_left fun p hm=>by rw [hp p.2 (Array.mem_map.2 ⟨p,by simpa using hm,rfl⟩)]
 cases o <;> simp only [Op.operands] at h <;> simp only [eff]
 case build t ps=>rw [pairs ps fun x hx=>h x (by simpa using hx)]
 case buildSlice t n ps =>
  have e:=pairs ps fun x hx=>h x (by simpa using hx)
  have e1:(ps.toList.any fun p=>(ρ' p.2).caps)=ps.toList.any fun p=>(ρ p.2).caps:=by
   have:=congrArg (fun l:List (Nat × AV)=>l.any fun q=>q.2.caps) e
   rwa [List.any_map,List.any_map] at this
  have e2:(ps.toList.all fun p=>(ρ' p.2).caps)=ps.toList.all fun p=>(ρ p.2).caps:=by
   have:=congrArg (fun l:List (Nat × AV)=>l.all fun q=>q.2.caps) e
   rwa [List.all_map,List.all_map] at this
  have e3:(ps.toList.map fun p=>ρ' p.2)=ps.toList.map fun p=>ρ p.2:=by
   have:=congrArg (fun l:List (Nat × AV)=>l.map fun q=>q.2) e
   rwa [List.map_map,List.map_map] at this
  rw [e,e1,e2,e3]
 case makeFunc fn first captured =>
  cases fn with
  | func f=>simp only;rw [arr captured fun x hx=>h x (by simp [hx]),arr first fun x hx=>h x (by simp [hx])]
  | _=>rfl
 case call c =>
  obtain ⟨cal,args,ts⟩:=c
  cases cal with
  | value g =>
   simp only
   rw [arr args fun x hx=>h x (by simp [Call.operands,hx]),h g (by simp [Call.operands])]
  | builtin b=>simp only;rw [arr args fun x hx=>h x (by simp [Call.operands,hx])]
  | _=>rfl
 case slice t x lo hi mx =>
  cases mx with
  | none=>cases lo <;> cases hi <;> simp_all
  | some _=>rfl
 all_goals (first | rfl | (simp_all;done))
end
end Gev
namespace Gev
open Go
variable {D:Tab} {C:Sem3}
theorem v0o {α:Type} (n:Nat) (f:Nat→α):force n f=f n:=by cases n <;> rfl
def k0h (ops:List Oper) (o:Oper) (s s':List AV):Prop:=∀ t∈o.looksAt ops.toArray,s'.getD t .undef=s.getD t .undef
theorem k4t {ops:List Oper} {o:Oper} {s s':List AV} (h:k0h ops o s s'):∀ x∈o.op.operands,rho s' x=rho s x:=by
 intro x hx
 cases x with
 | tmp t=>exact h t (List.mem_append_left _ (List.mem_filterMap.2 ⟨.tmp t,by simpa using hx,rfl⟩))
 | _=>rfl
theorem q5a {ops:List Oper} {o:Oper} {s s':List AV} (h:k0h ops o s s'):x7y ops s' o=x7y ops s o:=by
 unfold x7y
 cases hg:o.guard with
 | none=>rfl
 | some gw =>
  obtain ⟨g,want⟩:=gw
  simp only
  cases ht:(ops[g]?).bind (·.dst) with
  | none=>rfl
  | some t =>
   simp only
   rw [h t (List.mem_append_right _ (by simp [hg,ht]))]
theorem y6o {objs:Objs}:∀ {u:Ups} {l:Nat},l ∉ u.map (·.1)→lk (C3 objs u) l=lk objs l:=by
 intro u
 induction u generalizing objs with
 | nil=>intro l _;rfl
 | cons p u ih =>
  intro l hl
  simp only [List.map_cons,List.mem_cons,not_or] at hl
  simp only [C3]
  rw [ih hl.2]
  unfold lk
  rw [List.getD_eq_getElem?_getD,List.getD_eq_getElem?_getD,List.getElem?_set_ne (Ne.symm hl.1)]
theorem q6f {objs:Objs} {l:Nat} {o:Option Ob}:∀ {u:Ups},l ∉ u.map (·.1)→(C3 objs u).set l o=C3 (objs.set l o) u:=by
 intro u
 induction u generalizing objs with
 | nil=>intro _;rfl
 | cons p u ih =>
  intro hl
  simp only [List.map_cons,List.mem_cons,not_or] at hl
  simp only [C3]
  rw [ih hl.2,List.set_comm _ _ (Ne.symm hl.1)]
theorem q4r {objs:Objs} {u u':Ups} (h:∀ l∈u.map (·.1),l ∉ u'.map (·.1)):C3 (C3 objs u) u'=C3 (C3 objs u') u:=by
 induction u generalizing objs with
 | nil=>rfl
 | cons p u ih =>
  simp only [C3]
  rw [ih fun l hl=>h l (by simp only [List.map_cons,List.mem_cons];exact .inr hl),q6f (h p.1 (by simp))]
theorem y8k (objs:Objs) (u:Ups):(C3 objs u).length=objs.length:=by
 induction u generalizing objs with
 | nil=>rfl
 | cons p u ih=>simp only [C3];rw [ih,List.length_set]
theorem k2e {mk:Bool} {fr:Nat} {objs objs':Objs} {u:Ups} (h:k0e mk fr objs u=true) (hl:∀ l∈u.map (·.1),lk objs' l=lk objs l):k0e mk fr objs' u=true:=by
 unfold k0e at *
 rw [List.all_eq_true] at *
 intro p hp
 rw [hl p.1 (List.mem_map.2 ⟨p,hp,rfl⟩)]
 exact h p hp
theorem x0z {b:Bool} (h:b=true) (os:List Orc):sure b os=some ((),os,[]):=by subst h;rfl
theorem v3e {f fr:Nat} {args:List AV} {v:AV} {us:Ups} {os os':List Orc} {ps:List Prop} (h:askN C f fr args os=some ((v,us),os',ps)):∀ p∈us,p.1=fr:=by
 unfold askN at h
 cases os with
 | nil=>cases h
 | cons x os =>
  cases x with
  | nw n t xs=>cases h;intro p hp;simp at hp;rw [hp]
  | nv w t xs =>
   simp only at h
   cases hb:w.inB 1 with
   | false=>rw [hb] at h;cases h
   | true=>rw [hb] at h;cases h;intro p hp;simp at hp;rw [hp]
  | v r=>cases h;intro p hp;cases hp
  | _=>cases h
theorem x0v {ops:List Oper} {fr:Nat} {o:Oper} {st st':St} {g:Log} {os os':List Orc} {ps:List Prop} (h:x6u D C ops fr o st os=some ((st',g),os',ps)) :
    ∃ v,(∃ r u,g=.rw r (u.map (·.1))∧k0e (Z6 D o.op) fr st.objs u=true∧st'=⟨P4 st.slots o.dst v,C3 st.objs u⟩ ∧
        ∀ st2:St,k0h ops o st.slots st2.slots→(∀ l∈r,lk st2.objs l=lk st.objs l)→(∀ l∈u.map (·.1),lk st2.objs l=lk st.objs l)→x6u D C ops fr o st2 os=some ((⟨P4 st2.slots o.dst v,C3 st2.objs u⟩,g),os',ps)) ∨
     (∃ objs',(g=.all∨g=.ro∧objs'=st.objs)∧z4i st.objs objs'=true∧st'=⟨P4 st.slots o.dst v,objs'⟩ ∧
      ∀ st2:St,k0h ops o st.slots st2.slots→st2.objs=st.objs→x6u D C ops fr o st2 os=some ((⟨P4 st2.slots o.dst v,objs'⟩,g),os',ps)):=by
 unfold x6u at h
 obtain ⟨wt,os1,p1,b1,os2,q1,h1,h2,e⟩:=bind_some h
 cases e
 have hstep:∀ (st2:St) (r:(St × Log) × List Orc × List Prop),k0h ops o st.slots st2.slots →
     (if wt=true then (do
      match ← eff D (rho st2.slots) (lk st2.objs) fr o.op with
      | .val v u r=>do
       sure (k0e (Z6 D o.op) fr st2.objs u)
       pure (⟨P4 st2.slots o.dst v,C3 st2.objs u⟩,.rw r (u.map (·.1)))
      | .call f args u r=>do
       sure (k0e (Z6 D o.op) fr st2.objs u)
       if Z6 D o.op then do
        sure (args.all AV.isDat && u.all fun p=>p.1 != fr)
        let (v,us) ← askN C f fr args
        pure (⟨P4 st2.slots o.dst v,C3 st2.objs (u++us)⟩,.rw r ((u++us).map (·.1)))
       else do
        let v ← askV C f args
        pure (⟨P4 st2.slots o.dst v,C3 st2.objs u⟩,.rw r (u.map (·.1)))
      | .tcall f args=>do
       let (v,objs,still) ← askT C f args st2.objs
       sure (z4i st2.objs objs)
       pure (⟨P4 st2.slots o.dst v,objs⟩,if still then .ro else .all)) else pure (⟨P4 st2.slots o.dst (.tup []),st2.objs⟩,.rw [] []):M (St × Log)) os1=some r→x6u D C ops fr o st2 os=some (r.1,r.2.1,p1++r.2.2):=by
  intro st2 r hs h3
  unfold x6u
  rw [q5a hs]
  exact U2 h1 h3
 cases wt with
 | false =>
  cases A5 h2
  exact ⟨.tup [],.inl ⟨[],[],rfl,rfl,rfl,fun st2 hs _ _=>hstep st2 (_,_,_) hs rfl⟩⟩
 | true =>
  simp only [if_true] at h2
  obtain ⟨e,os3,p3,b3,os4,q3,h3,h4,e4⟩:=bind_some h2
  cases e4
  cases e with
  | val v u r =>
   obtain ⟨_,os5,p5,b5,os6,q5,h5,h6,e6⟩:=bind_some h4
   cases e6
   obtain ⟨k5,e5⟩:=G4 h5
   cases e5
   cases A5 h6
   refine ⟨v,.inl ⟨r,u,rfl,k5,rfl,fun st2 hs hr hu=>?_⟩⟩
   refine hstep st2 ((_,_),_,_) hs ?_
   simp only [if_true]
   have e3:=q1i h3 hr
   rw [← k3d (k4t hs)] at e3
   exact U2 e3 (U2 (x0z (k2e k5 hu) _) rfl)
  | call f args u r =>
   obtain ⟨_,os5,p5,b5,os6,q5,h5,h6,e6⟩:=bind_some h4
   cases e6
   obtain ⟨k5,e5⟩:=G4 h5
   cases e5
   cases hm:Z6 D o.op with
   | false =>
    rw [hm] at h6
    simp only [Bool.false_eq_true,if_false] at h6
    obtain ⟨v,os7,p7,b7,os8,q7,h7,h8,e8⟩:=bind_some h6
    cases e8
    cases A5 h8
    refine ⟨v,.inl ⟨r,u,rfl,by rw [← hm];exact k5,rfl,fun st2 hs hr hu=>?_⟩⟩
    refine hstep st2 ((_,_),_,_) hs ?_
    simp only [if_true]
    have e3:=q1i h3 hr
    rw [← k3d (k4t hs)] at e3
    refine U2 e3 (U2 (x0z (k2e k5 hu) _) ?_)
    rw [hm]
    simp only [Bool.false_eq_true,if_false]
    exact U2 h7 rfl
   | true =>
    rw [hm] at h6
    simp only [if_true] at h6
    obtain ⟨_,os9,p9,b9,os10,q9,h9,h10,e9⟩:=bind_some h6
    cases e9
    obtain ⟨k9,e9⟩:=G4 h9
    cases e9
    obtain ⟨x,os7,p7,b7,os8,q7,h7,h8,e8⟩:=bind_some h10
    cases e8
    obtain ⟨v,us⟩:=x
    cases A5 h8
    have k5':k0e true fr st.objs (u++us)=true:=by
     rw [hm] at k5
     unfold k0e at k5 ⊢
     rw [List.all_append,k5,Bool.true_and,List.all_eq_true]
     intro p hp
     have:p.1=fr:=v3e h7 p hp
     simp [this]
    refine ⟨v,.inl ⟨r,u++us,rfl,k5',rfl,fun st2 hs hr hu=>?_⟩⟩
    refine hstep st2 ((_,_),_,_) hs ?_
    simp only [if_true]
    have e3:=q1i h3 hr
    rw [← k3d (k4t hs)] at e3
    refine U2 e3 (U2 (x0z (k2e k5 fun l hl=>hu l (by rw [List.map_append];exact List.mem_append_left _ hl)) _) ?_)
    rw [hm]
    simp only [if_true]
    exact U2 (x0z k9 _) (U2 h7 rfl)
  | tcall f args =>
   obtain ⟨x,os7,p7,b7,os8,q7,h7,h8,e8⟩:=bind_some h4
   cases e8
   obtain ⟨v,objs',still⟩:=x
   obtain ⟨_,os5,p5,b5,os6,q5,h5,h6,e6⟩:=bind_some h8
   cases e6
   obtain ⟨k5,e5⟩:=G4 h5
   cases e5
   cases A5 h6
   have hg:(if still=true then Log.ro else .all)=.all∨(if still=true then Log.ro else .all)=.ro∧objs'=st.objs:=by
    cases still with
    | false=>exact .inl rfl
    | true =>
     refine .inr ⟨rfl,?_⟩
     unfold askT at h7
     split at h7 <;> cases h7
     rfl
   refine ⟨v,.inr ⟨objs',hg,k5,rfl,fun st2 hs ho=>?_⟩⟩
   refine hstep st2 ((_,_),_,_) hs ?_
   simp only [if_true]
   rw [← k3d (k4t hs)] at h3
   rw [ho]
   exact U2 h3 (U2 h7 (U2 (x0z k5 _) rfl))
theorem q7g {s:List AV} {d:Option Tmp} {v:AV} {t:Nat} (h:∀ x,d=some x→x≠t):(P4 s d v).getD t .undef=s.getD t .undef:=by
 cases d with
 | none=>rfl
 | some x =>
  simp only [P4]
  rw [List.getD_eq_getElem?_getD,List.getD_eq_getElem?_getD,List.getElem?_set_ne (h x rfl)]
theorem k3t {s:List AV} {d e:Option Tmp} {v u:AV} (h:∀ x,d=some x→e≠some x):P4 (P4 s d v) e u=P4 (P4 s e u) d v:=by
 cases d with
 | none=>rfl
 | some x =>
  cases e with
  | none=>rfl
  | some y =>
   simp only [P4]
   exact List.set_comm _ _ (fun hxy=>h x rfl (by rw [hxy]))
theorem k7d {r w:List Nat} (h:(Log.rw r w).quiet=true):r=[]∧w=[]:=by
 cases r with
 | nil =>
  cases w with
  | nil=>exact ⟨rfl,rfl⟩
  | cons _ _=>cases h
 | cons _ _=>cases w <;> cases h
theorem q9w {r w r' w':List Nat} (h:(Log.rw r w).conflict (.rw r' w')=false):(∀ l∈w,l ∉ r'∧l ∉ w')∧∀ l∈w',l ∉ r:=by
 unfold Log.conflict at h
 by_cases q1:(Log.rw r w).quiet=true
 · obtain ⟨rfl,rfl⟩:=k7d q1
   exact ⟨fun l hl=>(List.not_mem_nil hl).elim,fun l _ h=>List.not_mem_nil h⟩
 by_cases q2:(Log.rw r' w').quiet=true
 · obtain ⟨rfl,rfl⟩:=k7d q2
   exact ⟨fun l _=>⟨List.not_mem_nil,List.not_mem_nil⟩,fun l h=>(List.not_mem_nil h).elim⟩
 simp only [q1,q2,Bool.not_false,Bool.true_and,Bool.or_eq_false_iff,List.any_eq_false,List.contains_eq_mem,decide_eq_true_eq,Bool.or_eq_true,not_or] at h
 simp only [Bool.not_eq_true] at q1 q2
 exact ⟨fun l hl=>h.1 l hl,fun l hl=>h.2 l hl⟩
def k2f (D:Tab) (C:Sem3) (ops:List Oper) (base:Nat) (i:Nat) (st st':St) (g:Log):Prop :=
 ∃ o os os' ps,ops[i]?=some o∧x6u D C ops (base+((ops.take i).filter (Z6 D ·.op)).length) o st os=some ((st',g),os',ps)∧All ps
theorem q5g {ops:List Oper} {base i j:Nat} {oi oj:Oper} (hi:ops[i]?=some oi) (hj:ops[j]?=some oj) {st st1 st2:St} {gi gj:Log} (h1:k2f D C ops base i st st1 gi)(h2:k2f D C ops base j st1 st2 gj)
    (ha:oi.apart ops.toArray oj=true) (hc:gi.conflict gj=false):∃ st1',k2f D C ops base j st st1' gj∧k2f D C ops base i st1' st2 gi:=by
 obtain ⟨a1,a2,a3⟩:=Oper.apart_spec ha
 obtain ⟨o,os,os',ps,e,h1,p1⟩:=h1
 rw [hi] at e;cases e
 obtain ⟨o,qs,qs',qp,e,h2,p2⟩:=h2
 rw [hj] at e;cases e
 have sj:∀ (s:List AV) v,k0h ops oj (P4 s oi.dst v) s:=fun s v t ht=>(q7g fun x hx e=>a1 x hx (e ▸ ht)).symm
 have si:∀ (s:List AV) v,k0h ops oi s (P4 s oj.dst v):=fun s v t ht=>q7g fun x hx e=>a3 x hx (e ▸ ht)
 have none_of:∀ {r:List Nat} {u:Ups} {g:Log},g=.all∨g=.ro→(Log.rw r (u.map (·.1))).conflict g=false∨g.conflict (Log.rw r (u.map (·.1)))=false→u=[]∧(g=.all→r=[]):=by
  intro r u g hg h
  by_cases hq:(Log.rw r (u.map (·.1))).quiet=true
  · obtain ⟨e1,e2⟩:=k7d hq
    exact ⟨List.map_eq_nil_iff.1 e2,fun _=>e1⟩
  · simp only [Bool.not_eq_true] at hq
    rcases hg with rfl | rfl
    · unfold Log.conflict at h
      rw [hq] at h
      simp [Log.quiet] at h
    · unfold Log.conflict at h
      rw [hq] at h
      simp [Log.quiet] at h
      exact ⟨h,fun e=>by cases e⟩
 obtain ⟨vi,⟨ri,ui,rfl,ki,rfl,mi⟩ | ⟨oi',gi',ki,rfl,mi⟩⟩:=x0v h1
 · obtain ⟨vj,⟨rj,uj,rfl,kj,rfl,mj⟩ | ⟨oj',gj',kj,rfl,mj⟩⟩:=x0v h2
   · obtain ⟨d1,d2⟩:=q9w hc
     have k1:=mj st (sj _ _) (fun l hl=>(y6o fun h=>(d1 l h).1 hl).symm) (fun l hl=>(y6o fun h=>(d1 l h).2 hl).symm)
     have k2:=mi ⟨P4 st.slots oj.dst vj,C3 st.objs uj⟩ (si _ _) (fun l hl=>y6o fun h=>d2 l h hl) (fun l hl=>y6o fun h=>(d1 l hl).2 h)
     refine ⟨_,⟨oj,qs,qs',qp,hj,k1,p2⟩,oi,os,os',ps,hi,?_,p1⟩
     rw [k2]
     simp only
     rw [k3t a2,q4r fun l hl=>(d1 l hl).2]
   · -- the second is handed objects: the first turned none
     obtain ⟨e3,e1⟩:=none_of (gj'.imp id And.left) (.inl hc)
     subst e3
     have k1:=mj st (sj _ _) rfl
     have hsame:∀ l∈ri,lk oj' l=lk st.objs l:=fun l hl=>by
      rcases gj' with e | ⟨_,e⟩
      · rw [e1 e] at hl;cases hl
      · rw [e];rfl
     have k2:=mi ⟨P4 st.slots oj.dst vj,oj'⟩ (si _ _) hsame (fun l hl=>by cases hl)
     refine ⟨_,⟨oj,qs,qs',qp,hj,k1,p2⟩,oi,os,os',ps,hi,?_,p1⟩
     rw [k2]
     simp only [C3]
     rw [k3t a2]
 · obtain ⟨vj,⟨rj,uj,rfl,kj,rfl,mj⟩ | ⟨oj',gj',kj,rfl,mj⟩⟩:=x0v h2
   · obtain ⟨e3,e1⟩:=none_of (gi'.imp id And.left) (.inr hc)
     subst e3
     have hsame:∀ l∈rj,lk st.objs l=lk oi' l:=fun l hl=>by
      rcases gi' with e | ⟨_,e⟩
      · rw [e1 e] at hl;cases hl
      · rw [e]
     have k1:=mj st (sj _ _) hsame (fun l hl=>by cases hl)
     have k2:=mi ⟨P4 st.slots oj.dst vj,st.objs⟩ (si _ _) rfl
     refine ⟨_,⟨oj,qs,qs',qp,hj,k1,p2⟩,oi,os,os',ps,hi,?_,p1⟩
     simp only [C3] at k2 ⊢
     rw [k2,k3t a2]
   · rcases gi' with rfl | ⟨rfl,ei⟩
     · exfalso
       rcases gj' with rfl | ⟨rfl,_⟩ <;> (unfold Log.conflict at hc;simp [Log.quiet] at hc)
     · rcases gj' with rfl | ⟨rfl,ej⟩
       · exfalso
         unfold Log.conflict at hc
         simp [Log.quiet] at hc
       · subst ei
         have ej:oj'=st.objs:=ej
         subst ej
         have k1:=mj st (sj _ _) rfl
         have k2:=mi ⟨P4 st.slots oj.dst vj,st.objs⟩ (si _ _) rfl
         refine ⟨_,⟨oj,qs,qs',qp,hj,k1,p2⟩,oi,os,os',ps,hi,?_,p1⟩
         rw [k2,k3t a2]
theorem q2n {acc:List Nat} {i:Nat}:∀ (l:List Edge) (s:Nat),(l.foldl (fun s e=>if Region.binds .any e then s ||| 2 ^ e.on ||| acc.getD e.on 0 else s) s).testBit i=true →
    s.testBit i=true∨∃ e∈l,Region.binds .any e=true∧(e.on=i∨(acc.getD e.on 0).testBit i=true)
 | [],s,h=>.inl h
 | e::l,s,h=>by
  simp only [List.foldl_cons] at h
  rcases q2n l _ h with h1 | ⟨e',h1,h2,h3⟩
  · split at h1
    · rename_i hb
      rw [Nat.testBit_or,Nat.testBit_or,Nat.testBit_two_pow,Bool.or_eq_true,Bool.or_eq_true,decide_eq_true_eq] at h1
      rcases h1 with (h1 | h1) | h1
      · exact .inl h1
      · exact .inr ⟨e,by simp,hb,.inl h1⟩
      · exact .inr ⟨e,by simp,hb,.inr h1⟩
    · exact .inl h1
  · exact .inr ⟨e',by simp [h1],h2,h3⟩
theorem j8y:∀ (os:List Oper) (acc:List Nat),(ancs os acc).length=acc.length+os.length∧(ancs os acc).take acc.length=acc ∧
    ∀ j o,os[j]?=some o→(ancs os acc).getD (acc.length+j) 0=k9d ((ancs os acc).take (acc.length+j)) o
 | [],acc=>by simp [ancs]
 | o::os,acc=>by
  simp only [ancs,v0o]
  obtain ⟨h1,h2,h3⟩:=j8y os (acc++[k9d acc o])
  simp only [List.length_append,List.length_cons,List.length_nil] at h1 h2 h3
  have h4:(ancs os (acc++[k9d acc o])).take acc.length=acc:=by
   have:=congrArg (List.take acc.length) h2
   rw [List.take_take,Nat.min_eq_left (by omega),List.take_left] at this
   exact this
  refine ⟨by rw [h1];simp;omega,h4,fun j p hj=>?_⟩
  cases j with
  | zero =>
   simp only [List.getElem?_cons_zero,Option.some.injEq] at hj
   subst hj
   rw [Nat.add_zero,h4]
   have:(ancs os (acc++[k9d acc o])).getD acc.length 0=((ancs os (acc++[k9d acc o])).take (acc.length+1)).getD acc.length 0:=by
    rw [List.getD_eq_getElem?_getD,List.getD_eq_getElem?_getD,List.getElem?_take,if_pos (by omega)]
   rw [this]
   have h2':(ancs os (acc++[k9d acc o])).take (acc.length+1)=acc++[k9d acc o]:=h2
   rw [h2']
   simp
  | succ j =>
   have:=h3 j p (by simpa using hj)
   rw [show acc.length+(0+1)+j=acc.length+(j+1) by omega] at this
   exact this
def j3d (ops:List Oper) (listed:Array Bool):Prop:=∀ k,listed.getD k false=true→∀ i,((ancs ops []).getD k 0).testBit i=true→listed.getD i false=true
theorem q0c {ops:List Oper} {listed:Array Bool} (hc:j3d ops listed) {j:Nat} (hj:j∈Region.ready .any ops.toArray listed) (i:Nat) (hi:((ancs ops []).getD j 0).testBit i=true):listed.getD i false=true:=by
 obtain ⟨_,o,ho,hall⟩:=mem_ready.1 hj
 have ho':ops[j]?=some o:=by simpa using ho
 obtain ⟨h1,h2,h3⟩:=j8y ops []
 have h4:=h3 j o ho'
 simp only [List.length_nil,Nat.zero_add] at h4
 rw [h4] at hi
 rcases q2n o.after.toList 0 hi with h5 | ⟨e,h5,h6,h7⟩
 · simp at h5
 · have he:=hall e (by simpa using h5) h6
   rcases h7 with h7 | h7
   · rw [← h7];exact he
   · refine hc e.on he i ?_
     rw [List.getD_eq_getElem?_getD,List.getElem?_take] at h7
     split at h7
     · rw [List.getD_eq_getElem?_getD];exact h7
     · simp at h7
theorem v0r {listed:Array Bool} {i k:Nat} {b:Bool} (h:(listed.setIfInBounds i true).getD k b=true):listed.getD k b=true∨k=i:=by
 by_cases e:i=k
 · exact .inr e.symm
 · rw [getD_set_ne b e] at h;exact .inl h
theorem j4a {ops:List Oper} {listed:Array Bool} (hc:j3d ops listed) {j:Nat} (hj:j∈Region.ready .any ops.toArray listed):j3d ops (listed.setIfInBounds j true):=by
 intro k hk i hi
 rcases v0r hk with h | rfl
 · exact getD_set_true (hc k h i hi)
 · exact getD_set_true (q0c hc hj i hi)
def Any (D:Tab) (C:Sem3) (ops:List Oper) (base:Nat) (G:Nat→Log) (Q:St→Prop):Nat→Array Bool→St→Prop
 | 0,listed,st=>Region.ready .any ops.toArray listed=[]∧Q st
 | f+1,listed,st=>(Region.ready .any ops.toArray listed=[]→Q st)∧∀ i∈Region.ready .any ops.toArray listed,∃ st',k2f D C ops base i st st' (G i)∧Any D C ops base G Q f (listed.setIfInBounds i true) st'
theorem j6x {ops:List Oper} {listed:Array Bool} {i:Nat} (hr:i∈Region.ready .any ops.toArray listed):listed.getD i false=false:=by
 have h0:=(mem_ready.1 hr).1
 rcases Nat.lt_or_ge i listed.size with h' | h'
 · simp [h'] at h0 ⊢;exact h0
 · simp [Array.getElem?_eq_none h']
theorem q7x {ops:List Oper} {base:Nat} {G:Nat→Log} {Q:St→Prop} {i:Nat} {oi:Oper} (hi:ops[i]?=some oi) :
    ∀ (fuel:Nat) (listed:Array Bool) (st st1:St),j3d ops listed →
     (∀ j oj,ops[j]?=some oj→j≠i→listed.getD j true=false→((ancs ops []).getD j 0).testBit i=false→oi.apart ops.toArray oj=true∧(G i).conflict (G j)=false) →
     i∈Region.ready .any ops.toArray listed→k2f D C ops base i st st1 (G i)→Any D C ops base G Q fuel (listed.setIfInBounds i true) st1→Any D C ops base G Q (fuel+1) listed st:=by
 intro fuel
 induction fuel with
 | zero =>
  intro listed st st1 _ _ hr hs H
  refine ⟨fun h=>(by rw [h] at hr;cases hr),fun j hj=>?_⟩
  by_cases hji:j=i
  · subst hji;exact ⟨st1,hs,H⟩
  · have:=ready_mono hj hji
    rw [H.1] at this
    cases this
 | succ fuel ih =>
  intro listed st st1 hcl hfree hr hs H
  refine ⟨fun h=>(by rw [h] at hr;cases hr),fun j hj=>?_⟩
  by_cases hji:j=i
  · subst hji;exact ⟨st1,hs,H⟩
  · obtain ⟨st2,h1,h2⟩:=H.2 j (ready_mono hj hji)
    obtain ⟨hjun,oj,hoj,hall⟩:=mem_ready.1 hj
    have hnot:((ancs ops []).getD j 0).testBit i=false:=by
     cases hb:((ancs ops []).getD j 0).testBit i with
     | false=>rfl
     | true =>
      have:=q0c hcl hj i hb
      rw [j6x hr] at this
      cases this
    have hoj':ops[j]?=some oj:=by simpa using hoj
    obtain ⟨a1,a2⟩:=hfree j oj hoj' hji hjun hnot
    obtain ⟨st1',k1,k2⟩:=q5g hi hoj' hs h1 a1 a2
    refine ⟨st1',k1,ih (listed.setIfInBounds j true) st1' st2 (j4a hcl hj) (fun k ok hk hki hun hno=>?_) (ready_mono hr (Ne.symm hji)) k2 ?_⟩
    · refine hfree k ok hk hki ?_ hno
      by_cases hjk:j=k
      · subst hjk;exact hjun
      · rw [getD_set_ne true hjk] at hun;exact hun
    · rw [Array.setIfInBounds_comm _ _ hji]
      exact h2
def q6p (D:Tab) (C:Sem3) (ops:List Oper) (base:Nat) (G:Nat→Log) (fin:St):Nat→Nat→St→Prop
 | 0,_,st=>st=fin
 | n+1,k,st=>∃ st',k2f D C ops base k st st' (G k)∧q6p D C ops base G fin n (k+1) st'
theorem v3c {ops:List Oper} {base:Nat} {G:Nat→Log} {fin:St} (hb:∀ k o,ops[k]?=some o→∀ e∈o.after,Region.binds .any e=true→e.on<k)
    (hfree:∀ i j oi oj,ops[i]?=some oi→ops[j]?=some oj→i<j→((ancs ops []).getD j 0).testBit i=false→oi.apart ops.toArray oj=true∧(G i).conflict (G j)=false) :
    ∀ (n k:Nat) (listed:Array Bool) (st:St),k+n=ops.length→listed.size=ops.length→(∀ i,i<ops.length→listed.getD i false=decide (i<k))→j3d ops listed→q6p D C ops base G fin n k st→Any D C ops base G (·=fin) n listed st:=by
 intro n
 induction n with
 | zero =>
  intro k listed st hk hz hl _ h
  refine ⟨?_,h⟩
  rw [List.eq_nil_iff_forall_not_mem]
  intro j hj
  obtain ⟨hjun,oj,hoj,_⟩:=mem_ready.1 hj
  have hlt:j<ops.length:=by have:=(Array.getElem?_eq_some_iff.1 hoj).1;simpa using this
  have h1:=hl j hlt
  have hlt':j<listed.size:=by omega
  simp [hlt'] at h1 hjun
  rw [hjun] at h1
  have h2:j<k:=by omega
  simp [h2] at h1
 | succ n ih =>
  intro k listed st hk hz hl hcl h
  obtain ⟨st',h1,h2⟩:=h
  have hlt:k<ops.length:=by omega
  have hk':ops[k]?=some ops[k]:=List.getElem?_eq_getElem hlt
  have hr:k∈Region.ready .any ops.toArray listed:=by
   refine mem_ready.2 ⟨?_,ops[k],by simp,fun e he hbe=>?_⟩
   · have h3:=hl k hlt
     have hlt':k<listed.size:=by omega
     simp [hlt'] at h3 ⊢
     rw [h3]
   · have h3:=hb k _ hk' e he hbe
     rw [hl e.on (by omega)]
     simp [h3]
  refine q7x hk' n listed st st' hcl (fun j oj hj hji hun hno=>?_) hr h1 (ih (k+1) _ st' (by omega) (by simpa using hz) (fun i hi=>?_) (j4a hcl hr) h2)
  · have hlt2:j<ops.length:=(List.getElem?_eq_some_iff.1 hj).1
    have h3:=hl j hlt2
    have hlt':j<listed.size:=by omega
    simp [hlt'] at h3 hun
    rw [hun] at h3
    have h4:¬ j<k:=by
     intro h5
     simp [h5] at h3
    exact hfree k j _ oj hk' hj (by omega) hno
  · by_cases e:k=i
    · subst e
      have hlt':k<listed.size:=by omega
      simp [hlt']
    · rw [getD_set_ne false e,hl i hi]
      rcases Nat.lt_or_ge i k with h5 | h5
      · simp [h5,Nat.lt_succ_of_lt h5]
      · simp [Nat.not_lt.2 h5,show ¬ i<k+1 by omega]
theorem x1n {ops:List Oper} {base:Nat} {G:Nat→Log}:∀ (rest:List Oper) (k:Nat) (st fin:St) (gs:List Log) (os os':List Orc) (ps:List Prop),(∀ j,rest[j]?=ops[k+j]?)→k+rest.length=ops.length→(∀ j,j<gs.length→G (k+j)=gs.getD j default) →
    k1t D C ops rest (base+((ops.take k).filter (Z6 D ·.op)).length) st os=some ((fin,gs),os',ps)→All ps→q6p D C ops base G fin rest.length k st∧gs.length=rest.length
 | [],k,st,fin,gs,os,os',ps,_,_,_,h,_=>by
  cases A5 h
  exact ⟨rfl,rfl⟩
 | o::rest,k,st,fin,gs,os,os',ps,hr,hk,hG,h,hp=>by
  simp only [k1t] at h
  obtain ⟨x,os1,p1,b1,os2,q1,h1,h2,e⟩:=bind_some h
  cases e
  obtain ⟨st1,g⟩:=x
  obtain ⟨y,os3,p3,b3,os4,q3,h3,h4,e⟩:=bind_some h2
  cases e
  obtain ⟨st2,gs'⟩:=y
  cases A5 h4
  have ho:ops[k]?=some o:=by simpa using (hr 0).symm
  have hp':=all_append hp
  have hp2:All p3:=(all_append hp'.2).1
  have hfr:(if Z6 D o.op then base+((ops.take k).filter (Z6 D ·.op)).length+1 else base+((ops.take k).filter (Z6 D ·.op)).length)=base+((ops.take (k+1)).filter (Z6 D ·.op)).length:=by
   rw [List.take_add_one,ho]
   simp only [Option.toList_some,List.filter_append,List.length_append]
   by_cases hm:Z6 D o.op=true
   · simp [hm];omega
   · simp [hm]
  rw [hfr] at h3
  obtain ⟨c1,c2⟩:=x1n rest (k+1) st1 st2 gs' os1 _ p3 (fun j=>by have:=hr (j+1);simpa [Nat.add_assoc,Nat.add_comm 1 j] using this) (by simp at hk;omega)
   (fun j hj=>by have:=hG (j+1) (by simp;omega);simpa [Nat.add_assoc,Nat.add_comm 1 j] using this) h3 hp2
  have hg:G k=g:=by have:=hG 0 (by simp);simpa using this
  exact ⟨⟨st1,⟨o,os,os1,p1,ho,by rw [hg];exact h1,hp'.1⟩,c1⟩,by simp [c2]⟩
theorem j3j:∀ (ops:List Oper) (n:Nat),q6r n ops=true→∀ k o,ops[k]?=some o→∀ e∈o.after,Region.binds .any e=true→e.on<n+k
 | [],_,_,k,o,h=>by simp at h
 | p::ops,n,hB,k,o,h=>by
  simp only [q6r,Bool.and_eq_true] at hB
  cases k with
  | zero =>
   simp only [List.getElem?_cons_zero,Option.some.injEq] at h
   subst h
   intro e he hb
   have:=List.all_eq_true.1 hB.1 e (by simpa using he)
   simp [hb] at this
   omega
  | succ k =>
   intro e he hb
   have:=j3j ops (n+1) hB.2 k o (by simpa using h) e he hb
   omega
theorem q5f {ops:List Oper} {st fin:St} {gs:List Log} {os os':List Orc} {ps:List Prop} {base:Nat} (h:k1t D C ops ops base st os=some ((fin,gs),os',ps)) (hp:All ps) (hd:q1c ops gs=true) :
    ∃ G,Any D C ops base G (·=fin) ops.length (Array.replicate ops.length false) st:=by
 obtain ⟨c1,c2⟩:=x1n (ops:=ops) (base:=base) (G:=fun i=>gs.getD i default) ops 0 st fin gs os os' ps (by simp) (by simp) (by simp) (by simpa using h) hp
 simp only [q1c,Bool.and_eq_true] at hd
 obtain ⟨d1,d2,d3⟩:=hd
 refine ⟨fun i=>gs.getD i default,v3c (fun k o ho e he hb=>by simpa using j3j ops 0 d1 k o ho e he hb) (fun i j oi oj hi hj hij hno=>?_) ops.length 0 _ st (by simp) (by simp) (fun i hi=>by simp [hi]) (fun k hk=>?_) c1⟩
 · have hjl:j<ops.length:=(List.getElem?_eq_some_iff.1 hj).1
   refine ⟨?_,?_⟩
   · simp only [q9v,List.all_eq_true,List.mem_range] at d2
     have:=d2 j hjl i hij
     rw [hno,hi,hj] at this
     simpa using this
   · simp only [Bool.or_eq_true] at d3
     rcases d3 with d3 | d3
     · rw [List.all_eq_true] at d3
       have hig:i<gs.length:=by omega
       have:(gs.getD i default).quiet=true:=by
        rw [List.getD_eq_getElem?_getD,List.getElem?_eq_getElem hig]
        exact d3 _ (List.getElem_mem hig)
       unfold Log.conflict
       rw [this]
       rfl
     · simp only [q9u,List.all_eq_true,List.mem_range] at d3
       have:=d3 j (by omega) i hij
       rw [hno] at this
       simpa using this
 · exfalso
   have:(Array.replicate ops.length false).getD k false=false:=by
    rcases Nat.lt_or_ge k ops.length with h' | h' <;> simp [Array.getD,h']
   rw [this] at hk
   cases hk
end Gev
namespace Gev
open Go
variable {P:Program} {D:Tab} {B0:Nat} {Gd:World→Prop}
theorem Slots.tr {Γ Γ':Ctx} {slots:List AV} {a:Act} (h:Slots D Γ slots a) (ht:Tr D Γ Γ'):Slots D Γ' slots a:=⟨h.size,fun i v u h1 h2=>ht.rep (h.slot i v u h1 h2)⟩
theorem Slots.put {Γ:Ctx} {slots:List AV} {a:Act} (h:Slots D Γ slots a) {v:AV} {vc:Value} (hv:RepA D Γ vc v) (dst:Option Tmp):Slots D Γ (P4 slots dst v) (a.put dst vc):=by
 cases dst with
 | none=>exact h
 | some d =>
  refine ⟨by simp [Act.put,P4,h.size],fun i x u hx hu=>?_⟩
  simp only [P4,Act.put] at hx hu
  by_cases e:d=i
  · subst e
    rw [List.getElem?_set] at hx
    rw [Array.getElem?_setIfInBounds] at hu
    simp only [if_true] at hx hu
    split at hx
    · split at hu
      · cases hx;cases hu;exact hv
      · cases hu
    · cases hx
  · rw [List.getElem?_set_ne e] at hx
    rw [Array.getElem?_setIfInBounds_ne e] at hu
    exact h.slot i x u hx hu
theorem y1i (a:Act) (dst:Option Tmp) (v:Value):(a.put dst v).defers=a.defers:=by cases dst <;> rfl
theorem q6n {Γ:Ctx} {a:Act} {ops:List Oper} {slots:List AV} {o:Oper} {wt:Bool} {os os':List Orc} {ps:List Prop} (hs:Slots D Γ slots a) (h:x7y ops slots o os=some (wt,os',ps)) (hp:All ps):Region.wanted o (yielded ops.toArray a.tmps)=wt:=by
 unfold x7y at h
 unfold Region.wanted
 cases hg:o.guard with
 | none=>rw [hg] at h;cases A5 h;rfl
 | some gw =>
  obtain ⟨j,want⟩:=gw
  rw [hg] at h
  simp only at h ⊢
  unfold yielded
  rw [List.getElem?_toArray]
  cases hd:(ops[j]?).bind (·.dst) with
  | none=>rw [hd] at h;cases h
  | some d =>
   rw [hd] at h
   simp only [Option.bind_some] at h ⊢
   rw [List.getD_eq_getElem?_getD] at h
   cases hsl:slots[d]? with
   | none=>rw [hsl] at h;cases h
   | some v =>
    rw [hsl] at h
    simp only [Option.getD_some] at h
    have hlt:d<a.tmps.size:=by rw [hs.size];exact (List.getElem?_eq_some_iff.1 hsl).1
    have hr:=hs.slot d v _ hsl (Array.getElem?_eq_getElem hlt)
    rw [Array.getElem?_eq_getElem hlt]
    generalize a.tmps[d]=u at hr
    cases v with
    | c x =>
     cases x with
     | bool b =>
      obtain ⟨b',os1,p1,b1,os2,q1,h1,h2,e⟩:=bind_some h
      cases e
      cases k8z h1
      cases A5 h2
      rw [RepA.bool_inv hr]
      simp only
      cases b <;> cases want <;> rfl
     | _=>cases h
    | tup us =>
     cases us with
     | nil =>
      cases A5 h
      obtain ⟨vs,rfl,hl,_⟩:=RepA.tup_inv hr
      rfl
     | cons _ _=>cases h
    | _=>cases h
theorem q7a (hs:Stable B0 Gd) {Γ:Ctx} (h:Good D B0 Gd Γ) {w':World} (hk:Kept (fun _=>False) Γ.w w'):Good D B0 Gd ⟨Γ.S,Γ.objs,w'⟩∧Tr D Γ ⟨Γ.S,Γ.objs,w'⟩:=by
 have hkm:Kept Γ.mine Γ.w w':=hk.mono fun _ h=>h.elim
 have hd:∀ v d,RepD Γ.w Γ.own v d→RepD w' (Ctx.mk Γ.S Γ.objs w').own v d:=fun v d hv=>hv.mono hkm.up fun _ _ h=>h
 have hheap:∀ b,b<Γ.w.heap.size→w'.heap[b]?=Γ.w.heap[b]?:=fun b hb=>hk.heap b hb (fun h=>h)
 have ht:Tr D Γ ⟨Γ.S,Γ.objs,w'⟩:=⟨hkm,rfl,fun _ h=>.inl h,fun _ cs h=>⟨cs,h,rfl⟩,
  fun v l len hv=>RepA.vec_same (Γ:=Γ) (Γ':=⟨Γ.S,Γ.objs,w'⟩) hd rfl rfl (fun b t xs h1 h2=>hheap b (z8n h b (.inr ⟨l,_,h1,rfl,h2⟩))) hv,
  fun v l i off hv=>RepA.vptr_same (Γ:=Γ) (Γ':=⟨Γ.S,Γ.objs,w'⟩) (fun a d _ h2 ⟨u,h3,h4⟩=>⟨u,hkm.up.cell h3 h2,hd u d h4⟩) hk.size (fun _ _ h=>h) rfl rfl hv⟩
 exact ⟨⟨fun l o hl=>(h.ob l o hl).same ht rfl fun b hv hb=>hheap b (z8n h b (.inr ⟨l,o,hl,hv,hb⟩)),h.inj,h.own,ht.extOk h.ext,Nat.le_trans h.size hk.size,h.gd_kept hs hkm.up⟩,ht⟩
theorem j2x {Γ:Ctx} (h:Good D B0 Gd Γ) {objs:Objs} (hl:∀ l,lk objs l=lk Γ.objs l):Good D B0 Gd ⟨Γ.S,objs,Γ.w⟩∧Tr D Γ ⟨Γ.S,objs,Γ.w⟩:=by
 have hm:∀ b,(Ctx.mk Γ.S objs Γ.w).mine b→Γ.mine b:=fun b ⟨l,o,h1,h2,h3⟩=>⟨l,o,(hl l).symm.trans h1,h2,h3⟩
 have ho:∀ b,(Ctx.mk Γ.S objs Γ.w).own b→Γ.own b:=Ctx.own_of' rfl hm
 have hd:∀ v d,RepD Γ.w Γ.own v d→RepD Γ.w (Ctx.mk Γ.S objs Γ.w).own v d:=fun v d hv=>hv.same ho
 have ht:Tr D Γ ⟨Γ.S,objs,Γ.w⟩:=⟨Kept.refl _ _,rfl,fun b h=>.inl (hm b h),fun l cs h=>⟨cs,(hl l).trans h,rfl⟩,
  fun v l len hv=>RepA.vec_same (Γ:=Γ) (Γ':=⟨Γ.S,objs,Γ.w⟩) hd (hl l) rfl (fun _ _ _ _ _=>rfl) hv,
  fun v l i off hv=>RepA.vptr_same (Γ:=Γ) (Γ':=⟨Γ.S,objs,Γ.w⟩) (fun a d _ _ ⟨u,h3,h4⟩=>⟨u,h3,hd u d h4⟩) (Nat.le_refl _) (fun b _ hn hb=>hn (ho b hb)) (hl l) rfl hv⟩
 exact ⟨⟨fun l o h1=>(h.ob l o ((hl l).symm.trans h1)).same ht rfl fun _ _ _=>rfl,fun l l' o o' b h1 h2=>h.inj l l' o o' b ((hl l).symm.trans h1) ((hl l').symm.trans h2),fun b hb=>h.own b (ho b hb),ht.extOk h.ext,h.size,h.gd⟩,ht⟩
theorem q3c {ρ:Operand→AV} {L:Nat→Option Ob} {fr:Nat} {op:Op} {os:List Orc} {r:Eff × List Orc × List Prop} (h:eff D ρ L fr op os=some r) (c:_):op≠.defer c:=by
 intro e;rw [e] at h;cases h
section
variable (hT:TabOk P D) (hs:Stable B0 Gd)
include hT hs
theorem v2p {Γ:Ctx} {a:Act} {ops:List Oper} {fr:Nat} {o:Oper} {st st':St} {g:Log} {os os':List Orc} {ps:List Prop} (hΓ:Γ.objs=st.objs) (hG:Good D B0 Gd Γ) (hS:Slots D Γ st.slots a)
    (hfr:Z6 D o.op=true→fr<st.objs.length∧lk st.objs fr=none) (h:x6u D (sem P D B0 Gd) ops fr o st os=some ((st',g),os',ps)) (hp:All ps) {ro:Option Nat} {m:Nat} {K:Act→World→Prop} {Q:Exit→Act→World→Prop}
    (hK:∀ Γ' a',Γ'.objs=st'.objs→Good D B0 Gd Γ'→Slots D Γ' st'.slots a'→Tr D Γ Γ'→a'.defers=a.defers→K a' Γ'.w) :
    if Region.wanted o (yielded ops.toArray a.tmps) then o.wpIn (Fr ro) m P a Γ.w K Q else K (a.put o.dst undef) Γ.w:=by
 unfold x6u at h
 obtain ⟨wt,os1,p1,b1,os2,q1,h1,h2,e⟩:=bind_some h
 cases e
 have hp':=all_append hp
 rw [q6n hS h1 hp'.1]
 cases wt with
 | false =>
  cases A5 h2
  exact hK Γ _ hΓ hG (hS.put (.tup [] [] rfl fun i v a h=>by simp at h) _) (Tr.refl _) (y1i _ _ _)
 | true =>
  simp only [if_true] at h2 ⊢
  obtain ⟨e,os3,p3,b3,os4,q3,h3,h4,e4⟩:=bind_some h2
  cases e4
  have hp2:=all_append hp'.2
  rw [← hΓ] at h3 hfr
  have hnd:=q3c h3
  have hsim:=v3o hT hs hG (fun x=>hS.rho x) hfr h3 hp2.1
  cases e with
  | val v u r =>
   obtain ⟨_,os5,p5,b5,os6,q5,h5,h6,e6⟩:=bind_some h4
   cases e6
   cases A5 h6
   obtain ⟨vc,S',w',hrun,g1,g2,g3⟩:=hsim
   rw [hΓ] at g1 g2 g3
   have hk:=hK ⟨S',C3 st.objs u,w'⟩ (a.put o.dst vc) rfl g1 ((hS.tr g2).put g3 _) g2 (y1i _ _ _)
   refine ⟨fun _ _=>trivial,?_⟩
   rw [Oper.semAt_eq ro _ o hnd]
   rcases hrun with hrun | ⟨hrun,rfl⟩
   · rw [hrun];exact hk
   · rw [hrun];exact hk
  | call f args u r =>
   obtain ⟨_,os5,p5,b5,os6,q5,h5,h6,e6⟩:=bind_some h4
   cases e6
   cases hm:Z6 D o.op with
   | false =>
    rw [hm] at h6
    simp only [Bool.false_eq_true,if_false] at h6
    obtain ⟨v,os7,p7,b7,os8,q7,h7,h8,e8⟩:=bind_some h6
    cases e8
    cases A5 h8
    have hfn:FnOk P D B0 Gd f args v:=by
     unfold askV at h7
     cases os5 with
     | nil=>cases h7
     | cons x os5 =>
      cases x with
      | v r' =>
       cases h7
       have:=(all_append hp2.2).2
       simpa [All,sem] using (all_append this).1
      | _=>cases h7
    obtain ⟨cargs,hrun,g1,g2,g3,hargs,g4⟩:=hsim
    rw [hΓ] at g1 g2 g4
    have hrun':=hrun hfn.enters
    refine ⟨fun _ _=>trivial,?_⟩
    rw [Oper.semAt_eq ro _ o hnd,hrun']
    refine ⟨fun h=>(by cases h),Fr.calls ?_⟩
    refine Calls.mono (hfn.calls Γ.w (Ctx.mk Γ.S (C3 st.objs u) Γ.w).own cargs g1.gd g1.size (fun b hb=>⟨g1.own b hb,z8n g1 b hb⟩) g3 fun i v' a' h1 h2=>?_) ?_
    · exact y4g (Γ:=⟨Γ.S,C3 st.objs u,Γ.w⟩) (Γ':=⟨⟨fun _=>none,(Ctx.mk Γ.S (C3 st.objs u) Γ.w).own⟩,[],Γ.w⟩) rfl (fun b hb=>x6m.1 hb) (hargs i a' h2) (g4 i v' a' h1 h2)
    · rintro e w' ⟨vc,rfl,k1,k2,k3⟩
      obtain ⟨m1,m2⟩:=q7a hs g1 k2
      have m3:=g2.trans m2
      exact hK ⟨Γ.S,C3 st.objs u,w'⟩ (a.put o.dst vc) rfl m1 ((hS.tr m3).put (y4g (Γ:=⟨⟨fun _=>none,(Ctx.mk Γ.S (C3 st.objs u) Γ.w).own⟩,[],w'⟩) (Γ':=⟨Γ.S,C3 st.objs u,w'⟩) rfl (fun b hb=>x6m.2 hb) hfn.data k3) _) m3 (y1i _ _ _)
   | true =>
    rw [hm] at h6 h5
    simp only [if_true] at h6
    obtain ⟨_,os9,p9,b9,os10,q9,h9,h10,e9⟩:=bind_some h6
    cases e9
    obtain ⟨k9,e9⟩:=G4 h9
    cases e9
    obtain ⟨x,os7,p7,b7,os8,q7,h7,h8,e8⟩:=bind_some h10
    cases e8
    obtain ⟨v,us⟩:=x
    cases A5 h8
    simp only [Bool.and_eq_true] at k9
    obtain ⟨cargs,hrun,g1,g2,g3,hargs,g4⟩:=hsim
    rw [hΓ] at g1 g2 g4
    obtain ⟨hfl,hfn0⟩:=hfr hm
    rw [hΓ] at hfl hfn0
    have hno:lk (C3 st.objs u) fr=none:=by
     rw [y6o (fun hx=>?_)]
     · exact hfn0
     · obtain ⟨p,hp1,hp2⟩:=List.mem_map.1 hx
       have:=List.all_eq_true.1 k9.2 p hp1
       simp [hp2] at this
    have hcase:(∃ t xs,us=[(fr,.vec t xs)]∧RunOk P D B0 Gd f args (C3 st.objs u) v ((C3 st.objs u).set fr (some (.vec t xs))))∨(us=[]∧FnOk P D B0 Gd f args v):=by
     unfold askN at h7
     cases os5 with
     | nil=>cases h7
     | cons x os5 =>
      cases x with
      | nw n t xs =>
       cases h7
       have h1:=(all_append (all_append (all_append hp2.2).2).2).1
       have h2:RunOk P D B0 Gd f args [] (.vec 0 n) [some (.vec t xs)]:=by simpa [All,sem] using h1
       exact .inl ⟨t,xs,rfl,h2.newAt k9.1 rfl (by rw [y8k];exact hfl) hno⟩
      | nv w t xs =>
       simp only at h7
       cases hb:w.inB 1 with
       | false=>rw [hb] at h7;cases h7
       | true =>
        rw [hb] at h7;cases h7
        have h1:=(all_append (all_append (all_append hp2.2).2).2).1
        have h2:RunOk P D B0 Gd f args [] w [some (.vec t xs)]:=by simpa [All,sem] using h1
        exact .inl ⟨t,xs,rfl,h2.newAtV k9.1 hb rfl (by rw [y8k];exact hfl) hno⟩
      | v r' =>
       cases h7
       have h1:=(all_append (all_append (all_append hp2.2).2).2).1
       exact .inr ⟨rfl,by simpa [All,sem] using h1⟩
      | _=>cases h7
    rcases hcase with ⟨t,xs,rfl,hfn⟩ | ⟨rfl,hfn⟩
    · have hrun':=hrun hfn.enters
      refine ⟨fun _ _=>trivial,?_⟩
      rw [Oper.semAt_eq ro _ o hnd,hrun']
      refine ⟨fun h=>(by cases h),Fr.calls ?_⟩
      refine Calls.mono (hfn.calls ⟨Γ.S,C3 st.objs u,Γ.w⟩ cargs rfl g1 g3 g4) ?_
      rintro e w' ⟨vc,Γ',rfl,k0,rfl,k1,k2,k3⟩
      have m3:=g2.trans k2
      have hsa:C3 st.objs (u++[(fr,.vec t xs)])=(C3 st.objs u).set fr (some (.vec t xs)):=y4e _ _ _
      exact hK Γ' (a.put o.dst vc) (by rw [hsa];exact k0) k1 ((hS.tr m3).put k3 _) m3 (y1i _ _ _)
    · have hrun':=hrun hfn.enters
      refine ⟨fun _ _=>trivial,?_⟩
      rw [Oper.semAt_eq ro _ o hnd,hrun']
      refine ⟨fun h=>(by cases h),Fr.calls ?_⟩
      refine Calls.mono (hfn.calls Γ.w (Ctx.mk Γ.S (C3 st.objs u) Γ.w).own cargs g1.gd g1.size (fun b hb=>⟨g1.own b hb,z8n g1 b hb⟩) g3 fun i v' a' h1 h2=>?_) ?_
      · exact y4g (Γ:=⟨Γ.S,C3 st.objs u,Γ.w⟩) (Γ':=⟨⟨fun _=>none,(Ctx.mk Γ.S (C3 st.objs u) Γ.w).own⟩,[],Γ.w⟩) rfl (fun b hb=>x6m.1 hb) (hargs i a' h2) (g4 i v' a' h1 h2)
      · rintro e w' ⟨vc,rfl,k1,k2,k3⟩
        obtain ⟨m1,m2⟩:=q7a hs g1 k2
        have m3:=g2.trans m2
        exact hK ⟨Γ.S,C3 st.objs u,w'⟩ (a.put o.dst vc) (by simp) m1 ((hS.tr m3).put (y4g (Γ:=⟨⟨fun _=>none,(Ctx.mk Γ.S (C3 st.objs u) Γ.w).own⟩,[],w'⟩) (Γ':=⟨Γ.S,C3 st.objs u,w'⟩) rfl (fun b hb=>x6m.2 hb) hfn.data k3) _) m3 (y1i _ _ _)
  | tcall f args =>
   obtain ⟨x,os7,p7,b7,os8,q7,h7,h8,e8⟩:=bind_some h4
   cases e8
   obtain ⟨v,objs',still⟩:=x
   obtain ⟨_,os5,p5,b5,os6,q5,h5,h6,e6⟩:=bind_some h8
   cases e6
   cases A5 h6
   have hfn:RunOk P D B0 Gd f args st.objs v objs':=by
    unfold askT at h7
    cases os3 with
    | nil=>cases h7
    | cons x os5 =>
     cases x with
     | vt r' objs'' =>
      cases h7
      simpa [All,sem] using (all_append hp2.2).1
     | vr r' =>
      cases h7
      simpa [All,sem] using (all_append hp2.2).1
     | _=>cases h7
   obtain ⟨cargs,hrun,g3,g4⟩:=hsim
   have hrun':=hrun hfn.enters
   refine ⟨fun _ _=>trivial,?_⟩
   rw [Oper.semAt_eq ro _ o hnd,hrun']
   refine ⟨fun h=>(by cases h),Fr.calls ?_⟩
   refine Calls.mono (hfn.calls Γ cargs hΓ hG g3 g4) ?_
   rintro e w' ⟨vc,Γ',rfl,k0,rfl,k1,k2,k3⟩
   exact hK Γ' (a.put o.dst vc) k0 k1 ((hS.tr k2).put k3 _) k2 (y1i _ _ _)
end
end Gev
namespace Gev
open Go
variable {P:Program} {D:Tab} {B0:Nat} {Gd:World→Prop}
theorem y9g:∀ {objs objs':Objs},z4i objs objs'=true→∀ k,k<objs.length→lk objs k=none→k<objs'.length∧lk objs' k=none
 | [],_,_,k,hk,_=>by simp at hk
 | none::os,[],h,k,hk,hn=>by simp [z4i] at h
 | none::os,none::os',h,k,hk,hn=>by
  cases k with
  | zero=>exact ⟨by simp,rfl⟩
  | succ k =>
   obtain ⟨h1,h2⟩:=y9g (objs:=os) (objs':=os') h k (by simpa using hk) (by simpa [lk] using hn)
   exact ⟨by simpa using h1,by simpa [lk] using h2⟩
 | none::os,some _::os',h,k,hk,hn=>by simp [z4i] at h
 | some _::os,[],h,k,hk,hn=>by simp [z4i] at h
 | some _::os,x::os',h,k,hk,hn=>by
  cases k with
  | zero=>simp [lk] at hn
  | succ k =>
   obtain ⟨h1,h2⟩:=y9g (objs:=os) (objs':=os') (by cases x <;> exact h) k (by simpa using hk) (by simpa [lk] using hn)
   exact ⟨by simpa using h1,by simpa [lk] using h2⟩
theorem q6h {C:Sem3} {ops:List Oper} {fr:Nat} {o:Oper} {st st':St} {g:Log} {os os':List Orc} {ps:List Prop} (h:x6u D C ops fr o st os=some ((st',g),os',ps)) {k:Nat} (hk:Z6 D o.op=true→k≠fr) (hl:k<st.objs.length) (hn:lk st.objs k=none) :
    k<st'.objs.length∧lk st'.objs k=none:=by
 obtain ⟨v,⟨r,u,_,h1,rfl,_⟩ | ⟨objs',_,h1,rfl,_⟩⟩:=x0v h
 · simp only
   rw [y8k]
   refine ⟨hl,?_⟩
   rw [y6o]
   · exact hn
   · intro hm
     obtain ⟨p,hp,e⟩:=List.mem_map.1 hm
     have:=List.all_eq_true.1 h1 p hp
     simp only [Bool.or_eq_true,Bool.and_eq_true,beq_iff_eq] at this
     rcases this with ⟨h2,h3⟩ | h2
     · exact hk h2 (e ▸ h3)
     · rw [e,hn] at h2;cases h2
 · exact y9g h1 k hl hn
def j8x (D:Tab) (ops:List Oper) (base:Nat) (un:Nat→Prop) (st:St):Prop:=∀ i o,ops[i]?=some o→Z6 D o.op=true→un i→base+((ops.take i).filter (Z6 D ·.op)).length<st.objs.length∧lk st.objs (base+((ops.take i).filter (Z6 D ·.op)).length)=none
theorem j4f {ops:List Oper} {i j:Nat} {o:Oper} (hi:ops[i]?=some o) (hm:Z6 D o.op=true) (hij:i<j):((ops.take i).filter (Z6 D ·.op)).length<((ops.take j).filter (Z6 D ·.op)).length:=by
 have h1:((ops.take (i+1)).filter (Z6 D ·.op)).length=((ops.take i).filter (Z6 D ·.op)).length+1:=by
  rw [List.take_add_one,hi]
  simp [hm]
 have h2:((ops.take (i+1)).filter (Z6 D ·.op)).length≤((ops.take j).filter (Z6 D ·.op)).length:=by
  have:ops.take j=ops.take (i+1)++(ops.drop (i+1)).take (j-(i+1)):=by
   conv=>lhs;rw [show j=(i+1)+(j-(i+1)) by omega,List.take_add]
  rw [this,List.filter_append,List.length_append]
  omega
 omega
theorem v0e {ops:List Oper} {i j:Nat} {oi oj:Oper} (hi:ops[i]?=some oi) (hj:ops[j]?=some oj) (hmi:Z6 D oi.op=true) (hmj:Z6 D oj.op=true) (hne:i≠j) (base:Nat) :
    base+((ops.take i).filter (Z6 D ·.op)).length≠base+((ops.take j).filter (Z6 D ·.op)).length:=by
 rcases Nat.lt_or_ge i j with h | h
 · have:=j4f hi hmi h;omega
 · have:=j4f hj hmj (show j<i by omega);omega
theorem j4s {C:Sem3} {ops:List Oper} {base j:Nat} {st st':St} {g:Log} {un un':Nat→Prop} (h:k2f D C ops base j st st' g) (hu:∀ i,un' i→un i∧i≠j) (hf:j8x D ops base un st):j8x D ops base un' st':=by
 obtain ⟨oj,os,os',ps,hj,h1,_⟩:=h
 intro i oi hi hm hui
 obtain ⟨h2,h3⟩:=hu i hui
 obtain ⟨h4,h5⟩:=hf i oi hi hm h2
 exact q6h h1 (fun hmj=>v0e hi hj hm hmj h3 base) h4 h5
section
variable (hT:TabOk P D) (hs:Stable B0 Gd)
include hT hs
theorem j9a {Γ:Ctx} {a:Act} {ops:List Oper} {base i:Nat} {st st':St} {g:Log} (hΓ:Γ.objs=st.objs) (hG:Good D B0 Gd Γ) (hS:Slots D Γ st.slots a) {un:Nat→Prop} (hf:j8x D ops base un st) (hui:un i)
    (h:k2f D (sem P D B0 Gd) ops base i st st' g) {ro:Option Nat} {m:Nat} {K:Act→World→Prop} {Q:Exit→Act→World→Prop} (hK:∀ Γ' a',Γ'.objs=st'.objs→Good D B0 Gd Γ'→Slots D Γ' st'.slots a'→Tr D Γ Γ'→a'.defers=a.defers→K a' Γ'.w) :
    wpOpIn (Fr ro) m P ops.toArray Q i K a Γ.w:=by
 obtain ⟨o,os,os',ps,ho,h1,hp⟩:=h
 have:=v2p hT hs hΓ hG hS (fun hm=>hf i o ho hm hui) h1 hp (ro:=ro) (m:=m) (Q:=Q) hK
 unfold wpOpIn
 rw [List.getElem?_toArray,ho]
 simp only
 split at this
 · rename_i c;rw [if_pos c];exact this
 · rename_i c;rw [if_neg c];exact ⟨fun _ _=>trivial,this⟩
theorem q6q {ops:List Oper} {base:Nat} {G:Nat→Log} {fin:St} {Γ0:Ctx} {a0:Act} {ro:Option Nat} {m:Nat} {Q:Exit→Act→World→Prop}
    (hQ:∀ Γ' a',Γ'.objs=fin.objs→Good D B0 Gd Γ'→Slots D Γ' fin.slots a'→Tr D Γ0 Γ'→a'.defers=a0.defers→Q .normal a' Γ'.w) :
    ∀ (fuel:Nat) (listed:Array Bool) (st:St) (Γ:Ctx) (a:Act),Any D (sem P D B0 Gd) ops base G (·=fin) fuel listed st→Γ.objs=st.objs→Good D B0 Gd Γ→Slots D Γ st.slots a→j8x D ops base (fun i=>listed.getD i true=false) st→Tr D Γ0 Γ→a.defers=a0.defers →
     wpAnyIn (Fr ro) m P .any ops.toArray Q fuel listed a Γ.w
 | 0,listed,st,Γ,a,h,hΓ,hG,hS,hf,ht,hd=>by
  obtain ⟨h1,rfl⟩:=h
  exact ⟨h1,hQ Γ a hΓ hG hS ht hd⟩
 | fuel+1,listed,st,Γ,a,h,hΓ,hG,hS,hf,ht,hd=>by
  refine ⟨fun h0=>?_,fun i hi=>?_⟩
  · have:=h.1 h0
    subst this
    exact hQ Γ a hΓ hG hS ht hd
  · obtain ⟨st',h1,h2⟩:=h.2 i hi
    refine j9a hT hs hΓ hG hS hf (mem_ready.1 hi).1 h1 fun Γ' a' k1 k2 k3 k4 k5=>?_
    refine q6q hQ fuel _ st' Γ' a' h2 k1 k2 k3 (j4s h1 (fun k hk=>?_) hf) (ht.trans k4) (k5.trans hd)
    by_cases e:i=k
    · subst e
      exfalso
      rcases Nat.lt_or_ge i listed.size with h' | h'
      · simp [h'] at hk
      · have:=(mem_ready.1 hi).1
        simp [Array.getElem?_eq_none h'] at this
    · rw [getD_set_ne true e] at hk
      exact ⟨hk,Ne.symm e⟩
theorem q3j {ops:List Oper} {base:Nat} {G:Nat→Log} {fin:St} {Γ0:Ctx} {a0:Act} {ro:Option Nat} {m:Nat} {Q:Exit→Act→World→Prop}
    (hQ:∀ Γ' a',Γ'.objs=fin.objs→Good D B0 Gd Γ'→Slots D Γ' fin.slots a'→Tr D Γ0 Γ'→a'.defers=a0.defers→Q .normal a' Γ'.w) :
    ∀ (n k:Nat) (st:St) (Γ:Ctx) (a:Act),q6p D (sem P D B0 Gd) ops base G fin n k st→Γ.objs=st.objs→Good D B0 Gd Γ→Slots D Γ st.slots a→j8x D ops base (fun i=>k≤i) st→Tr D Γ0 Γ→a.defers=a0.defers →
     wpOpsIn (Fr ro) m P ops.toArray Q (List.range' k n) a Γ.w
 | 0,k,st,Γ,a,h,hΓ,hG,hS,hf,ht,hd=>by
  have:st=fin:=h
  subst this
  exact hQ Γ a hΓ hG hS ht hd
 | n+1,k,st,Γ,a,h,hΓ,hG,hS,hf,ht,hd=>by
  obtain ⟨st',h1,h2⟩:=h
  rw [List.range'_succ,wpOpsIn_cons]
  refine j9a hT hs hΓ hG hS hf (Nat.le_refl k) h1 fun Γ' a' k1 k2 k3 k4 k5=>?_
  exact q3j hQ n (k+1) st' Γ' a' h2 k1 k2 k3 (j4s h1 (fun i hi=>⟨by omega,by omega⟩) hf) (ht.trans k4) (k5.trans hd)
theorem q1o (objs:Objs) (n l:Nat):lk (objs++List.replicate n none) l=lk objs l:=by
 unfold lk
 rw [List.getD_eq_getElem?_getD,List.getD_eq_getElem?_getD,List.getElem?_append]
 split
 · rfl
 · rename_i h
   rw [List.getElem?_eq_none (by omega:objs.length≤l),List.getElem?_replicate]
   split <;> rfl
theorem j5w:∀ (ops:List Oper),rank D ops=(ops.filter (Z6 D ·.op)).length
 | []=>rfl
 | o::ops=>by
  simp only [rank,List.filter_cons]
  rw [j5w ops]
  split <;> simp
theorem q6d {id:Nat} {ops:Array Oper} {draw:Bool} {st st':St} {os os':List Orc} {ps:List Prop} {Γ:Ctx} {a:Act} {ro:Option Nat} {m:Nat} {Q:Exit→Act→World→Prop} (hm:P.follows .mixedOrders=true) (h:x0t D (sem P D B0 Gd) ops draw st os=some (st',os',ps)) (hp:All ps)
    (hΓ:Γ.objs=st.objs) (hG:Good D B0 Gd Γ) (hS:Slots D Γ st.slots a)
    (hQ:∀ Γ' a',Γ'.objs=st'.objs→Good D B0 Gd Γ'→Slots D Γ' st'.slots a'→Tr D Γ Γ'→a'.defers=a.defers→Q .normal a' Γ'.w):(Code.region id ops draw).wpIn (Fr ro) m P Q a Γ.w:=by
 unfold x0t at h
 obtain ⟨x,os1,p1,b1,os2,q1,h1,h2,e⟩:=bind_some h
 cases e
 obtain ⟨fin,gs⟩:=x
 obtain ⟨_,os3,p3,b3,os4,q3,h3,h4,e⟩:=bind_some h2
 cases e
 obtain ⟨k3,e3⟩:=G4 h3
 cases e3
 cases A5 h4
 have hp1:=(all_append hp).1
 have hfresh:∀ un,j8x D ops.toList st.objs.length un ⟨st.slots,st.objs++List.replicate (rank D ops.toList) none⟩:=by
  intro un i o ho hmk _
  have hlt:((ops.toList.take i).filter (Z6 D ·.op)).length<rank D ops.toList:=by
   rw [j5w hT hs]
   have:=j4f (j:=ops.toList.length) ho hmk (List.getElem?_eq_some_iff.1 ho).1
   rwa [List.take_length] at this
  simp only [List.length_append,List.length_replicate]
  refine ⟨by omega,?_⟩
  rw [q1o hT hs]
  unfold lk
  rw [List.getD_eq_getElem?_getD,List.getElem?_eq_none (by omega)]
  rfl
 cases draw with
 | false =>
  obtain ⟨g1,g2⟩:=j2x hG (objs:=st.objs++List.replicate (rank D ops.toList) none) (fun l=>by rw [q1o hT hs,hΓ])
  obtain ⟨c1,_⟩:=x1n (ops:=ops.toList) (base:=st.objs.length) (G:=fun i=>gs.getD i default) ops.toList 0 _ _ gs _ _ _ (by simp) (by simp) (by simp) (by simpa using h1) hp1
  refine wpIn_region ?_
  have:=q3j hT hs (ops:=ops.toList) (Γ0:=Γ) (a0:=a) (ro:=ro) (m:=m) (Q:=Q)  hQ ops.toList.length 0 _ ⟨Γ.S,st.objs++List.replicate (rank D ops.toList) none,Γ.w⟩ a c1 rfl g1 (hS.tr g2) (hfresh _) g2 rfl
  rw [← List.range_eq_range'] at this
  simpa using this
 | true =>
  have hd:q1c ops.toList gs=true:=by simpa using k3
  obtain ⟨d1,d2⟩:=q6w hs hG
  obtain ⟨g1,g2⟩:=j2x d1 (objs:=st.objs++List.replicate (rank D ops.toList) none) (fun l=>by rw [q1o hT hs,hΓ])
  obtain ⟨G,hany⟩:=q5f h1 hp1 hd
  refine wpIn_region_any hm ?_
  have:=q6q hT hs (ops:=ops.toList) (Γ0:=Γ) (a0:=a) (ro:=ro) (m:=m) (Q:=Q)  hQ ops.toList.length _ _ ⟨Γ.S,st.objs++List.replicate (rank D ops.toList) none,Γ.w.drew⟩ a hany rfl g1 (hS.tr (d2.trans g2)) (hfresh _) (d2.trans g2) rfl
  simpa using this
end
end Gev
namespace Gev
open Go
variable {P:Program} {D:Tab} {B0:Nat} {Gd:World→Prop}
theorem y0j {objs:Objs} {o:Option Ob} {k:Nat}:lk (objs++[o]) k=if k=objs.length then o else lk objs k:=by
 unfold lk
 rw [List.getD_eq_getElem?_getD,List.getD_eq_getElem?_getD,List.getElem?_append]
 by_cases h:k<objs.length
 · rw [if_pos h,if_neg (by omega)]
 · rw [if_neg h]
   by_cases e:k=objs.length
   · subst e;simp
   · rw [if_neg e,List.getElem?_eq_none (by simp;omega),List.getElem?_eq_none (by omega)]
theorem q1p {objs:Objs} {k:Nat} (h:objs.length≤k):lk objs k=none:=by
 unfold lk
 rw [List.getD_eq_getElem?_getD,List.getElem?_eq_none h]
 rfl
theorem q7d {Γ:Ctx} (h:Good D B0 Gd Γ) {fr t:Nat} (hn:lk Γ.objs fr=none) {ti:TI} (ht:D.ty t=some ti) {objs:Objs} (hlk:∀ k,lk objs k=if k=fr then some (.vec t []) else lk Γ.objs k) :
    Good D B0 Gd ⟨⟨fun k=>if k=fr then none else Γ.S k,Γ.S.ext⟩,objs,Γ.w⟩∧Tr D Γ ⟨⟨fun k=>if k=fr then none else Γ.S k,Γ.S.ext⟩,objs,Γ.w⟩∧RepA D ⟨⟨fun k=>if k=fr then none else Γ.S k,Γ.S.ext⟩,objs,Γ.w⟩ (.slice none 0 0) (.vec fr 0):=by
 have hmine:∀ b,(Ctx.mk ⟨fun k=>if k=fr then none else Γ.S k,Γ.S.ext⟩ objs Γ.w).mine b→Γ.mine b:=by
  rintro b ⟨k,o,a1,a2,a3⟩
  simp only at a1 a3
  rw [hlk] at a1
  by_cases e1:k=fr
  · rw [if_pos e1] at a3;cases a3
  · rw [if_neg e1] at a1 a3
    exact ⟨k,o,a1,a2,a3⟩
 have hown:∀ b,(Ctx.mk ⟨fun k=>if k=fr then none else Γ.S k,Γ.S.ext⟩ objs Γ.w).own b→Γ.own b:=Ctx.own_of' rfl hmine
 have hd:∀ v d,RepD Γ.w Γ.own v d→RepD Γ.w (Ctx.mk ⟨fun k=>if k=fr then none else Γ.S k,Γ.S.ext⟩ objs Γ.w).own v d:=fun v d hv=>hv.same hown
 have htr:Tr D Γ (Ctx.mk ⟨fun k=>if k=fr then none else Γ.S k,Γ.S.ext⟩ objs Γ.w):=by
  refine ⟨Kept.refl _ _,rfl,fun b hb=>.inl (hmine b hb),fun k cs hc=>?_,fun v k len hv=>?_,fun v k i off hv=>?_⟩
  · have e1:k≠fr:=fun e=>by rw [e,hn] at hc;cases hc
    exact ⟨cs,by simp only;rw [hlk,if_neg e1];exact hc,by simp only;rw [if_neg e1]⟩
  · have e1:k≠fr:=by
     intro e
     subst e
     cases hv with
     | vnil _ _ h1=>rw [hn] at h1;cases h1
     | vec _ _ _ _ _ _ _ _ h1=>rw [hn] at h1;cases h1
     | fvec _ _ _ h1=>rw [hn] at h1;cases h1
     | gone _ _ h1=>rw [hn] at h1;cases h1
    exact RepA.vec_same (Γ:=Γ) (Γ':=Ctx.mk ⟨fun k=>if k=fr then none else Γ.S k,Γ.S.ext⟩ objs Γ.w) hd (by simp only;rw [hlk,if_neg e1]) (by simp only;rw [if_neg e1]) (fun _ _ _ _ _=>rfl) hv
  · have e1:k≠fr:=by
     intro e
     subst e
     cases hv with
     | vptr _ _ _ _ _ _ _ h1=>rw [hn] at h1;cases h1
     | fptr _ _ _ _ _ _ h1=>rw [hn] at h1;cases h1
     | pgone _ _ _ h1=>rw [hn] at h1;cases h1
    exact RepA.vptr_same (Γ:=Γ) (Γ':=Ctx.mk ⟨fun k=>if k=fr then none else Γ.S k,Γ.S.ext⟩ objs Γ.w) (fun a d _ _ ⟨u,h3,h4⟩=>⟨u,h3,hd u d h4⟩) (Nat.le_refl _) (fun b _ hno hb=>hno (hown b hb)) (by simp only;rw [hlk,if_neg e1]) (by simp only;rw [if_neg e1]) hv
 refine ⟨⟨fun k o hk=>?_,fun k k' o o' c a1 a2 v1 v2 s1 s2=>?_,fun b hb=>h.own b (hown b hb),htr.extOk h.ext,h.size,h.gd⟩,htr,.vnil fr t (by simp only;rw [hlk,if_pos rfl]) (by simp)⟩
 · simp only at hk
   rw [hlk] at hk
   by_cases e1:k=fr
   · rw [if_pos e1] at hk;cases hk;subst e1
     exact ⟨ti,ht,by simp,.inl ⟨by simp,rfl⟩⟩
   · rw [if_neg e1] at hk
     exact (h.ob k o hk).same htr (by simp only;rw [if_neg e1]) fun _ _ _=>rfl
 · simp only at a1 a2 s1 s2
   rw [hlk] at a1 a2
   by_cases e1:k=fr
   · rw [if_pos e1] at s1;cases s1
   · by_cases e2:k'=fr
     · rw [if_pos e2] at s2;cases s2
     · rw [if_neg e1] at a1 s1
       rw [if_neg e2] at a2 s2
       exact h.inj k k' o o' c a1 a2 v1 v2 s1 s2
theorem q0f {Γ:Ctx} {slots:List AV} {a:Act} (h:Slots D Γ slots a) {i:Nat} {v:AV} (hv:∀ u,a.tmps[i]?=some u→RepA D Γ u v):Slots D Γ (slots.set i v) a:=by
 refine ⟨by simp [h.size],fun j x u hx hu=>?_⟩
 rw [List.getElem?_set] at hx
 split at hx
 · rename_i e
   subst e
   split at hx
   · cases hx;exact hv u hu
   · cases hx
 · exact h.slot j x u hx hu
theorem v2a (hs:Stable B0 Gd) {Γ Γb:Ctx} (hG:Good D B0 Gd Γ) (hGb:Good D B0 Gd Γb) (ht:Tr D Γ Γb) (hw:Γb.w=Γ.w) {k off:Nat} {cs:List AV} (hk:lk Γ.objs k=some (.cells cs)) (hkb:lk Γb.objs k=some (.cells cs)) (hS:Γb.S k=Γ.S k) {v0 v:AV} (h0:cs[off]?=some v0)
    (hv:∀ u,RepA D Γ u v0→RepA D Γb u v):Good D B0 Gd (Γb.put k (.cells (cs.set off v)) Γb.w)∧Tr D Γb (Γb.put k (.cells (cs.set off v)) Γb.w):=by
 obtain ⟨b,arr,ty,h1,h2,h3,h4⟩:=hG.ob k _ hk
 have h2b:Γb.w.heap[b]?=some (.cells arr ty (0,0)):=by rw [hw];exact h2
 have h:=k2s hs hGb hkb (hS.trans h1) h2b (cs':=cs.set off v) (arr':=arr) (by rw [List.length_set];exact h3) (fun j a u ha hu=>by
  by_cases e:off=j
  · subst e
    rw [List.getElem?_set_self (List.getElem?_eq_some_iff.1 h0).1] at ha
    cases ha
    exact hv u (h4 off v0 u h0 hu)
  · rw [List.getElem?_set_ne e] at ha
    exact ht.rep (h4 j a u ha hu))
 rw [q4q h2b] at h
 exact h
theorem y6q (hs:Stable B0 Gd) {a:Act}:∀ (rows:List (Nat × Nat)) (st st1:St) (Γ:Ctx),y9r D rows st=some st1→Γ.objs=st.objs→Good D B0 Gd Γ→Slots D Γ st.slots a →
    ∃ Γ1,Γ1.objs=st1.objs∧Γ1.w=Γ.w∧Good D B0 Gd Γ1∧Slots D Γ1 st1.slots a∧Tr D Γ Γ1∧st.objs.length≤st1.objs.length
 | [],st,st1,Γ,h,hΓ,hG,hS=>by cases h;exact ⟨Γ,hΓ,rfl,hG,hS,Tr.refl _,Nat.le_refl _⟩
 | (i,t)::rows,st,st1,Γ,h,hΓ,hG,hS=>by
  simp only [y9r] at h
  cases hfz:Nat.beq t 999999999 with
  | true =>
   rw [hfz] at h
   simp only [cond_true] at h
   cases hk:lk st.objs i with
   | none=>rw [hk] at h;cases h
   | some ob =>
    rw [hk] at h
    cases ob with
    | vec t' xs =>
     simp only at h
     obtain ⟨k1,k2⟩:=q5t hG (show lk Γ.objs i=some (.vec t' xs) by rw [hΓ];exact hk)
     obtain ⟨Γ1,m1,m2,m3,m4,m5,m6⟩:=y6q hs rows _ st1 _ h (show (Γ.put i (.fro xs) Γ.w).objs=_ by simp only [Ctx.put,hΓ]) k1 (hS.tr k2)
     exact ⟨Γ1,m1,m2,m3,m4,k2.trans m5,by simp at m6;omega⟩
    | _=>cases h
  | false =>
  rw [hfz] at h
  simp only [cond_false] at h
  cases hblt:Nat.blt i st.slots.length with
  | false =>
   rw [hblt] at h
   simp only [cond_false] at h
   generalize (i-st.slots.length) / 64=k at h
   generalize (i-st.slots.length) % 64=off at h
   have hn:lk Γ.objs st.objs.length=none:=by rw [hΓ];exact q1p (Nat.le_refl _)
   cases hk:lk st.objs k with
   | none=>rw [hk] at h;cases h
   | some ob =>
    rw [hk] at h
    cases ob with
    | cells cs =>
     simp only at h
     have hkl:=z3d hk
     have hkΓ:lk Γ.objs k=some (.cells cs):=by rw [hΓ];exact hk
     rw [List.getD_eq_getElem?_getD] at h
     cases hcs:cs[off]? with
     | none=>rw [hcs] at h;cases h
     | some v =>
      rw [hcs] at h
      simp only [Option.getD_some] at h
      cases v with
      | nils =>
       simp only at h
       split at h
       · rename_i hty
         obtain ⟨ti,ht⟩:=Option.isSome_iff_exists.1 hty
         obtain ⟨k1,k2,k3⟩:=q7d hG (fr:=st.objs.length) hn ht (objs:=st.objs++[some (.vec t [])]) (fun k=>by rw [y0j,hΓ])
         obtain ⟨r1,r2⟩:=v2a (v:=.vec st.objs.length 0) hs hG k1 k2 rfl hkΓ (by show lk (st.objs++[some (.vec t [])]) k=_;rw [y0j,if_neg (by omega)];exact hk) (by show (if k=st.objs.length then none else Γ.S k)=_;rw [if_neg (by omega)]) hcs (fun u hu=>by
          rw [RepA.nils_inv hu]
          exact k3)
         obtain ⟨Γ1,m1,m2,m3,m4,m5,m6⟩:=y6q hs rows _ st1 _ h rfl r1 (hS.tr (k2.trans r2))
         exact ⟨Γ1,m1,m2,m3,m4,(k2.trans r2).trans m5,by simp at m6;omega⟩
       · cases h
      | vec l len =>
       simp only at h
       cases hl:lk st.objs l with
       | none=>rw [hl] at h;cases h
       | some ob =>
        rw [hl] at h
        cases ob with
        | vec t' xs =>
         simp only at h
         obtain ⟨g1,g2⟩:=j2x hG (objs:=st.objs++[none]) (fun k=>by
          rw [y0j,hΓ]
          split
          · rename_i e;rw [e,q1p (Nat.le_refl _)]
          · rfl)
         have hl1:lk (st.objs++[none]) l=some (.vec t' xs):=by rw [y0j,if_neg (by have:=z3d hl;omega)];exact hl
         have hn1:lk (st.objs++[none]) st.objs.length=none:=by rw [y0j,if_pos rfl]
         have hobjs:((st.objs++[none]).set l (some .dead)).set st.objs.length (some (.vec t' xs))=st.objs.set l (some .dead)++[some (.vec t' xs)]:=by
          have:=z3d hl
          rw [List.set_append_left _ _ this]
          rw [List.set_append_right _ _ (by simp)]
          simp
         obtain ⟨ti,q0,q1,hob⟩:=g1.ob l _ hl1
         obtain ⟨k1,k2⟩:=y8h (Γ:=⟨Γ.S,st.objs++[none],Γ.w⟩) (zs:=xs) (sb:=Γ.S l) (w':=Γ.w) hs g1 (fr:=st.objs.length) (by simp) hn1 hl1 (Kept.refl _ _) (fun _ _ _=>rfl) (fun b hb=>.inr hb)
          (Γ':=⟨⟨fun k=>if k=st.objs.length then Γ.S l else Γ.S k,Γ.S.ext⟩,st.objs.set l (some .dead)++[some (.vec t' xs)],Γ.w⟩) (by rw [hobjs]) fun hd=>by
           refine ⟨ti,q0,q1,?_⟩
           rcases hob with ⟨h2,h3⟩ | ⟨b,arr,cap,h2,h3,h4,h5,h6⟩
           · exact .inl ⟨by simpa using h2,h3⟩
           · exact .inr ⟨b,arr,cap,by simpa using h2,h3,h4,h5,fun i x j d u a1 a2 a3=>hd _ _ (h6 i x j d u a1 a2 a3)⟩
         have hlk':lk (st.objs.set l (some .dead)++[some (.vec t' xs)]) st.objs.length=some (.vec t' xs):=by rw [y0j,if_pos (by simp)]
         have hkl':k≠l:=fun e=>by rw [e,hl] at hk;cases hk
         obtain ⟨r1,r2⟩:=v2a (v:=.vec st.objs.length len) hs hG k1 (g2.trans k2) rfl hkΓ (by
             show lk (st.objs.set l (some .dead)++[some (.vec t' xs)]) k=_
             rw [y0j,if_neg (by simp;omega),X3 (z3d hl),if_neg hkl'];exact hk) (by show (if k=st.objs.length then Γ.S l else Γ.S k)=_;rw [if_neg (by omega)]) hcs (fun u hu'=>by
          rw [← hΓ] at hl
          cases hu' with
          | vnil _ t'' a1 a2=>rw [hl] at a1;cases a1;exact .vnil _ t' hlk' (by simpa using a2)
          | vec _ _ cap b t'' ti' ys arr a1 a2 a3 a4 a5 a6 a7 =>
           rw [hl] at a1;cases a1
           exact .vec _ len cap b t' ti' xs arr hlk' a2 (by simpa using a3) a4 a5 a6 a7
          | fvec _ _ _ a1=>rw [hl] at a1;cases a1
          | gone _ _ a1=>rw [hl] at a1;cases a1)
         obtain ⟨Γ1,m1,m2,m3,m4,m5,m6⟩:=y6q hs rows _ st1 _ h rfl r1 (hS.tr ((g2.trans k2).trans r2))
         exact ⟨Γ1,m1,m2,m3,m4,((g2.trans k2).trans r2).trans m5,by simp at m6;omega⟩
        | _=>cases h
      | _=>cases h
    | _=>cases h
  | true =>
  rw [hblt] at h
  simp only [cond_true] at h
  rw [List.getD_eq_getElem?_getD] at h
  cases hsl:st.slots[i]? with
  | none=>rw [hsl] at h;cases h
  | some v =>
   rw [hsl] at h
   simp only [Option.getD_some] at h
   have hn:lk Γ.objs st.objs.length=none:=by rw [hΓ];exact q1p (Nat.le_refl _)
   cases v with
   | nils =>
    simp only at h
    split at h
    · rename_i hty
      obtain ⟨ti,ht⟩:=Option.isSome_iff_exists.1 hty
      obtain ⟨k1,k2,k3⟩:=q7d hG (fr:=st.objs.length) hn ht (objs:=st.objs++[some (.vec t [])]) (fun k=>by rw [y0j,hΓ])
      obtain ⟨Γ1,m1,m2,m3,m4,m5,m6⟩:=y6q hs rows _ st1 ⟨⟨fun k=>if k=st.objs.length then none else Γ.S k,Γ.S.ext⟩,st.objs++[some (.vec t [])],Γ.w⟩ h rfl k1
       (q0f (hS.tr k2) fun u hu=>by
        have:=hS.slot i _ u hsl hu
        rw [RepA.nils_inv this]
        exact k3)
      exact ⟨Γ1,m1,m2,m3,m4,k2.trans m5,by simp at m6;omega⟩
    · cases h
   | vec l len =>
    simp only at h
    cases hl:lk st.objs l with
    | none=>rw [hl] at h;cases h
    | some ob =>
     rw [hl] at h
     cases ob with
     | vec t' xs =>
      simp only at h
      obtain ⟨g1,g2⟩:=j2x hG (objs:=st.objs++[none]) (fun k=>by
       rw [y0j,hΓ]
       split
       · rename_i e;rw [e,q1p (Nat.le_refl _)]
       · rfl)
      have hl1:lk (st.objs++[none]) l=some (.vec t' xs):=by rw [y0j,if_neg (by have:=z3d hl;omega)];exact hl
      have hn1:lk (st.objs++[none]) st.objs.length=none:=by rw [y0j,if_pos rfl]
      have hobjs:((st.objs++[none]).set l (some .dead)).set st.objs.length (some (.vec t' xs))=st.objs.set l (some .dead)++[some (.vec t' xs)]:=by
       have:=z3d hl
       rw [List.set_append_left _ _ this]
       rw [List.set_append_right _ _ (by simp)]
       simp
      obtain ⟨ti,q0,q1,hob⟩:=g1.ob l _ hl1
      obtain ⟨k1,k2⟩:=y8h (Γ:=⟨Γ.S,st.objs++[none],Γ.w⟩) (zs:=xs) (sb:=Γ.S l) (w':=Γ.w) hs g1 (fr:=st.objs.length) (by simp) hn1 hl1 (Kept.refl _ _) (fun _ _ _=>rfl) (fun b hb=>.inr hb)
       (Γ':=⟨⟨fun k=>if k=st.objs.length then Γ.S l else Γ.S k,Γ.S.ext⟩,st.objs.set l (some .dead)++[some (.vec t' xs)],Γ.w⟩) (by rw [hobjs]) fun hd=>by
        refine ⟨ti,q0,q1,?_⟩
        rcases hob with ⟨h2,h3⟩ | ⟨b,arr,cap,h2,h3,h4,h5,h6⟩
        · exact .inl ⟨by simpa using h2,h3⟩
        · exact .inr ⟨b,arr,cap,by simpa using h2,h3,h4,h5,fun i x j d u a1 a2 a3=>hd _ _ (h6 i x j d u a1 a2 a3)⟩
      have hlk':lk (st.objs.set l (some .dead)++[some (.vec t' xs)]) st.objs.length=some (.vec t' xs):=by rw [y0j,if_pos (by simp)]
      obtain ⟨Γ1,m1,m2,m3,m4,m5,m6⟩:=y6q hs rows _ st1 ⟨⟨fun k=>if k=st.objs.length then Γ.S l else Γ.S k,Γ.S.ext⟩,st.objs.set l (some .dead)++[some (.vec t' xs)],Γ.w⟩ h rfl k1
       (q0f (hS.tr (g2.trans k2)) fun u hu=>by
        have hu':=hS.slot i _ u hsl hu
        rw [← hΓ] at hl
        cases hu' with
        | vnil _ t'' a1 a2=>rw [hl] at a1;cases a1;exact .vnil _ t' hlk' (by simpa using a2)
        | vec _ _ cap b t'' ti' ys arr a1 a2 a3 a4 a5 a6 a7 =>
         rw [hl] at a1;cases a1
         exact .vec _ len cap b t' ti' xs arr hlk' a2 (by simpa using a3) a4 a5 a6 a7
        | fvec _ _ _ a1=>rw [hl] at a1;cases a1
        | gone _ _ a1=>rw [hl] at a1;cases a1)
      exact ⟨Γ1,m1,m2,m3,m4,(g2.trans k2).trans m5,by simp at m6;omega⟩
     | _=>cases h
   | _=>cases h
theorem q6e {objs:Objs} {l:Nat} {o:Ob} (h:z1g objs l=some o):lk objs l=some o∧∀ cs,o≠.cells cs:=by
 unfold z1g at h
 cases hl:lk objs l with
 | none=>rw [hl] at h;cases h
 | some q=>rw [hl] at h;cases q <;> cases h <;> exact ⟨rfl,fun cs=>by simp⟩
theorem v2j {objs:Objs} {l:Nat} {o:Ob} (h:lk objs l=some o) (hno:∀ cs,o≠.cells cs):z1g objs l=some o:=by
 unfold z1g
 rw [h]
 cases o with
 | cells cs=>exact absurd rfl (hno cs)
 | _=>rfl
theorem k3n (n0:Nat):∀ (vs:List AV) (acc:List Nat),acc.Nodup→(∀ l∈acc,n0≤l)→(z4h n0 acc vs).Nodup∧∀ l∈z4h n0 acc vs,n0≤l
 | [],acc,h1,h2=>⟨h1,h2⟩
 | v::vs,acc,h1,h2=>by
  have key:∀ acc':List Nat,acc'.Nodup→(∀ l∈acc',n0≤l)→(z4h n0 acc' vs).Nodup∧∀ l∈z4h n0 acc' vs,n0≤l:=k3n n0 vs
  cases v with
  | vec l len =>
   simp only [z4h]
   split
   · rename_i hc
     simp only [Bool.and_eq_true,decide_eq_true_eq,Bool.not_eq_true',List.contains_eq_mem,decide_eq_false_iff_not] at hc
     refine key _ ?_ ?_
     · rw [List.nodup_append]
       exact ⟨h1,by simp,fun a ha b hb=>by simp at hb;subst hb;intro e;subst e;exact hc.2 ha⟩
     · intro k hk
       rcases List.mem_append.1 hk with hk | hk
       · exact h2 k hk
       · simp at hk;omega
   · exact key acc h1 h2
  | _=>exact key acc h1 h2
theorem y4h {n0:Nat} {live:List Nat}:∀ {vs vs':List AV},z4b n0 live vs=some vs'→vs'.length=vs.length∧∀ (i:Nat) v',vs'[i]?=some v'→∃ v,vs[i]?=some v∧y7d n0 live v=some v'
 | [],vs',h=>by cases h;exact ⟨rfl,fun i v' h=>by simp at h⟩
 | v::vs,vs',h=>by
  simp only [z4b] at h
  cases h1:y7d n0 live v with
  | none=>rw [h1] at h;cases h
  | some x =>
   cases h2:z4b n0 live vs with
   | none=>rw [h1,h2] at h;cases h
   | some xs =>
    rw [h1,h2] at h
    cases h
    obtain ⟨l1,l2⟩:=y4h h2
    refine ⟨by simp [l1],fun i v' hv=>?_⟩
    cases i with
    | zero=>simp at hv;subst hv;exact ⟨v,by simp,h1⟩
    | succ i=>obtain ⟨u,e1,e2⟩:=l2 i v' (by simpa using hv);exact ⟨u,by simpa using e1,e2⟩
theorem k3m {n0:Nat} {live:List Nat}:∀ {os os':Objs},U8 n0 live os=some os'→os'.length=os.length∧∀ i,(∃ cs cs',lk os i=some (.cells cs)∧lk os' i=some (.cells cs')∧z4b n0 live cs=some cs')∨(lk os' i=lk os i∧∀ cs,lk os i≠some (.cells cs))
 | [],os',h=>by cases h;exact ⟨rfl,fun i=>.inr ⟨rfl,fun cs=>by simp [lk]⟩⟩
 | o::os,os',h=>by
  have key:∀ (o':Option Ob) (os2:Objs),U8 n0 live os=some os2→((∃ cs cs',o=some (.cells cs)∧o'=some (.cells cs')∧z4b n0 live cs=some cs')∨(o'=o∧∀ cs,o≠some (.cells cs))) →
      (o'::os2).length=(o::os).length∧∀ i,(∃ cs cs',lk (o::os) i=some (.cells cs)∧lk (o'::os2) i=some (.cells cs')∧z4b n0 live cs=some cs')∨(lk (o'::os2) i=lk (o::os) i∧∀ cs,lk (o::os) i≠some (.cells cs)):=by
   intro o' os2 h2 h3
   obtain ⟨l1,l2⟩:=k3m h2
   refine ⟨by simp [l1],fun i=>?_⟩
   cases i with
   | zero=>simpa [lk] using h3
   | succ i=>have:=l2 i;simpa [lk] using this
  cases h2:U8 n0 live os with
  | none =>
   cases o with
   | none=>simp only [U8,h2] at h;cases h
   | some ob =>
    cases ob with
    | cells cs=>simp only [U8,h2] at h;cases h3:z4b n0 live cs <;> rw [h3] at h <;> cases h
    | _=>simp only [U8,h2] at h;cases h
  | some os2 =>
   cases o with
   | none =>
    simp only [U8,h2] at h
    cases h
    exact key none os2 h2 (.inr ⟨rfl,fun cs=>by simp⟩)
   | some ob =>
    cases ob with
    | cells cs =>
     simp only [U8,h2] at h
     cases h3:z4b n0 live cs with
     | none=>rw [h3] at h;cases h
     | some cs' =>
      rw [h3] at h
      cases h
      exact key (some (.cells cs')) os2 h2 (.inl ⟨cs,cs',rfl,rfl,h3⟩)
    | vec t xs =>
     simp only [U8,h2] at h
     cases h
     exact key _ os2 h2 (.inr ⟨rfl,fun cs=>by simp⟩)
    | fro xs =>
     simp only [U8,h2] at h
     cases h
     exact key _ os2 h2 (.inr ⟨rfl,fun cs=>by simp⟩)
    | dead =>
     simp only [U8,h2] at h
     cases h
     exact key _ os2 h2 (.inr ⟨rfl,fun cs=>by simp⟩)
theorem v3u {os:Objs} {n i:Nat}:lk (os.take n) i=if i<n then lk os i else none:=by
 unfold lk
 rw [List.getD_eq_getElem?_getD,List.getD_eq_getElem?_getD,List.getElem?_take]
 split <;> rfl
theorem x1s (keep:List Nat):∀ (vs:List AV) (i:Nat),(z8i keep i vs).length=vs.length∧∀ (j:Nat) (v':AV),(z8i keep i vs)[j]?=some v'→v'=.undef∨vs[j]?=some v'
 | [],i=>⟨rfl,fun j v' h=>by simp [z8i] at h⟩
 | v::vs,i=>by
  obtain ⟨l1,l2⟩:=x1s keep vs (i+1)
  refine ⟨by simp [z8i,l1],fun j v' h=>?_⟩
  cases j with
  | zero =>
   simp only [z8i,List.getElem?_cons_zero,Option.some.injEq] at h
   split at h
   · exact .inr (by simp [h])
   · exact .inl h.symm
  | succ j=>simpa using l2 j v' (by simpa [z8i] using h)
theorem k3l {n0:Nat} {live:List Nat}:∀ {vs vs':List AV},x0b n0 live vs=some vs'→vs'.length=vs.length∧∀ (i:Nat) v',vs'[i]?=some v'→∃ v,vs[i]?=some v∧j2w n0 live v=some v'
 | [],vs',h=>by cases h;exact ⟨rfl,fun i v h=>by simp at h⟩
 | v::vs,vs',h=>by
  simp only [x0b] at h
  cases h1:j2w n0 live v with
  | none=>rw [h1] at h;cases h
  | some v1 =>
   cases h2:x0b n0 live vs with
   | none=>rw [h1,h2] at h;cases h
   | some vs1 =>
    rw [h1,h2] at h
    cases h
    obtain ⟨k1,k2⟩:=k3l h2
    refine ⟨by simp [k1],fun i v' hv=>?_⟩
    cases i with
    | zero=>simp at hv;subst hv;exact ⟨v,rfl,h1⟩
    | succ i=>obtain ⟨w,a,b⟩:=k2 i v' (by simpa using hv);exact ⟨w,by simpa using a,b⟩
theorem k6w {n0:Nat} {st:St} {Γ:Ctx} {live:List Nat} {objs:Objs} (hnd:live.Nodup) (hge:∀ l∈live,n0≤l)(h2:U8 n0 live (st.objs.take n0)=some objs) (hn:n0≤st.objs.length) (hΓ:Γ.objs=st.objs) (hG:Good D B0 Gd Γ) :
    ∃ Γ0,Γ0.objs=objs++live.map (z1g st.objs)∧Γ0.w=Γ.w∧Good D B0 Gd Γ0∧(∀ u v v',RepA D Γ u v→y7d n0 live v=some v'→RepA D Γ0 u v')∧TrB D n0 Γ Γ0∧n0≤(objs++live.map (z1g st.objs)).length∧Γ0.S.ext=Γ.S.ext:=by
 obtain ⟨l1,l2⟩:=k3m h2
 have hlen:objs.length=n0:=by rw [l1];simp;omega
 let S0:Sig:=⟨fun k=>if k<n0 then Γ.S k else match live[k-n0]? with | some l=>Γ.S l | none=>none,Γ.S.ext⟩
 have hlow:∀ i,i<n0→lk (objs++live.map (z1g st.objs)) i=lk objs i:=by
  intro i hi
  unfold lk
  rw [List.getD_eq_getElem?_getD,List.getD_eq_getElem?_getD,List.getElem?_append_left (by omega)]
 have hhigh:∀ i,n0≤i→lk (objs++live.map (z1g st.objs)) i=match live[i-n0]? with | some l=>z1g st.objs l | none=>none:=by
  intro i hi
  conv=>lhs;unfold lk
  rw [List.getD_eq_getElem?_getD,List.getElem?_append_right (by omega),hlen,List.getElem?_map]
  cases live[i-n0]? <;> rfl
 have hlow2:∀ i,i<n0→(∃ cs cs',lk Γ.objs i=some (.cells cs)∧lk (objs++live.map (z1g st.objs)) i=some (.cells cs')∧z4b n0 live cs=some cs')∨(lk (objs++live.map (z1g st.objs)) i=lk Γ.objs i∧∀ cs,lk Γ.objs i≠some (.cells cs)):=by
  intro i hi
  have:=l2 i
  rw [v3u,if_pos hi,← hΓ] at this
  rw [hlow i hi]
  exact this
 have hS0low:∀ i,i<n0→S0 i=Γ.S i:=fun i hi=>by simp only [S0,if_pos hi]
 have hS0high:∀ i l,n0≤i→live[i-n0]?=some l→S0 i=Γ.S l:=fun i l hi hl=>by simp only [S0,if_neg (Nat.not_lt.2 hi),hl]
 have from':∀ i o,lk (objs++live.map (z1g st.objs)) i=some o→∃ l,S0 i=Γ.S l∧((i<n0∧l=i)∨(n0≤i∧live[i-n0]?=some l∧∀ cs,o≠.cells cs))∧(lk Γ.objs l=some o∨∃ cs cs',o=.cells cs'∧lk Γ.objs l=some (.cells cs)∧z4b n0 live cs=some cs'):=by
  intro i o ho
  rcases Nat.lt_or_ge i n0 with hi | hi
  · refine ⟨i,hS0low i hi,.inl ⟨hi,rfl⟩,?_⟩
    rcases hlow2 i hi with ⟨cs,cs',e1,e2,e3⟩ | ⟨e1,_⟩
    · rw [e2] at ho;cases ho
      exact .inr ⟨cs,cs',rfl,e1,e3⟩
    · exact .inl (e1 ▸ ho)
  · rw [hhigh i hi] at ho
    cases hl:live[i-n0]? with
    | none=>rw [hl] at ho;cases ho
    | some l =>
     rw [hl] at ho
     have:=q6e ho
     exact ⟨l,hS0high i l hi hl,.inr ⟨hi,rfl,this.2⟩,.inl (hΓ ▸ this.1)⟩
 have hmine:∀ b,(Ctx.mk S0 (objs++live.map (z1g st.objs)) Γ.w).mine b→Γ.mine b:=by
  rintro b ⟨i,o,a1,a2,a3⟩
  obtain ⟨l,e1,_,e2⟩:=from' i o a1
  simp only at a3
  rw [e1] at a3
  rcases e2 with e2 | ⟨cs,cs',rfl,e2,_⟩
  · exact ⟨l,o,e2,a2,a3⟩
  · exact ⟨l,_,e2,rfl,a3⟩
 have hown:∀ b,(Ctx.mk S0 (objs++live.map (z1g st.objs)) Γ.w).own b→Γ.own b:=Ctx.own_of' rfl hmine
 have hd:∀ v d,RepD Γ.w Γ.own v d→RepD Γ.w (Ctx.mk S0 (objs++live.map (z1g st.objs)) Γ.w).own v d:=fun v d hv=>hv.same hown
 have hnc:∀ i o,i<n0→lk Γ.objs i=some o→(∀ cs,o≠.cells cs)→lk (objs++live.map (z1g st.objs)) i=lk Γ.objs i:=by
  intro i o hi ho hno
  rcases hlow2 i hi with ⟨cs,cs',e1,_,_⟩ | ⟨e1,_⟩
  · rw [e1] at ho;cases ho;exact absurd rfl (hno cs)
  · exact e1
 have hvec:∀ v l len,l<n0→RepA D Γ v (.vec l len)→RepA D (Ctx.mk S0 (objs++live.map (z1g st.objs)) Γ.w) v (.vec l len):=by
  intro v l len hl hv
  refine RepA.vec_same (Γ:=Γ) (Γ':=Ctx.mk S0 (objs++live.map (z1g st.objs)) Γ.w) hd ?_ (hS0low l hl) (fun _ _ _ _ _=>rfl) hv
  cases hv with
  | vnil _ _ h1=>exact hnc l _ hl h1 (by simp)
  | vec _ _ _ _ _ _ _ _ h1=>exact hnc l _ hl h1 (by simp)
  | fvec _ _ _ h1=>exact hnc l _ hl h1 (by simp)
  | gone _ _ h1=>exact hnc l _ hl h1 (by simp)
 have hvptr:∀ v l i off,l<n0→RepA D Γ v (.vptr l i off)→RepA D (Ctx.mk S0 (objs++live.map (z1g st.objs)) Γ.w) v (.vptr l i off):=by
  intro v l i off hl hv
  refine RepA.vptr_same (Γ:=Γ) (Γ':=Ctx.mk S0 (objs++live.map (z1g st.objs)) Γ.w) (fun a d _ _ ⟨u,h3,h4⟩=>⟨u,h3,hd u d h4⟩) (Nat.le_refl _) (fun b _ hno hb=>hno (hown b hb)) ?_ (hS0low l hl) hv
  cases hv with
  | vptr _ _ _ _ _ _ _ h1=>exact hnc l _ hl h1 (by simp)
  | fptr _ _ _ _ _ _ h1=>exact hnc l _ hl h1 (by simp)
  | pgone _ _ _ h1=>exact hnc l _ hl h1 (by simp)
 have hptr:∀ l cs,l<n0→lk Γ.objs l=some (.cells cs)→∃ cs',lk (objs++live.map (z1g st.objs)) l=some (.cells cs')∧S0 l=Γ.S l:=by
  intro l cs hl h1
  rcases hlow2 l hl with ⟨cs1,cs',e1,e2,_⟩ | ⟨_,e2⟩
  · exact ⟨cs',e2,hS0low l hl⟩
  · exact absurd h1 (e2 cs)
 have hfn:∀ (u:Value) (f:Nat) (cap:List AV),RepA D Γ u (.fn f cap)→(∀ a∈cap,AV.low n0 a=true)→RepA D (Ctx.mk S0 (objs++live.map (z1g st.objs)) Γ.w) u (.fn f cap):=by
  intro u f cap hv hal
  cases hv with
  | fn _ vs _ hvl h =>
   refine .fn f vs _ hvl fun i v a h1 h2=>?_
   have h3:=h i v a h1 h2
   have h4:=hal a (List.mem_of_getElem? h2)
   cases a with
   | ptr l off =>
    have hl:l<n0:=by simpa [AV.low] using h4
    cases h3 with
    | ptr _ _ b cs g1 g2 =>
     obtain ⟨cs',e1,e2⟩:=hptr l cs hl g1
     exact .ptr l off b cs' e1 (e2.trans g2)
   | _=>simp [AV.low] at h4
 have hkv:∀ u l len v',RepA D Γ u (.vec l len)→y7d n0 live (.vec l len)=some v'→RepA D (Ctx.mk S0 (objs++live.map (z1g st.objs)) Γ.w) u v':=by
  intro u l len v' hv hk
  simp only [y7d] at hk
  split at hk
  · rename_i hl
    cases hk
    exact hvec u l len hl hv
  · rename_i hl
    cases hx:live.idxOf? l with
    | none=>rw [hx] at hk;cases hk
    | some k =>
     rw [hx] at hk
     cases hk
     have hlk':live[k]?=some l:=by
      obtain ⟨hk1,hk2,_⟩:=List.idxOf?_eq_some_iff.1 hx
      rw [List.getElem?_eq_getElem hk1]
      exact congrArg some hk2
     have ho:∀ q,lk Γ.objs l=some q→(∀ cs,q≠.cells cs)→lk (objs++live.map (z1g st.objs)) (n0+k)=some q:=by
      intro q hq hno
      rw [hhigh _ (by omega),Nat.add_sub_cancel_left,hlk']
      exact v2j (hΓ ▸ hq) hno
     have hs0:S0 (n0+k)=Γ.S l:=hS0high _ l (by omega) (by rw [Nat.add_sub_cancel_left];exact hlk')
     cases hv with
     | vnil _ t h1 h2=>exact .vnil _ t (ho _ h1 (by simp)) (hs0.trans h2)
     | vec _ _ cap b t ti xs arr h1 h2 h3 h4 h5 h6 h7=>exact .vec _ len cap b t ti xs arr (ho _ h1 (by simp)) h2 (hs0.trans h3) h4 h5 h6 h7
     | fvec _ _ xs h1 h2 h3=>exact .fvec _ len xs (ho _ h1 (by simp)) (hd _ _ h2) h3
     | gone _ _ h1=>exact .gone _ len (ho _ h1 (by simp))
 have hk1:∀ u v v',RepA D Γ u v→j2w n0 live v=some v'→RepA D (Ctx.mk S0 (objs++live.map (z1g st.objs)) Γ.w) u v':=by
  intro u v v' hv hk
  cases v with
  | vec l len=>exact hkv u l len v' hv hk
  | c d=>cases hk;cases hv with | c h=>exact .c (hd _ _ h)
  | nils=>cases hk;cases hv;exact .nils
  | _=>cases hk
 have hkeep:∀ u v v',RepA D Γ u v→y7d n0 live v=some v'→RepA D (Ctx.mk S0 (objs++live.map (z1g st.objs)) Γ.w) u v':=by
  intro u v v' hv hk
  cases v with
  | c d=>cases hk;cases hv with | c h=>exact .c (hd _ _ h)
  | agg cs=>cases hk;cases hv with | agg vs _ hl h=>exact .agg vs cs hl fun j u d a b=>hd _ _ (h j u d a b)
  | nils=>cases hk;cases hv;exact .nils
  | undef=>cases hk;exact .undef u
  | eptr cs =>
   cases hk
   cases hv with
   | eptr a _ hs ho hc=>exact .eptr a cs hs (fun h=>ho (hown _ h)) fun j d hj=>by obtain ⟨x,e1,e2⟩:=hc j d hj;exact ⟨x,e1,hd _ _ e2⟩
  | ptr l off =>
   simp only [y7d] at hk
   split at hk
   · rename_i hl
     cases hk
     cases hv with
     | ptr _ _ b cs h1 h2 =>
      obtain ⟨cs',e1,e2⟩:=hptr l cs hl h1
      exact .ptr l off b cs' e1 (e2.trans h2)
   · cases hk
  | mv f ds =>
   cases hk
   exact y4g (Γ:=Γ) (Γ':=Ctx.mk S0 (objs++live.map (z1g st.objs)) Γ.w) rfl hown hv.mv_data hv
  | fn f cap =>
   simp only [y7d] at hk
   cases hal:cap.all (AV.low n0) with
   | false=>rw [hal] at hk;cases hk
   | true =>
    rw [hal] at hk
    cases hk
    exact hfn u f cap hv (by simpa using hal)
  | frow vs =>
   simp only [y7d] at hk
   cases hal:vs.all (AV.flow n0) with
   | false=>rw [hal] at hk;cases hk
   | true =>
    rw [hal] at hk
    cases hk
    simp only [List.all_eq_true] at hal
    cases hv with
    | frow a n cap _ hs ho hl us hu hc hr =>
     refine .frow a n cap vs hs (fun h=>ho (hown _ h)) hl us hu hc fun j u v h1 h2=>?_
     have h3:=hr j u v h1 h2
     have h4:=hal v (List.mem_of_getElem? h2)
     cases v with
     | fn f cp=>exact hfn u f cp h3 (by simpa [AV.flow] using h4)
     | _=>simp [AV.flow] at h4
  | vec l len=>exact hkv u l len v' hv hk
  | agv vs =>
   simp only [y7d] at hk
   cases h1:x0b n0 live vs with
   | none=>rw [h1] at hk;cases hk
   | some vs' =>
    rw [h1] at hk
    cases hk
    obtain ⟨k1,k2⟩:=k3l h1
    cases hv with
    | agv us _ hl ho h =>
     refine .agv us vs' (by omega) ho fun j u a hu ha=>?_
     obtain ⟨v,e1,e2⟩:=k2 j a ha
     exact hk1 u v a (h j u v hu e1) e2
  | _=>cases hk
 have htr:TrB D n0 Γ (Ctx.mk S0 (objs++live.map (z1g st.objs)) Γ.w):=⟨Kept.refl _ _,rfl,fun b hb=>.inl (hmine b hb),hptr,hvec,hvptr⟩
 refine ⟨⟨S0,objs++live.map (z1g st.objs),Γ.w⟩,rfl,rfl,⟨fun i o ho=>?_,fun i i' o o' b h1 h2 v1 v2 s1 s2=>?_,fun b hb=>hG.own b (hown b hb),fun b hb=>⟨(hG.ext b hb).1,fun hm=>(hG.ext b hb).2 (hmine b hm)⟩,hG.size,hG.gd⟩,hkeep,htr,by simp;omega,rfl⟩
 · obtain ⟨l,e1,e3,e2⟩:=from' i o ho
   rcases e2 with e2 | ⟨cs,cs',rfl,e2,e4⟩
   · have hob:=hG.ob l o e2
     cases o with
     | cells cs =>
      obtain ⟨b,arr,ty,g1,g2,g3,g4⟩:=hob
      rcases e3 with ⟨hi,rfl⟩ | ⟨hi,hl,hno⟩
      · rcases hlow2 l hi with ⟨cs1,cs',f1,f2,f3⟩ | ⟨_,f2⟩
        · simp only at ho
          rw [f2] at ho;cases ho
          rw [e2] at f1;cases f1
          obtain ⟨m1,m2⟩:=y4h f3
          refine ⟨b,arr,ty,e1.trans g1,g2,by omega,fun j v u hv hu=>?_⟩
          obtain ⟨v0,n1,n2⟩:=m2 j v hv
          exact hkeep u v0 v (g4 j v0 u n1 hu) n2
        · exact absurd e2 (f2 cs)
      · exact absurd rfl (hno cs)
     | vec t xs =>
      obtain ⟨ti,g0,g1,⟨g2,g3⟩ | ⟨b,arr,cap,g2,g3,g4,g5,g6⟩⟩:=hob
      · exact ⟨ti,g0,g1,.inl ⟨e1.trans g2,g3⟩⟩
      · exact ⟨ti,g0,g1,.inr ⟨b,arr,cap,e1.trans g2,g3,g4,g5,fun i x j d u a1 a2 a3=>hd _ _ (g6 i x j d u a1 a2 a3)⟩⟩
     | fro xs=>trivial
     | dead=>trivial
   · obtain ⟨b,arr,ty,g1,g2,g3,g4⟩:=hG.ob l _ e2
     obtain ⟨m1,m2⟩:=y4h e4
     refine ⟨b,arr,ty,e1.trans g1,g2,by omega,fun j v u hv hu=>?_⟩
     obtain ⟨v0,n1,n2⟩:=m2 j v hv
     exact hkeep u v0 v (g4 j v0 u n1 hu) n2
 · obtain ⟨l,e1,e3,e2⟩:=from' i o h1
   obtain ⟨l',e1',e3',e2'⟩:=from' i' o' h2
   simp only at s1 s2
   rw [e1] at s1
   rw [e1'] at s2
   have live1:∃ q,lk Γ.objs l=some q∧q.live=true:=by
    rcases e2 with e2 | ⟨cs,cs',rfl,e2,_⟩
    · exact ⟨o,e2,v1⟩
    · exact ⟨_,e2,rfl⟩
   have live2:∃ q,lk Γ.objs l'=some q∧q.live=true:=by
    rcases e2' with e2 | ⟨cs,cs',rfl,e2,_⟩
    · exact ⟨o',e2,v2⟩
    · exact ⟨_,e2,rfl⟩
   obtain ⟨q,f1,f2⟩:=live1
   obtain ⟨q',f1',f2'⟩:=live2
   have hll:l=l':=hG.inj l l' q q' b f1 f1' f2 f2' s1 s2
   subst hll
   rcases e3 with ⟨hi,rfl⟩ | ⟨hi,hl,_⟩
   · rcases e3' with ⟨hi',rfl⟩ | ⟨hi',hl',_⟩
     · rfl
     · have:=hge l (List.mem_of_getElem? hl');omega
   · rcases e3' with ⟨hi',rfl⟩ | ⟨hi',hl',_⟩
     · have:=hge l (List.mem_of_getElem? hl);omega
     · have h3:=(List.getElem?_eq_some_iff.1 hl)
       have h4:=(List.getElem?_eq_some_iff.1 hl')
       obtain ⟨p1,p2⟩:=h3
       obtain ⟨p3,p4⟩:=h4
       have:=(List.getElem_inj (i:=i-n0) (j:=i'-n0) (h₀:=p1) (h₁:=p3) hnd).1 (p2.trans p4.symm)
       omega
theorem q1v {a:Act} {keep:List Nat} {n0:Nat} {st st0:St} {Γ:Ctx} (h:norm keep n0 st=some st0) (hn:n0≤st.objs.length) (hΓ:Γ.objs=st.objs) (hG:Good D B0 Gd Γ) (hS:Slots D Γ st.slots a) :
    ∃ Γ0,Γ0.objs=st0.objs∧Γ0.w=Γ.w∧Good D B0 Gd Γ0∧Slots D Γ0 st0.slots a∧TrB D n0 Γ Γ0∧n0≤st0.objs.length:=by
 unfold norm at h
 simp only at h
 generalize hlive:z4h n0 (z4h n0 [] (z8i keep 0 st.slots)) (cellsOf (st.objs.take n0))=live at h
 obtain ⟨hnd,hge⟩:live.Nodup∧∀ l∈live,n0≤l:=by
  obtain ⟨a1,a2⟩:=k3n n0 (z8i keep 0 st.slots) [] (by simp) (by simp)
  rw [← hlive]
  exact k3n n0 _ _ a1 a2
 cases h1:z4b n0 live (z8i keep 0 st.slots) with
 | none=>rw [h1] at h;cases h
 | some slots =>
 cases h2:U8 n0 live (st.objs.take n0) with
 | none=>rw [h1,h2] at h;cases h
 | some objs =>
 rw [h1,h2] at h
 cases h
 obtain ⟨k1,k2⟩:=y4h h1
 obtain ⟨Γ0,g1,g2,g3,hkeep,g5,g6,_⟩:=k6w hnd hge h2 hn hΓ hG
 refine ⟨Γ0,g1,g2,g3,⟨?_,fun i v u hv hu=>?_⟩,g5,g6⟩
 · obtain ⟨m1,_⟩:=x1s keep st.slots 0
   rw [hS.size,← m1,← k1]
 · obtain ⟨v0,n1,n2⟩:=k2 i v hv
   obtain ⟨_,m2⟩:=x1s keep st.slots 0
   rcases m2 i v0 n1 with rfl | hv0
   · cases n2;exact .undef u
   · exact hkeep u v0 v (hS.slot i v0 u hv0 hu) n2
end Gev
namespace Gev
open Go
variable {P:Program} {D:Tab} {B0:Nat} {Gd:World→Prop}
theorem x1y:∀ {objs objs':Objs},z4i objs objs'=true→objs.length≤objs'.length
 | [],_,_=>by simp
 | none::os,[],h=>by simp [z4i] at h
 | none::os,none::os',h=>by have:=x1y (objs:=os) (objs':=os') h;simpa using this
 | none::os,some _::os',h=>by simp [z4i] at h
 | some _::os,[],h=>by simp [z4i] at h
 | some _::os,x::os',h=>by have:=x1y (objs:=os) (objs':=os') (by cases x <;> exact h);simpa using this
theorem j6f {C:Sem3} {ops:List Oper}:∀ (rest:List Oper) (fr:Nat) (st st':St) (gs:List Log) (os os':List Orc) (ps:List Prop),k1t D C ops rest fr st os=some ((st',gs),os',ps)→st.objs.length≤st'.objs.length
 | [],fr,st,st',gs,os,os',ps,h=>by cases A5 h;exact Nat.le_refl _
 | o::rest,fr,st,st',gs,os,os',ps,h=>by
  simp only [k1t] at h
  obtain ⟨x,os1,p1,b1,os2,q1,h1,h2,e⟩:=bind_some h
  cases e
  obtain ⟨st1,g⟩:=x
  obtain ⟨y,os3,p3,b3,os4,q3,h3,h4,e⟩:=bind_some h2
  cases e
  obtain ⟨st2,gs'⟩:=y
  cases A5 h4
  have h5:=j6f rest _ st1 _ gs' _ _ _ h3
  refine Nat.le_trans ?_ h5
  obtain ⟨v,⟨r,u,_,_,rfl,_⟩ | ⟨objs',_,k,rfl,_⟩⟩:=x0v h1
  · simp only;rw [y8k];exact Nat.le_refl _
  · exact x1y k
theorem k0c {C:Sem3} {ops:Array Oper} {draw:Bool} {st st':St} {os os':List Orc} {ps:List Prop} (h:x0t D C ops draw st os=some (st',os',ps)):st.objs.length≤st'.objs.length:=by
 unfold x0t at h
 obtain ⟨x,os1,p1,b1,os2,q1,h1,h2,e⟩:=bind_some h
 cases e
 obtain ⟨fin,gs⟩:=x
 obtain ⟨_,os3,p3,b3,os4,q3,h3,h4,e⟩:=bind_some h2
 cases e
 cases A5 h4
 have:=j6f _ _ _ _ _ _ _ _ h1
 simp at this
 omega
theorem x0q {C:Sem3}:∀ (c:Code) (st:St) (os:List Orc) (o:Out) (st':St) (os':List Orc) (ps:List Prop),path D C c st os=some ((o,st'),os',ps)→st.objs.length≤st'.objs.length
 | .skip,st,os,o,st',os',ps,h=>by cases A5 h;exact Nat.le_refl _
 | .region id ops draw,st,os,o,st',os',ps,h=>by
  obtain ⟨st1,os1,p1,b1,os2,q1,h1,h2,e⟩:=bind_some h
  cases e
  cases A5 h2
  exact k0c h1
 | .seq x y,st,os,o,st',os',ps,h=>by
  obtain ⟨x1,os1,p1,b1,os2,q1,h1,h2,e⟩:=bind_some h
  cases e
  obtain ⟨o1,st1⟩:=x1
  have hx:=x0q x st os o1 st1 os1 p1 h1
  cases o1 with
  | norm=>exact Nat.le_trans hx (x0q y st1 os1 o st' _ q1 h2)
  | exit id=>cases A5 h2;exact hx
  | ret=>cases A5 h2;exact hx
 | .cond c x y,st,os,o,st',os',ps,h=>by
  simp only [path] at h
  generalize rho st.slots c=cv at h
  cases cv with
  | c d =>
   cases d with
   | bool t =>
    obtain ⟨t',os1,p1,b1,os2,q1,h1,h2,e⟩:=bind_some h
    cases e
    cases t' with
    | true=>exact x0q x st _ o st' _ q1 h2
    | false=>exact x0q y st _ o st' _ q1 h2
   | _=>cases h
  | _=>cases h
 | .block id b,st,os,o,st',os',ps,h=>by
  obtain ⟨x1,os1,p1,b1,os2,q1,h1,h2,e⟩:=bind_some h
  cases e
  obtain ⟨o1,st1⟩:=x1
  have hx:=x0q b st os o1 st1 os1 p1 h1
  cases o1 with
  | norm=>cases A5 h2;exact hx
  | ret=>cases A5 h2;exact hx
  | exit id' =>
   simp only at h2
   split at h2 <;> (cases A5 h2;exact hx)
 | .loop b,st,os,o,st',os',ps,h=>by
  simp only [path] at h
  unfold askL at h
  cases os with
  | nil=>cases h
  | cons x os1 =>
   cases x with
   | loop keep rows o2 st2 =>
    simp only at h
    cases hv:y9r D rows st with
    | none=>rw [hv] at h;cases h
    | some st1 =>
     rw [hv] at h
     simp only at h
     cases hno:norm keep st.objs.length st1 with
     | none=>rw [hno] at h;cases h
     | some st0 =>
      rw [hno] at h
      simp only at h
      split at h
      · rename_i hle
        cases h
        exact hle
      · cases h
   | _=>cases h
 | .exit id,st,os,o,st',os',ps,h=>by cases A5 h;exact Nat.le_refl _
 | .ret,st,os,o,st',os',ps,h=>by cases A5 h;exact Nat.le_refl _
 | .rangeFunc ..,st,os,o,st',os',ps,h=>by cases h
 | .scope _,st,os,o,st',os',ps,h=>by cases h
 | .goto _,st,os,o,st',os',ps,h=>by cases h
 | .label _,st,os,o,st',os',ps,h=>by cases h
def x4m (D:Tab) (B0:Nat) (Gd:World→Prop) (n:Nat) (Γ:Ctx) (ds:List Deferred) (o:Out) (st':St) (e:Exit) (a':Act) (w':World):Prop :=
 o.fits e∧∃ Γ',Γ'.objs=st'.objs∧Γ'.w=w'∧Good D B0 Gd Γ'∧Slots D Γ' st'.slots a'∧TrB D n Γ Γ'∧a'.defers=ds
theorem x4m.after {n m:Nat} {Γ Γ1:Ctx} {ds:List Deferred} {o:Out} {st':St} {e:Exit} {a':Act} {w':World} (h:TrB D n Γ Γ1) (hm:n≤m) (k:x4m D B0 Gd m Γ1 ds o st' e a' w'):x4m D B0 Gd n Γ ds o st' e a' w':=by
 obtain ⟨k1,Γ',k2,k3,k4,k5,k6,k7⟩:=k
 exact ⟨k1,Γ',k2,k3,k4,k5,h.trans k6 hm,k7⟩
theorem k9x {ro:Option Nat} {m:Nat} {x y:Code} {Q:Exit→Act→World→Prop} {a:Act} {w:World} (h:x.wpIn (Fr ro) m P (fun e a' w'=>e≠.normal∧Q e a' w') a w):(Code.seq x y).wpIn (Fr ro) m P Q a w :=
 wpIn_seq (wpIn_mono h fun e a' w' hq=>by
  cases e with
  | normal=>exact absurd rfl hq.1
  | _=>exact hq.2)
theorem least {p:Nat→Prop} (h:∃ k,p k):∃ m,p m∧∀ j,p j→m≤j:=by
 obtain ⟨k,hk⟩:=h
 induction k using Nat.strongRecOn with
 | _ k ih =>
  by_cases c:∃ j,j<k∧p j
  · obtain ⟨j,h1,h2⟩:=c
    exact ih j h1 h2
  · exact ⟨k,hk,fun j hj=>Nat.le_of_not_lt fun h=>c ⟨j,h,hj⟩⟩
theorem j7a {ro:Option Nat} {m:Nat} {c:Code} {Q:Exit→Act→World→Prop} {a:Act} {w:World} (R:Nat→Act→World→Prop) {k:Nat} (h0:R k a w)
    (round:∀ k a w,R k a w→c.wpIn (Fr ro) m P (Exit.then (fun a' w'=>∃ j,j<k∧R j a' w') Q) a w):(Code.loop c).wpIn (Fr ro) m P Q a w:=by
 classical
 refine wpIn_loop (fun a w=>∃ k,R k a w) (fun a w=>if h:∃ k,R k a w then Classical.choose (least h) else 0) ⟨k,h0⟩ fun a w hI=>?_
 rw [dif_pos hI]
 refine wpIn_mono (round _ a w (Classical.choose_spec (least hI)).1) fun e a' w' hq=>?_
 cases e with
 | normal =>
  obtain ⟨j,hj,hr⟩:=hq
  have h1:∃ k,R k a' w':=⟨j,hr⟩
  refine ⟨h1,?_⟩
  rw [dif_pos h1]
  exact Nat.lt_of_le_of_lt ((Classical.choose_spec (least h1)).2 _ hr) hj
 | _=>exact hq
theorem v1a {n:Nat} {b:Code} {st st':St} {o:Out} {Γ:Ctx} {a:Act} (h:y8w P D B0 Gd n b st o st') (hn:n≤st.objs.length) (hΓ:Γ.objs=st.objs) (hG:Good D B0 Gd Γ) (hS:Slots D Γ st.slots a) (ro:Option Nat) (m:Nat) :
    (Code.loop b).wpIn (Fr ro) m P (x4m D B0 Gd n Γ a.defers o st') a Γ.w:=by
 obtain ⟨k,hk⟩:=h
 refine j7a (R:=fun k a1 w=>∃ st1 Γ1,n≤st1.objs.length∧Γ1.objs=st1.objs∧Γ1.w=w∧Good D B0 Gd Γ1∧Slots D Γ1 st1.slots a1∧TrB D n Γ Γ1∧a1.defers=a.defers∧q9r P D B0 Gd n b o st' k st1)
  ⟨st,Γ,hn,hΓ,rfl,hG,hS,(Tr.refl Γ).toB n,rfl,hk⟩ fun k a1 w hR=>?_
 obtain ⟨st1,Γ1,h1,h2,rfl,h4,h5,h6,h7,h8⟩:=hR
 cases k with
 | zero=>exact h8.elim
 | succ k =>
  refine wpIn_mono (h8 ro m Γ1 a1 h1 h2 h4 h5) fun e a' w' hq=>?_
  rcases hq with ⟨rfl,st2,Γ2,g1,g2,g3,g4,g5,g6,g7,g8⟩ | ⟨hne,hf,Γ',g1,g2,g3,g4,g5,g6⟩
  · exact ⟨k,Nat.lt_succ_self k,st2,Γ2,g1,g2,g3,g4,g5,h6.trans g6 (Nat.le_refl _),g7.trans h7,g8⟩
  · have hb:x4m D B0 Gd n Γ a.defers o st' e a' w':=⟨hf,Γ',g1,g2,g3,g4,h6.trans g5 (Nat.le_refl _),g6.trans h7⟩
    cases e with
    | normal=>exact absurd rfl hne
    | _=>exact hb
section
variable (hT:TabOk P D) (hs:Stable B0 Gd) (hm:P.follows .mixedOrders=true)
include hT hs hm
theorem y4k:∀ (c:Code) (st:St) (os:List Orc) (o:Out) (st':St) (os':List Orc) (ps:List Prop) (Γ:Ctx) (a:Act) (n:Nat) (ro:Option Nat) (m:Nat),path D (sem P D B0 Gd) c st os=some ((o,st'),os',ps)→All ps→Γ.objs=st.objs→Good D B0 Gd Γ→Slots D Γ st.slots a→n≤st.objs.length →
    n≤st'.objs.length∧c.wpIn (Fr ro) m P (x4m D B0 Gd n Γ a.defers o st') a Γ.w
 | .skip,st,os,o,st',os',ps,Γ,a,n,ro,m,h,hp,hΓ,hG,hS,hn=>by
  cases A5 h
  exact ⟨hn,wpIn_skip ⟨rfl,Γ,hΓ,rfl,hG,hS,(Tr.refl Γ).toB n,rfl⟩⟩
 | .region id ops draw,st,os,o,st',os',ps,Γ,a,n,ro,m,h,hp,hΓ,hG,hS,hn=>by
  obtain ⟨st1,os1,p1,b1,os2,q1,h1,h2,e⟩:=bind_some h
  cases e
  cases A5 h2
  have hp1:=(all_append hp).1
  exact ⟨Nat.le_trans hn (k0c h1),q6d hT hs hm h1 hp1 hΓ hG hS fun Γ' a' k1 k2 k3 k4 k5=>⟨rfl,Γ',k1,rfl,k2,k3,k4.toB n,k5⟩⟩
 | .seq x y,st,os,o,st',os',ps,Γ,a,n,ro,m,h,hp,hΓ,hG,hS,hn=>by
  obtain ⟨x1,os1,p1,b1,os2,q1,h1,h2,e⟩:=bind_some h
  cases e
  obtain ⟨o1,st1⟩:=x1
  have hp':=all_append hp
  obtain ⟨hn1,hx⟩:=y4k x st os o1 st1 os1 p1 Γ a n ro m h1 hp'.1 hΓ hG hS hn
  cases o1 with
  | norm =>
   simp only at h2
   have hy:∀ Γ1 a1,Γ1.objs=st1.objs→Good D B0 Gd Γ1→Slots D Γ1 st1.slots a1→n≤st'.objs.length∧y.wpIn (Fr ro) m P (x4m D B0 Gd n Γ1 a1.defers o st') a1 Γ1.w :=
    fun Γ1 a1 k1 k2 k3=>y4k y st1 os1 o st' _ q1 Γ1 a1 n ro m h2 hp'.2 k1 k2 k3 hn1
   refine ⟨?_,?_⟩
   · -- the length of what comes behind
     exact Nat.le_trans hn1 (x0q y st1 os1 o st' _ q1 h2)
   · refine wpIn_seq (wpIn_mono hx fun e a1 w1 hq=>?_)
     obtain ⟨rfl,Γ1,k1,rfl,k2,k3,k4,k5⟩:=hq
     rw [← k5]
     exact wpIn_mono (hy Γ1 a1 k1 k2 k3).2 fun e a' w' hb=>hb.after k4 (Nat.le_refl _)
  | exit id =>
   cases A5 h2
   refine ⟨hn1,k9x (wpIn_mono hx fun e a1 w1 hq=>⟨?_,hq⟩)⟩
   obtain ⟨h3,_⟩:=hq
   have h3:e=.exit id:=h3
   rw [h3];simp
  | ret =>
   cases A5 h2
   refine ⟨hn1,k9x (wpIn_mono hx fun e a1 w1 hq=>⟨?_,hq⟩)⟩
   obtain ⟨h3,_⟩:=hq
   have h3:e=.ret:=h3
   rw [h3];simp
 | .cond c x y,st,os,o,st',os',ps,Γ,a,n,ro,m,h,hp,hΓ,hG,hS,hn=>by
  simp only [path] at h
  have hc:=hS.rho c
  generalize rho st.slots c=cv at h hc
  cases cv with
  | c d =>
   cases d with
   | bool t =>
    obtain ⟨t',os1,p1,b1,os2,q1,h1,h2,e⟩:=bind_some h
    cases e
    cases k8z h1
    have hp':=all_append hp
    cases t with
    | true =>
     obtain ⟨g1,g2⟩:=y4k x st _ o st' _ q1 Γ a n ro m h2 hp'.2 hΓ hG hS hn
     exact ⟨g1,wpIn_cond_true (RepA.bool_inv hc) g2⟩
    | false =>
     obtain ⟨g1,g2⟩:=y4k y st _ o st' _ q1 Γ a n ro m h2 hp'.2 hΓ hG hS hn
     exact ⟨g1,wpIn_cond_false (RepA.bool_inv hc) g2⟩
   | _=>cases h
  | _=>cases h
 | .block id b,st,os,o,st',os',ps,Γ,a,n,ro,m,h,hp,hΓ,hG,hS,hn=>by
  obtain ⟨x1,os1,p1,b1,os2,q1,h1,h2,e⟩:=bind_some h
  cases e
  obtain ⟨o1,st1⟩:=x1
  have hp':=all_append hp
  obtain ⟨hn1,hx⟩:=y4k b st os o1 st1 os1 p1 Γ a n ro m h1 hp'.1 hΓ hG hS hn
  cases o1 with
  | norm =>
   cases A5 h2
   refine ⟨hn1,wpIn_block (wpIn_mono hx fun e a1 w1 hq=>?_)⟩
   have h3:e=.normal:=hq.1
   subst h3
   exact hq
  | ret =>
   cases A5 h2
   refine ⟨hn1,wpIn_block (wpIn_mono hx fun e a1 w1 hq=>?_)⟩
   have h3:e=.ret:=hq.1
   subst h3
   exact hq
  | exit id' =>
   simp only at h2
   by_cases hid:id'=id
   · rw [if_pos hid] at h2
     cases A5 h2
     refine ⟨hn1,wpIn_block (wpIn_mono hx fun e a1 w1 hq=>?_)⟩
     have h3:e=.exit id':=hq.1
     subst h3
     simp only [Exit.inBlock,if_pos hid]
     exact ⟨rfl,hq.2⟩
   · rw [if_neg hid] at h2
     cases A5 h2
     refine ⟨hn1,wpIn_block (wpIn_mono hx fun e a1 w1 hq=>?_)⟩
     have h3:e=.exit id':=hq.1
     subst h3
     simp only [Exit.inBlock,if_neg hid]
     exact hq
 | .loop b,st,os,o,st',os',ps,Γ,a,n,ro,m,h,hp,hΓ,hG,hS,hn=>by
  simp only [path] at h
  unfold askL at h
  cases os with
  | nil=>cases h
  | cons x os1 =>
   cases x with
   | loop keep rows o2 st2 =>
    simp only at h
    cases hv:y9r D rows st with
    | none=>rw [hv] at h;cases h
    | some st1 =>
     rw [hv] at h
     simp only at h
     cases hno:norm keep st.objs.length st1 with
     | none=>rw [hno] at h;cases h
     | some st0 =>
      rw [hno] at h
      simp only at h
      split at h
      · rename_i hle
        cases h
        have hok:y8w P D B0 Gd st.objs.length b st0 o st':=by simpa [All,sem] using hp
        obtain ⟨Γ1,m1,m2,m3,m4,m5,m6⟩:=y6q hs rows st st1 Γ hv hΓ hG hS
        obtain ⟨Γ0,g1,g2,g3,g4,g5,g6⟩:=q1v hno m6 m1 m3 m4
        have:=v1a hok g6 g1 g3 g4 ro m
        rw [g2,m2] at this
        refine ⟨by omega,wpIn_mono this fun e a' w' hq=>?_⟩
        exact x4m.after (D:=D) (B0:=B0) (Gd:=Gd) ((m5.toB n).trans g5 hn) hn hq
      · cases h
   | _=>cases h
 | .exit id,st,os,o,st',os',ps,Γ,a,n,ro,m,h,hp,hΓ,hG,hS,hn=>by
  cases A5 h
  exact ⟨hn,wpIn_exit ⟨rfl,Γ,hΓ,rfl,hG,hS,(Tr.refl Γ).toB n,rfl⟩⟩
 | .ret,st,os,o,st',os',ps,Γ,a,n,ro,m,h,hp,hΓ,hG,hS,hn=>by
  cases A5 h
  exact ⟨hn,wpIn_ret ⟨rfl,Γ,hΓ,rfl,hG,hS,(Tr.refl Γ).toB n,rfl⟩⟩
 | .rangeFunc ..,st,os,o,st',os',ps,Γ,a,n,ro,m,h,hp,hΓ,hG,hS,hn=>by cases h
 | .scope _,st,os,o,st',os',ps,Γ,a,n,ro,m,h,hp,hΓ,hG,hS,hn=>by cases h
 | .goto _,st,os,o,st',os',ps,Γ,a,n,ro,m,h,hp,hΓ,hG,hS,hn=>by cases h
 | .label _,st,os,o,st',os',ps,Γ,a,n,ro,m,h,hp,hΓ,hG,hS,hn=>by cases h
end
end Gev
namespace Gev
open Go
variable {P:Program} {D:Tab} {B0:Nat} {Gd:World→Prop}
def k7j (tmps:Array Value):ResultVar→Sem Value
 | .tmp t=>pure (tmps.getD t undef)
 | .cell x t=>do loadVar t (← asAddr (tmps.getD x undef))
theorem q2g (hT:TabOk P D) {Γ:Ctx} (hG:Good D B0 Gd Γ) {st:St} (hΓ:Γ.objs=st.objs) {a:Act} (hS:Slots D Γ st.slots a) {r:ResultVar} {v:AV} (h:k4s D st r=some v) :
    ∃ vc,(k7j a.tmps r).run P Γ.w=.ok vc Γ.w∧RepA D Γ vc v:=by
 cases r with
 | tmp t =>
  cases h
  exact ⟨_,rfl,hS.rho (.tmp t)⟩
 | cell x t =>
  simp only [k4s] at h
  have hx:=hS.rho (.tmp x)
  simp only [rho] at hx
  generalize st.slots.getD x .undef=xv at h hx
  cases xv with
  | ptr l off =>
   simp only at h
   cases hl:lk st.objs l with
   | none=>rw [hl] at h;cases h
   | some ob =>
    rw [hl] at h
    cases ob with
    | cells cs =>
     simp only at h
     generalize he:a.eval (.tmp x)=vx at hx
     cases hx with
     | ptr _ _ b cs' g1 g2 =>
      rw [hΓ,hl] at g1;cases g1
      obtain ⟨b',arr,ty,k1,k2,k3,k4⟩:=hG.ob l _ (by rw [hΓ];exact hl)
      rw [g2] at k1;cases k1
      have he':a.tmps.getD x undef=.pointer (some ⟨b,off,none⟩):=he
      have fin:(∃ vc,(loadVar t ⟨b,off,none⟩).run P Γ.w=.ok vc Γ.w∧RepA D Γ vc v)→∃ vc,(k7j a.tmps (.cell x t)).run P Γ.w=.ok vc Γ.w∧RepA D Γ vc v:=fun ⟨vc,e1,e2⟩=>by
       refine ⟨vc,?_,e2⟩
       simp only [k7j,he',asAddr]
       rw [Sem.run_bind,Sem.run_pure]
       exact e1
      refine fin ?_
      cases hp:k0a D t cs off with
      | some w=>rw [hp] at h;cases h;exact k6x hT hp k2 k3 k4
      | none =>
       rw [hp] at h
       simp only at h
       cases hn:D.size t with
       | none=>rw [hn] at h;cases h
       | some n =>
        rw [hn] at h
        simp only at h
        split at h
        · rename_i hc
          cases h
          simp only [List.all_eq_true,Bool.and_eq_true] at hc
          exact j9u hT hn hc.1 hc.2.1 (by rw [hΓ];exact hc.2.2) k2 k3 k4
        · cases h
    | _=>cases h
  | _=>cases h
theorem k9m (hT:TabOk P D) {Γ:Ctx} (hG:Good D B0 Gd Γ) {st:St} (hΓ:Γ.objs=st.objs) {a:Act} (hS:Slots D Γ st.slots a):∀ {rs:List ResultVar} {vs:List AV},y1j D st rs=some vs →
    ∃ vcs:List Value,(rs.mapM (k7j a.tmps)).run P Γ.w=.ok vcs Γ.w∧vcs.length=vs.length∧∀ (i:Nat) u v,vcs[i]?=some u→vs[i]?=some v→RepA D Γ u v
 | [],vs,h=>by cases h;exact ⟨[],rfl,rfl,fun i u v h=>by simp at h⟩
 | r::rs,vs,h=>by
  simp only [y1j] at h
  cases h1:k4s D st r with
  | none=>rw [h1] at h;cases h
  | some v =>
   cases h2:y1j D st rs with
   | none=>rw [h1,h2] at h;cases h
   | some vs' =>
    rw [h1,h2] at h
    cases h
    obtain ⟨vc,e1,e2⟩:=q2g hT hG hΓ hS h1
    obtain ⟨vcs,e3,e4,e5⟩:=k9m hT hG hΓ hS h2
    refine ⟨vc::vcs,?_,by simp [e4],fun i u v' hu hv=>?_⟩
    · rw [List.mapM_cons,Sem.run_bind,e1]
      simp only [Result.andThen_ok]
      rw [Sem.run_bind,e3]
      rfl
    · cases i with
      | zero=>simp at hu hv;subst hu;subst hv;exact e2
      | succ i=>exact e5 i u v' (by simpa using hu) (by simpa using hv)
def oneC:List Value→Value
 | [v]=>v
 | vs=>.tuple vs.toArray
theorem q4p {fn:Func} {tmps:Array Value} {w:World} {vcs:List Value} (h:(fn.results.toList.mapM (k7j tmps)).run P w=.ok vcs w) :
    (results fn tmps).run P w=.ok (oneC vcs) w:=by
 have e:results fn tmps=(do let vs ← fn.results.mapM (k7j tmps);pure (if h:vs.size=1 then vs[0] else .tuple vs)):=by
  unfold results
  congr 1
 rw [e,Array.mapM_eq_mapM_toList,Sem.run_bind,Sem.run_map,h]
 simp only [Result.andThen_ok]
 cases vcs with
 | nil=>rfl
 | cons v vs =>
  cases vs with
  | nil=>rfl
  | cons u us =>
   simp [oneC]
theorem q3s {Γ:Ctx} {vcs:List Value} {vs:List AV} (hl:vcs.length=vs.length) (h:∀ (i:Nat) u v,vcs[i]?=some u→vs[i]?=some v→RepA D Γ u v):RepA D Γ (oneC vcs) (one vs):=by
 cases vcs with
 | nil =>
  cases vs with
  | nil=>exact .tup [] [] rfl fun i v a h=>by simp at h
  | cons _ _=>simp at hl
 | cons u us =>
  cases vs with
  | nil=>simp at hl
  | cons v vs =>
   cases us with
   | nil =>
    cases vs with
    | nil=>exact h 0 u v rfl rfl
    | cons _ _=>simp at hl
   | cons u2 us =>
    cases vs with
    | nil=>simp at hl
    | cons v2 vs=>exact .tup _ _ hl h
theorem q7w {Γ:Ctx} {args:List AV} {cargs:Array Value} {n:Nat} (hl:cargs.size=args.length) (h:∀ (i:Nat) v a,cargs[i]?=some v→args[i]?=some a→RepA D Γ v a) :
    Slots D Γ (args++List.replicate (n-args.length) .undef) { tmps:=cargs++Array.replicate (n-cargs.size) undef,defers:=[] }:=by
 refine ⟨by simp [hl],fun i v u hv hu=>?_⟩
 rw [List.getElem?_append] at hv
 simp only at hu
 rw [Array.getElem?_append,hl] at hu
 by_cases c:i<args.length
 · rw [if_pos c] at hv hu
   exact h i u v hu hv
 · rw [if_neg c] at hv
   rw [List.getElem?_replicate] at hv
   split at hv
   · cases hv;exact .undef u
   · cases hv
theorem q6c {nw:Bool} {C:Sem3} {f:Nat} {args:List AV} {objs:Objs} {os os':List Orc} {ps:List Prop} {r:AV × Objs} (h:k3s D C P nw f args objs os=some (r,os',ps)) :
    ∃ fn body o st vs,P.funcs[f]?=some fn∧fn.body=some body∧path D C body ⟨args++List.replicate (fn.ntmps-args.length) .undef,objs⟩ os=some ((o,st),os',ps)∧(o=.norm∨o=.ret)∧y1j D st fn.results.toList=some vs∧q1k nw objs.length st vs=some r:=by
 unfold k3s at h
 cases hf:P.funcs[f]? with
 | none=>rw [hf] at h;cases h
 | some fn =>
  rw [hf] at h
  simp only at h
  cases hb:fn.body with
  | none=>rw [hb] at h;cases h
  | some body =>
   rw [hb] at h
   obtain ⟨x,os1,p1,b1,os2,q1,h1,h2,e⟩:=bind_some h
   cases e
   obtain ⟨o,st⟩:=x
   cases o with
   | exit id=>cases h2
   | norm =>
    simp only at h2
    cases hr:y1j D st fn.results.toList with
    | none=>rw [hr] at h2;cases h2
    | some vs =>
     rw [hr] at h2
     obtain ⟨_,h3,e⟩:=K4 h2
     cases e
     rw [List.append_nil]
     exact ⟨fn,body,_,st,vs,rfl,hb,h1,.inl rfl,hr,h3⟩
   | ret =>
    simp only at h2
    cases hr:y1j D st fn.results.toList with
    | none=>rw [hr] at h2;cases h2
    | some vs =>
     rw [hr] at h2
     obtain ⟨_,h3,e⟩:=K4 h2
     cases e
     rw [List.append_nil]
     exact ⟨fn,body,_,st,vs,rfl,hb,h1,.inr rfl,hr,h3⟩
theorem j9n {n0:Nat} {st:St} {Γ:Ctx} {vs:List AV} {thr:Bool} {r:AV} {objs':Objs} (h:q1k thr n0 st vs=some (r,objs')) (hn:n0≤st.objs.length) (hΓ:Γ.objs=st.objs) (hG:Good D B0 Gd Γ)
    {vcs:List Value} (hl:vcs.length=vs.length) (hr:∀ (i:Nat) u v,vcs[i]?=some u→vs[i]?=some v→RepA D Γ u v) :
    ∃ Γ',Γ'.objs=objs'∧Γ'.w=Γ.w∧Good D B0 Gd Γ'∧RepA D Γ' (oneC vcs) r∧TrB D n0 Γ Γ'∧Γ'.S.ext=Γ.S.ext:=by
 have data:(match Z4 (lk st.objs) vs with
     | some (ds,u,_)=>match U8 n0 (z4h n0 [] (cellsOf ((C3 st.objs u).take n0))) ((C3 st.objs u).take n0) with
      | some objs=>some (one ds,objs++(z4h n0 [] (cellsOf ((C3 st.objs u).take n0))).map (z1g (C3 st.objs u)))
      | none=>none
     | none=>none)=some (r,objs')→∃ Γ',Γ'.objs=objs'∧Γ'.w=Γ.w∧Good D B0 Gd Γ'∧RepA D Γ' (oneC vcs) r∧TrB D n0 Γ Γ'∧Γ'.S.ext=Γ.S.ext:=by
  intro h
  cases hd:Z4 (lk st.objs) vs with
  | none=>rw [hd] at h;cases h
  | some x =>
   obtain ⟨ds,u,rr⟩:=x
   rw [hd] at h
   simp only at h
   obtain ⟨lv1,lv2⟩:=k3n n0 (cellsOf ((C3 st.objs u).take n0)) [] List.nodup_nil (fun _ h=>by cases h)
   generalize z4h n0 [] (cellsOf ((C3 st.objs u).take n0))=live at h lv1 lv2
   cases hk:U8 n0 live ((C3 st.objs u).take n0) with
   | none=>rw [hk] at h;cases h
   | some objs =>
    rw [hk] at h
    cases h
    obtain ⟨k1,k2,k3⟩:=y2o hd
    obtain ⟨m1,m2⟩:=z9f u hG (hΓ ▸ k1)
    obtain ⟨Γ0,g1,g2,g3,g4,g5,g6,g7⟩:=k6w (n0:=n0) (st:=⟨st.slots,C3 st.objs u⟩) (Γ:=⟨Γ.S,C3 Γ.objs u,Γ.w⟩) (live:=live) lv1 lv2 hk (by simp only;rw [j6h];exact hn) (by simp only [hΓ]) m1
    refine ⟨Γ0,g1,g2,g3,q3s (by rw [hl,k2]) fun i cv v hu hv=>?_,(m2.toB n0).trans g5 (Nat.le_refl _),g7⟩
    have hi:i<vs.length:=by rw [← k2];exact (List.getElem?_eq_some_iff.1 hv).1
    obtain ⟨u',r',e1,e2⟩:=k3 i _ v (List.getElem?_eq_getElem hi) hv
    have hd1:=x2o (Γ:=Γ) (Γ':=⟨Γ.S,C3 Γ.objs u,Γ.w⟩) m2 (hΓ ▸ e1) (fun p hp=>k0y (hΓ ▸ k1) (e2 p hp)) (hr i cv _ hu (List.getElem?_eq_getElem hi))
    refine y4g (Γ:=⟨Γ.S,C3 Γ.objs u,Γ.w⟩) (Γ':=Γ0) g2 (fun b hb=>?_) (k9v (fun f es e=>by have:=hr i cv _ hu (List.getElem?_eq_getElem hi);rw [e] at this;rw [e];exact this.mv_data) e1) hd1
    rcases hb with hb | hb
    · exact .inl (g7 ▸ hb)
    · rcases g5.mine b hb with h4 | h4
      · exact .inr h4
      · -- nothing has been made
        obtain ⟨l,o,b1,b2,b3⟩:=hb
        have:=z8n g3 b (.inr ⟨l,o,b1,b2,b3⟩)
        rw [g2] at this
        simp only at this h4
        omega
 unfold q1k at h
 cases hc:thr && (x2q vs).any isVec with
 | false=>rw [hc] at h;exact data h
 | true =>
  rw [hc] at h
  simp only [cond_true] at h
  obtain ⟨lv1,lv2⟩:=k3n n0 (x2q vs) [] List.nodup_nil (fun _ h=>by cases h)
  generalize z4h n0 [] (x2q vs)=live at h lv1 lv2
  cases h1:z4b n0 live vs with
  | none=>rw [h1] at h;cases h
  | some vs' =>
   cases h2:U8 n0 live (st.objs.take n0) with
   | none=>rw [h1,h2] at h;cases h
   | some objs =>
    rw [h1,h2] at h
    cases h
    obtain ⟨Γ0,g1,g2,g3,g4,g5,g6,g7⟩:=k6w (n0:=n0) (st:=st) (Γ:=Γ) (live:=live) lv1 lv2 h2 hn hΓ hG
    obtain ⟨k1,k2⟩:=y4h h1
    refine ⟨Γ0,g1,g2,g3,q3s (by rw [hl,k1]) fun i cv v hu hv=>?_,g5,g7⟩
    obtain ⟨v0,e1,e2⟩:=k2 i v hv
    exact g4 cv v0 v (hr i cv v0 hu e1) e2
theorem TrB.full {n:Nat} {Γ Γ':Ctx} (h:TrB D n Γ Γ') (hn:Γ.objs.length≤n):Tr D Γ Γ':=by
 have hlt:∀ l o,lk Γ.objs l=some o→l<n:=fun l o ho=>Nat.lt_of_lt_of_le (z3d ho) hn
 refine ⟨h.kept,h.ext,h.mine,fun l cs hl=>h.ptr l cs (hlt l _ hl) hl,fun v l len hv=>h.vec v l len ?_ hv,fun v l i off hv=>h.vptr v l i off ?_ hv⟩
 · cases hv with
   | vnil _ _ h1=>exact hlt _ _ h1
   | vec _ _ _ _ _ _ _ _ h1=>exact hlt _ _ h1
   | fvec _ _ _ h1=>exact hlt _ _ h1
   | gone _ _ h1=>exact hlt _ _ h1
 · cases hv with
   | vptr _ _ _ _ _ _ _ h1=>exact hlt _ _ h1
   | fptr _ _ _ _ _ _ h1=>exact hlt _ _ h1
   | pgone _ _ _ h1=>exact hlt _ _ h1
section
variable (hT:TabOk P D) (hs:Stable B0 Gd) (hm:P.follows .mixedOrders=true)
include hT hs hm
theorem q0d {nw:Bool} {f:Nat} {args:List AV} {objs objs':Objs} {os os':List Orc} {ps:List Prop} {r:AV} (h:k3s D (sem P D B0 Gd) P nw f args objs os=some ((r,objs'),os',ps)) (hp:All ps)
    {Γ:Ctx} {cargs:Array Value} (hΓ:Γ.objs=objs) (hG:Good D B0 Gd Γ) (hl:cargs.size=args.length) (ha:∀ (i:Nat) v a,cargs[i]?=some v→args[i]?=some a→RepA D Γ v a) :
    Calls P f cargs Γ.w fun e w'=>∃ v Γ',e=.returned v∧Γ'.objs=objs'∧Γ'.w=w'∧Good D B0 Gd Γ'∧Tr D Γ Γ'∧RepA D Γ' v r:=by
 obtain ⟨fn,body,o,st,vs,h1,h2,h3,h4,h5,h6⟩:=q6c h
 refine calls_of_wp h1 h2 (wpIn_wide (n:=0).1 ?_)
 obtain ⟨hn,hwp⟩:=y4k hT hs hm body _ os o st os' ps Γ _ objs.length none 0 h3 hp (by simp only;exact hΓ) hG (q7w (n:=fn.ntmps) hl ha) (by simp)
 refine wpIn_mono hwp fun e a' w' hb=>?_
 obtain ⟨hf,Γ1,k1,rfl,k2,k3,k4,k5⟩:=hb
 obtain ⟨vcs,e1,e2,e3⟩:=k9m hT k2 k1 k3 h5
 obtain ⟨Γ',g1,g2,g3,g4,g5,g6⟩:=j9n h6 hn k1 k2 e2 e3
 have hR:a'.defers=[]∧∃ v,(results fn a'.tmps).run P Γ1.w=.ok v Γ1.w∧∃ v' Γ'',Ending.returned v=.returned v'∧Γ''.objs=objs'∧Γ''.w=Γ1.w∧Good D B0 Gd Γ''∧Tr D Γ Γ''∧RepA D Γ'' v' r :=
  ⟨k5,_,q4p e1,_,Γ',rfl,g1,g2,g3,(k4.trans g5 (Nat.le_refl _)).full (by rw [hΓ];exact Nat.le_refl _),g4⟩
 rcases h4 with rfl | rfl
 · have he:e=.normal:=hf
   subst he
   exact hR
 · have he:e=.ret:=hf
   subst he
   exact hR
theorem run_mk {nw:Bool} {f:Nat} {args:List AV} {objs objs':Objs} {r:AV} (os:List Orc) {ps:List Prop} (he:∀ cargs w,(callFunc f cargs).run P w=.ok (.enter f cargs) w) (hp:All ps) (h:k3s D (sem P D B0 Gd) P nw f args objs os=some ((r,objs'),[],ps)):RunOk P D B0 Gd f args objs r objs' :=
 ⟨he,fun _ _ hΓ hG hl ha=>q0d hT hs hm h hp hΓ hG hl ha⟩
theorem fn_mk {nw:Bool} {f:Nat} {args:List AV} {objs':Objs} {r:AV} (os:List Orc) {ps:List Prop} (he:∀ cargs w,(callFunc f cargs).run P w=.ok (.enter f cargs) w) (hr:r.Data) (hp:All ps) (h:k3s D (sem P D B0 Gd) P nw f args [] os=some ((r,objs'),[],ps)):FnOk P D B0 Gd f args r:=by
 refine ⟨he,hr,fun w ext cargs hgd hB hx hl ha=>?_⟩
 have hG:Good D B0 Gd ⟨⟨fun _=>none,ext⟩,[],w⟩ :=
  ⟨fun l o h=>by simp [lk] at h,fun l l' o o' b h=>by simp [lk] at h,fun b hb=>(hx b (x6m.1 hb)).1,fun b hb=>⟨(hx b hb).2,x7r⟩,hB,hgd⟩
 refine Calls.mono (q0d hT hs hm h hp (Γ:=⟨⟨fun _=>none,ext⟩,[],w⟩) rfl hG hl ha) ?_
 rintro e w' ⟨v,Γ',rfl,k1,rfl,k2,k3,k4⟩
 refine ⟨v,rfl,k2.gd,k3.kept.mono fun b hb=>x7r hb,y4g (Γ:=Γ') (Γ':=⟨⟨fun _=>none,ext⟩,[],Γ'.w⟩) rfl (fun b hb=>?_) hr k4⟩
 have hb':=x6m.1 hb
 exact .inl (by rw [k3.ext];exact hb')
theorem RunOk.toFn {f:Nat} {args:List AV} {n t:Nat} {xs:List (List DV)} (h:RunOk P D B0 Gd f args [] (.vec 0 n) [some (.vec t xs)]):FnOk P D B0 Gd f args (.c (.list (xs.take n))):=by
 have:=hT
 have:=hs
 have:=hm
 refine ⟨h.enters,.c _,fun w ext cargs hgd hB hx hl ha=>?_⟩
 have hG:Good D B0 Gd ⟨⟨fun _=>none,ext⟩,[],w⟩ :=
  ⟨fun l o h=>by simp [lk] at h,fun l l' o o' b h=>by simp [lk] at h,fun b hb=>(hx b (x6m.1 hb)).1,fun b hb=>⟨(hx b hb).2,x7r⟩,hB,hgd⟩
 refine Calls.mono (h.calls ⟨⟨fun _=>none,ext⟩,[],w⟩ cargs rfl hG hl ha) ?_
 rintro e w' ⟨v,Γ',rfl,k1,rfl,k2,k3,k4⟩
 obtain ⟨Γ2,g1,g2,g3,g4,g5,g6⟩:=j9n (thr:=false) (n0:=0) (st:=⟨[],[some (.vec t xs)]⟩) (vs:=[.vec 0 n]) (r:=.c (.list (xs.take n))) (objs':=[]) rfl (Nat.zero_le _) k1 k2 (vcs:=[v]) rfl (fun i u x hu hx=>by
  cases i with
  | zero=>simp at hu hx;subst hu;subst hx;exact k4
  | succ i=>simp at hu)
 refine ⟨v,rfl,k2.gd,k3.kept.mono fun b hb=>x7r hb,y4g (Γ:=Γ2) (Γ':=⟨⟨fun _=>none,ext⟩,[],Γ'.w⟩) g2.symm (fun b hb=>?_) (.c _) g4⟩
 have hb':=x6m.1 hb
 exact .inl (by rw [g6,k3.ext];exact hb')
theorem q8p {n:Nat} {b:Code} {st st1 st2 st':St} {o:Out} (os:List Orc) (keep:List Nat) {ps:List Prop} (hp:All ps) (h:path D (sem P D B0 Gd) b st os=some ((.norm,st1),[],ps)) (hno:norm keep n st1=some st2) (hr:y8w P D B0 Gd n b st2 o st'):y8w P D B0 Gd n b st o st':=by
 obtain ⟨k,hk⟩:=hr
 refine ⟨k+1,fun ro m Γ a hn hΓ hG hS=>?_⟩
 obtain ⟨hn1,hwp⟩:=y4k hT hs hm b st os .norm st1 [] ps Γ a n ro m h hp hΓ hG hS hn
 refine wpIn_mono hwp fun e a' w' hb=>?_
 obtain ⟨hf,Γ1,k1,rfl,k2,k3,k4,k5⟩:=hb
 obtain ⟨Γ0,g1,g2,g3,g4,g5,g6⟩:=q1v hno hn1 k1 k2 k3
 exact .inl ⟨hf,st2,Γ0,g6,g1,g2,g3,g4,k4.trans g5 (Nat.le_refl _),k5,hk⟩
theorem q8o {n:Nat} {b:Code} {st st1 st':St} {o:Out} (os:List Orc) (keep:List Nat) {ps:List Prop} (hp:All ps) (h:path D (sem P D B0 Gd) b st os=some ((o,st1),[],ps)) (ho:o≠.norm) (hno:norm keep n st1=some st'):y8w P D B0 Gd n b st o st':=by
 refine ⟨1,fun ro m Γ a hn hΓ hG hS=>?_⟩
 obtain ⟨hn1,hwp⟩:=y4k hT hs hm b st os o st1 [] ps Γ a n ro m h hp hΓ hG hS hn
 refine wpIn_mono hwp fun e a' w' hb=>?_
 obtain ⟨hf,Γ1,k1,rfl,k2,k3,k4,k5⟩:=hb
 obtain ⟨Γ0,g1,g2,g3,g4,g5,g6⟩:=q1v hno hn1 k1 k2 k3
 refine .inr ⟨?_,hf,Γ0,g1,g2,g3,g4,k4.trans g5 (Nat.le_refl _),k5⟩
 cases o with
 | norm=>exact absurd rfl ho
 | exit id=>have:e=.exit id:=hf;rw [this];simp
 | ret=>have:e=.ret:=hf;rw [this];simp
theorem j6c {C:Sem3} {b:Code} {n:Nat} {keep:List Nat} {st st2:St} {o:Out} {os:List Orc} {ps:List Prop} (h:round D C b n keep st os=some (o,st2,ps)):∃ st1,path D C b st os=some ((o,st1),[],ps)∧norm keep n st1=some st2:=by
 unfold round at h
 split at h
 · rename_i o1 st1 ps1 e
   cases hn:norm keep n st1 with
   | none=>rw [hn] at h;cases h
   | some st3=>rw [hn] at h;cases h;exact ⟨st1,e,hn⟩
 · cases h
theorem v3v {n:Nat} {b:Code} {st st':St} {o:Out} (st2:St) (keep:List Nat) (os:List Orc) (ps:List Prop) (h:round D (sem P D B0 Gd) b n keep st os=some (.norm,st2,ps)) (hp:All ps) (hr:y8w P D B0 Gd n b st2 o st'):y8w P D B0 Gd n b st o st':=by
 obtain ⟨st1,h1,h2⟩:=j6c hT hs hm h
 exact q8p hT hs hm os keep hp h1 h2 hr
theorem v0z {n:Nat} {b:Code} {st st':St} {o:Out} (keep:List Nat) (os:List Orc) (ps:List Prop) (h:round D (sem P D B0 Gd) b n keep st os=some (o,st',ps)) (ho:o≠.norm) (hp:All ps):y8w P D B0 Gd n b st o st':=by
 obtain ⟨st1,h1,h2⟩:=j6c hT hs hm h
 exact q8o hT hs hm os keep hp h1 ho h2
end
end Gev
namespace Gev
open Go
def szOf (P:Program) (t:Nat):Nat:=match P.info? t with | some i=>i.size | none=>0
def j4r (P:Program) (rec:Nat→List Field→Option (List U)):Nat→List Field→Option (List U)
 | _,[]=>some []
 | k,f::fs=>if f.offset == k && f.name != "_" then match P.underlying f.type with
  | some (.struct gs)=>match rec f.type gs.toList,j4r P rec (k+szOf P f.type) fs with
   | some us,some vs=>if us.length == szOf P f.type && (P.info? f.type).isSome then some (us++vs) else none
   | _,_=>none
  | some d=>match j4r P rec (k+1) fs with
   | some us=>some (uOf d::us)
   | none=>none
  | none=>none
  else none
def q6y (P:Program):Nat→Nat→List Field→Option (List U)
 | 0,_,_=>none
 | n+1,t,fs=>if !P.stoodInHeld t then j4r P (q6y P n) 0 fs else none
def q5s (P:Program) (t:Nat):Option (List U):=match P.underlying t with
 | some (.struct fs)=>if !P.eqGuardType P.depth t then q6y P 4 t fs.toList else none
 | _=>none
theorem x5p:∀ {us vs:List U} {ds:List DV},fitB (us++vs) ds=true→fitB us (ds.take us.length)=true∧fitB vs (ds.drop us.length)=true∧us.length≤ds.length
 | [],_,ds,h=>⟨by simp [fitB],h,Nat.zero_le _⟩
 | u::us,vs,[],h=>by cases u <;> simp [fitB] at h
 | u::us,vs,d::ds,h=>by
  have key:fitB (us++vs) ds=true→fitB us (ds.take us.length)=true∧fitB vs (ds.drop us.length)=true∧us.length≤ds.length:=x5p
  rw [List.cons_append] at h
  rw [List.length_cons,List.take_succ_cons,List.drop_succ_cons,List.length_cons]
  cases u with
  | int k =>
   cases d with
   | int k' a =>
    simp only [fitB,Bool.and_eq_true] at h ⊢
    obtain ⟨a1,a2,a3⟩:=key h.2
    exact ⟨⟨h.1,a1⟩,a2,by omega⟩
   | _=>cases h
  | bool =>
   cases d with
   | bool a =>
    obtain ⟨a1,a2,a3⟩:=key h
    exact ⟨a1,a2,by omega⟩
   | _=>cases h
  | str =>
   cases d with
   | str a =>
    obtain ⟨a1,a2,a3⟩:=key h
    exact ⟨a1,a2,by omega⟩
   | _=>cases h
  | _=>cases h
theorem x5o:∀ {m:Nat} {az bs:List DV} {b:Bool},z7p az bs=some b→m≤az.length→m≤bs.length→∃ c1 c2,z7p (az.take m) (bs.take m)=some c1∧z7p (az.drop m) (bs.drop m)=some c2∧b=(c1 && c2)
 | 0,az,bs,b,h,_,_=>⟨true,b,rfl,h,rfl⟩
 | m+1,[],bs,b,h,h1,_=>by simp at h1
 | m+1,_::_,[],b,h,_,h2=>by simp at h2
 | m+1,x::az,y::bs,b,h,h1,h2=>by
  simp only [z7p] at h
  cases e1:eqD x y with
  | none=>rw [e1] at h;cases h
  | some c =>
   cases e2:z7p az bs with
   | none=>rw [e1,e2] at h;cases h
   | some c2 =>
    rw [e1,e2] at h
    cases h
    obtain ⟨a1,a2,k1,k2,rfl⟩:=x5o (m:=m) e2 (by simpa using h1) (by simpa using h2)
    exact ⟨c && a1,a2,by simp only [List.take_succ_cons,z7p,e1,k1],by simpa using k2,by rw [Bool.and_assoc]⟩
theorem x6t {P:Program} {w:World} {t:Nat} {d:TypeDesc} (hu:P.underlying t=some d) (ht:(∃ k,d=.int k)∨d=.bool∨d=.string) {cs:Array Value} {off:Nat} {v:Value} (hv:cs[off]?=some v):(part t cs off).run P w=.ok v w:=by
 have ha:(isAgg t).run P w=.ok false w:=by
  unfold isAgg
  rw [Sem.run_bind,run_underlying hu]
  rcases ht with ⟨k,rfl⟩ | rfl | rfl <;> rfl
 unfold part
 rw [Sem.run_bind,ha]
 simp [hv]
theorem k7k {P:Program} {w:World} {own:Nat→Prop} {d:Nat} {rec:Nat→List Field→Option (List U)}
    (hrec:∀ T fs us,P.underlying T=some (.struct fs)→rec T fs.toList=some us→∀ (xs ys:Array Value) (avz bs:List DV) (b:Bool),fitB us avz=true→fitB us bs=true→xs.size=avz.length→ys.size=bs.length →
     (∀ (j:Nat) u e,xs[j]?=some u→avz[j]?=some e→RepD w own u e)→(∀ (j:Nat) u e,ys[j]?=some u→bs[j]?=some e→RepD w own u e)→z7p avz bs=some b→(Op.equalIn (d+1) T (.agg xs) (.agg ys)).run P w=.ok b w):∀ (fs:List Field) (k:Nat) (us:List U),j4r P rec k fs=some us→∀ (xs ys:Array Value) (avz bs:List DV) (b:Bool),fitB us avz=true→fitB us bs=true→xs.size=k+avz.length→ys.size=k+bs.length →
    (∀ (j:Nat) u e,xs[k+j]?=some u→avz[j]?=some e→RepD w own u e)→(∀ (j:Nat) u e,ys[k+j]?=some u→bs[j]?=some e→RepD w own u e)→z7p avz bs=some b →
    (Op.eqFields (d+1) xs ys fs).run P w=.ok b w
 | [],k,us,hu,xs,ys,avz,bs,b,ha,hb,hx,hy,_,_,he=>by
  cases hu
  cases avz with
  | nil =>
   cases bs with
   | nil=>cases he;rfl
   | cons _ _=>cases he
  | cons _ _=>cases ha
 | f::fs,k,us,hu,xs,ys,avz,bs,b,ha,hb,hx,hy,hrx,hry,he=>by
  simp only [j4r] at hu
  split at hu
  · rename_i hc
    simp only [Bool.and_eq_true,beq_iff_eq,bne_iff_ne] at hc
    obtain ⟨h1,h2⟩:=hc
    cases hd:P.underlying f.type with
    | none=>rw [hd] at hu;cases hu
    | some de =>
    by_cases hst:∃ gs,de=.struct gs
    · obtain ⟨gs,rfl⟩:=hst
      rw [hd] at hu
      simp only at hu
      cases hr1:rec f.type gs.toList with
      | none=>rw [hr1] at hu;cases hu
      | some us1 =>
      cases hus:j4r P rec (k+szOf P f.type) fs with
      | none=>rw [hr1,hus] at hu;cases hu
      | some us2 =>
      rw [hr1,hus] at hu
      simp only at hu
      split at hu
      · rename_i hsz
        cases hu
        simp only [Bool.and_eq_true,beq_iff_eq] at hsz
        obtain ⟨hsz,hin⟩:=hsz
        obtain ⟨i,hi⟩:=Option.isSome_iff_exists.1 hin
        have hsi:szOf P f.type=i.size:=by unfold szOf;rw [hi]
        obtain ⟨fa1,fa2,fa3⟩:=x5p ha
        obtain ⟨fb1,fb2,fb3⟩:=x5p hb
        obtain ⟨c1,c2,k1,k2,rfl⟩:=x5o he fa3 fb3
        have hag:(isAgg f.type).run P w=.ok true w:=by
         unfold isAgg
         rw [Sem.run_bind,run_underlying hd]
         rfl
        have hpart:∀ zs:Array Value,(part f.type zs k).run P w=.ok (.agg (zs.extract k (k+us1.length))) w:=by
         intro zs
         unfold part
         rw [Sem.run_bind,hag]
         simp only [Result.andThen_ok,if_true]
         rw [Sem.run_bind,z8r hi]
         simp only [Result.andThen_ok,hsz,hsi]
         rfl
        have hex:∀ (zs:Array Value) (cs:List DV),zs.size=k+cs.length→us1.length≤cs.length→(∀ (j:Nat) u e,zs[k+j]?=some u→cs[j]?=some e→RepD w own u e)→(zs.extract k (k+us1.length)).size=(cs.take us1.length).length∧∀ (j:Nat) u e,(zs.extract k (k+us1.length))[j]?=some u→(cs.take us1.length)[j]?=some e→RepD w own u e:=by
         intro zs cs h1 h2 h3
         refine ⟨by simp;omega,fun j u e hu hj=>?_⟩
         rw [List.getElem?_take] at hj
         split at hj
         · refine h3 j u e ?_ hj
           have hlt:=(Array.getElem?_eq_some_iff.1 hu).1
           simp at hlt
           have hk:k+j<zs.size:=by omega
           rw [Array.getElem?_eq_getElem (by simp;omega),Array.getElem_extract] at hu
           rw [Array.getElem?_eq_getElem hk]
           exact hu
         · cases hj
        obtain ⟨x1,x2⟩:=hex xs avz hx fa3 hrx
        obtain ⟨y1,y2⟩:=hex ys bs hy fb3 hry
        have heq:=hrec f.type gs us1 hd hr1 _ _ _ _ c1 fa1 fb1 x1 y1 x2 y2 k1
        have ih:=k7k hrec fs (k+szOf P f.type) us2 hus xs ys (avz.drop us1.length) (bs.drop us1.length) c2 fa2 fb2 (by simp;omega) (by simp;omega) (fun j u e hu hj=>hrx (us1.length+j) u e (by rw [← hu];congr 1;omega) (by rw [List.getElem?_drop] at hj;exact hj)) (fun j u e hu hj=>hry (us1.length+j) u e (by rw [← hu];congr 1;omega) (by rw [List.getElem?_drop] at hj;exact hj)) k2
        simp only [Op.eqFields,h1]
        rw [if_pos h2,Sem.run_bind,hpart xs]
        simp only [Result.andThen_ok]
        rw [Sem.run_bind,hpart ys]
        simp only [Result.andThen_ok]
        rw [Sem.run_bind,heq]
        simp only [Result.andThen_ok]
        cases c1 with
        | true=>simpa using ih
        | false=>rfl
      · cases hu
    cases hus:j4r P rec (k+1) fs with
    | none=>rw [hd] at hu;cases de <;> simp only [hus] at hu <;> first | cases hu | exact absurd ⟨_,rfl⟩ hst
    | some us' =>
    have hu':us=uOf de::us':=by
     rw [hd] at hu
     cases de <;> simp only [hus] at hu <;> first | (cases hu;rfl) | exact absurd ⟨_,rfl⟩ hst
    subst hu'
    cases avz with
    | nil=>cases hud:uOf de <;> rw [hud] at ha <;> cases ha
    | cons x avz =>
     cases bs with
     | nil=>cases he
     | cons y bs =>
      simp only [List.length_cons] at hx hy
      simp only [z7p] at he
      cases e1:eqD x y with
      | none=>rw [e1] at he;cases he
      | some c =>
       cases e2:z7p avz bs with
       | none=>rw [e1,e2] at he;cases he
       | some c2 =>
        rw [e1,e2] at he
        cases he
        have kx:k<xs.size:=by omega
        have ky:k<ys.size:=by omega
        have rx:=hrx 0 xs[k] x (by simp [kx]) rfl
        have ry:=hry 0 ys[k] y (by simp [ky]) rfl
        have fits:fitB us' avz=true∧fitB us' bs=true∧((∃ k0,de=.int k0)∨de=.bool∨de=.string)∧(Op.equalIn (d+1) f.type xs[k] ys[k]).run P w=.ok c w:=by
         generalize xs[k]=u at rx
         generalize ys[k]=v at ry
         cases hud:uOf de with
         | int k0 =>
          rw [hud] at ha hb
          have hde:=v2x hud
          cases x with
          | int k1 a =>
           cases y with
           | int k2 b =>
            simp only [fitB,Bool.and_eq_true,beq_iff_eq] at ha hb
            obtain ⟨rfl,ha⟩:=ha
            obtain ⟨rfl,hb⟩:=hb
            cases rx
            cases ry
            cases e1
            exact ⟨ha,hb,.inl ⟨_,hde⟩,run_equalIn_int w d f.type _ _ _ _ (hde ▸ hd)⟩
           | _=>cases e1
          | _=>cases ha
         | bool =>
          rw [hud] at ha hb
          have hde:=v2w hud
          cases x with
          | bool a =>
           cases y with
           | bool b =>
            cases rx
            cases ry
            cases e1
            exact ⟨ha,hb,.inr (.inl hde),run_equalIn_bool' w d f.type _ _ (hde ▸ hd)⟩
           | _=>cases e1
          | _=>cases ha
         | str =>
          rw [hud] at ha hb
          have hde:=q0k hud
          cases x with
          | str a =>
           cases y with
           | str b =>
            cases rx
            cases ry
            cases e1
            refine ⟨ha,hb,.inr (.inr hde),?_⟩
            rw [run_equalIn_string w d f.type _ _ (hde ▸ hd),beq_toListBytes]
           | _=>cases e1
          | _=>cases ha
         | _=>rw [hud] at ha;cases ha
        obtain ⟨fa,fb,hty,heq⟩:=fits
        have p1:=x6t (w:=w) hd hty (Array.getElem?_eq_getElem kx)
        have p2:=x6t (w:=w) hd hty (Array.getElem?_eq_getElem ky)
        have ih:=k7k hrec fs (k+1) us' hus xs ys avz bs c2 fa fb (by omega) (by omega) (fun j u e hu hj=>hrx (j+1) u e (by rw [← hu];congr 1;omega) (by simpa using hj)) (fun j u e hu hj=>hry (j+1) u e (by rw [← hu];congr 1;omega) (by simpa using hj)) e2
        simp only [Op.eqFields,h1]
        rw [if_pos h2,Sem.run_bind,p1]
        simp only [Result.andThen_ok]
        rw [Sem.run_bind,p2]
        simp only [Result.andThen_ok]
        rw [Sem.run_bind,heq]
        simp only [Result.andThen_ok]
        cases c with
        | true=>simpa using ih
        | false=>rfl
  · cases hu
theorem q0e {P:Program} {w:World} {own:Nat→Prop}:∀ (n d:Nat),n≤d→∀ T fs us,P.underlying T=some (.struct fs)→q6y P n T fs.toList=some us→∀ (xs ys:Array Value) (avz bs:List DV) (b:Bool),fitB us avz=true→fitB us bs=true→xs.size=avz.length→ys.size=bs.length →
      (∀ (j:Nat) u e,xs[j]?=some u→avz[j]?=some e→RepD w own u e)→(∀ (j:Nat) u e,ys[j]?=some u→bs[j]?=some e→RepD w own u e)→z7p avz bs=some b→(Op.equalIn (d+1) T (.agg xs) (.agg ys)).run P w=.ok b w
 | 0,d,_,T,fs,us,hu,h=>by cases h
 | n+1,d,hd,T,fs,us,hu,h=>by
  intro xs ys avz bs b ha hb hx hy hrx hry he
  unfold q6y at h
  split at h
  · rename_i hc
    simp only [Bool.not_eq_true'] at hc
    obtain ⟨d',rfl⟩:∃ d',d=d'+1:=⟨d-1,by omega⟩
    have hfs:P.fieldsOf T=fs:=by simp [Program.fieldsOf,hu]
    rw [run_equalIn_struct w (d'+1) T xs ys (by rw [hfs];exact hu) hc,hfs]
    exact k7k (q0e n d' (by omega)) fs.toList 0 us h xs ys avz bs b ha hb (by omega) (by omega) (fun j u e hu hj=>hrx j u e (by simpa using hu) hj) (fun j u e hu hj=>hry j u e (by simpa using hu) hj) he
  · cases h
theorem tabOk (P:Program) (thr new:Nat→Bool):TabOk P ⟨tiOf P,q5s P,thr,new⟩:=by
 refine ⟨fun t ti h=>q9e h,fun t us h w own xs ys avz bs b ha hb hx hy hrx hry he=>?_⟩
 unfold q5s at h
 cases hu:P.underlying t with
 | none=>simp only [hu] at h;cases h
 | some de =>
  simp only [hu] at h
  cases de with
  | struct fs =>
   simp only at h
   split at h
   · rename_i hc
     simp only [Bool.not_eq_true'] at hc
     refine ⟨?_,hc⟩
     show (Op.equalIn (9999+1) t (.agg xs) (.agg ys)).run P w=_
     exact q0e 4 9999 (by omega) t fs us hu h xs ys avz bs b ha hb hx hy hrx hry he
   · cases h
  | _=>cases h
def x1v:Code→List Code
 | .loop b=>b::x1v b
 | .seq a b=>x1v a++x1v b
 | .cond _ a b=>x1v a++x1v b
 | .block _ b=>x1v b
 | _=>[]
def q3l (P:Program) (f k:Nat):Code:=match P.funcs[f]? with
 | some fn=>match fn.body with
  | some c=>(x1v c).getD k .skip
  | none=>.skip
 | none=>.skip
def stOf (n:Nat) (vs:List (Nat × AV)) (objs:Objs):St:=⟨vs.foldl (fun s p=>s.set p.1 p.2) (List.replicate n .undef),objs⟩
theorem enters_of {P:Program} {f:Nat} {fn:Func} (hf:P.funcs[f]?=some fn) (hn:(fn.name == "runtime.NumGoroutine")=false) (hb:fn.body.isNone=false) (cargs:Array Value) (w:World):(callFunc f cargs).run P w=.ok (.enter f cargs) w:=by
 unfold callFunc
 rw [Sem.run_bind,run_program]
 simp only [Result.andThen_ok,hf]
 rw [if_neg (by rw [hn];simp),if_neg (by rw [hb];simp)]
 rfl
end Gev
namespace Gev
open Go
variable {P:Program} {D:Tab} {B0:Nat} {Gd:World→Prop}
def cval:DV→Option Value
 | .int k n=>some (.int k n)
 | .bool b=>some (.bool b)
 | .str s=>some (.string s)
 | _=>none
def j9c:List DV→Option (List Value)
 | []=>some []
 | d::ds=>match cval d,j9c ds with
  | some v,some vs=>some (v::vs)
  | _,_=>none
theorem v0f {d:DV} {v u:Value} {w:World} {own:Nat→Prop} (h:cval d=some v) (hr:RepD w own u d):u=v:=by
 cases hr <;> cases h <;> rfl
theorem j9d:∀ {ds:List DV} {vs:List Value},j9c ds=some vs→vs.length=ds.length∧∀ (i:Nat) d,ds[i]?=some d→∃ v,vs[i]?=some v∧cval d=some v
 | [],vs,h=>by cases h;exact ⟨rfl,fun i d h=>by simp at h⟩
 | d::ds,vs,h=>by
  simp only [j9c] at h
  cases h1:cval d with
  | none=>rw [h1] at h;cases h
  | some v =>
   cases h2:j9c ds with
   | none=>rw [h1,h2] at h;cases h
   | some vs' =>
    rw [h1,h2] at h
    cases h
    obtain ⟨l1,l2⟩:=j9d h2
    refine ⟨by simp [l1],fun i e he=>?_⟩
    cases i with
    | zero=>simp at he;subst he;exact ⟨v,by simp,h1⟩
    | succ i=>obtain ⟨u,a,b⟩:=l2 i e (by simpa using he);exact ⟨u,by simpa using a,b⟩
theorem q5p {Γ:Ctx} {ds:List DV} {vs:List Value} (h:j9c ds=some vs) {cargs:Array Value} (hl:cargs.size=(ds.map AV.c).length) (ha:∀ (i:Nat) v a,cargs[i]?=some v→(ds.map AV.c)[i]?=some a→RepA D Γ v a):cargs=vs.toArray:=by
 obtain ⟨l1,l2⟩:=j9d h
 apply Array.ext
 · simp at hl ⊢;omega
 · intro i h1 h2
   simp at hl
   have hd:i<ds.length:=by omega
   obtain ⟨v,e1,e2⟩:=l2 i ds[i] (List.getElem?_eq_getElem hd)
   have:=ha i cargs[i] (.c ds[i]) (Array.getElem?_eq_getElem h1) (by simp [hd])
   generalize cargs[i]=u at this
   cases this with
   | c hr =>
    rw [v0f e2 hr]
    have h3:i<vs.length:=by omega
    rw [List.getElem?_eq_getElem h3] at e1
    simp at e1 ⊢
    exact e1.symm
theorem Kept.of_below {w w':World} (h:RowKit.Below w.heap.size w w'):Kept (fun _=>False) w w':=⟨fun b hb _=>h.block b hb,h.size,h.os,h.tape,h.output⟩
theorem Kept.of_drewN (w:World) (n:Nat):Kept (fun _=>False) w (w.drewN n):=⟨fun _ _ _=>rfl,Nat.le_refl _,rfl,rfl,rfl⟩
theorem z4z (hs:Stable B0 Gd) {f:Nat} {ds:List DV} {vs:List Value} {r:AV} (he:∀ cargs w,(callFunc f cargs).run P w=.ok (.enter f cargs) w) (hr:r.Data) (hv:j9c ds=some vs)
    (h:∀ (w:World),Gd w→B0≤w.heap.size→Calls P f vs.toArray w fun e w'=>∃ v,e=.returned v∧Kept (fun _=>False) w w'∧∀ ext,RepA D ⟨⟨fun _=>none,ext⟩,[],w'⟩ v r):FnOk P D B0 Gd f (ds.map AV.c) r:=by
 refine ⟨he,hr,fun w ext cargs hg hB hx hl ha=>?_⟩
 rw [q5p hv hl ha]
 refine Calls.mono (h w hg hB) ?_
 rintro e w' ⟨v,rfl,hk,k⟩
 exact ⟨v,rfl,hs w _ (fun b hb=>hk.heap b (Nat.lt_of_lt_of_le hb hB) id) hk.size hg,hk,k ext⟩
end Gev
namespace Gev
open Go Go.Proofs
noncomputable abbrev PP:Program:=Tryz.prog
abbrev B2:Nat:=7
abbrev z9x:Nat:=9
abbrev G0:Nat:=10
abbrev H0:Nat:=11
abbrev V1:Nat:=12
abbrev y8u:Nat:=14
abbrev N3:Nat:=15
abbrev z9a:Nat:=17
abbrev U1:Nat:=19
abbrev G9:Nat:=21
abbrev P1:Nat:=22
abbrev A8:Nat:=24
abbrev N5:Nat:=26
abbrev D9:Nat:=30
abbrev Z8:Nat:=31
abbrev B7:Nat:=32
abbrev x1g:Nat:=34
abbrev A4:Nat:=35
abbrev A9:Nat:=37
abbrev x4n:Nat:=44
abbrev F4:Nat:=45
abbrev B1:Nat:=46
abbrev D8:Nat:=47
abbrev V8:Nat:=50
abbrev P5:Nat:=54
abbrev P2:Nat:=56
abbrev C0:Nat:=57
abbrev z5d:Nat:=60
abbrev A1:Nat:=62
abbrev A0:Nat:=63
abbrev y2x:Nat:=64
abbrev O2:Nat:=65
abbrev O3:Nat:=66
abbrev O4:Nat:=67
abbrev I6:Nat:=68
abbrev z9z:Nat:=69
abbrev U7:Nat:=70
abbrev H4:Nat:=71
abbrev z2w:Nat:=75
abbrev z3y:Nat:=76
abbrev D7:Nat:=77
abbrev z3z:Nat:=78
abbrev F2:Nat:=79
abbrev z5h:Nat:=80
abbrev H2:Nat:=82
abbrev F0:Nat:=83
abbrev y1l:Nat:=84
abbrev z8z:Nat:=85
abbrev y3z:Nat:=87
abbrev O1:Nat:=88
abbrev x4o:Nat:=90
abbrev z1y:Nat:=109
abbrev K6:Nat:=110
abbrev X6:Nat:=111
abbrev U6:Nat:=112
abbrev G6:Nat:=113
abbrev G1:Nat:=114
abbrev z4d:Nat:=115
abbrev z1a:Nat:=116
abbrev P8:Nat:=117
abbrev F5:Nat:=118
abbrev K7:Nat:=119
abbrev N4:Nat:=120
abbrev z0g:Nat:=129
abbrev V4:Nat:=134
abbrev y6u:Nat:=135
abbrev C5:Nat:=136
abbrev z3g:Nat:=137
abbrev I8:Nat:=138
abbrev H3:Nat:=141
abbrev X4:Nat:=142
abbrev x1f:Nat:=143
abbrev z6k:Nat:=144
abbrev y1r:Nat:=146
abbrev y1q:Nat:=147
abbrev y6t:Nat:=148
abbrev B5:Nat:=149
abbrev y5q:Nat:=150
abbrev C4:Nat:=151
abbrev y8c:Nat:=152
abbrev D6:Nat:=153
abbrev z0d:Nat:=154
abbrev X7:Nat:=155
abbrev q0m:Nat:=158
abbrev I5:Nat:=165
abbrev B8:Nat:=166
abbrev K3:Nat:=167
abbrev Z7:Nat:=168
abbrev I7:Nat:=169
abbrev P7:Nat:=170
abbrev F7:Nat:=171
abbrev P0:Nat:=172
abbrev F8:Nat:=173
abbrev x1e:Nat:=176
abbrev y8v:Nat:=177
abbrev z0z:Nat:=178
abbrev X9:Nat:=179
abbrev F6:Nat:=180
abbrev O6:Nat:=181
abbrev y6r:Nat:=183
abbrev z4y:Nat:=184
abbrev z4x:Nat:=185
abbrev F1:Nat:=186
abbrev J2:Nat:=187
abbrev z4e:Nat:=189
abbrev H6:Nat:=190
abbrev J4:Nat:=191
abbrev y4z:Nat:=192
abbrev j3e:Nat:=195
abbrev z6s:Nat:=198
abbrev z6l:Nat:=199
abbrev D5:Nat:=200
abbrev z5g:Nat:=201
abbrev F_rational_both:Nat:=202
abbrev V6:Nat:=203
abbrev X5:Nat:=204
abbrev y1m:Nat:=205
abbrev y1p:Nat:=206
abbrev O5:Nat:=207
abbrev B6:Nat:=208
abbrev F_rational_frac_text:Nat:=211
abbrev x3e:Nat:=212
abbrev z0l:Nat:=214
abbrev y8r:Nat:=215
abbrev y8t:Nat:=216
abbrev y6s:Nat:=217
abbrev z2h:Nat:=218
abbrev z5e:Nat:=219
abbrev N0:Nat:=220
abbrev P6:Nat:=221
abbrev Z3:Nat:=222
abbrev U5:Nat:=223
abbrev z9r:Nat:=230
abbrev z9w:Nat:=231
abbrev z0m:Nat:=232
abbrev Z1:Nat:=233
abbrev D1:Nat:=234
abbrev y1n:Nat:=235
abbrev z3k:Nat:=236
abbrev I9:Nat:=237
abbrev y4b:Nat:=238
abbrev z0k:Nat:=239
abbrev z0e:Nat:=240
abbrev z0y:Nat:=246
abbrev z2b:Nat:=247
abbrev V7:Nat:=248
abbrev z9p:Nat:=249
abbrev y1b:Nat:=250
abbrev X8:Nat:=257
abbrev O8:Nat:=258
abbrev C8:Nat:=259
abbrev z5f:Nat:=260
abbrev A6:Nat:=261
abbrev D0:Nat:=262
abbrev y4c:Nat:=263
abbrev y1o:Nat:=264
abbrev z9y:Nat:=265
abbrev C2:Nat:=268
abbrev z0f:Nat:=269
abbrev y4a:Nat:=270
abbrev U4:Nat:=271
abbrev y8s:Nat:=272
abbrev z9q:Nat:=276
abbrev C1:Nat:=277
abbrev C6:Nat:=283
abbrev P9:Nat:=284
abbrev z2i:Nat:=285
abbrev z1e:Nat:=286
abbrev z5i:Nat:=287
abbrev z4a:Nat:=288
abbrev y2w:Nat:=289
abbrev z2a:Nat:=290
abbrev z0j:Nat:=300
abbrev B4:Nat:=301
abbrev V5:Nat:=303
abbrev y0m:Nat:=314
abbrev N1:Nat:=3
abbrev A2:Nat:=36
abbrev D4:Nat:=41
abbrev A3:Nat:=49
abbrev x1j:Nat:=68
abbrev k0i:Nat:=74
abbrev C9:Nat:=77
abbrev B3:Nat:=130
def thrL:List Nat:=[D9,D7,x4o,q0m,F1,j3e,x3e,C1]
def newL:List Nat:=[V1,N3,U1,Z8,C0,z2w,z3y,z3z,z5h,D0]
end Gev
namespace Gev
open Go Go.Proofs
noncomputable def DD:Tab:=⟨tiOf PP,q5s PP,fun f=>thrL.contains f,fun f=>newL.contains f⟩
theorem hTT:TabOk PP DD:=tabOk PP _ _
theorem hmm:PP.follows .mixedOrders=true:=by kernel_rfl
abbrev DV.i64 (n:Int):DV:=.int .i64 n
abbrev DV.u64 (n:Int):DV:=.int .u64 n
abbrev DV.u32 (n:Int):DV:=.int .u32 n
abbrev DV.u8 (n:Int):DV:=.int .u8 n
structure Env where
 B0:Nat
 Gd:World→Prop
 hs:Stable B0 Gd
abbrev Fn (E:Env) (f:Nat) (args:List AV) (r:AV):Prop:=FnOk PP DD E.B0 E.Gd f args r
abbrev Rn (E:Env) (f:Nat) (args:List AV) (objs:Objs) (r:AV) (objs':Objs):Prop:=RunOk PP DD E.B0 E.Gd f args objs r objs'
abbrev Lp (E:Env) (n f k:Nat) (st:St) (o:Out) (st':St):Prop:=y8w PP DD E.B0 E.Gd n (q3l PP f k) st o st'
def known (P:Program) (f:Nat):Bool:=match P.funcs[f]? with | some fn=>!(fn.name == "runtime.NumGoroutine") && !fn.body.isNone | none=>false
theorem K8 {P:Program} {f:Nat} (h:known P f=true) (cargs:Array Value) (w:World):(callFunc f cargs).run P w=.ok (.enter f cargs) w:=by
 unfold known at h
 cases hf:P.funcs[f]? with
 | none=>rw [hf] at h;cases h
 | some fn =>
  rw [hf] at h
  simp only [Bool.and_eq_true,Bool.not_eq_true'] at h
  exact enters_of hf h.1 h.2 cargs w
mutual
def AV.isData:AV→Bool
 | .c _ | .undef | .agg _ | .fn _ []=>true
 | .mv _ ds=>AV.areData ds
 | .tup vs=>AV.areData vs
 | _=>false
def AV.areData:List AV→Bool
 | []=>true
 | v::vs=>v.isData && AV.areData vs
end
mutual
theorem AV.isData_ok:∀ {v:AV},v.isData=true→v.Data
 | .c _,_=>.c _
 | .undef,_=>.undef
 | .agg _,_=>.agg _
 | .fn _ [],_=>.fn _
 | .fn _ (_::_),h=>by simp [AV.isData] at h
 | .mv f ds,h=>.mv f ds (AV.areData_ok (by simpa [AV.isData] using h))
 | .tup vs,h=>.tup vs (AV.areData_ok (by simpa [AV.isData] using h))
 | .nils,h=>by simp [AV.isData] at h
 | .ptr _ _,h=>by simp [AV.isData] at h
 | .eptr _,h=>by simp [AV.isData] at h
 | .vptr _ _ _,h=>by simp [AV.isData] at h
 | .vec _ _,h=>by simp [AV.isData] at h
 | .frow _,h=>by simp [AV.isData] at h
 | .frp _,h=>by simp [AV.isData] at h
theorem AV.areData_ok:∀ {vs:List AV},AV.areData vs=true→∀ (i:Nat) v,vs[i]?=some v→v.Data
 | [],_,i,v,h=>by simp at h
 | x::xs,h,i,v,hv=>by
  simp only [AV.areData,Bool.and_eq_true] at h
  cases i with
  | zero=>simp at hv;subst hv;exact AV.isData_ok h.1
  | succ i=>exact AV.areData_ok h.2 i v (by simpa using hv)
end
theorem aO {p:Prop} (h:p):All [p]:=h
theorem beT {α:Type} [BEq α] [LawfulBEq α] {a b:α} (h:a=b):(a == b)=true:=by simp [h]
theorem beF {α:Type} [BEq α] [LawfulBEq α] {a b:α} (h:¬ a=b):(a == b)=false:=by simp [h]
theorem bnT {α:Type} [BEq α] [LawfulBEq α] {a b:α} (h:¬ a=b):(a != b)=true:=by simp [h]
theorem bnF {α:Type} [BEq α] [LawfulBEq α] {a b:α} (h:a=b):(a != b)=false:=by simp [h]
theorem bsize (a:ByteArray):a.data.toList.length=a.size:=Array.length_toList
theorem k9w (a:ByteArray):∀ (n i:Nat) (r:List UInt8),i+n=a.size→ByteArray.toList.loop a i r=r.reverse++a.data.toList.drop i
 | 0,i,r,h=>by
  unfold ByteArray.toList.loop
  rw [if_neg (by omega),List.drop_eq_nil_of_le (by rw [bsize];omega),List.append_nil]
 | n+1,i,r,h=>by
  unfold ByteArray.toList.loop
  have hi:i<a.data.toList.length:=by rw [bsize];omega
  have hj:i<a.data.size:=by rw [← Array.length_toList];exact hi
  rw [if_pos (by omega),k9w a n (i+1) _ (by omega),List.drop_eq_getElem_cons hi]
  have e:a.get! i=a.data.toList[i]:=by
   cases a with
   | mk d=>show d[i]! = d.toList[i];rw [getElem!_pos d i hj,Array.getElem_toList]
  rw [e];simp
theorem toList_eq (a:ByteArray):a.toList=a.data.toList:=by
 unfold ByteArray.toList
 rw [k9w a a.size 0 [] (by omega)];simp
theorem bytes_ext {a b:ByteArray} (h:a.toList=b.toList):a=b:=by
 rw [toList_eq,toList_eq] at h
 cases a;cases b;simp at h;simp [h]
theorem seT {a b:ByteArray} (h:a=b):(a.toList == b.toList)=true:=by simp [h]
theorem seF {a b:ByteArray} (h:¬ a=b):(a.toList == b.toList)=false:=by
 rw [beq_eq_false_iff_ne];exact fun e=>h (bytes_ext e)
theorem snT {a b:ByteArray} (h:¬ a=b):(!(a.toList == b.toList))=true:=by rw [seF h];rfl
theorem snF {a b:ByteArray} (h:a=b):(!(a.toList == b.toList))=false:=by rw [seT h];rfl
section
variable {E:Env}
theorem fnMk {f:Nat} {args:List AV} {r:AV} (os:List Orc) {ps:List Prop} (hk:known PP f=true) (hr:r.isData=true) (hp:All ps) (h:k3s DD (sem PP DD E.B0 E.Gd) PP false f args [] os=some ((r,[]),[],ps)):Fn E f args r :=
 fn_mk hTT E.hs hmm os (K8 hk) (AV.isData_ok hr) hp h
theorem rnMk {f:Nat} {args:List AV} {objs objs':Objs} {r:AV} (os:List Orc) {ps:List Prop} (hk:known PP f=true) (hp:All ps) (h:k3s DD (sem PP DD E.B0 E.Gd) PP (DD.thr f || (DD.new f && objs.isEmpty)) f args objs os=some ((r,objs'),[],ps)):Rn E f args objs r objs' :=
 run_mk hTT E.hs hmm os (K8 hk) hp h
theorem lpOn {n f k:Nat} {st st':St} {o:Out} (st2:St) (keep:List Nat) (os:List Orc) {ps:List Prop} (hp:All ps) (h:round DD (sem PP DD E.B0 E.Gd) (q3l PP f k) n keep st os=some (.norm,st2,ps)) (hr:Lp E n f k st2 o st'):Lp E n f k st o st' :=
 v3v hTT E.hs hmm st2 keep os ps h hp hr
theorem lpOff {n f k:Nat} {st st':St} {o:Out} (keep:List Nat) (os:List Orc) {ps:List Prop} (hp:All ps) (h:round DD (sem PP DD E.B0 E.Gd) (q3l PP f k) n keep st os=some (o,st',ps)) (ho:o≠.norm):Lp E n f k st o st' :=
 v0z hTT E.hs hmm keep os ps h ho hp
end
abbrev RW:=List (List DV)
abbrev BA:=ByteArray
abbrev DV.i (n:Int):DV:=.int .i64 n
abbrev DV.w (n:Int):DV:=.int .u32 n
abbrev DV.l (x:RW):DV:=.list x
abbrev DV.s (x:BA):DV:=.str x
abbrev DV.b (x:Bool):DV:=.bool x
abbrev AV.i (n:Int):AV:=.c (.int .i64 n)
abbrev AV.w (n:Int):AV:=.c (.int .u32 n)
abbrev AV.l (x:RW):AV:=.c (.list x)
abbrev AV.s (x:BA):AV:=.c (.str x)
abbrev AV.b (x:Bool):AV:=.c (.bool x)
abbrev AV.q (x:Bool) (y z:RW):AV:=.agg [.bool x,.list y,.list z]
abbrev AV.z (x:Bool) (y:RW):AV:=.agg [.bool x,.list y]
abbrev sC (l:List AV):Option Ob:=some (.cells l)
abbrev sF (l:RW):Option Ob:=some (.fro l)
abbrev sV (t:Nat) (l:RW):Option Ob:=some (.vec t l)
def j5n:Nat→List AV→List Nat
 | _,[]=>[]
 | i,.undef::vs=>j5n (i+1) vs
 | i,_::vs=>i::j5n (i+1) vs
def St.live (s:St):List Nat:=j5n 0 s.slots
def Owe (_:List Orc) (ps:List Prop):Prop:=All ps
theorem all_cons {p:Prop} {ps:List Prop} (h:p) (k:All ps):All (p::ps):=match ps,k with
 | [],_=>h
 | _::_,k=>⟨h,k⟩
section
variable {E:Env} {os:List Orc} {ps:List Prop}
theorem oZ:Owe [] []:=trivial
theorem oP {p:Prop} (h:p) (k:Owe os ps):Owe os (p::ps):=all_cons h k
theorem oK (k:Owe os ps):Owe (.keep::os) ps:=k
theorem oG (k:Owe os ps):Owe (.tl::os) ps:=k
theorem oT {p:Prop} [Decidable p] (h:p) (k:Owe os ps):Owe (.t true::os) ((decide p=true)::ps):=all_cons (decide_eq_true h) k
theorem oU {p:Prop} [Decidable p] (h:¬ p) (k:Owe os ps):Owe (.t false::os) ((decide p=false)::ps):=all_cons (decide_eq_false h) k
theorem oB {b:Bool} (h:b=true) (k:Owe os ps):Owe (.t true::os) ((b=true)::ps):=all_cons h k
theorem oC {b:Bool} (h:b=false) (k:Owe os ps):Owe (.t false::os) ((b=false)::ps):=all_cons h k
theorem oD {xs:RW} {i:Nat} {cs:List DV} (h:xs[i]?=some cs) (k:Owe os ps):Owe (.d cs::os) ((xs[i]?=some cs)::ps):=all_cons h k
theorem oF {f:Nat} {a:List AV} {r:AV} (h:Fn E f a r) (k:Owe os ps):Owe (.v r::os) (Fn E f a r::ps):=all_cons h k
theorem oR {f:Nat} {a:List AV} {r:AV} {x:Objs} (h:Rn E f a x r x) (k:Owe os ps):Owe (.vr r::os) (Rn E f a x r x::ps):=all_cons h k
theorem oV {f:Nat} {a:List AV} {r:AV} {x y:Objs} (h:Rn E f a x r y) (k:Owe os ps):Owe (.vt r y::os) (Rn E f a x r y::ps):=all_cons h k
theorem oN {f n t:Nat} {a:List AV} {xs:RW} (h:Rn E f a [] (.vec 0 n) [some (.vec t xs)]) (k:Owe os ps):Owe (.nw n t xs::os) (Rn E f a [] (.vec 0 n) [some (.vec t xs)]::ps):=all_cons h k
theorem oW {f t:Nat} {a:List AV} {w:AV} {xs:RW} (h:Rn E f a [] w [some (.vec t xs)]) (k:Owe os ps):Owe (.nv w t xs::os) (Rn E f a [] w [some (.vec t xs)]::ps):=all_cons h k
theorem oM (g:List (Nat × Nat)) {n f b:Nat} {s s':St} {o:Out} (h:Lp E n f b s o s') (k:Owe os ps):Owe (.loop s.live g o s'::os) (Lp E n f b s o s'::ps):=all_cons h k
theorem oL {n f b:Nat} {s s':St} {o:Out} (h:Lp E n f b s o s') (k:Owe os ps):Owe (.loop s.live [] o s'::os) (Lp E n f b s o s'::ps):=all_cons h k
theorem fnM {f:Nat} {args:List AV} {r:AV} (hp:Owe os ps) (h:k3s DD (sem PP DD E.B0 E.Gd) PP false f args [] os=some ((r,[]),[],ps):=by kernel_rfl) (hk:known PP f=true:=by kernel_rfl) (hr:r.isData=true:=by kernel_rfl):Fn E f args r:=fnMk os hk hr hp h
theorem rnM {f:Nat} {args:List AV} {objs objs':Objs} {r:AV} (hp:Owe os ps) (h:k3s DD (sem PP DD E.B0 E.Gd) PP (DD.thr f || (DD.new f && objs.isEmpty)) f args objs os=some ((r,objs'),[],ps):=by kernel_rfl) (hk:known PP f=true:=by kernel_rfl):Rn E f args objs r objs':=rnMk os hk hp h
theorem lpM {n f k:Nat} {st st2 st':St} {o:Out} (hp:Owe os ps) (hr:Lp E n f k st2 o st') (h:round DD (sem PP DD E.B0 E.Gd) (q3l PP f k) n st2.live st os=some (.norm,st2,ps):=by kernel_rfl):Lp E n f k st o st':=lpOn st2 st2.live os hp h hr
theorem lpX {n f k:Nat} {st st':St} {o:Out} (hp:Owe os ps) (h:round DD (sem PP DD E.B0 E.Gd) (q3l PP f k) n st'.live st os=some (o,st',ps):=by kernel_rfl) (ho:o≠.norm:=by simp):Lp E n f k st o st':=lpOff st'.live os hp h ho
end
end Gev
namespace Gev
open Go Go.Proofs
variable {E:Env}
variable {o:Out} {t:St} {r0:RW} {i0 i1 i2 i3 i4 i5:Int}
section
variable (h1:Fn E y4z [.i i0] (.b false))
include h1
section
variable (h2:Fn E y4z [.i i1] (.b false))
include h2
theorem k2u (h3:i0<i1):Fn E X7 [.i i0,.i i1] (.i (-1)):=fnM (oF h1 (oF h2 (oT h3 oZ)))
theorem k2v (h3:¬ i0<i1)(h4:i0>i1):Fn E X7 [.i i0,.i i1] (.i 1):=fnM (oF h1 (oF h2 (oU h3 (oT h4 oZ))))
theorem k2w (h3:¬ i0<i1)(h4:¬ i0>i1):Fn E X7 [.i i0,.i i1] (.i 0):=fnM (oF h1 (oF h2 (oU h3 (oU h4 oZ))))
end
end
def z6t (i0:Int) (r0:RW) (i1 i2:Int):St:=stOf 18 [(3,.i i0),(6,.l r0),(7,.i i1),(8,.i i2)] []
def x2u (i3:Int):St:=stOf 18 [(2,.i i3)] []
def x2v (i0:Int):St:=stOf 18 [(3,.i i0)] []
theorem y3f (e1:IntKind.i64.wrap (i2+1)=i5)(h1:i2<i1)(h2:0≤i2)(h3:r0[(Int.toNat i2)]?=some [.i i4])(h4:i4=i0)(ih:Lp E 0 z0d 0 (z6t i0 r0 i1 i5) o t):Lp E 0 z0d 0 (z6t i0 r0 i1 i2) o t:=by subst e1;exact lpM (oT h1 (oP h2 (oD h3 (oC (bnF h4) oZ)))) ih
theorem y6w (h1:i2<i1)(h2:0≤i2)(h3:r0[(Int.toNat i2)]?=some [.i i4])(h4:¬ i4=i0):Lp E 0 z0d 0 (z6t i0 r0 i1 i2) .ret (x2u i4):=lpX (oT h1 (oP h2 (oD h3 (oB (bnT h4) oZ))))
theorem k0o (h1:¬ i2<i1):Lp E 0 z0d 0 (z6t i0 r0 i1 i2) (.exit 0) (x2v i0):=lpX (oU h1 oZ)
theorem k2x (h1:Lp E 0 z0d 0 (z6t 0 r0 (r0.length:Int) 0) .ret (x2u i0)):Fn E z0d [.l r0] (.i i0):=fnM (oL h1 oZ)
theorem q0v (h1:Lp E 0 z0d 0 (z6t 0 r0 (r0.length:Int) 0) (.exit 0) (x2v 0)):Fn E z0d [.l r0] (.i 0):=fnM (oL h1 oZ)
section
variable (h1:Fn E y0m [.w i0] (.b false))
include h1
section
variable (h2:Fn E y0m [.w i1] (.b false))
include h2
theorem x5j (h3:i0<i1):Fn E z0j [.w i0,.w i1] (.i (-1)):=fnM (oF h1 (oF h2 (oT h3 oZ)))
theorem x5k (h3:¬ i0<i1)(h4:i0>i1):Fn E z0j [.w i0,.w i1] (.i 1):=fnM (oF h1 (oF h2 (oU h3 (oT h4 oZ))))
theorem x5l (h3:¬ i0<i1)(h4:¬ i0>i1):Fn E z0j [.w i0,.w i1] (.i 0):=fnM (oF h1 (oF h2 (oU h3 (oU h4 oZ))))
end
end
theorem x2w (h1:i0=i0):Fn E y4z [.i i0] (.b false):=fnM (oC (bnF h1) oZ)
theorem y6x (h1:i0=i0):Fn E y0m [.w i0] (.b false):=fnM (oC (bnF h1) oZ)
end Gev
