/- A part of the proof: see the last text of this claim. -/
import Derived.Test.YtfjcadbekkfddaaGreatDoorA
import Derived.Laws.BytesString
import Derived.Laws.BytesArg
import Derived.Laws.StructEq
import Derived.Laws.IdiomCopy
import Derived.OrdersIn
import Derived.Orders
import Derived.Tactics
set_option linter.unusedSectionVars false
set_option linter.unusedVariables false
set_option linter.unusedSimpArgs false
namespace Gev
open Go
variable {D:Tab} {B0:Nat} {Gd:World→Prop} {P:Program}
theorem j8p (hT:TabOk P D) {Γ:Ctx} {t off:Nat} {cs:List DV} {v:AV} (h:y9e D t cs off=some v) {vs:Array Value} (hl:vs.size=cs.length)
    (hc:∀ (j:Nat) u d,vs[j]?=some u→cs[j]?=some d→RepD Γ.w Γ.own u d):∃ vc,(part t vs off).run P Γ.w=.ok vc Γ.w∧RepA D Γ vc v:=by
 unfold y9e at h
 cases hn:D.size t with
 | none=>rw [hn] at h;cases h
 | some n =>
  rw [hn] at h
  simp only at h
  by_cases hle:off+n≤cs.length
  · rw [if_pos hle] at h
    obtain ⟨i,hi,hin⟩:=hT.size hn
    by_cases ha:D.isAgg t=true
    · rw [if_pos ha] at h
      cases h
      refine ⟨.agg (vs.extract off (off+n)),?_,.agg _ _ ?_ ?_⟩
      · unfold part
        rw [Sem.run_bind,y1x hT hn]
        simp [ha,z4x hi,hin]
      · simp;omega
      · intro j u d hu hd
        rw [List.getElem?_take] at hd
        split at hd
        · rw [List.getElem?_drop] at hd
          rw [Array.getElem?_extract] at hu
          split at hu
          · exact hc _ u d hu hd
          · cases hu
        · cases hd
    · rw [if_neg ha] at h
      cases hd:cs[off]? with
      | none=>rw [hd] at h;cases h
      | some d =>
       rw [hd] at h
       cases h
       have hlt:off<vs.size:=by have:=(List.getElem?_eq_some_iff.1 hd).1;omega
       refine ⟨vs[off],?_,.c (hc off _ d (Array.getElem?_eq_getElem hlt) hd)⟩
       unfold part
       rw [Sem.run_bind,y1x hT hn]
       simp [ha,Array.getElem?_eq_getElem hlt]
  · rw [if_neg hle] at h;cases h
section
variable (hT:TabOk P D) (hs:Stable B0 Gd) {Γ:Ctx} (hG:Good D B0 Gd Γ) {ρ:Operand→AV} {ρc:Operand→Value} (hρ:∀ x,RepA D Γ (ρc x) (ρ x))
include hT hs hG hρ
theorem j8l {o:Oper} {t f:Nat} {x:Operand} {cs:List DV} {sz by':Nat} {zz:List DV} {fs:List (Nat × Nat)} {p:Nat × Nat} {v:AV} (ho:o.op=.field t x f) (hx:ρ x=.agg cs) (ht:D.ty t=some ⟨sz,by',.struct fs,zz⟩)
    (hp:fs[f]?=some p) (hv:y9e D p.2 cs p.1=some v):F4 P D B0 Gd Γ ((execOp ρc o).run P) (.val v [] []):=by
 obtain ⟨vs,h1,h2,h3⟩:=RepA.agg_inv (hx ▸ hρ x)
 obtain ⟨vc,h4,h5⟩:=j8p hT hv h2 h3
 obtain ⟨d,hu1,hu2⟩:=hT.und ht
 obtain ⟨fa,rfl,rfl⟩:=k0a hu2
 rw [List.getElem?_map] at hp
 cases hf:fa.toList[f]? with
 | none=>rw [hf] at hp;cases hp
 | some fd =>
  rw [hf] at hp
  cases hp
  refine C0 hG (vc:=vc) ?_ h5
  have hf':fa[f]?=some fd:=by simpa using hf
  simp [execOp,ho,Instr.field,run_underlying hu1,hf',h1,asAgg,h4]
theorem q8k {o:Oper} {t:Nat} {x y:Operand} {k:IntKind} {n:Int} {os:List Orc} {r:Eff × List Orc × List Prop} (ho:o.op=.index t x y) (hy:ρ y=.c (.int k n)) (h:k5p D t (ρ x) n os=some r) (hp:All r.2.2):F4 P D B0 Gd Γ ((execOp ρc o).run P) r.1:=by
 have hy':=RepA.int_inv (hy ▸ hρ y)
 have hx:=hρ x
 unfold k5p at h
 cases ht:D.ty t with
 | none=>rw [ht] at h;cases h
 | some tt =>
 obtain ⟨sz,by',u,zz⟩:=tt
 rw [ht] at h
 obtain ⟨d,hu1,hu2⟩:=hT.und ht
 generalize ρ x=av at h hx
 cases u with
 | str =>
  cases av with
  | c dv =>
   cases dv with
   | str s =>
    obtain ⟨_,os1,p1,b1,os2,q1,h1,h2,rfl⟩:=bind_some h
    cases G2 h1
    cases G7 h2
    have hb:0≤n∧n<s.size:=by simpa [All] using hp
    have hx':=RepA.str_inv hx
    cases j3l hu2
    refine C0 hG ?_ (.c (.int _ _))
    have hlt:n.toNat<s.size:=by omega
    have hb':s[n.toNat]?=some s[n.toNat]:=by simp [hlt]
    have e:(s.data.toList.getD n.toNat 0)=s[n.toNat]:=by
     rw [List.getD_eq_getElem?_getD,Array.getElem?_toList]
     have hlt':n.toNat<s.data.size:=hlt
     rw [Array.getElem?_eq_getElem hlt']
     rfl
    rw [e]
    simp [execOp,ho,Instr.index,run_underlying hu1,hx',hy',asIntOf,hb.1,hlt]
   | _=>cases h
  | _=>cases h
 | arr m e =>
  cases av with
  | agg cs =>
   simp only at h
   cases he:D.size e with
   | none=>rw [he] at h;cases h
   | some sz =>
   rw [he] at h
   obtain ⟨_,os1,p1,b1,os2,q1,h1,h2,rfl⟩:=bind_some h
   cases G2 h1
   obtain ⟨_,os3,p3,b3,os4,q3,h3,h4,e4⟩:=bind_some h2
   cases e4
   obtain ⟨v,h5,e5⟩:=G6 h3
   cases e5
   cases G7 h4
   have hb:0≤n∧n<m:=by simpa [All] using hp
   obtain ⟨vs,g1,g2,g3⟩:=RepA.agg_inv hx
   obtain ⟨vc,g4,g5⟩:=j8p hT h5 g2 g3
   cases q4g hu2
   obtain ⟨i,hi,hin⟩:=hT.size he
   refine C0 hG (vc:=vc) ?_ g5
   simp [execOp,ho,Instr.index,run_underlying hu1,g1,hy',asIntOf,hb.1,hb.2,z4x hi,hin,g4]
  | _=>cases h
 | _=>cases h
theorem z6e {o:Oper} {t e:Nat} {x y:Operand} {k:IntKind} {n:Int} {b:Addr} {len cap m:Nat} (ho:o.op=.indexAddr t x y) (hu:P.underlying t=some (.slice e)) (hx:ρc x=.slice (some b) len cap) (hy:ρc y=.int k n)(h0:0≤n) (hn:n<len) (hm:D.size e=some m) :
    (execOp ρc o).run P Γ.w=.ok (.value (.pointer (some (b.add (n.toNat*m))))) Γ.w:=by
 obtain ⟨i,hi,hin⟩:=hT.size hm
 simp [execOp,ho,Instr.indexAt,run_underlying hu,hx,hy,asIntOf,h0,hn,z4x hi,hin]
theorem j2i {xs:List (List DV)} {v:Value} (hv:RepD Γ.w Γ.own v (.list xs)) {i:Nat} {cs:List DV} (hi:xs[i]?=some cs) :
    ∃ a c,v=.slice (some a) xs.length c∧a.block<Γ.w.heap.size∧¬ Γ.own a.block∧∀ (j:Nat) d,cs[j]?=some d→∃ u,Γ.w.cell? ((a.add (i*cs.length)).add j)=some u∧RepD Γ.w Γ.own u d:=by
 cases hv with
 | list A c _ sz u hc hA hx2 hu hd =>
  obtain ⟨a,rfl,h1,h2⟩:=hA (by intro h0;simp [h0] at hi)
  have hsz:=hx2 cs (List.mem_of_getElem? hi)
  refine ⟨a,c,rfl,h1,h2,fun j d hj=>⟨u i j,?_,hd i cs j d hi hj⟩⟩
  rw [x2s,hsz]
  exact hu a i cs j d rfl hi hj
theorem j5j {o:Oper} {t:Nat} {x y:Operand} {k:IntKind} {n:Int} {os:List Orc} {r:Eff × List Orc × List Prop} (ho:o.op=.indexAddr t x y) (hy:ρ y=.c (.int k n)) (h:Y7 D (lk Γ.objs) t (ρ x) n os=some r) (hp:All r.2.2):F4 P D B0 Gd Γ ((execOp ρc o).run P) r.1:=by
 have hy':=RepA.int_inv (hy ▸ hρ y)
 have hx:=hρ x
 unfold Y7 at h
 cases ht:D.ty t with
 | none=>rw [ht] at h;cases h
 | some tt =>
 obtain ⟨sz,by',u,zz⟩:=tt
 rw [ht] at h
 obtain ⟨d,hu1,hu2⟩:=hT.und ht
 generalize ρ x=av at h hx
 cases u with
 | slice e =>
  have hu:=z1s hu2
  subst hu
  cases av with
  | c dv =>
   cases dv with
   | list xs =>
    obtain ⟨_,os1,p1,b1,os2,q1,h1,h2,rfl⟩:=bind_some h
    cases G2 h1
    obtain ⟨cs,os3,p3,b3,os4,q3,h3,h4,e4⟩:=bind_some h2
    cases e4
    obtain ⟨cs',os5,rfl,e5⟩:=x3c h3
    cases e5
    obtain ⟨_,os6,p6,b6,os7,q6,h6,h7,e7⟩:=bind_some h4
    cases e7
    obtain ⟨k6,e6⟩:=D3 h6
    cases e6
    cases G7 h7
    have hb:0≤n∧xs[n.toNat]?=some cs:=by simpa [All] using hp
    generalize hxv:ρc x=vx at hx
    cases hx with
    | c hd =>
     obtain ⟨a,c,rfl,g1,g2,g3⟩:=j2i hT hs hG hρ hd hb.2
     have hm:D.size e=some cs.length:=by simpa using k6
     have hlt:n<xs.length:=by have:=(List.getElem?_eq_some_iff.1 hb.2).1;omega
     exact C0 hG (z6e hT hs hG hρ ho hu1 hxv hy' hb.1 hlt hm) (.eptr _ _ (by rw [O7];exact g1) (by rw [O7];exact g2) g3)
   | _=>cases h
  | vec l len =>
   simp only at h
   cases hlv:lk Γ.objs l with
   | none=>rw [hlv] at h;cases h
   | some ob =>
   rw [hlv] at h
   cases ob with
   | vec e' ys =>
    obtain ⟨_,os1,p1,b1,os2,q1,h1,h2,rfl⟩:=bind_some h
    cases G2 h1
    obtain ⟨_,os6,p6,b6,os7,q6,h6,h7,e7⟩:=bind_some h2
    cases e7
    obtain ⟨k6,e6⟩:=D3 h6
    cases e6
    cases A2 h7
    have hb:0≤n∧n<len:=by simpa [All] using hp
    have k6':e'=e:=by simpa using k6
    subst k6'
    generalize hxv:ρc x=vx at hx
    cases hx with
    | vnil _ t' a1 a2=>simp at hb;omega
    | vec _ _ cap b t' ti xs arr a1 a2 a3 a4 a5 a6 a7 =>
     rw [hlv] at a1;cases a1
     have hm:D.size e'=some ti.size:=by simp [Tab.size,a2]
     have hr:=z6e hT hs hG hρ ho hu1 hxv hy' hb.1 hb.2 hm
     rw [add_plain,Nat.zero_add] at hr
     have:=RepA.vptr (D:=D) (Γ:=Γ) l n.toNat 0 b e' ti ys hlv a2 a3 (by omega)
     exact C0 hG hr this
    | fvec _ _ _ a1=>rw [hlv] at a1;cases a1
    | mvec _ _ _ _ _ _ _ _ a1=>rw [hlv] at a1;cases a1
    | mnil _ _ a1=>rw [hlv] at a1;cases a1
    | gone _ _ a1=>rw [hlv] at a1;cases a1
   | mat e' yss lent =>
    obtain ⟨_,os1,p1,b1,os2,q1,h1,h2,rfl⟩:=bind_some h
    cases G2 h1
    obtain ⟨_,os6,p6,b6,os7,q6,h6,h7,e7⟩:=bind_some h2
    cases e7
    obtain ⟨k6,e6⟩:=D3 h6
    cases e6
    cases A2 h7
    have hb:0≤n∧n<len:=by simpa [All] using hp
    have k6':e'=e:=by simpa using k6
    subst k6'
    obtain ⟨tt,_,_,m1,_,m3,_⟩:=hG.ob l _ hlv
    have hm:D.size e'=some 1:=by simp only [Tab.size,m1,m3]
    generalize hxv:ρc x=vx at hx
    cases hx with
    | mvec _ _ cap b t' xss' lent' arr a1 a2 a3 a4 a5 a6 =>
     rw [hlv] at a1;cases a1
     have hr:=z6e hT hs hG hρ ho hu1 hxv hy' hb.1 hb.2 hm
     rw [add_plain,Nat.zero_add,Nat.mul_one] at hr
     exact C0 hG hr (.mptr l n.toNat b e' _ _ hlv a2 (by omega))
    | mnil _ _ a1 a2=>simp at hb;omega
    | vnil _ _ a1=>rw [hlv] at a1;cases a1
    | vec _ _ _ _ _ _ _ _ a1=>rw [hlv] at a1;cases a1
    | fvec _ _ _ a1=>rw [hlv] at a1;cases a1
    | gone _ _ a1=>rw [hlv] at a1;cases a1
   | fro ys =>
    obtain ⟨_,os1,p1,b1,os2,q1,h1,h2,rfl⟩:=bind_some h
    cases G2 h1
    obtain ⟨cs,os3,p3,b3,os4,q3,h3,h4,e4⟩:=bind_some h2
    cases e4
    obtain ⟨cs',os5,rfl,e5⟩:=x3c h3
    cases e5
    obtain ⟨_,os6,p6,b6,os7,q6,h6,h7,e7⟩:=bind_some h4
    cases e7
    obtain ⟨k6,e6⟩:=D3 h6
    cases e6
    cases A2 h7
    have hb:(0≤n∧n<len)∧ys[n.toNat]?=some cs:=by simpa [All] using hp
    generalize hxv:ρc x=vx at hx
    cases hx with
    | vnil _ t' a1 a2=>rw [hlv] at a1;cases a1
    | vec _ _ cap b t' ti xs arr a1=>rw [hlv] at a1;cases a1
    | fvec _ _ _ a1 a2 a3 =>
     rw [hlv] at a1;cases a1
     have hi:(ys.take len)[n.toNat]?=some cs:=by rw [List.getElem?_take,if_pos (by omega)];exact hb.2
     obtain ⟨a,c,rfl,g1,g2,g3⟩:=j2i hT hs hG hρ a2 hi
     have hm:D.size e=some cs.length:=by simpa using k6
     have hlen:(ys.take len).length=len:=by simp;omega
     have hr:=z6e hT hs hG hρ ho hu1 hxv hy' hb.1.1 (by rw [hlen];exact hb.1.2) hm
     rw [← add_zero (a.add (n.toNat*cs.length))] at hr
     exact C0 hG hr (.fptr l n.toNat 0 _ ys cs hlv hb.2 (by rw [O7];exact g1) (by rw [O7];exact g2) g3)
    | mvec _ _ _ _ _ _ _ _ a1=>rw [hlv] at a1;cases a1
    | mnil _ _ a1=>rw [hlv] at a1;cases a1
    | gone _ _ a1=>rw [hlv] at a1;cases a1
   | _=>cases h
  | frow vs =>
   simp only at h
   obtain ⟨_,os1,p1,b1,os2,q1,h1,h2,rfl⟩:=bind_some h
   cases G2 h1
   obtain ⟨v,os3,p3,b3,os4,q3,h3,h4,e4⟩:=bind_some h2
   cases e4
   obtain ⟨v',h5,e5⟩:=G6 h3
   cases e5
   obtain ⟨_,os6,p6,b6,os7,q6,h6,h7,e7⟩:=bind_some h4
   cases e7
   obtain ⟨k6,e6⟩:=D3 h6
   cases e6
   cases G7 h7
   have hb:0≤n∧n<vs.length:=by simpa [All] using hp
   have hm:D.size e=some 1:=by simpa using k6
   generalize hxv:ρc x=vx at hx
   cases hx with
   | frow a m cap _ hs' ho' hl us hu hc hr =>
    have hr':=z6e hT hs hG hρ ho hu1 hxv hy' hb.1 (by omega) hm
    rw [Nat.mul_one] at hr'
    obtain ⟨u,hu2'⟩:∃ u,us[n.toNat]?=some u:=⟨us[n.toNat]'(by omega),List.getElem?_eq_getElem (by omega)⟩
    exact C0 hG hr' (.frp _ _ u (by rw [O7];exact hs') (by rw [O7];exact ho') (hc _ _ hu2') (hr _ _ _ hu2' h5))
  | _=>cases h
 | arr m e =>
  cases av with
  | ptr l off =>
   simp only at h
   cases he:D.size e with
   | none=>rw [he] at h;cases h
   | some sz =>
   rw [he] at h
   obtain ⟨_,os1,p1,b1,os2,q1,h1,h2,rfl⟩:=bind_some h
   cases G2 h1
   cases G7 h2
   have hb:0≤n∧n<m:=by simpa [All] using hp
   cases q4g hu2
   obtain ⟨i,hi,hin⟩:=hT.size he
   generalize hxv:ρc x=vx at hx
   cases hx with
   | ptr _ _ b cs a1 a2 =>
    refine C0 hG (vc:=.pointer (some ⟨b,off+n.toNat*sz,none⟩)) ?_ (.ptr l _ b cs a1 a2)
    rw [← add_plain]
    simp [execOp,ho,Instr.indexAt,run_underlying hu1,hxv,hy',asIntOf,Instr.sureAddr,hb.1,hb.2,z4x hi,hin]
  | _=>cases h
 | _=>cases h
end
end Gev
namespace Gev
open Go
variable {D:Tab} {B0:Nat} {Gd:World→Prop} {P:Program}
theorem x3l {k:IntKind} {n:Int} {y:Nat} {code:BoundsCode} (w:World)(h0:0≤n)(h1:n≤y):(Instr.sliceBound (.int k n) y code).run P w=.ok n.toNat w:=by
 simp [Instr.sliceBound,asIntOf,h0,h1]
def z4j (o:Option Operand) (ρc:Operand→Value):Option Int→Prop
 | none=>o=none
 | some n=>∃ x k,o=some x∧ρc x=.int k n
theorem k7m {Γ:Ctx} {ρ:Operand→AV} {ρc:Operand→Value} (hρ:∀ x,RepA D Γ (ρc x) (ρ x)) {o:Option Operand} {b:Option Int} (h:q1m (o.map ρ)=some b):z4j o ρc b:=by
 cases o with
 | none=>cases h;rfl
 | some x =>
  simp only [Option.map_some] at h
  have hx:=hρ x
  generalize ρ x=av at h hx
  cases av with
  | c d =>
   cases d with
   | int k n=>cases h;exact ⟨x,k,rfl,RepA.int_inv hx⟩
   | _=>cases h
  | _=>cases h
theorem k8s {o1 o2:Option Operand} {ρc:Operand→Value} {lo hi:Option Int} (h1:z4j o1 ρc lo)(h2:z4j o2 ρc hi) (isS:Bool) {len cap:Nat} (w:World)
    (hb:0≤lo.getD 0∧lo.getD 0≤hi.getD len∧hi.getD len≤cap) :
    (Instr.sliceBounds isS len cap (o1.map ρc) (o2.map ρc) none).run P w=.ok ((lo.getD 0).toNat,(hi.getD len).toNat,cap) w:=by
 unfold Instr.sliceBounds
 cases lo with
 | none =>
  cases h1
  cases hi with
  | none=>cases h2;simp
  | some n =>
   obtain ⟨x,k,rfl,hx⟩:=h2
   simp only [Option.getD_some,Option.getD_none] at hb
   simp [hx,x3l (P:=P) w (k:=k) (n:=n) (y:=cap) (by omega) (by omega)]
 | some m =>
  obtain ⟨x1,k1,rfl,hx1⟩:=h1
  cases hi with
  | none =>
   cases h2
   simp only [Option.getD_some,Option.getD_none] at hb
   simp [hx1,x3l (P:=P) w (k:=k1) (n:=m) (y:=len) (by omega) (by omega)]
  | some n =>
   obtain ⟨x,k,rfl,hx⟩:=h2
   simp only [Option.getD_some] at hb
   simp [hx,hx1,x3l (P:=P) w (k:=k) (n:=n) (y:=cap) (by omega) (by omega),x3l (P:=P) w (k:=k1) (n:=m) (y:=n.toNat) (by omega) (by omega)]
theorem Z1 {o:Oper} {ρc:Operand→Value} {t e:Nat} {x:Operand} {o1 o2:Option Operand} {A:Option Addr} {len cap m:Nat} {lo hi:Option Int} {w:World} {i:TypeInfo} (ho:o.op=.slice t x o1 o2 none) (hu:P.underlying t=some (.slice e)) (hx:ρc x=.slice A len cap)
    (hi':P.info? e=some i) (hm:i.size=m)(h1:z4j o1 ρc lo)(h2:z4j o2 ρc hi) (hb:0≤lo.getD 0∧lo.getD 0≤hi.getD len∧hi.getD len≤cap) :
    (execOp ρc o).run P w=.ok (.value (.slice (if cap=(lo.getD 0).toNat then A else A.map (·.add ((lo.getD 0).toNat*m))) ((hi.getD len).toNat-(lo.getD 0).toNat) (cap-(lo.getD 0).toNat))) w:=by
 have:=k8s (P:=P) h1 h2 true (len:=len) (cap:=cap) w hb
 simp [execOp,ho,Instr.sliceAt,Instr.slice,run_underlying hu,hx,this,z4x hi',hm]
theorem x9s {w:World} {own:Nat→Prop} {A:Option Addr} {n c m:Nat} {xs:List (List DV)} (h:RepD w own (.slice A n c) (.list xs)) (hx:∀ x∈xs,x.length=m) {lo hi:Nat} (h1:lo≤hi)(h2:hi≤xs.length) :
    RepD w own (.slice (if c=lo then A else A.map (·.add (lo*m))) (hi-lo) (c-lo)) (.list ((xs.take hi).drop lo)):=by
 cases h with
 | list _ _ _ sz u hc hA hx2 hu hd =>
  have hlen:((xs.take hi).drop lo).length=hi-lo:=by simp;omega
  have get:∀ {i:Nat} {x:List DV},((xs.take hi).drop lo)[i]?=some x→xs[lo+i]?=some x:=by
   intro i x hi'
   rw [List.getElem?_drop,List.getElem?_take] at hi'
   split at hi'
   · exact hi'
   · cases hi'
  have key:=RepD.list (w:=w) (own:=own) (if c=lo then A else A.map (·.add (lo*m))) (c-lo) ((xs.take hi).drop lo) sz (fun i j=>u (lo+i) j) (by omega) ?_ (fun x hx=>hx2 x (List.mem_of_mem_take (List.mem_of_mem_drop hx))) ?_ (fun i x j d h3 h4=>hd _ _ _ _ (get h3) h4)
  · rw [hlen] at key;exact key
  · intro hne
    have hpos:0<hi-lo:=by rw [← hlen];exact List.length_pos_iff.2 hne
    obtain ⟨a,rfl,g1,g2⟩:=hA (by intro h0;simp [h0] at h2;omega)
    rw [if_neg (by omega)]
    exact ⟨_,rfl,by rw [O7];exact g1,by rw [O7];exact g2⟩
  · intro a i x j d e hi' hj
    have hx3:=get hi'
    have hlt:=(List.getElem?_eq_some_iff.1 hx3).1
    rw [if_neg (by omega)] at e
    cases A with
    | none=>cases e
    | some a0 =>
     cases e
     rw [x2s]
     have hm:m=sz:=by rw [← hx x (List.mem_of_getElem? hx3),hx2 x (List.mem_of_getElem? hx3)]
     rw [hm,← Nat.add_assoc,← Nat.add_mul]
     exact hu a0 _ _ _ _ rfl hx3 hj
section
variable (hT:TabOk P D) (hs:Stable B0 Gd) {Γ:Ctx} (hG:Good D B0 Gd Γ) {ρ:Operand→AV} {ρc:Operand→Value} (hρ:∀ x,RepA D Γ (ρc x) (ρ x))
include hT hs hG hρ
theorem k1c {o:Oper} {t:Nat} {x:Operand} {o1 o2:Option Operand} {lo hi:Option Int} {os:List Orc} {r:Eff × List Orc × List Prop} (ho:o.op=.slice t x o1 o2 none)(h1:z4j o1 ρc lo)(h2:z4j o2 ρc hi) (h:z3s D (lk Γ.objs) t (ρ x) lo hi os=some r) (hp:All r.2.2):F4 P D B0 Gd Γ ((execOp ρc o).run P) r.1:=by
 have hx:=hρ x
 unfold z3s at h
 cases ht:D.ty t with
 | none=>rw [ht] at h;cases h
 | some tt =>
 obtain ⟨sz,by',u,zz⟩:=tt
 rw [ht] at h
 obtain ⟨d,hu1,hu2⟩:=hT.und ht
 generalize ρ x=av at h hx
 cases u with
 | str =>
  cases av with
  | c dv =>
   cases dv with
   | str s =>
    obtain ⟨_,os1,p1,b1,os2,q1,h3,h4,rfl⟩:=bind_some h
    cases G2 h3
    cases G7 h4
    have hb:0≤lo.getD 0∧lo.getD 0≤hi.getD s.size∧hi.getD s.size≤s.size:=by simpa [All] using hp
    have hx':=RepA.str_inv hx
    cases j3l hu2
    refine C0 hG ?_ (.c (.str _))
    have:=k8s (P:=P) h1 h2 false (len:=s.size) (cap:=s.size) Γ.w hb
    simp [execOp,ho,Instr.sliceAt,Instr.slice,run_underlying hu1,hx',this]
   | _=>cases h
  | _=>cases h
 | slice e =>
  have hu:=z1s hu2
  subst hu
  cases av with
  | c dv =>
   cases dv with
   | list xs =>
    simp only at h
    cases he:D.size e with
    | none=>rw [he] at h;cases h
    | some m =>
    rw [he] at h
    obtain ⟨i,hi',him⟩:=hT.size he
    obtain ⟨_,os1,p1,b1,os2,q1,h3,h4,rfl⟩:=bind_some h
    cases G2 h3
    cases G7 h4
    have hb:0≤lo.getD 0∧lo.getD 0≤hi.getD xs.length∧hi.getD xs.length≤xs.length∧∀ x∈xs,x.length=m:=hp
    generalize hxv:ρc x=vx at hx
    cases hx with
    | c hd =>
     have hd0:=hd
     cases hd with
     | list A c _ sz u hc hA hx2 hu hdd =>
      have hr:=Z1 (w:=Γ.w) ho hu1 hxv hi' him h1 h2 ⟨hb.1,hb.2.1,by omega⟩
      exact C0 hG hr (.c (x9s hd0 hb.2.2.2 (by omega) (by omega)))
   | _=>cases h
  | vec l len =>
   simp only at h
   cases he:D.size e with
   | none=>rw [he] at h;cases h
   | some m =>
   rw [he] at h
   obtain ⟨i,hi',him⟩:=hT.size he
   simp only at h
   cases lo with
   | none =>
    cases hlv:lk Γ.objs l with
    | none=>rw [hlv] at h;cases h
    | some ob =>
    rw [hlv] at h
    cases ob with
    | vec e' ys =>
     obtain ⟨_,os1,p1,b1,os2,q1,h3,h4,rfl⟩:=bind_some h
     cases G2 h3
     cases A2 h4
     have hb:0≤hi.getD len∧hi.getD len≤len:=by simpa [All] using hp
     generalize hxv:ρc x=vx at hx
     cases hx with
     | vnil _ t' a1 a2 =>
      have hr:=Z1 (w:=Γ.w) ho hu1 hxv hi' him h1 h2 (by simp only [Option.getD_none];omega)
      simp only [Option.getD_none,Int.toNat_zero,if_pos,Nat.sub_zero] at hr
      have e0:(hi.getD ((0:Nat):Int)).toNat=0:=by omega
      rw [e0] at hr
      refine C0 hG hr ?_
      simp only [e0]
      exact .vnil l t' a1 a2
     | vec _ _ cap b t' ti xs arr a1 a2 a3 a4 a5 a6 a7 =>
      rw [hlv] at a1;cases a1
      have hr:=Z1 (w:=Γ.w) ho hu1 hxv hi' him h1 h2 (by simp only [Option.getD_none];omega)
      simp only [Option.getD_none,Int.toNat_zero,Nat.sub_zero,Nat.zero_mul,Option.map_some,add_zero,ite_self] at hr
      exact C0 hG hr (.vec l _ cap b e' ti ys arr hlv a2 a3 (by omega) a5 a6 a7)
     | fvec _ _ _ a1=>rw [hlv] at a1;cases a1
     | mvec _ _ _ _ _ _ _ _ a1=>rw [hlv] at a1;cases a1
     | mnil _ _ a1=>rw [hlv] at a1;cases a1
     | gone _ _ a1=>rw [hlv] at a1;cases a1
    | fro ys =>
     obtain ⟨_,os1,p1,b1,os2,q1,h3,h4,rfl⟩:=bind_some h
     cases G2 h3
     cases A2 h4
     have hb:0≤hi.getD len∧hi.getD len≤len:=by simpa [All] using hp
     generalize hxv:ρc x=vx at hx
     cases hx with
     | vnil _ t' a1 a2=>rw [hlv] at a1;cases a1
     | vec _ _ cap b t' ti xs arr a1=>rw [hlv] at a1;cases a1
     | fvec _ _ _ a1 a2 a3 =>
      rw [hlv] at a1;cases a1
      have hlen:(ys.take len).length=len:=by simp;omega
      have hd0:=a2
      generalize hzs:ys.take len=zs at a2
      cases a2 with
      | list A c _ sz u hc hA hx2 hu hdd =>
       rw [hzs] at hlen hd0
       have hr:=Z1 (w:=Γ.w) ho hu1 hxv hi' him h1 h2 (by simp only [Option.getD_none];rw [hlen];omega)
       simp only [Option.getD_none,Int.toNat_zero,Nat.sub_zero,Nat.zero_mul,hlen] at hr
       have hsub:RepD Γ.w Γ.own _ _:=x9s hd0 (m:=sz) hx2 (lo:=0) (hi:=(hi.getD len).toNat) (Nat.zero_le _) (by omega)
       simp only [Nat.sub_zero,List.drop_zero,Nat.zero_mul] at hsub
       rw [← hzs,List.take_take,Nat.min_eq_left (by omega)] at hsub
       exact C0 hG hr (.fvec l _ ys hlv hsub (by omega))
     | mvec _ _ _ _ _ _ _ _ a1=>rw [hlv] at a1;cases a1
     | mnil _ _ a1=>rw [hlv] at a1;cases a1
     | gone _ _ a1=>rw [hlv] at a1;cases a1
    | _=>cases h
   | some lo =>
    simp only at h
    cases hlv:lk Γ.objs l with
    | none=>rw [hlv] at h;cases h
    | some ob =>
    rw [hlv] at h
    cases ob with
    | vec e' ys =>
     obtain ⟨_,os6,p6,b6,os7,q6,h6,h7,rfl⟩:=bind_some h
     obtain ⟨k6,e6⟩:=D3 h6
     cases e6
     obtain ⟨_,os1,p1,b1,os2,q1,h3,h4,e7⟩:=bind_some h7
     cases e7
     cases G2 h3
     cases A2 h4
     have k6':e'=e:=by simpa using k6
     subst k6'
     have hb:0≤lo∧lo≤hi.getD len∧hi.getD len≤len:=by simpa [All] using hp
     obtain ⟨f1,f2⟩:=q0y hG hlv
     have hob:=hG.ob l _ hlv
     generalize hxv:ρc x=vx at hx
     have hx3:=f2.rep hx
     cases hx with
     | vnil _ t' a1 a2 =>
      rw [hlv] at a1;cases a1
      have hr:=Z1 (w:=Γ.w) ho hu1 hxv hi' him h1 h2 (by simp only [Option.getD_some];omega)
      simp only [Option.getD_some] at hr
      have e0:(hi.getD ((0:Nat):Int)).toNat=0:=by omega
      have e1:lo.toNat=0:=by omega
      rw [e0,e1] at hr
      simp only [Nat.sub_self,if_pos] at hr
      refine ⟨_,Γ.S,Γ.w,.inl hr,f1,f2,?_⟩
      simp only [List.take_nil,List.drop_nil]
      exact .c (y6w _ _)
     | vec _ _ cap b t' ti xs arr a1 a2 a3 a4 a5 a6 a7 =>
      rw [hlv] at a1;cases a1
      have hr:=Z1 (w:=Γ.w) ho hu1 hxv hi' him h1 h2 (by simp only [Option.getD_some];omega)
      simp only [Option.getD_some] at hr
      have hm:m=ti.size:=by simp [Tab.size,a2] at he;exact he.symm
      have hno:=x0r hG hlv a3 ys
      have hrep:=q0j (Γ:=Γ) (own:=(Γ.put l (.fro ys) Γ.w).own) (fun v d hv=>f2.repD hv) hob a2 a3 hno a4 a5 a6 a7
      have hsub:=x9s hrep (m:=m) (fun x hx=>by
       obtain ⟨ti',q0,q1,_⟩:=hob
       rw [a2] at q0;cases q0
       rw [hm]
       exact q1 x (List.mem_of_mem_take hx)) (lo:=lo.toNat) (hi:=(hi.getD len).toNat) (by omega) (by simp;omega)
      rw [List.take_take,Nat.min_eq_left (by omega)] at hsub
      exact ⟨_,Γ.S,Γ.w,.inl hr,f1,f2,.c hsub⟩
     | fvec _ _ _ a1=>rw [hlv] at a1;cases a1
     | mvec _ _ _ _ _ _ _ _ a1=>rw [hlv] at a1;cases a1
     | mnil _ _ a1=>rw [hlv] at a1;cases a1
     | gone _ _ a1=>rw [hlv] at a1;cases a1
    | fro ys =>
     obtain ⟨_,os1,p1,b1,os2,q1,h3,h4,rfl⟩:=bind_some h
     cases G2 h3
     cases A2 h4
     have hb:0≤lo∧lo≤hi.getD len∧hi.getD len≤len∧∀ x∈ys.take len,x.length=m:=hp
     generalize hxv:ρc x=vx at hx
     cases hx with
     | vnil _ t' a1 a2=>rw [hlv] at a1;cases a1
     | vec _ _ cap b t' ti xs arr a1=>rw [hlv] at a1;cases a1
     | fvec _ _ _ a1 a2 a3 =>
      rw [hlv] at a1;cases a1
      have hlen:(ys.take len).length=len:=by simp;omega
      have hd0:=a2
      generalize hzs:ys.take len=zs at a2
      cases a2 with
      | list A c _ sz u hc hA hx2 hu hdd =>
       have hb4:=hb.2.2.2
       rw [hzs] at hlen hd0 hb4
       have hr:=Z1 (w:=Γ.w) ho hu1 hxv hi' him h1 h2 (by simp only [Option.getD_some];rw [hlen];omega)
       simp only [Option.getD_some,hlen] at hr
       have hsub:=x9s hd0 (m:=m) hb4 (lo:=lo.toNat) (hi:=(hi.getD len).toNat) (by omega) (by omega)
       rw [← hzs,List.take_take,Nat.min_eq_left (by omega)] at hsub
       exact C0 hG hr (.c hsub)
     | mvec _ _ _ _ _ _ _ _ a1=>rw [hlv] at a1;cases a1
     | mnil _ _ a1=>rw [hlv] at a1;cases a1
     | gone _ _ a1=>rw [hlv] at a1;cases a1
    | _=>cases h
  | _=>cases h
 | _=>cases h
theorem v1o {o:Oper} {t:Nat} {x:Operand} {o1 o2:Option Operand} {lo hi:Option Int} {os:List Orc} {r:Eff × List Orc × List Prop} (ho:o.op=.slice t x o1 o2 none)(h1:z4j o1 ρc lo)(h2:z4j o2 ρc hi) (h:x3a D (lk Γ.objs) t (ρ x) lo hi os=some r) (hp:All r.2.2):F4 P D B0 Gd Γ ((execOp ρc o).run P) r.1:=by
 have hx:=hρ x
 unfold x3a at h
 cases ht:D.ty t with
 | none=>rw [ht] at h;cases h
 | some tt =>
 obtain ⟨sz,by',u,zz⟩:=tt
 rw [ht] at h
 obtain ⟨d,hu1,hu2⟩:=hT.und ht
 generalize ρ x=av at h hx
 cases u with
 | slice e =>
  have hu:=z1s hu2
  subst hu
  cases av with
  | vec l len =>
   cases lo with
   | none=>cases h
   | some lo =>
    simp only at h
    cases hlv:lk Γ.objs l with
    | none=>rw [hlv] at h;cases h
    | some ob =>
    rw [hlv] at h
    cases ob with
    | vec e' ys =>
     cases he:D.ty e with
     | none=>rw [he] at h;cases h
     | some ti =>
     rw [he] at h
     obtain ⟨_,os1,p1,b1,os2,q1,h3,h4,rfl⟩:=bind_some h
     obtain ⟨k1,e1⟩:=D3 h3
     cases e1
     obtain ⟨_,os3,p3,b3,os4,q3,h5,h6,e2⟩:=bind_some h4
     cases e2
     cases G2 h5
     cases A2 h6
     have hb:0≤lo∧lo≤hi.getD len∧hi.getD len≤len:=by simpa [All] using hp
     have k1':e'=e:=by simpa using k1
     subst k1'
     obtain ⟨i,hi',him,_⟩:=hT.info he
     generalize hxv:ρc x=vx at hx
     cases hx with
     | vnil _ t' a1 a2 =>
      have hr:=Z1 (w:=Γ.w) ho hu1 hxv hi' him h1 h2 (by simp only [Option.getD_some];omega)
      have e0:(hi.getD ((0:Nat):Int)).toNat=0:=by omega
      simp only [Option.getD_some,e0] at hr
      refine C0 hG hr ?_
      simp only [e0]
      exact .vtl _ l _ 0 ti he (.vnil l t' a1 a2) (by omega) rfl
     | vec _ _ cap b t' ti' xs arr a1 a2 a3 a4 a5 a6 a7 =>
      rw [hlv] at a1;cases a1
      have hr:=Z1 (w:=Γ.w) ho hu1 hxv hi' him h1 h2 (by simp only [Option.getD_some];omega)
      simp only [Option.getD_some] at hr
      exact C0 hG hr (.vtl _ l _ _ ti he (.vec l (hi.getD len).toNat cap b _ ti' ys arr hlv a2 a3 (by omega) a5 a6 a7) (by omega) rfl)
     | fvec _ _ _ a1=>rw [hlv] at a1;cases a1
     | mvec _ _ _ _ _ _ _ _ a1=>rw [hlv] at a1;cases a1
     | mnil _ _ a1=>rw [hlv] at a1;cases a1
     | gone _ _ a1=>rw [hlv] at a1;cases a1
    | _=>cases h
  | _=>cases h
 | _=>cases h
theorem q8o {o:Oper} {t:Nat} {x:Operand} {o1 o2:Option Operand} {lo hi:Option Int} {os:List Orc} {r:Eff × List Orc × List Prop} (ho:o.op=.slice t x o1 o2 none)(h1:z4j o1 ρc lo)(h2:z4j o2 ρc hi) (h:y5w D (lk Γ.objs) t (ρ x) lo hi os=some r) (hp:All r.2.2):F4 P D B0 Gd Γ ((execOp ρc o).run P) r.1:=by
 unfold y5w at h
 cases os with
 | nil=>exact k1c hT hs hG hρ ho h1 h2 h hp
 | cons q os =>
  cases q with
  | tl =>
   simp only at h
   cases hc:lo.isSome && (ρ x).isRow with
   | true=>rw [hc] at h;exact v1o hT hs hG hρ ho h1 h2 h hp
   | false=>rw [hc] at h;exact k1c hT hs hG hρ ho h1 h2 h hp
  | _=>exact k1c hT hs hG hρ ho h1 h2 h hp
theorem q1j {o:Oper} {src dst:Nat} {x:Operand} {os:List Orc} {r:Eff × List Orc × List Prop} (ho:o.op=.convert src dst x) (h:z2r D (lk Γ.objs) src dst (ρ x) os=some r) (hp:All r.2.2):F4 P D B0 Gd Γ ((execOp ρc o).run P) r.1:=by
 have hx:=hρ x
 unfold z2r at h
 cases ht:D.ty src with
 | none=>rw [ht] at h;cases h
 | some tt =>
 cases ht2:D.ty dst with
 | none=>rw [ht,ht2] at h;cases h
 | some tt2 =>
 obtain ⟨sz,by',u,zz⟩:=tt
 obtain ⟨sz2,by2,u2,zz2⟩:=tt2
 rw [ht,ht2] at h
 obtain ⟨d,hu1,hu2⟩:=hT.und ht
 obtain ⟨d2,hv1,hv2⟩:=hT.und ht2
 have bytes:∀ e,u=.slice e→u2=.str→(match D.ty e,z0j (lk Γ.objs) (ρ x) with
     | some ⟨_,_,.int .u8,_⟩,some (xs,r)=>do
      need (∀ x∈xs,x0e x)
      pure (Eff.val (.c (.str ⟨(xs.map y7n).toArray⟩)) [] r)
     | _,_=>(fail:M Eff)) os=some r→F4 P D B0 Gd Γ ((execOp ρc o).run P) r.1:=by
  rintro e rfl rfl h
  cases he:D.ty e with
  | none=>rw [he] at h;cases h
  | some te =>
  cases hr:z0j (lk Γ.objs) (ρ x) with
  | none =>
   rw [he,hr] at h
   obtain ⟨_,_,ue,_⟩:=te
   cases ue with
   | int k=>cases k <;> cases h
   | _=>cases h
  | some yr =>
  obtain ⟨ys,rr⟩:=yr
  rw [he,hr] at h
  obtain ⟨sze,bye,ue,zze⟩:=te
  cases ue with
  | int k =>
   cases k with
   | u8 =>
    obtain ⟨_,os1,p1,b1,os2,q1,h3,h4,rfl⟩:=bind_some h
    cases G2 h3
    cases A2 h4
    have hb:∀ x∈ys,x0e x:=hp
    obtain ⟨de,hw1,hw2⟩:=hT.und he
    cases v0d hw2
    cases z1s hu2
    cases j3l hv2
    have hone:∀ y∈ys,y.length=1:=by
     intro y hy
     have:=hb y hy
     unfold x0e at this
     split at this
     · rfl
     · cases this
    obtain ⟨A,c,hxv,hne⟩:=k8q hG hr hx (sz:=1) (by omega) hone
    refine C0 hG ?_ (.c (.str _))
    simp only [execOp,ho]
    rw [Sem.run_bind,hxv,run_convert_bytes_string Γ.w src dst e A _ c hu1 hw1 hv1]
    by_cases hy:ys=[]
    · subst hy
      cases A with
      | none=>simp [Conv.bytesToString];rfl
      | some a=>simp [Conv.bytesToString,loadCells,loadCellsFrom];rfl
    · obtain ⟨a,rfl,news,g1,g2⟩:=hne hy
      have hf:∀ j,j<ys.length→Γ.w.cell? (a.add j)=some (Value.int .u8 ((y7n (ys.getD j [])).toNat:Int))∨True:=fun _ _=>.inr trivial
      let ns:List Int:=ys.map fun y=>match y with | [.int .u8 n]=>n | _=>0
      have hcell:∀ j,j<ys.length→Γ.w.cell? (a.add j)=some ((ns.map (Value.int .u8)).getD j undef):=by
       intro j hj
       have hjn:j<news.length:=by omega
       obtain ⟨y,d,k1,k2,k3,k4⟩:=g2 j news[j] (List.getElem?_eq_getElem hjn)
       rw [Nat.div_one] at k1
       rw [Nat.mod_one] at k2
       have hby:=hb y (List.mem_of_getElem? k1)
       unfold x0e at hby
       split at hby
       · rename_i n
         cases k2
         rw [k3]
         generalize news[j]=nj at k4
         cases k4
         simp [ns,List.getD_eq_getElem?_getD,k1]
       · cases hby
      have hload:(loadCells a ys.length).run P Γ.w=.ok (ns.map (Value.int .u8)).toArray Γ.w:=by
       rw [run_loadCells _ _ _ _ hcell]
       congr 2
       apply List.ext_getElem
       · simp [ns]
       · intro j h1 h2
         simp [ns] at h1 h2 ⊢
         rw [List.getElem?_eq_getElem (by omega)]
         rfl
      rw [run_bytesToString Γ.w a ys.length c ns hload,foldl_push_bytes]
      simp only [Result.andThen_ok]
      have e:(ByteArray.empty.data++(ns.map fun n=>UInt8.ofNat n.toNat).toArray)=(ys.map y7n).toArray:=by
       have:(ns.map fun n=>UInt8.ofNat n.toNat)=ys.map y7n:=by
        simp only [ns,List.map_map]
        apply List.map_congr_left
        intro y hy
        have hby:=hb y hy
        unfold x0e at hby
        split at hby
        · simp [y7n]
        · cases hby
       rw [this]
       show (#[]:Array UInt8)++_=_
       simp
      rw [e]
      rfl
   | _=>cases h
  | _=>cases h
 cases u2 with
 | int k =>
  have key:∀ n k',ρ x=.c (.int k' n)→(val (.c (.int k (k.wrap n))):M Eff) os=some r→F4 P D B0 Gd Γ ((execOp ρc o).run P) r.1:=by
   intro n k' hx' h
   cases G7 h
   have hv:=RepA.int_inv (hx' ▸ hx)
   cases v0d hv2
   refine C0 hG (vc:=.int k (k.wrap n)) ?_ (.c (.int _ _))
   simp [execOp,ho,convert,run_underlying hu1,run_underlying hv1,hv,Conv.intToInt]
  generalize hxa:ρ x=av at h
  cases av with
  | c dv =>
   cases dv with
   | int k' n=>exact key n k' hxa (by cases u <;> exact h)
   | _=>cases u <;> cases h
  | _=>cases u <;> cases h
 | str =>
  have key:∀ s,ρ x=.c (.str s)→(val (.c (.str s)):M Eff) os=some r→F4 P D B0 Gd Γ ((execOp ρc o).run P) r.1:=by
   intro s hx' h
   cases G7 h
   have hv:=RepA.str_inv (hx' ▸ hx)
   cases j3l hv2
   refine C0 hG (vc:=.string s) ?_ (.c (.str _))
   simp [execOp,ho,convert,run_underlying hu1,run_underlying hv1,hv]
  generalize hxa:ρ x=av at h bytes
  cases av with
  | c dv =>
   cases dv with
   | str s=>exact key s hxa (by cases u <;> exact h)
   | _ =>
    cases u with
    | slice e=>exact bytes e rfl rfl h
    | _=>cases h
  | _ =>
   cases u with
   | slice e=>exact bytes e rfl rfl h
   | _=>cases h
 | _ =>
  generalize hxa:ρ x=av at h
  cases av with
  | c dv=>cases dv <;> cases u <;> cases h
  | _=>cases u <;> cases h
end
end Gev
namespace Gev
open Go
variable {D:Tab} {B0:Nat} {Gd:World→Prop} {P:Program}
section
variable (hT:TabOk P D) (hs:Stable B0 Gd) {Γ:Ctx} (hG:Good D B0 Gd Γ) {ρ:Operand→AV} {ρc:Operand→Value} (hρ:∀ x,RepA D Γ (ρc x) (ρ x))
include hT hs hG hρ
theorem q9m {op:BinOp} {k:IntKind} {a b:Int} {os:List Orc} {r:DV × List Orc × List Prop} (h:binI op k a b os=some r) (hp:All r.2.2) (t:TypeId)(h1:op≠.shl)(h2:op≠.shr) :
    ∃ vc,(binOp op t (.int k a) (.int k b)).run P Γ.w=.ok vc Γ.w∧RepA D Γ vc (.c r.1):=by
 cases op with
 | shl=>exact absurd rfl h1
 | shr=>exact absurd rfl h2
 | add=>cases A2 h;exact ⟨_,by simp [binOp,Op.intArith] <;> rfl,.c (.int _ _)⟩
 | sub=>cases A2 h;exact ⟨_,by simp [binOp,Op.intArith] <;> rfl,.c (.int _ _)⟩
 | mul=>cases A2 h;exact ⟨_,by simp [binOp,Op.intArith] <;> rfl,.c (.int _ _)⟩
 | quo =>
  obtain ⟨_,os1,p1,b1,os2,q1,h3,h4,rfl⟩:=bind_some h
  cases G2 h3
  cases A2 h4
  have hb:b≠0:=by simpa [All] using hp
  exact ⟨_,by simp [binOp,Op.intDiv,hb] <;> rfl,.c (.int _ _)⟩
 | rem =>
  obtain ⟨_,os1,p1,b1,os2,q1,h3,h4,rfl⟩:=bind_some h
  cases G2 h3
  cases A2 h4
  have hb:b≠0:=by simpa [All] using hp
  exact ⟨_,by simp [binOp,Op.intDiv,hb] <;> rfl,.c (.int _ _)⟩
 | and=>cases A2 h;exact ⟨_,by simp [binOp,Op.intBits] <;> rfl,.c (.int _ _)⟩
 | or=>cases A2 h;exact ⟨_,by simp [binOp,Op.intBits] <;> rfl,.c (.int _ _)⟩
 | eql=>cases A2 h;exact ⟨_,by simp [binOp,Op.intCmp] <;> rfl,.c (.bool _)⟩
 | neq=>cases A2 h;exact ⟨_,by simp [binOp,Op.intCmp] <;> rfl,.c (.bool _)⟩
 | lss=>cases A2 h;exact ⟨_,by simp [binOp,Op.intCmp] <;> rfl,.c (.bool _)⟩
 | leq=>cases A2 h;exact ⟨_,by simp [binOp,Op.intCmp] <;> rfl,.c (.bool _)⟩
 | gtr=>cases A2 h;exact ⟨_,by simp [binOp,Op.intCmp] <;> rfl,.c (.bool _)⟩
 | geq=>cases A2 h;exact ⟨_,by simp [binOp,Op.intCmp] <;> rfl,.c (.bool _)⟩
 | _=>cases h
theorem q9n {op:BinOp} {a b:ByteArray} {os:List Orc} {r:DV × List Orc × List Prop} (h:binS op a b os=some r) (hp:All r.2.2) (t:TypeId) :
    ∃ vc,(binOp op t (.string a) (.string b)).run P Γ.w=.ok vc Γ.w∧RepA D Γ vc (.c r.1):=by
 cases op with
 | add =>
  obtain ⟨_,os1,p1,b1,os2,q1,h3,h4,rfl⟩:=bind_some h
  cases G2 h3
  cases A2 h4
  have hb:a.size+b.size≤9223372036854775807:=by simpa [All] using hp
  have hb':¬ ((9223372036854775807:Int)<(a.size:Int)+(b.size:Int)):=by omega
  have hm:IntKind.i64.max=9223372036854775807:=by decide
  exact ⟨.string (a++b),by simp [binOp,Op.stringOp,hm,hb'] <;> omega,.c (.str _)⟩
 | eql=>cases A2 h;exact ⟨_,by simp [binOp,Op.stringOp] <;> rfl,.c (.bool _)⟩
 | neq=>cases A2 h;exact ⟨_,by simp [binOp,Op.stringOp] <;> rfl,.c (.bool _)⟩
 | _=>cases h
theorem q9l {op:BinOp} {t:Nat} {x y:Operand} {os:List Orc} {r:DV × List Orc × List Prop} (h:binA D op t (ρ x) (ρ y) os=some r) (hp:All r.2.2) :
    ∃ vc,(do eqGuard op t x y (ρc x) (ρc y);binOp op t (ρc x) (ρc y):Sem Value).run P Γ.w=.ok vc Γ.w∧RepA D Γ vc (.c r.1):=by
 have hx:=hρ x
 have hy:=hρ y
 have plain:∀ (u v:Value),ρc x=u→ρc y=v→(eqGuard op t x y u v).run P Γ.w=.ok () Γ.w→(∃ vc,(binOp op t u v).run P Γ.w=.ok vc Γ.w∧RepA D Γ vc (.c r.1))→∃ vc,(do eqGuard op t x y (ρc x) (ρc y);binOp op t (ρc x) (ρc y):Sem Value).run P Γ.w=.ok vc Γ.w∧RepA D Γ vc (.c r.1):=by
  rintro u v rfl rfl hm ⟨vc,h1,h2⟩
  refine ⟨vc,?_,h2⟩
  rw [Sem.run_bind,hm]
  exact h1
 generalize ρ x=xv at h hx
 generalize ρ y=yv at h hy
 cases xv with
 | c dx =>
  cases yv with
  | c dy =>
   cases dx with
   | int k a =>
    cases dy with
    | int k' b =>
     have ex:=RepA.int_inv hx
     have ey:=RepA.int_inv hy
     refine plain _ _ ex ey (by cases op <;> rfl) ?_
     by_cases c1:op=.shl
     · subst c1
       obtain ⟨_,os1,p1,b1,os2,q1,h3,h4,rfl⟩:=bind_some h
       cases G2 h3
       cases A2 h4
       have hb:¬ b<0:=by have:0≤b:=by simpa [All] using hp
                         omega
       exact ⟨_,by simp [binOp,Op.shift,hb] <;> rfl,.c (.int _ _)⟩
     · by_cases c2:op=.shr
       · subst c2
         obtain ⟨_,os1,p1,b1,os2,q1,h3,h4,rfl⟩:=bind_some h
         cases G2 h3
         cases A2 h4
         have hb:¬ b<0:=by have:0≤b:=by simpa [All] using hp
                           omega
         exact ⟨_,by simp [binOp,Op.shift,hb] <;> rfl,.c (.int _ _)⟩
       · have h':(do sure (k == k');binI op k a b:M DV) os=some r:=by
          cases op <;> first | exact absurd rfl c1 | exact absurd rfl c2 | exact h
         obtain ⟨_,os1,p1,b1,os2,q1,h3,h4,rfl⟩:=bind_some h'
         obtain ⟨h5,e5⟩:=D3 h3
         cases e5
         have hk:k=k':=by simpa using h5
         subst hk
         exact q9m hT hs hG hρ h4 hp t c1 c2
    | _=>cases op <;> cases h
   | str a =>
    cases dy with
    | str b=>exact plain _ _ (RepA.str_inv hx) (RepA.str_inv hy) (by cases op <;> rfl) (q9n hT hs hG hρ (by cases op <;> exact h) hp t)
    | _=>cases op <;> cases h
   | bool a =>
    cases dy with
    | bool b =>
     refine plain _ _ (RepA.bool_inv hx) (RepA.bool_inv hy) (by cases op <;> rfl) ?_
     cases ht:D.ty t with
     | none=>simp only [binA,ht] at h;cases op <;> cases h
     | some tt =>
     obtain ⟨sz,by',u,zz⟩:=tt
     simp only [binA,ht] at h
     obtain ⟨d,hu1,hu2⟩:=hT.und ht
     cases u with
     | bool =>
      cases v0c hu2
      have heq:(Op.equal t (.bool a) (.bool b)).run P Γ.w=.ok (a == b) Γ.w:=by
       show (Op.equalIn (9999+1) t (.bool a) (.bool b)).run P Γ.w=_
       rw [Op.equalIn,Sem.run_bind,run_underlying hu1]
       rfl
      cases op with
      | eql=>cases A2 h;exact ⟨_,by simp [binOp,heq] <;> rfl,.c (.bool _)⟩
      | neq=>cases A2 h;exact ⟨_,by simp [binOp,heq] <;> rfl,.c (.bool _)⟩
      | _=>cases h
     | _=>cases op <;> cases h
    | _=>cases op <;> cases h
   | _=>cases dy <;> cases op <;> cases h
  | _=>cases dx <;> cases op <;> cases h
 | agg xs =>
  cases yv with
  | agg ys =>
   obtain ⟨us',os0,p0,b0,os0',q0,h0,h0',rfl⟩:=bind_some h
   obtain ⟨_,h5',e0⟩:=G6 h0
   cases e0
   obtain ⟨_,os1,p1,b1,os2,q1,h3,h4,e00⟩:=bind_some h0'
   cases e00
   obtain ⟨h5,e5⟩:=D3 h3
   cases e5
   obtain ⟨b,os3,p3,d3,os4,q3,h6,h7,e4⟩:=bind_some h4
   cases e4
   obtain ⟨_,h8,e8⟩:=G6 h6
   cases e8
   obtain ⟨us,g1,g2,g3⟩:=RepA.agg_inv hx
   obtain ⟨vs,g4,g5,g6⟩:=RepA.agg_inv hy
   simp only [Bool.and_eq_true] at h5
   obtain ⟨k1,k2⟩:=hT.flat t _ h5' Γ.w Γ.own us vs xs ys b h5.1 h5.2 g2 g5 g3 g6 h8
   have hg:(eqGuard op t x y (ρc x) (ρc y)).run P Γ.w=.ok () Γ.w:=by
    rw [g1,g4]
    exact run_eqGuard_agg Γ.w op t x y us vs k2
   have hb:∃ vc,(binOp op t (.agg us) (.agg vs)).run P Γ.w=.ok vc Γ.w∧RepA D Γ vc (.c b0):=by
    cases op with
    | eql=>cases A2 h7;exact ⟨_,by simp [binOp,k1] <;> rfl,.c (.bool _)⟩
    | neq=>cases A2 h7;exact ⟨_,by simp [binOp,k1] <;> rfl,.c (.bool _)⟩
    | _=>cases h7
   obtain ⟨vc,m1,m2⟩:=hb
   refine ⟨vc,?_,m2⟩
   rw [Sem.run_bind,hg,g1,g4]
   exact m1
  | _=>cases op <;> cases h
 | _=>cases op <;> cases h
theorem q8e {o:Oper} {op:BinOp} {t:Nat} {x y:Operand} {z:TypeId} {os:List Orc} {r:DV × List Orc × List Prop} (ho:o.op=.binOp op t x y z) (h:binA D op t (ρ x) (ρ y) os=some r) (hp:All r.2.2):F4 P D B0 Gd Γ ((execOp ρc o).run P) (.val (.c r.1) [] []):=by
 obtain ⟨vc,h1,h2⟩:=q9l hT hs hG hρ h hp
 refine C0 hG (vc:=vc) ?_ h2
 simp only [execOp,ho]
 rw [Sem.run_bind,h1]
 rfl
end
end Gev
namespace Gev
open Go
variable {D:Tab} {B0:Nat} {Gd:World→Prop} {P:Program}
theorem y8x {Γ Γ':Ctx} (ht:Tr D Γ Γ') {v a:AV} {u:Ups} {r:List Nat} (h:z8o (lk Γ.objs) v=some (a,u,r)) (hu:∀ p∈u,lk Γ'.objs p.1=some p.2) {vc:Value} (hr:RepA D Γ vc v):RepA D Γ' vc a:=by
 unfold z8o at h
 split at h
 · cases h;exact ht.rep hr
 · cases h;exact ht.rep hr
 · cases h;exact ht.rep hr
 · split at h
   · rename_i e;cases h;exact .c (q4e ht e hu hr)
   · cases h
theorem RepA.mv_data {Γ:Ctx} {v:Value} {f:Nat} {ds:List AV} (h:RepA D Γ v (.mv f ds)):(AV.mv f ds).Data:=by
 cases h with
 | mv _ vs _ hl hd h=>exact .mv f ds hd
theorem q2f {objs:Objs} {v a:AV} {u:Ups} {r:List Nat} (h:z8o (lk objs) v=some (a,u,r)):Frz objs u:=by
 unfold z8o at h
 split at h
 · cases h;intro p hp;cases hp
 · cases h;intro p hp;cases hp
 · cases h;intro p hp;cases hp
 · split at h
   · rename_i e;cases h;exact q4c e
   · cases h
theorem z8p {objs:Objs}:∀ {vs avz:List AV} {u:Ups} {r:List Nat},P1 (lk objs) vs=some (avz,u,r)→Frz objs u∧avz.length=vs.length∧∀ (i:Nat) v a,vs[i]?=some v→avz[i]?=some a→∃ u' r',z8o (lk objs) v=some (a,u',r')∧∀ p∈u',p∈u
 | [],avz,u,r,h=>by cases h;exact ⟨fun p hp=>by (cases hp),rfl,fun i v a h=>by simp at h⟩
 | v::vs,avz,u,r,h=>by
  simp only [P1] at h
  cases h1:z8o (lk objs) v with
  | none=>rw [h1] at h;cases h
  | some x =>
   cases h2:P1 (lk objs) vs with
   | none=>rw [h1,h2] at h;cases h
   | some y =>
    obtain ⟨d,u1,r1⟩:=x
    obtain ⟨ds,us,rs⟩:=y
    rw [h1,h2] at h
    cases h
    obtain ⟨f,l,g⟩:=z8p h2
    refine ⟨fun p hp=>?_,by simp [l],fun i v' a hv ha=>?_⟩
    · rcases List.mem_append.1 hp with hp | hp
      · exact q2f h1 p hp
      · exact f p hp
    · cases i with
      | zero=>simp at hv ha;subst hv;subst ha;exact ⟨u1,r1,h1,fun p hp=>by simp [hp]⟩
      | succ i =>
       obtain ⟨u',r',e,m⟩:=g i v' a (by simpa using hv) (by simpa using ha)
       exact ⟨u',r',e,fun p hp=>List.mem_append_right _ (m p hp)⟩
def putC (arr:Array Value):Nat→List Value→Array Value
 | _,[]=>arr
 | o,v::r=>putC (arr.setIfInBounds o v) (o+1) r
theorem j2r:∀ (vs:List Value) (o:Nat) (arr:Array Value),(putC arr o vs).size=arr.size
 | [],_,_=>rfl
 | v::r,o,arr=>by show (putC (arr.setIfInBounds o v) (o+1) r).size=_;rw [j2r];simp
theorem j8s:∀ (vs:List Value) (o:Nat) (arr:Array Value) (j:Nat),o+vs.length≤arr.size→(putC arr o vs)[j]?=if o≤j∧j<o+vs.length then vs[j-o]? else arr[j]?
 | [],o,arr,j,_=>by rw [if_neg (by simp only [List.length_nil];omega)];rfl
 | v::r,o,arr,j,h=>by
  show (putC (arr.setIfInBounds o v) (o+1) r)[j]?=_
  rw [List.length_cons] at h ⊢
  rw [j8s r (o+1) _ j (by simp;omega),Array.getElem?_setIfInBounds]
  by_cases e:o=j
  · subst e
    rw [if_neg (by omega),if_pos rfl,if_pos (by omega),if_pos (by omega),Nat.sub_self];rfl
  · rw [if_neg e]
    by_cases c:o+1≤j∧j<o+1+r.length
    · rw [if_pos c,if_pos (by omega),show j-o=(j-(o+1))+1 by omega,List.getElem?_cons_succ]
    · rw [if_neg c,if_neg (by omega)]
theorem j9u {w:World} {b:Nat} {arr:Array Value} {t:TypeId} {fr:Nat × Nat} (h:w.heap[b]?=some (.cells arr t fr)):w.setRow b arr=w:=by
 have e:(w.setRow b arr).heap=w.heap:=by
  apply Array.ext_getElem?
  intro j
  show (w.heap.modify b _)[j]?=_
  rw [Array.getElem?_modify]
  by_cases e:b=j
  · subst e;rw [if_pos rfl,h];rfl
  · rw [if_neg e]
 show ({ w with heap:=(w.setRow b arr).heap }:World)=w
 rw [e]
theorem q6h {w:World} {b o:Nat} {v:Value} {arr:Array Value} {t:TypeId} {fr:Nat × Nat} (h:w.heap[b]?=some (.cells arr t fr)):w.setCell ⟨b,o,none⟩ v=w.setRow b (arr.setIfInBounds o v):=by
 have e:(w.setCell ⟨b,o,none⟩ v).heap=(w.setRow b (arr.setIfInBounds o v)).heap:=by
  apply Array.ext_getElem?
  intro j
  show (w.heap.modify b _)[j]?=(w.heap.modify b _)[j]?
  rw [Array.getElem?_modify,Array.getElem?_modify]
  by_cases e:b=j
  · subst e;rw [if_pos rfl,if_pos rfl,h];rfl
  · rw [if_neg e,if_neg e]
 show ({ w with heap:=(w.setCell ⟨b,o,none⟩ v).heap }:World)={ w with heap:=(w.setRow b (arr.setIfInBounds o v)).heap }
 rw [e]
theorem v2b {w:World} {b:Nat} (c d:Array Value):(w.setRow b c).setRow b d=w.setRow b d:=by
 have e:((w.setRow b c).setRow b d).heap=(w.setRow b d).heap:=by
  apply Array.ext_getElem?
  intro j
  simp only [World.setRow,Array.getElem?_modify]
  by_cases e:b=j
  · subst e
    simp only [if_true]
    cases w.heap[b]? with
    | none=>rfl
    | some o=>cases o <;> rfl
  · simp only [if_neg e]
 show ({ w with heap:=((w.setRow b c).setRow b d).heap }:World)={ w with heap:=(w.setRow b d).heap }
 rw [e]
theorem j1p {b:Nat} {t:TypeId} {fr:Nat × Nat}:∀ (vs:List Value) (o:Nat) (w:World) (arr:Array Value),w.heap[b]?=some (.cells arr t fr)→w.setCells b o vs=w.setRow b (putC arr o vs)
 | [],o,w,arr,h=>(j9u h).symm
 | v::r,o,w,arr,h=>by
  show (w.setCell ⟨b,o,none⟩ v).setCells b (o+1) r=w.setRow b (putC (arr.setIfInBounds o v) (o+1) r)
  rw [q6h h,j1p r (o+1) _ _ (setRow_heap _ _ _ _ _ _ h),v2b]
theorem mid_eq {α:Type} {az bs cs:List α} {n m:Nat} (h1:az.length=n)(h2:bs.length=m):((az++bs++cs).drop n).take m=bs:=by
 subst h1
 subst h2
 rw [List.append_assoc,List.drop_left,List.take_left]
theorem q8m (hT:TabOk P D) {Γ:Ctx} (hG:Good D B0 Gd Γ) {ρ:Operand→AV} {ρc:Operand→Value} (hρ:∀ x,RepA D Γ (ρc x) (ρ x)) {o:Oper} {t:Nat} {x:Operand} {l off:Nat} {cs:List AV} {v:AV} {u:Ups} {r':List Nat} (ho:o.op=.load t x) (hx:ρ x=.ptr l off) (hg:lk Γ.objs l=some (.cells cs)) (h:k7n D (lk Γ.objs) t cs off=some (v,u,r')):F4 P D B0 Gd Γ ((execOp ρc o).run P) (.val v u (l::r')):=by
 unfold k7n at h
 cases hn:D.size t with
 | none=>rw [hn] at h;cases h
 | some n =>
  rw [hn] at h
  simp only at h
  by_cases hle:off+n≤cs.length
  · rw [if_pos hle] at h
    by_cases ha:D.isAgg t=true
    · rw [if_pos ha] at h
      cases hd:P1 (lk Γ.objs) ((cs.drop off).take n) with
      | none=>rw [hd] at h;cases h
      | some cur =>
       obtain ⟨avs,u1,r1⟩:=cur
       rw [hd] at h
       simp only at h
       cases hds:asDs avs with
       | none=>rw [hds] at h;cases h
       | some ds =>
        rw [hds] at h
        cases h
        obtain ⟨f1,f2,f3⟩:=z8p hd
        obtain ⟨g1,g2⟩:=z5f u hG f1
        have hx1:=hρ x
        rw [hx] at hx1
        generalize hxv:ρc x=vx at hx1
        cases hx1 with
        | ptr _ _ b cs' hl hb =>
         rw [hg] at hl;cases hl
         obtain ⟨b',arr,ty,k1,k2,k3,k4⟩:=hG.ob l _ hg
         rw [hb] at k1;cases k1
         have hal:avs.length=n:=by rw [f2,List.length_take,List.length_drop];omega
         have htl:(cs.take off).length=off:=by rw [List.length_take];omega
         have hpa:x4z D t (cs.take off++avs++cs.drop (off+n)) off=some (.agg ds):=by
          unfold x4z
          rw [hn]
          simp only
          rw [if_pos (by simp only [List.length_append,htl,hal];omega),if_pos ha,mid_eq htl hal,hds]
         obtain ⟨vc,e1,e2⟩:=k0o hT (Γ:=⟨Γ.S,B6 Γ.objs u,Γ.w⟩) hpa k2 (by simp only [List.length_append,htl,hal,List.length_drop];omega) (by
          intro j v w1 hv hw
          by_cases c1:j<off
          · rw [List.append_assoc,List.getElem?_append_left (by omega),List.getElem?_take,if_pos c1] at hv
            exact g2.rep (k4 j v w1 hv hw)
          · by_cases c2:j<off+n
            · rw [List.append_assoc,List.getElem?_append_right (by omega),htl,List.getElem?_append_left (by omega)] at hv
              have hjc:j<cs.length:=by omega
              have hcv:((cs.drop off).take n)[j-off]?=some cs[j]:=by
               rw [List.getElem?_take,if_pos (by omega),List.getElem?_drop,show off+(j-off)=j by omega,List.getElem?_eq_getElem hjc]
              obtain ⟨u',r2,e,m⟩:=f3 (j-off) _ v hcv hv
              exact y8x g2 e (fun p hp=>x5o f1 (m p hp)) (k4 j _ w1 (List.getElem?_eq_getElem hjc) hw)
            · rw [List.getElem?_append_right (by simp only [List.length_append,htl,hal];omega)] at hv
              simp only [List.length_append,htl,hal] at hv
              rw [List.getElem?_drop,show off+n+(j-(off+n))=j by omega] at hv
              exact g2.rep (k4 j v w1 hv hw))
         refine ⟨vc,Γ.S,Γ.w,.inl ?_,g1,g2,e2⟩
         simp [execOp,ho,hxv,Instr.loadAt,Instr.sureAddr,e1]
    · rw [if_neg ha] at h;cases h
  · rw [if_neg hle] at h;cases h
section
variable (hT:TabOk P D) (hs:Stable B0 Gd) {Γ:Ctx} (hG:Good D B0 Gd Γ) {ρ:Operand→AV} {ρc:Operand→Value} (hρ:∀ x,RepA D Γ (ρc x) (ρ x))
include hT hs hG hρ
theorem k5e {o:Oper} {f:Nat} {cargs:Array Value} {avs:List AV} {os:List Orc} {r:Eff × List Orc × List Prop}
    (hrun:(∀ args w,(callFunc f args).run P w=.ok (.enter f args) w)→(execOp ρc o).run P Γ.w=.ok (.enter f cargs) Γ.w) (hsz:cargs.size=avs.length) (hargs:∀ (i:Nat) v a,cargs[i]?=some v→avs[i]?=some a→RepA D Γ v a)
    (h:z7q D (lk Γ.objs) f avs os=some r):F4 P D B0 Gd Γ ((execOp ρc o).run P) r.1:=by
 unfold z7q at h
 split at h
 · cases A2 h
   exact ⟨_,hrun,hsz,hargs⟩
 · cases hd:P1 (lk Γ.objs) avs with
   | none=>rw [hd] at h;cases h
   | some x =>
    obtain ⟨ds,u,rr⟩:=x
    rw [hd] at h
    cases A2 h
    obtain ⟨k1,k2,k3⟩:=z8p hd
    obtain ⟨m1,m2⟩:=z5f u hG k1
    refine ⟨_,hrun,m1,m2,by rw [hsz,k2],fun i a ha=>y8y (fun v hv g es e=>?_) hd i a ha,fun i v a hv ha=>?_⟩
    · obtain ⟨k,hk⟩:=List.getElem?_of_mem hv
      have hkl:k<cargs.size:=by rw [hsz];exact (List.getElem?_eq_some_iff.1 hk).1
      have:=hargs k _ v (Array.getElem?_eq_getElem hkl) hk
      subst e
      exact this.mv_data
    · have hi:i<avs.length:=by rw [← k2];exact (List.getElem?_eq_some_iff.1 ha).1
      obtain ⟨u',r',e1,e2⟩:=k3 i _ a (List.getElem?_eq_getElem hi) ha
      exact y8x (Γ:=Γ) (Γ':=⟨Γ.S,B6 Γ.objs u,Γ.w⟩) m2 e1 (fun p hp=>x5o k1 (e2 p hp)) (hargs i v _ hv (List.getElem?_eq_getElem hi))
theorem x7n (args:Array Operand):∀ (i:Nat) v a,(args.map ρc)[i]?=some v→(args.toList.map ρ)[i]?=some a→RepA D Γ v a:=by
 intro i v a hv ha
 by_cases c:i<args.size
 · have hx:=List.getElem?_eq_getElem (l:=args.toList) (i:=i) (by simpa using c)
   rw [List.getElem?_map,hx] at ha
   rw [Array.getElem?_map,Array.getElem?_eq_getElem c] at hv
   cases ha
   cases hv
   exact hρ _
 · rw [Array.getElem?_eq_none (by simp;omega)] at hv
   cases hv
theorem v1l {o:Oper} {f:Nat} {cap:List AV} {g:Operand} {args:Array Operand} {ts:Array TypeId} {os:List Orc} {r:Eff × List Orc × List Prop} (ho:o.op=.call ⟨.value g,args,ts⟩) (hg:ρ g=.fn f cap)
    (h:z7q D (lk Γ.objs) f (args.toList.map ρ++cap) os=some r):F4 P D B0 Gd Γ ((execOp ρc o).run P) r.1:=by
 obtain ⟨vs,h1,h2,h3⟩:=RepA.fn_inv (hg ▸ hρ g)
 refine k5e hT hs hG hρ (cargs:=args.map ρc++vs.toArray) (fun he=>by simp [execOp,ho,resolve,h1,Deferred.ofValue,invoke,he]) (by simp [h2]) (fun i v a hv ha=>?_) h
 rw [Array.getElem?_append] at hv
 rw [List.getElem?_append] at ha
 simp only [Array.size_map,List.length_map,Array.length_toList] at hv ha
 by_cases c:i<args.size
 · rw [if_pos c] at hv ha
   exact x7n hT hs hG hρ args i v a hv ha
 · rw [if_neg c] at hv ha
   exact h3 _ v a (by simpa using hv) ha
theorem q8g {o:Oper} {f:Nat} {g:Operand} {args:Array Operand} {ts:Array TypeId} {os:List Orc} {r:Eff × List Orc × List Prop} (ho:o.op=.call ⟨.value g,args,ts⟩) (hg:ρ g=.c (.fn f))
    (h:z7q D (lk Γ.objs) f (args.toList.map ρ) os=some r):F4 P D B0 Gd Γ ((execOp ρc o).run P) r.1:=by
 have hx:=hρ g
 rw [hg] at hx
 generalize hv:ρc g=vg at hx
 cases hx with
 | c hd =>
  cases hd
  refine k5e hT hs hG hρ (cargs:=args.map ρc) (fun he=>by simp [execOp,ho,resolve,hv,Deferred.ofValue,invoke,he]) (by simp) (fun i v a hv ha=>?_) h
  exact x7n hT hs hG hρ args i v a hv ha
theorem q8h {o:Oper} {f:Nat} {ds:List AV} {g:Operand} {args:Array Operand} {ts:Array TypeId} {os:List Orc} {r:Eff × List Orc × List Prop} (ho:o.op=.call ⟨.value g,args,ts⟩) (hg:ρ g=.mv f ds)
    (h:z7q D (lk Γ.objs) f (ds++args.toList.map ρ) os=some r):F4 P D B0 Gd Γ ((execOp ρc o).run P) r.1:=by
 have hx:=hρ g
 rw [hg] at hx
 generalize hv:ρc g=vg at hx
 cases hx with
 | mv _ vs _ h2 hd h3 =>
  refine k5e hT hs hG hρ (cargs:=vs.toArray++args.map ρc) (fun he=>by simp [execOp,ho,resolve,hv,Deferred.ofValue,invoke,he]) (by simp [h2]) (fun i v a hv ha=>?_) h
  rw [Array.getElem?_append] at hv
  rw [List.getElem?_append] at ha
  simp only [List.size_toArray] at hv
  rw [← h2] at ha
  by_cases c:i<vs.length
  · rw [if_pos c] at hv ha
    exact h3 i v a (by simpa using hv) ha
  · rw [if_neg c] at hv ha
    exact x7n hT hs hG hρ args _ v a hv ha
theorem j0i {o:Oper} {f:Nat} {first cap:Array Operand} {ds:List AV} {u:Ups} {r:List Nat} (ho:o.op=.makeFunc (.func f) first cap) (hc:cap.isEmpty=true) (h:P1 (lk Γ.objs) (first.toList.map ρ)=some (ds,u,r)):F4 P D B0 Gd Γ ((execOp ρc o).run P) (.val (.mv f ds) u r):=by
 have hc':cap=#[]:=Array.isEmpty_iff.1 hc
 obtain ⟨k1,k2,k3⟩:=z8p h
 obtain ⟨m1,m2⟩:=z5f u hG k1
 have hargs:=x7n hT hs hG hρ first
 have hlen:(first.toList.map ρc).length=ds.length:=by rw [k2];simp
 refine ⟨.func (.func f) (first.map ρc) #[],Γ.S,Γ.w,.inl (by simp [execOp,ho,hc',Instr.makeFunc]),m1,m2,?_⟩
 have:=RepA.mv (D:=D) (Γ:=⟨Γ.S,B6 Γ.objs u,Γ.w⟩) f (first.toList.map ρc) ds hlen (fun i a ha=>y8y (fun v hv g es e=>by
     obtain ⟨k,hk⟩:=List.getElem?_of_mem hv
     have hkl:k<(first.map ρc).size:=by have:=(List.getElem?_eq_some_iff.1 hk).1;simpa using this
     have:=hargs k _ v (Array.getElem?_eq_getElem hkl) hk
     subst e
     exact this.mv_data) h i a ha) (fun i v a hv ha=>by
     have hi:i<(first.toList.map ρ).length:=by rw [← k2];exact (List.getElem?_eq_some_iff.1 ha).1
     obtain ⟨u',r',e1,e2⟩:=k3 i _ a (List.getElem?_eq_getElem hi) ha
     exact y8x (Γ:=Γ) (Γ':=⟨Γ.S,B6 Γ.objs u,Γ.w⟩) m2 e1 (fun p hp=>x5o k1 (e2 p hp)) (hargs i v _ (by rw [← Array.getElem?_toList,Array.toList_map];exact hv) (List.getElem?_eq_getElem hi)))
 have e:(first.toList.map ρc).toArray=first.map ρc:=by rw [← Array.toList_map]
 rwa [e] at this
theorem op_len {o:Oper} {x:Operand} {ts:Array TypeId} {os:List Orc} {r:Eff × List Orc × List Prop} {fr:Nat} (ho:o.op=.call ⟨.builtin .len,#[x],ts⟩)
    (h:J3 D (lk Γ.objs) fr .len ts [ρ x] os=some r):F4 P D B0 Gd Γ ((execOp ρc o).run P) r.1:=by
 have fin:∀ (t:TypeId) (d:TypeDesc) (n:Nat),ts[0]?=some t→P.underlying t=some d→((d=.string∧∃ s,ρc x=.string s∧s.size=n)∨(∃ e A c,d=.slice e∧ρc x=.slice A n c))→(execOp ρc o).run P Γ.w=.ok (.value (.int .i64 n)) Γ.w:=by
  intro t d n h1 h2 h3
  rcases h3 with ⟨rfl,s,h4,rfl⟩ | ⟨e,A,c,rfl,h4⟩
  · simp [execOp,ho,resolve,invoke,builtin,Builtin.len_,h1,run_underlying h2,h4,goInt]
  · simp [execOp,ho,resolve,invoke,builtin,Builtin.len_,h1,run_underlying h2,h4,goInt]
 have hx:=hρ x
 generalize ρ x=av at h hx
 cases ht0:ts[0]? with
 | none =>
  simp only [J3,ht0] at h
  cases av with
  | c d=>cases d <;> cases h
  | _=>cases h
 | some t =>
 cases ht:D.ty t with
 | none =>
  simp only [J3,ht0,ht] at h
  cases av with
  | c d=>cases d <;> cases h
  | _=>cases h
 | some tt =>
 obtain ⟨sz,by',u,zz⟩:=tt
 obtain ⟨d,hu1,hu2⟩:=hT.und ht
 simp only [J3,ht0,ht] at h
 cases av with
 | c dv =>
  cases dv with
  | str s =>
   cases u with
   | str =>
    cases G7 h
    cases j3l hu2
    exact C0 hG (fin t _ s.size ht0 hu1 (.inl ⟨rfl,s,RepA.str_inv hx,rfl⟩)) (.c (.int _ _))
   | _=>cases h
  | list xs =>
   cases u with
   | slice e =>
    cases G7 h
    have hu:=z1s hu2
    subst hu
    generalize hxv:ρc x=vx at hx
    cases hx with
    | c hd =>
     cases hd with
     | list A c _ sz u hc hA hx2 hu hdd=>exact C0 hG (fin t _ xs.length ht0 hu1 (.inr ⟨e,A,c,rfl,hxv⟩)) (.c (.int _ _))
   | _=>cases h
  | _=>cases u <;> cases h
 | nils =>
  cases u with
  | slice e =>
   cases G7 h
   have hu:=z1s hu2
   subst hu
   exact C0 hG (fin t _ 0 ht0 hu1 (.inr ⟨e,none,0,rfl,RepA.nils_inv hx⟩)) (.c (.int _ _))
  | _=>cases h
 | frow vs =>
  cases u with
  | slice e =>
   cases G7 h
   have hu:=z1s hu2
   subst hu
   generalize hxv:ρc x=vx at hx
   cases hx with
   | frow a n c _ _ _ hl=>exact C0 hG (fin t _ vs.length ht0 hu1 (.inr ⟨e,some a,c,rfl,by rw [hxv,hl]⟩)) (.c (.int _ _))
  | _=>cases h
 | vec l len =>
  cases u with
  | slice e =>
   have hu:=z1s hu2
   subst hu
   simp only at h
   cases hlv:lk Γ.objs l with
   | none=>rw [hlv] at h;cases h
   | some ob =>
   rw [hlv] at h
   generalize hxv:ρc x=vx at hx
   cases ob with
   | vec e' xs =>
    cases A2 h
    cases hx with
    | vnil _ t' a1 a2=>exact C0 hG (fin t _ 0 ht0 hu1 (.inr ⟨e,none,0,rfl,hxv⟩)) (.c (.int _ _))
    | vec _ _ cap b t' ti xs arr a1 a2 a3 a4 a5 a6 a7=>exact C0 hG (fin t _ len ht0 hu1 (.inr ⟨e,_,cap,rfl,hxv⟩)) (.c (.int _ _))
    | fvec _ _ _ a1=>rw [hlv] at a1;cases a1
    | mvec _ _ _ _ _ _ _ _ a1=>rw [hlv] at a1;cases a1
    | mnil _ _ a1=>rw [hlv] at a1;cases a1
    | gone _ _ a1=>rw [hlv] at a1;cases a1
   | mat e' xss lent =>
    cases A2 h
    cases hx with
    | mvec _ _ cap b t' xss lent arr a1 a2 a3 a4 a5 a6=>exact C0 hG (fin t _ len ht0 hu1 (.inr ⟨e,_,cap,rfl,hxv⟩)) (.c (.int _ _))
    | mnil _ _ a1 a2=>exact C0 hG (fin t _ 0 ht0 hu1 (.inr ⟨e,none,0,rfl,hxv⟩)) (.c (.int _ _))
    | vnil _ t' a1 a2=>rw [hlv] at a1;cases a1
    | vec _ _ cap b t' ti xs arr a1=>rw [hlv] at a1;cases a1
    | fvec _ _ _ a1=>rw [hlv] at a1;cases a1
    | gone _ _ a1=>rw [hlv] at a1;cases a1
   | fro ys =>
    cases A2 h
    cases hx with
    | vnil _ t' a1 a2=>rw [hlv] at a1;cases a1
    | vec _ _ cap b t' ti xs arr a1=>rw [hlv] at a1;cases a1
    | fvec _ _ _ a1 a2 a3 =>
     rw [hlv] at a1;cases a1
     have hlen:(ys.take len).length=len:=by simp;omega
     generalize hzs:ys.take len=zs at a2
     rw [hzs] at hlen
     cases a2 with
     | list A c _ sz u hc hA hx2 hu hdd=>exact C0 hG (fin t _ len ht0 hu1 (.inr ⟨e,A,c,rfl,by rw [hxv,hlen]⟩)) (.c (.int _ _))
    | mvec _ _ _ _ _ _ _ _ a1=>rw [hlv] at a1;cases a1
    | mnil _ _ a1=>rw [hlv] at a1;cases a1
    | gone _ _ a1=>rw [hlv] at a1;cases a1
   | _=>cases h
  | _=>cases h
 | _=>cases u <;> cases h
theorem q8i {o:Oper} {x:Operand} {ts:Array TypeId} {e l lo hi t sz by':Nat} {zz:List DV} {e':Nat} {xs:List (List DV)} {ti:TI} (ho:o.op=.call ⟨.builtin .clear,#[x],ts⟩) (hx:ρ x=.vtl e l lo hi) (hl:lk Γ.objs l=some (.vec e' xs)) (he:D.ty e=some ti) (hts:ts.toList=[t]) (ht:D.ty t=some ⟨sz,by',.slice e,zz⟩)
    (h1:e'=e)(h2:ti.zero.length=ti.size)(h3:ti.size≠0):F4 P D B0 Gd Γ ((execOp ρc o).run P) (.val (.tup []) [(l,.vec e (xs.take lo++List.replicate (hi-lo) ti.zero++xs.drop hi))] [l]):=by
 subst h1
 obtain ⟨i,d,z,a1,a2,a3,a4,a5,a6,a7,a8⟩:=hT.ty e' ti he
 obtain ⟨z1,z2⟩:=P4 a7
 obtain ⟨dt,hu1,hu2⟩:=hT.und ht
 have hu:=z1s hu2
 subst hu
 have hzs:z.cells.size=ti.size:=by simp at z1;omega
 have hzv:∀ w,(zeroValue e').run P w=.ok z w:=fun w=>by simp [zeroValue,typeInfo,a1,a6]
 have ets:ts=#[t]:=by rw [← Array.toArray_toList (xs:=ts),hts]
 subst ets
 have hxr:=hρ x
 rw [hx] at hxr
 generalize hxv:ρc x=vx at hxr
 have hrow:=hG.ob l _ hl
 cases hxr with
 | vtl _ _ _ _ ti' ht' hw hlo hv =>
  rw [he] at ht';cases ht'
  obtain ⟨ti2,q0,q1,q2⟩:=hrow
  rw [he] at q0;cases q0
  have nothing:lo=hi→∀ A c,vx=.slice A 0 c→F4 P D B0 Gd Γ ((execOp ρc o).run P) (.val (.tup []) [(l,.vec e' (xs.take lo++List.replicate (hi-lo) ti.zero++xs.drop hi))] [l]):=by
   intro hlh A c hvx
   subst hlh
   rw [Nat.sub_self,List.replicate_zero,List.append_nil,List.take_append_drop]
   have hr:(execOp ρc o).run P Γ.w=.ok (.value (.tuple #[])) Γ.w:=by
    simp [execOp,ho,resolve,invoke,builtin,hxv,hvx,Builtin.clear_,run_underlying hu1]
    cases A <;> simp
   have hset:B6 Γ.objs [(l,.vec e' xs)]=Γ.objs:=k8v hl
   refine ⟨.tuple #[],Γ.S,Γ.w,.inl hr,?_,?_,?_⟩
   · rw [hset];exact hG
   · rw [hset];exact Tr.refl _
   · exact .tup [] [] rfl fun i v a h=>by simp at h
  cases hw with
  | vnil _ t' b1 b2 =>
   obtain rfl:lo=0:=by omega
   exact nothing rfl none 0 (by rw [hv];simp [k2c])
  | fvec _ _ _ b1=>rw [hl] at b1;cases b1
  | mvec _ _ _ _ _ _ _ _ b1=>rw [hl] at b1;cases b1
  | mnil _ _ b1=>rw [hl] at b1;cases b1
  | gone _ _ b1=>rw [hl] at b1;cases b1
  | vec _ _ cap b t' ti3 ys arr b1 b2 b3 b4 b5 b6 b7 =>
   rw [hl] at b1;cases b1
   rw [he] at b2;cases b2
   by_cases hlh:lo=hi
   · exact nothing hlh _ _ (by rw [hv];simp only [k2c];rw [show hi-lo=0 by omega])
   · have hclt:¬ cap=lo:=by omega
     have hvx:vx=.slice (some ⟨b,lo*ti.size,none⟩) (hi-lo) (cap-lo):=by
      rw [hv];simp only [k2c,if_neg hclt,Option.map_some,add_plain,Nat.zero_add]
     have hzl:(Builtin.zeroCells z.cells (hi-lo)).toList.length=(hi-lo)*ti.size:=by simp [Builtin.zeroCells,hzs]
     have hzg:∀ j v,(Builtin.zeroCells z.cells (hi-lo)).toList[j]?=some v→z.cells[j % ti.size]?=some v:=fun j v hj=>by
      have hjl:=(List.getElem?_eq_some_iff.1 hj).1
      rw [hzl] at hjl
      simp only [Builtin.zeroCells,Array.getElem?_toList,Array.getElem?_map,Array.getElem?_range] at hj
      rw [if_pos (by rw [hzs];exact hjl)] at hj
      simp only [Option.map_some,hzs] at hj
      have hm:j % ti.size<z.cells.size:=by rw [hzs];exact Nat.mod_lt _ (Nat.pos_of_ne_zero h3)
      rw [Array.getElem?_eq_getElem hm]
      rw [getElem!_pos z.cells _ hm] at hj
      exact hj
     have hcap:hi*ti.size≤arr.size:=by rw [b6];exact Nat.mul_le_mul_right _ (by omega)
     have hsum:lo*ti.size+(hi-lo)*ti.size=hi*ti.size:=by rw [← Nat.add_mul];congr 1;omega
     have hst:=run_storeCells_cells (P:=P) b (lo*ti.size) (Builtin.zeroCells z.cells (hi-lo)).toList 0 Γ.w
      (fun j hj=>by
       rw [hzl] at hj
       rw [z4e b5,Array.getElem?_eq_getElem (by omega)];rfl)
      (fun j hj=>by simp [World.frozen?,b5])
      (fun v hv'=>by
       obtain ⟨j,hj⟩:=List.getElem?_of_mem hv'
       have hzj:=hzg j v hj
       have hm:j % ti.size<ti.zero.length:=by rw [h2];exact Nat.mod_lt _ (Nat.pos_of_ne_zero h3)
       exact y0p (X9 (z2 _ v _ (by simpa using hzj) (List.getElem?_eq_getElem hm)) Γ.w Γ.own))
     rw [Nat.add_zero,j1p _ _ _ _ b5] at hst
     have hr:(execOp ρc o).run P Γ.w=.ok (.value (.tuple #[])) (Γ.w.setRow b (putC arr (lo*ti.size) (Builtin.zeroCells z.cells (hi-lo)).toList)):=by
      obtain ⟨m,hm⟩:∃ m,hi-lo=m+1:=⟨hi-lo-1,by omega⟩
      rw [hm] at hst hvx ⊢
      simp [execOp,ho,resolve,invoke,builtin,hxv,hvx,Builtin.clear_,run_underlying hu1,hzv,hst]
     obtain ⟨g1,g2⟩:=v0e hs hG hl he b3 b5 (ys:=xs.take lo++List.replicate (hi-lo) ti.zero++xs.drop hi) (arr':=putC arr (lo*ti.size) (Builtin.zeroCells z.cells (hi-lo)).toList) (j2r _ _ _) (by simp;omega) (fun y hy=>by
         rcases List.mem_append.1 hy with hy | hy
         · rcases List.mem_append.1 hy with hy | hy
           · exact q1 y (List.mem_of_mem_take hy)
           · rw [List.eq_of_mem_replicate hy];exact h2
         · exact q1 y (List.mem_of_mem_drop hy)) (fun k y j d u c1 c2 c3=>by
      obtain ⟨c4,_⟩ | ⟨b',arr2,cap2,c4,c5,c6,c7,c8⟩:=q2
      · rw [b3] at c4;cases c4
      rw [b3] at c4;cases c4
      rw [b5] at c5;cases c5
      rw [j8s _ _ _ _ (by rw [hzl];omega),hzl,hsum] at c3
      have hyl:y.length=ti.size:=by
       have hy:=List.mem_of_getElem? c1
       rcases List.mem_append.1 hy with hy | hy
       · rcases List.mem_append.1 hy with hy | hy
         · exact q1 y (List.mem_of_mem_take hy)
         · rw [List.eq_of_mem_replicate hy];exact h2
       · exact q1 y (List.mem_of_mem_drop hy)
      have hjl:j<ti.size:=by rw [← hyl];exact (List.getElem?_eq_some_iff.1 c2).1
      have htl:(xs.take lo).length=lo:=by rw [List.length_take];omega
      by_cases k1:k<lo
      · have:=O4 k1 hjl
        rw [if_neg (by omega)] at c3
        rw [List.append_assoc,List.getElem?_append_left (by omega),List.getElem?_take,if_pos k1] at c1
        exact c8 k y j d u c1 c2 c3
      · by_cases k2:k<hi
        · have h5:=O4 k2 hjl
          have h6:lo*ti.size≤k*ti.size:=Nat.mul_le_mul_right _ (by omega)
          rw [if_pos (by omega)] at c3
          rw [List.append_assoc,List.getElem?_append_right (by omega),htl,List.getElem?_append_left (by simp;omega),List.getElem?_replicate,if_pos (by omega)] at c1
          cases c1
          have hzj:=hzg _ u c3
          rw [show k*ti.size+j-lo*ti.size=j+(k-lo)*ti.size by rw [Nat.sub_mul];omega,Nat.add_mul_mod_self_right,Nat.mod_eq_of_lt hjl] at hzj
          exact X9 (z2 j u d (by simpa using hzj) c2) _ _
        · have h6:hi*ti.size≤k*ti.size:=Nat.mul_le_mul_right _ (by omega)
          rw [if_neg (by omega)] at c3
          rw [List.getElem?_append_right (by simp;omega)] at c1
          simp only [List.length_append,htl,List.length_replicate] at c1
          rw [List.getElem?_drop,show hi+(k-(lo+(hi-lo)))=k by omega] at c1
          exact c8 k y j d u c1 c2 c3)
     exact ⟨.tuple #[],Γ.S,_,.inl hr,g1,g2,.tup [] [] rfl fun i v a h=>by simp at h⟩
theorem x5n {f:Int→Int→Int} {g:Value→Value→Sem Value} (hg:∀ k a k' b,(g (.int k a) (.int k' b)).run P Γ.w=.ok (.int k (f a b)) Γ.w) {k:IntKind}:∀ (xs:List Operand) (a:Int) (v:AV),k0i f k a (xs.map ρ)=some v →
    ∃ n,v=.c (.int k n)∧((xs.map ρc).foldlM g (.int k a)).run P Γ.w=.ok (.int k n) Γ.w
 | [],a,v,h=>by cases h;exact ⟨a,rfl,rfl⟩
 | x::xs,a,v,h=>by
  have hx:=hρ x
  simp only [List.map_cons] at h
  generalize hxa:ρ x=av at h hx
  cases av with
  | c d =>
   cases d with
   | int k' b =>
    obtain ⟨n,h1,h2⟩:=x5n hg xs (f a b) v h
    refine ⟨n,h1,?_⟩
    simp only [List.map_cons,List.foldlM_cons,RepA.int_inv hx,Sem.run_bind,hg,Result.andThen_ok]
    exact h2
   | _=>cases h
  | _=>cases h
theorem op_max {o:Oper} {x:Operand} {xs:List Operand} {args:Array Operand} {ts:Array TypeId} {k:IntKind} {a:Int} {v:AV} (ho:o.op=.call ⟨.builtin .max,args,ts⟩) (ha:args.toList=x::xs) (hx:ρ x=.c (.int k a))
    (h:k0i (fun a b=>if b>a then b else a) k a (xs.map ρ)=some v):F4 P D B0 Gd Γ ((execOp ρc o).run P) (.val v [] []):=by
 obtain ⟨n,rfl,h2⟩:=x5n hT hs hG hρ (g:=Builtin.max2) (fun k a k' b=>rfl) xs a v h
 refine C0 hG (vc:=.int k n) ?_ (.c (.int _ _))
 have hxi:ρc x=.int k a:=RepA.int_inv (hx ▸ hρ x)
 have e:List.map ρc args.toList=.int k a::xs.map ρc:=by rw [ha,List.map_cons,hxi]
 simp [execOp,ho,resolve,invoke,builtin,Builtin.max_,e,h2]
theorem op_min {o:Oper} {x:Operand} {xs:List Operand} {args:Array Operand} {ts:Array TypeId} {k:IntKind} {a:Int} {v:AV} (ho:o.op=.call ⟨.builtin .min,args,ts⟩) (ha:args.toList=x::xs) (hx:ρ x=.c (.int k a))
    (h:k0i (fun a b=>if b<a then b else a) k a (xs.map ρ)=some v):F4 P D B0 Gd Γ ((execOp ρc o).run P) (.val v [] []):=by
 obtain ⟨n,rfl,h2⟩:=x5n hT hs hG hρ (g:=Builtin.min2) (fun k a k' b=>rfl) xs a v h
 refine C0 hG (vc:=.int k n) ?_ (.c (.int _ _))
 have hxi:ρc x=.int k a:=RepA.int_inv (hx ▸ hρ x)
 have e:List.map ρc args.toList=.int k a::xs.map ρc:=by rw [ha,List.map_cons,hxi]
 simp [execOp,ho,resolve,invoke,builtin,Builtin.min_,e,h2]
end
theorem j2j (hT:TabOk P D) {Γ:Ctx} {t off b n:Nat} {cs:List AV} (hn:D.size t=some n) (ha:D.isAgg t=true) (hle:off+n≤cs.length) (hall:∀ v∈(cs.drop off).take n,v.holds=true∧v.alive (lk Γ.objs)=true) {arr:Array Value} {ty:TypeId} {fr:Nat × Nat} (k2:Γ.w.heap[b]?=some (.cells arr ty fr)) (k3:arr.size=cs.length)
    (k4:∀ (j:Nat) v u,cs[j]?=some v→arr[j]?=some u→RepA D Γ u v):∃ vc,(loadVar t ⟨b,off,none⟩).run P Γ.w=.ok vc Γ.w∧RepA D Γ vc (.agv ((cs.drop off).take n)):=by
 obtain ⟨i,hi,hin⟩:=hT.size hn
 have hf:∀ j,j<n→Γ.w.cell? ((⟨b,off,none⟩:Addr).add j)=some (arr[off+j]?.getD undef):=by
  intro j hj
  rw [add_plain,z4e k2,Array.getElem?_eq_getElem (show off+j<arr.size by omega)]
  rfl
 have hget:∀ (j:Nat) u a,(((List.range n).map fun j=>arr[off+j]?.getD undef).toArray)[j]?=some u→((cs.drop off).take n)[j]?=some a→RepA D Γ u a∧a∈(cs.drop off).take n:=by
  intro j u a hu hd
  have hm:=List.mem_of_getElem? hd
  have hj:j<n:=by
   have:=(List.getElem?_eq_some_iff.1 hd).1
   simp at this;omega
  rw [List.getElem?_take,if_pos hj,List.getElem?_drop] at hd
  have hlt:=(List.getElem?_eq_some_iff.1 hd).1
  simp [hj] at hu
  rw [Array.getElem?_eq_getElem (show off+j<arr.size by omega)] at hu
  simp at hu
  exact ⟨k4 (off+j) a u hd (by rw [Array.getElem?_eq_getElem (show off+j<arr.size by omega),hu]),hm⟩
 have hsz:(((List.range n).map fun j=>arr[off+j]?.getD undef).toArray).size=((cs.drop off).take n).length:=by simp;omega
 refine ⟨.agg ((List.range n).map fun j=>arr[off+j]?.getD undef).toArray,?_,.agv _ _ hsz (fun u hu=>?_) fun j u a hu hd=>(hget j u a hu hd).1⟩
 · unfold loadVar
   rw [Sem.run_bind,y1x hT hn]
   simp only [Result.andThen_ok,ha,if_true]
   rw [Sem.run_bind,z4x hi]
   simp only [Result.andThen_ok,hin]
   rw [Sem.run_bind,run_loadCells _ _ _ _ hf]
   rfl
 · obtain ⟨j,hj⟩:=List.getElem?_of_mem hu
   have hj':(((List.range n).map fun j=>arr[off+j]?.getD undef).toArray)[j]?=some u:=by rw [← Array.getElem?_toList];exact hj
   have hlt:=(Array.getElem?_eq_some_iff.1 hj').1
   obtain ⟨g1,g2⟩:=hget j u _ hj' (List.getElem?_eq_getElem (by omega))
   have:=hall _ g2
   obtain ⟨d1,d2⟩:=z6n this.2
   exact (y8t g1 this.1 d1 d2).1
theorem q8n (hT:TabOk P D) {Γ:Ctx} (hG:Good D B0 Gd Γ) {ρ:Operand→AV} {ρc:Operand→Value} (hρ:∀ x,RepA D Γ (ρc x) (ρ x)) {o:Oper} {t:Nat} {x:Operand} {os:List Orc} {r:Eff × List Orc × List Prop} (ho:o.op=.load t x) (h:y5v D (lk Γ.objs) t (ρ x) os=some r) :
    F4 P D B0 Gd Γ ((execOp ρc o).run P) r.1:=by
 have hx:=hρ x
 generalize ρ x=av at h hx
 cases av with
 | ptr l off =>
  simp only [y5v] at h
  cases hg:lk Γ.objs l with
  | none=>rw [hg] at h;cases h
  | some ob =>
   rw [hg] at h
   cases ob with
   | cells cs =>
    cases hn:D.size t with
    | none=>rw [hn] at h;cases h
    | some n =>
     rw [hn] at h
     simp only at h
     obtain ⟨_,os1,p1,b1,os2,q1,h1,h2,rfl⟩:=bind_some h
     obtain ⟨k1,e1⟩:=D3 h1
     cases e1
     cases A2 h2
     simp only [Bool.and_eq_true,decide_eq_true_eq,List.all_eq_true] at k1
     obtain ⟨⟨ha,hle⟩,hall⟩:=k1
     generalize hx':ρc x=vx at hx
     cases hx with
     | ptr _ _ b cs' hl hb =>
      rw [hg] at hl;cases hl
      obtain ⟨b',arr,ty,k1,k2,k3,k4⟩:=hG.ob l _ hg
      rw [hb] at k1;cases k1
      obtain ⟨vc,hrun,hr⟩:=j2j (P:=P) hT hn ha hle hall k2 k3 k4
      exact C0 hG (by simp [execOp,ho,hx',Instr.loadAt,Instr.sureAddr,hrun]) hr
   | _=>cases h
 | _=>cases h
theorem v1m (hT:TabOk P D) {Γ:Ctx} (hG:Good D B0 Gd Γ) {ρ:Operand→AV} {ρc:Operand→Value} (hρ:∀ x,RepA D Γ (ρc x) (ρ x)) {o:Oper} {t:Nat} {x:Operand} {os:List Orc} {r:Eff × List Orc × List Prop} (ho:o.op=.load t x) (h:x2z D (lk Γ.objs) t (ρ x) os=some r) (hp:All r.2.2) :
    F4 P D B0 Gd Γ ((execOp ρc o).run P) r.1:=by
 have h0:z0y D (lk Γ.objs) t (ρ x) os=some r→F4 P D B0 Gd Γ ((execOp ρc o).run P) r.1:=fun h=>q8l hT hG hρ ho h hp fun l off cs v u r' hx hl hF=>q8m hT hG hρ ho hx hl hF
 unfold x2z at h
 cases os with
 | nil=>exact h0 h
 | cons q os =>
  cases q with
  | tv =>
   simp only at h
   cases hc:D.isAgg t with
   | true=>rw [hc] at h;exact q8n hT hG hρ ho h
   | false=>rw [hc] at h;exact h0 h
  | _=>exact h0 h
end Gev
namespace Gev
open Go
variable {D:Tab} {B0:Nat} {Gd:World→Prop} {P:Program}
theorem j4n {fr e n:Nat} {ti:TI} {os:List Orc} {r:Eff × List Orc × List Prop} (h:j4m D fr e n ti os=some r) :
    r.1=.val (.vec fr n) [(fr,.vec e (List.replicate n ti.zero))] []∨∃ e2 ti2 by',ti=⟨1,by',.slice e2,[.list []]⟩∧D.ty e2=some ti2∧r.1=.val (.vec fr n) [(fr,.mat e (List.replicate n []) [])] []:=by
 unfold j4m at h
 split at h
 · split at h
   · rename_i e2
     cases he:D.ty e2 with
     | none=>rw [he] at h;cases h
     | some ti2=>rw [he] at h;cases h;exact .inr ⟨_,_,_,rfl,he,rfl⟩
   · cases h
 · cases h;exact .inl rfl
section
variable (hT:TabOk P D) (hs:Stable B0 Gd) {Γ:Ctx} (hG:Good D B0 Gd Γ) {ρ:Operand→AV} {ρc:Operand→Value} (hρ:∀ x,RepA D Γ (ρc x) (ρ x))
include hT hs hG hρ
theorem v0z {o:Oper} {fr:Nat} (hfr:P2 D o.op=true→fr<Γ.objs.length∧lk Γ.objs fr=none) {os:List Orc} {r:Eff × List Orc × List Prop} (h:eff D ρ (lk Γ.objs) fr o.op os=some r) (hp:All r.2.2) :
    F4 P D B0 Gd Γ ((execOp ρc o).run P) r.1:=by
 cases ho:o.op with
 | move x=>rw [ho] at h;cases G7 h;exact q3j hG hρ (.inl ho)
 | assign x=>rw [ho] at h;cases G7 h;exact q3j hG hρ (.inr ho)
 | pick c a b =>
  rw [ho] at h
  simp only [eff] at h
  cases hc:ρ c with
  | c d =>
   rw [hc] at h
   cases d with
   | bool t =>
    obtain ⟨t',os1,p1,b1,os2,q1,h1,h2,rfl⟩:=bind_some h
    cases k2d h1
    cases G7 h2
    exact v1n hG hρ ho hc
   | _=>cases h
  | _=>rw [hc] at h;cases h
 | alloc t =>
  obtain ⟨hf,hn⟩:=hfr (by rw [ho];rfl)
  rw [ho] at h
  simp only [eff] at h
  cases ht:D.ty t with
  | none=>rw [ht] at h;cases h
  | some ti =>
   rw [ht] at h
   cases A2 h
   exact q8d hT hs hG hρ hf hn ho ht
 | box t x =>
  obtain ⟨hf,hn⟩:=hfr (by rw [ho];rfl)
  exact op_box hT hs hG hρ hf hn ho h
 | build t parts =>
  · skip
    rw [ho] at h
    simp only [eff] at h
    cases ht:D.ty t with
    | none=>rw [ht] at h;cases h
    | some ti =>
     rw [ht] at h
     have new:∀ os,(do
         sure (D.isAgg t)
         let vs ← lift (y9b (place D t) (lk Γ.objs) (ti.zero.map fun | .list _=>.nils | d=>.c d) (parts.toList.map fun p=>(p.1,ρ p.2)))
         pure (.val (.agv vs) [] ((parts.toList.map fun p=>(p.1,ρ p.2)).flatMap fun p=>p.2.rd)):M Eff) os=some r→F4 P D B0 Gd Γ ((execOp ρc o).run P) r.1:=by
      intro os h
      obtain ⟨_,os1,p1,b1,os2,q1,h1,h2,rfl⟩:=bind_some h
      obtain ⟨k1,e1⟩:=D3 h1
      cases e1
      obtain ⟨x,os3,p3,b3,os4,q3,h3,h4,e4⟩:=bind_some h2
      cases e4
      obtain ⟨x',h5,e5⟩:=G6 h3
      cases e5
      cases A2 h4
      exact q5c hT hs hG hρ ho ht k1 h5
     have old:∀ os,(do
         sure (D.isAgg t)
         let (cs,u,r) ← lift (z7e (place D t) (lk Γ.objs) ti.zero (parts.toList.map fun p=>(p.1,ρ p.2)))
         pure (.val (.agg cs) u r):M Eff) os=some r→F4 P D B0 Gd Γ ((execOp ρc o).run P) r.1:=by
      intro os h
      obtain ⟨_,os1,p1,b1,os2,q1,h1,h2,rfl⟩:=bind_some h
      obtain ⟨k1,e1⟩:=D3 h1
      cases e1
      obtain ⟨x,os3,p3,b3,os4,q3,h3,h4,e4⟩:=bind_some h2
      cases e4
      obtain ⟨x',h5,e5⟩:=G6 h3
      cases e5
      obtain ⟨cs,u,r⟩:=x
      cases A2 h4
      exact q8f hT hs hG hρ ho ht k1 h5
     cases os with
     | nil=>exact old _ h
     | cons q os=>cases q <;> first | exact new _ h | exact old _ h
 | buildSlice t len parts =>
  obtain ⟨hf,hn⟩:=hfr (by rw [ho];rfl)
  rw [ho] at h
  simp only [eff] at h
  cases ht:D.ty t with
  | none=>rw [ht] at h;cases h
  | some tt =>
   obtain ⟨sz,by',u,zz⟩:=tt
   rw [ht] at h
   cases u with
   | slice e =>
    simp only at h
    cases he:D.ty e with
    | none=>rw [he] at h;cases h
    | some ti =>
     rw [he] at h
     cases hca:(parts.toList.any fun p=>(ρ p.2).caps) with
     | true =>
      rw [hca] at h
      obtain ⟨_,os1,p1,b1,os2,q1,h1,h2,rfl⟩:=bind_some h
      obtain ⟨k1,e1⟩:=D3 h1
      cases e1
      cases A2 h2
      simp only [Bool.and_eq_true,decide_eq_true_eq,beq_iff_eq,List.all_eq_true] at k1
      exact q3i hT hs hG hρ hf hn ho ht he k1.1.1.1 k1.1.1.2 k1.1.2 (fun p hp=>by
       have h:=k1.2 p hp
       have hv:=hρ p.2
       generalize ρ p.2=a at h hv
       generalize ρc p.2=u at hv
       cases hv <;> first | rfl | cases h) (R:=[]) (hne:=fun e0=>by
       subst e0
       have:=k1.1.2
       rw [List.range_zero,List.map_eq_nil_iff] at this
       rw [this] at hca
       cases hca)
     | false =>
      rw [hca] at h
      simp only [cond_false] at h
      unfold k2a at h
      split at h
      · obtain ⟨_,os1,p1,b1,os2,q1,h1,h2,rfl⟩:=bind_some h
        obtain ⟨k1,e1⟩:=D3 h1
        cases e1
        cases A2 h2
        simp only [Bool.and_eq_true,decide_eq_true_eq,beq_iff_eq,bne_iff_ne,List.all_eq_true] at k1
        obtain ⟨⟨⟨⟨c1,c2⟩,c3⟩,c4⟩,c5⟩:=k1
        rw [List.map_map] at c4
        rw [List.map_map]
        exact q3i hT hs hG hρ hf hn ho ht he c1 c2 c4 (fun p hp=>by
         have h:=c5 (p.1,ρ p.2) (List.mem_map_of_mem hp)
         simp only at h
         have hv:=hρ p.2
         cases ha:ρ p.2 with
         | vec l n =>
          rw [ha] at h hv
          obtain ⟨d1,d2⟩:=z6n h.2
          exact (y8t hv rfl d1 d2).2
         | _=>rw [ha] at h;cases h.1) c3 _
      · obtain ⟨_,os1,p1,b1,os2,q1,h1,h2,rfl⟩:=bind_some h
        obtain ⟨k1,e1⟩:=D3 h1
        cases e1
        obtain ⟨x,os3,p3,b3,os4,q3,h3,h4,e4⟩:=bind_some h2
        cases e4
        obtain ⟨x',h5,e5⟩:=G6 h3
        cases e5
        obtain ⟨cs,u,r⟩:=x
        cases A2 h4
        simp only [Bool.and_eq_true,decide_eq_true_eq,beq_iff_eq,bne_iff_ne] at k1
        exact j0h hT hs hG hρ hf hn ho ht he k1.1.1 k1.1.2 k1.2 h5
   | _=>cases h
 | load t a=>rw [ho] at h;exact v1m hT hG hρ ho h hp
 | store t a x=>rw [ho] at h;exact q8p hT hs hG hρ ho h hp
 | nilCheck x =>
  rw [ho] at h
  simp only [eff] at h
  cases hx:ρ x with
  | ptr l off =>
   rw [hx] at h
   cases G7 h
   rw [← hx]
   refine k2l hG hρ ho fun v hv=>?_
   rw [hx] at hv
   cases hv with
   | ptr _ _ b cs a1 a2=>exact ⟨_,rfl⟩
  | eptr cs =>
   rw [hx] at h
   cases G7 h
   rw [← hx]
   refine k2l hG hρ ho fun v hv=>?_
   rw [hx] at hv
   cases hv with
   | eptr a _ _ _ _=>exact ⟨_,rfl⟩
  | _=>rw [hx] at h;cases h
 | binOp op t x y z =>
  rw [ho] at h
  obtain ⟨d,os1,p1,b1,os2,q1,h1,h2,rfl⟩:=bind_some h
  obtain ⟨d2,os3,p3,b3,os4,q3,h3,h4,e4⟩:=bind_some h2
  cases e4
  cases G7 h4
  have h5:=j9x h3 (all_append (all_append hp).2).1
  simp only at h5
  rw [h5]
  exact q8e hT hs hG hρ ho h1 (all_append hp).1
 | unOp op t x =>
  rw [ho] at h
  simp only [eff] at h
  cases hx:ρ x with
  | c d =>
   rw [hx] at h
   cases d with
   | bool b =>
    cases op with
    | not=>cases G7 h;exact op_not hG hρ ho hx
    | _=>cases h
   | int k n =>
    cases op with
    | neg=>cases G7 h;exact op_neg hG hρ ho hx
    | _=>cases h
   | _=>cases op <;> cases h
  | _=>rw [hx] at h;cases op <;> cases h
 | convert src dst x=>rw [ho] at h;exact q1j hT hs hG hρ ho h hp
 | makeFunc fn first cap =>
  rw [ho] at h
  cases fn with
  | func f =>
   simp only [eff] at h
   split at h
   · rename_i k1
     cases G7 h
     exact j8m hG hρ ho k1
   · obtain ⟨_,os1,p1,b1,os2,q1,h1,h2,rfl⟩:=bind_some h
     obtain ⟨k1,e1⟩:=D3 h1
     cases e1
     obtain ⟨x,os3,p3,b3,os4,q3,h3,h4,e4⟩:=bind_some h2
     cases e4
     obtain ⟨x',h5,e5⟩:=G6 h3
     cases e5
     obtain ⟨ds,u,r⟩:=x
     cases A2 h4
     exact j0i hT hs hG hρ ho k1 h5
  | _=>cases h
 | makeSlice t x y =>
  obtain ⟨hf,hn⟩:=hfr (by rw [ho];rfl)
  rw [ho] at h
  simp only [eff] at h
  cases ht:D.ty t with
  | none=>rw [ht] at h;cases h
  | some tt =>
   obtain ⟨sz,by',u,zz⟩:=tt
   rw [ht] at h
   cases u with
   | slice e =>
    cases hx:ρ x with
    | c dx =>
     cases dx with
     | int kx n =>
      cases hy:ρ y with
      | c dy =>
       cases dy with
       | int ky m =>
        rw [hx,hy] at h
        cases kx with
        | i64 =>
         cases ky with
         | i64 =>
          simp only at h
          cases he:D.ty e with
          | none=>rw [he] at h;cases h
          | some ti =>
           rw [he] at h
           obtain ⟨_,os1,p1,b1,os2,q1,h1,h2,rfl⟩:=bind_some h
           obtain ⟨k1,e1⟩:=D3 h1
           cases e1
           obtain ⟨_,os3,p3,b3,os4,q3,h3,h4,e4⟩:=bind_some h2
           cases e4
           cases G2 h3
           have hp1:=(all_append (all_append hp).2).1
           rcases j4n h4 with e4 | ⟨e2,ti2,by2,rfl,he2,e4⟩
           · cases e4
             exact j5k hT hs hG hρ hf hn ho ht he hx hy (by simpa using k1) (by simpa [All] using hp1)
           · cases e4
             exact q1l hT hs hG hρ hf hn ho ht he he2 hx hy (by simpa [All] using hp1)
         | _=>cases h
        | _=>cases ky <;> cases h
       | _=>rw [hx,hy] at h;cases kx <;> cases h
      | _=>rw [hx,hy] at h;cases kx <;> cases h
     | _=>rw [hx] at h;cases h
    | _=>rw [hx] at h;cases h
   | _=>cases h
 | slice t x lo hi mx =>
  rw [ho] at h
  cases mx with
  | none =>
   obtain ⟨l,os1,p1,b1,os2,q1,h1,h2,rfl⟩:=bind_some h
   obtain ⟨_,k1,e1⟩:=G6 h1
   cases e1
   obtain ⟨hh,os3,p3,b3,os4,q3,h3,h4,e4⟩:=bind_some h2
   cases e4
   obtain ⟨_,k3,e3⟩:=G6 h3
   cases e3
   exact q8o hT hs hG hρ ho (k7m hρ k1) (k7m hρ k3) h4 (by simpa using hp)
  | some _=>cases h
 | fieldAddr t x f=>rw [ho] at h;exact q8j hT hG hρ ho h
 | field t x f =>
  rw [ho] at h
  simp only [eff] at h
  cases hx:ρ x with
  | agg cs =>
   rw [hx] at h
   cases ht:D.ty t with
   | none=>rw [ht] at h;cases h
   | some tt =>
    obtain ⟨sz,by',u,zz⟩:=tt
    rw [ht] at h
    cases u with
    | struct fs =>
     obtain ⟨p,os1,p1,b1,os2,q1,h1,h2,rfl⟩:=bind_some h
     obtain ⟨_,k1,e1⟩:=G6 h1
     cases e1
     obtain ⟨v,os3,p3,b3,os4,q3,h3,h4,e4⟩:=bind_some h2
     cases e4
     obtain ⟨_,k3,e3⟩:=G6 h3
     cases e3
     cases G7 h4
     exact j8l hT hs hG hρ ho hx ht k1 k3
    | _=>cases h
  | _=>rw [hx] at h;cases h
 | indexAddr t x i =>
  rw [ho] at h
  simp only [eff] at h
  cases hi:ρ i with
  | c d =>
   rw [hi] at h
   cases d with
   | int k n=>exact j5j hT hs hG hρ ho hi h hp
   | _=>cases h
  | _=>rw [hi] at h;cases h
 | index t x i =>
  rw [ho] at h
  simp only [eff] at h
  cases hi:ρ i with
  | c d =>
   rw [hi] at h
   cases d with
   | int k n=>exact q8k hT hs hG hρ ho hi h hp
   | _=>cases h
  | _=>rw [hi] at h;cases h
 | extract x i =>
  rw [ho] at h
  simp only [eff] at h
  cases hx:ρ x with
  | tup vs =>
   rw [hx] at h
   obtain ⟨v,os3,p3,b3,os4,q3,h3,h4,rfl⟩:=bind_some h
   obtain ⟨_,k3,e3⟩:=G6 h3
   cases e3
   cases G7 h4
   exact q1k hG hρ ho hx k3
  | _=>rw [hx] at h;cases h
 | call c =>
  obtain ⟨cal,args,ts⟩:=c
  cases cal with
  | value g =>
   rw [ho] at h
   simp only [eff] at h
   cases hg:ρ g with
   | fn f cap=>rw [hg] at h;exact v1l hT hs hG hρ ho hg h
   | mv f ds=>rw [hg] at h;exact q8h hT hs hG hρ ho hg h
   | c d =>
    rw [hg] at h
    cases d with
    | fn f=>exact q8g hT hs hG hρ ho hg h
    | _=>cases h
   | _=>rw [hg] at h;cases h
  | builtin b =>
   have hargs:∀ l:List Operand,args.toList=l→args=l.toArray:=fun l e=>by rw [← e]
   have ho':=ho
   rw [ho] at h
   simp only [eff] at h
   cases b with
   | len =>
    cases hl:args.toList with
    | nil=>rw [hl] at h;cases h
    | cons x xs =>
     cases xs with
     | nil =>
      rw [hl] at h
      have:=hargs _ hl
      subst this
      exact op_len hT hs hG hρ ho h
     | cons y ys =>
      rw [hl] at h
      simp only [List.map_cons,J3] at h
      cases hx:ρ x with
      | c d=>rw [hx] at h;cases d <;> cases h
      | _=>rw [hx] at h;cases h
   | append =>
    obtain ⟨hf,hn⟩:=hfr (by rw [ho];rfl)
    cases hl:args.toList with
    | nil=>rw [hl] at h;cases h
    | cons x xs =>
     cases xs with
     | nil=>rw [hl] at h;cases h
     | cons y ys =>
      cases ys with
      | nil =>
       rw [hl] at h
       have:=hargs _ hl
       subst this
       simp only [List.map_cons,List.map_nil,J3] at h
       cases ht:ts.toList with
       | nil=>rw [ht] at h;cases h
       | cons t ts' =>
        cases ts' with
        | nil=>rw [ht] at h;cases h
        | cons t' ts'' =>
         cases ts'' with
         | nil =>
          rw [ht] at h
          obtain ⟨_,os1,p1,b1,os2,q1,h1,h2,rfl⟩:=bind_some h
          obtain ⟨k1,e1⟩:=D3 h1
          cases e1
          have k1':t'=t:=by simpa using k1
          subst k1'
          have e2:ts=#[t',t']:=by rw [← Array.toArray_toList (xs:=ts),ht]
          subst e2
          exact q5b hT hs hG hf hn hρ ho h2 (by simpa using hp)
         | cons _ _=>rw [ht] at h;cases h
      | cons _ _=>rw [hl] at h;cases h
   | clear =>
    cases hl:args.toList with
    | nil=>rw [hl] at h;cases h
    | cons x xs =>
     cases xs with
     | cons y ys =>
      rw [hl] at h
      simp only [List.map_cons,J3] at h
      cases hx:ρ x <;> rw [hx] at h <;> cases h
     | nil =>
      rw [hl] at h
      have:=hargs _ hl
      subst this
      simp only [List.map_cons,List.map_nil] at h
      cases hx:ρ x with
      | vtl e l lo hi =>
       rw [hx] at h
       simp only [J3] at h
       cases hk:lk Γ.objs l with
       | none=>rw [hk] at h;cases h
       | some ob =>
        rw [hk] at h
        cases ob with
        | vec e' xs =>
         cases he:D.ty e with
         | none=>rw [he] at h;cases h
         | some ti =>
          cases hts:ts.toList with
          | nil=>rw [he,hts] at h;cases h
          | cons t ts' =>
           cases ts' with
           | cons _ _=>rw [he,hts] at h;cases h
           | nil =>
            rw [he,hts] at h
            simp only at h
            cases ht:D.ty t with
            | none=>rw [ht] at h;cases h
            | some tt =>
             obtain ⟨sz,by',u,zz⟩:=tt
             rw [ht] at h
             cases u with
             | slice e2 =>
              obtain ⟨_,os1,p1,b1,os2,q1,h3,h4,rfl⟩:=bind_some h
              obtain ⟨k1,e1⟩:=D3 h3
              cases e1
              cases A2 h4
              simp only [Bool.and_eq_true,beq_iff_eq,bne_iff_ne] at k1
              obtain ⟨⟨⟨k1,k2⟩,k3⟩,k4⟩:=k1
              subst k2
              exact q8i hT hs hG hρ ho hx hk he hts ht k1 k3 k4
             | _=>cases h
        | _=>cases h
      | _=>rw [hx] at h;cases h
   | max =>
    cases hl:args.toList with
    | nil=>rw [hl] at h;cases h
    | cons x xs =>
     rw [hl] at h
     simp only [List.map_cons,J3] at h
     cases hx:ρ x with
     | c d =>
      rw [hx] at h
      cases d with
      | int k a =>
       obtain ⟨v,os3,p3,b3,os4,q3,h3,h4,rfl⟩:=bind_some h
       obtain ⟨_,k3,e3⟩:=G6 h3
       cases e3
       cases G7 h4
       exact op_max hT hs hG hρ ho hl hx k3
      | _=>cases h
     | _=>rw [hx] at h;cases h
   | min =>
    cases hl:args.toList with
    | nil=>rw [hl] at h;cases h
    | cons x xs =>
     rw [hl] at h
     simp only [List.map_cons,J3] at h
     cases hx:ρ x with
     | c d =>
      rw [hx] at h
      cases d with
      | int k a =>
       obtain ⟨v,os3,p3,b3,os4,q3,h3,h4,rfl⟩:=bind_some h
       obtain ⟨_,k3,e3⟩:=G6 h3
       cases e3
       cases G7 h4
       exact op_min hT hs hG hρ ho hl hx k3
      | _=>cases h
     | _=>rw [hx] at h;cases h
   | _=>cases h
  | _=>rw [ho] at h;cases h
 | _=>rw [ho] at h;cases h
end
end Gev
namespace Gev
open Go
variable {P:Program} {D:Tab} {B0:Nat} {Gd:World→Prop}
theorem RepD.same {w:World} {own own':Nat→Prop} (h:∀ b,own' b→own b) {v:Value} {d:DV} (hv:RepD w own v d):RepD w own' v d:=hv.mono (Kept.refl _ _) fun b _=>h b
theorem x3i {S:Sig} {w:World} {b:Nat}:¬ (Ctx.mk S [] w).mine b:=by
 rintro ⟨l,o,h,_⟩
 simp [lk] at h
theorem x1q {S:Nat→Option Nat} {g:Nat→Nat→Option Nat} {p:Nat→Prop} {w:World} {b:Nat}:(Ctx.mk ⟨S,g,p⟩ [] w).own b↔p b :=
 ⟨fun h=>h.elim id fun h=>(x3i h).elim,.inl⟩
theorem y0d {Γ Γ':Ctx} (hw:Γ'.w=Γ.w) (ho:∀ b,Γ'.own b→Γ.own b) {v:Value} {a:AV} (hd:a.Data) (h:RepA D Γ v a):RepA D Γ' v a:=by
 induction h with
 | c h=>exact .c (by rw [hw];exact h.same ho)
 | agg vs cs hl h=>exact .agg vs cs hl fun j u d h1 h2=>by rw [hw];exact (h j u d h1 h2).same ho
 | fn f vs cap hl h ih =>
  cases hd
  exact .fn f vs [] hl fun i v a _ h2=>by simp at h2
 | undef v=>exact .undef v
 | mv f vs ds hl hd2 h ih=>exact .mv f vs ds hl hd2 fun i v a h1 h2=>ih i v a h1 h2 (hd2 i a h2)
 | tup vs us hl h ih =>
  cases hd with
  | tup _ hd=>exact .tup vs us hl fun i v a h1 h2=>ih i v a h1 h2 (hd i a h2)
 | _=>cases hd
structure TrB (D:Tab) (n:Nat) (Γ Γ':Ctx):Prop where
 kept:Kept Γ.mine Γ.w Γ'.w
 ext:Γ'.S.ext=Γ.S.ext
 mine:∀ b,Γ'.mine b→Γ.mine b∨Γ.w.heap.size≤b
 ptr:∀ l cs,l<n→lk Γ.objs l=some (.cells cs)→∃ cs',lk Γ'.objs l=some (.cells cs')∧Γ'.S l=Γ.S l
 vec:∀ v l len,l<n→RepA D Γ v (.vec l len)→RepA D Γ' v (.vec l len)
 vptr:∀ v l i off,l<n→RepA D Γ v (.vptr l i off)→RepA D Γ' v (.vptr l i off)
theorem Tr.toB {Γ Γ':Ctx} (h:Tr D Γ Γ') (n:Nat):TrB D n Γ Γ':=⟨h.kept,h.ext,h.mine,fun l cs _=>h.ptr l cs,fun v l len _=>h.vec v l len,fun v l i off _=>h.vptr v l i off⟩
theorem TrB.trans {n m:Nat} {Γ Γ1 Γ2:Ctx} (h:TrB D n Γ Γ1) (k:TrB D m Γ1 Γ2) (hm:n≤m):TrB D n Γ Γ2 where
 kept:=h.kept.trans k.kept h.mine
 ext:=k.ext.trans h.ext
 mine b hb:=(k.mine b hb).elim (h.mine b) fun h2=>.inr (Nat.le_trans h.kept.size h2)
 ptr l cs hn hl:=by
  obtain ⟨cs1,h1,e1⟩:=h.ptr l cs hn hl
  obtain ⟨cs2,h2,e2⟩:=k.ptr l cs1 (by omega) h1
  exact ⟨cs2,h2,e2.trans e1⟩
 vec v l len hn hv:=k.vec v l len (by omega) (h.vec v l len hn hv)
 vptr v l i off hn hv:=k.vptr v l i off (by omega) (h.vptr v l i off hn hv)
structure FnOk (P:Program) (D:Tab) (B0:Nat) (Gd:World→Prop) (f:Nat) (args:List AV) (r:AV):Prop where
 enters:∀ cargs w,(callFunc f cargs).run P w=.ok (.enter f cargs) w
 data:r.Data
 calls:∀ (w:World) (ext:Nat→Prop) (cargs:Array Value),Gd w→B0≤w.heap.size→(∀ b,ext b→B0≤b∧b<w.heap.size)→cargs.size=args.length →
  (∀ (i:Nat) v a,cargs[i]?=some v→args[i]?=some a→RepA D ⟨⟨fun _=>none,fun _ _=>none,ext⟩,[],w⟩ v a) →
  Calls P f cargs w fun e w'=>∃ v,e=.returned v∧Gd w'∧Kept (fun _=>False) w w'∧RepA D ⟨⟨fun _=>none,fun _ _=>none,ext⟩,[],w'⟩ v r
structure RunOk (P:Program) (D:Tab) (B0:Nat) (Gd:World→Prop) (f:Nat) (args:List AV) (objs:Objs) (r:AV) (objs':Objs):Prop where
 enters:∀ cargs w,(callFunc f cargs).run P w=.ok (.enter f cargs) w
 calls:∀ (Γ:Ctx) (cargs:Array Value),Γ.objs=objs→Good D B0 Gd Γ→cargs.size=args.length→(∀ (i:Nat) v a,cargs[i]?=some v→args[i]?=some a→RepA D Γ v a) →
  Calls P f cargs Γ.w fun e w'=>∃ v Γ',e=.returned v∧Γ'.objs=objs'∧Γ'.w=w'∧Good D B0 Gd Γ'∧Tr D Γ Γ'∧RepA D Γ' v r
def Out.fits:Out→Exit→Prop
 | .norm,e=>e=.normal
 | .exit id,e=>e=.exit id
 | .ret,e=>e=.ret
abbrev Fr (ro:Option Nat):Fence:={ Fence.wide with round:=ro }
theorem Fr.calls {ro:Option Nat} {m:Nat} {f:Nat} {args:Array Value} {w:World} {R:Ending→World→Prop} (h:Calls P f args w R):CallsIn (Fr ro) m P f args w R:=(callsIn_wide (n:=m)).2 h
theorem Fr.none:Fr none=Fence.wide:=rfl
def q5w (P:Program) (D:Tab) (B0:Nat) (Gd:World→Prop) (n:Nat) (b:Code) (o:Out) (st':St):Nat→St→Prop
 | 0,_=>False
 | k+1,st=>∀ (ro:Option Nat) (m:Nat) (Γ:Ctx) (a:Act),n≤st.objs.length→Γ.objs=st.objs→Good D B0 Gd Γ→Slots D Γ st.slots a →
  b.wpIn (Fr ro) m P (fun e a' w' =>
   (e=.normal∧∃ st1 Γ1,n≤st1.objs.length∧Γ1.objs=st1.objs∧Γ1.w=w'∧Good D B0 Gd Γ1∧Slots D Γ1 st1.slots a'∧TrB D n Γ Γ1∧a'.defers=a.defers∧q5w P D B0 Gd n b o st' k st1) ∨
   (e≠.normal∧o.fits e∧∃ Γ',Γ'.objs=st'.objs∧Γ'.w=w'∧Good D B0 Gd Γ'∧Slots D Γ' st'.slots a'∧TrB D n Γ Γ'∧a'.defers=a.defers)) a Γ.w
def y4x (P:Program) (D:Tab) (B0:Nat) (Gd:World→Prop) (n:Nat) (b:Code) (st:St) (o:Out) (st':St):Prop:=∃ k,q5w P D B0 Gd n b o st' k st
def sem (P:Program) (D:Tab) (B0:Nat) (Gd:World→Prop):Sem3:=⟨FnOk P D B0 Gd,RunOk P D B0 Gd,y4x P D B0 Gd⟩
end Gev
namespace Gev
open Go
variable {P:Program} {D:Tab} {B0:Nat} {Gd:World→Prop}
def Ob.plain:Ob→Bool
 | .cells cs=>cs.all fun v=>match v with | .c _ | .nils=>true | _=>false
 | .mat _ _ lent=>lent.isEmpty
 | _=>true
def x8f (ρ:Nat→Nat) (lent:List (Nat × Nat × Nat)):List (Nat × Nat × Nat):=lent.map fun p=>(p.1,ρ p.2.1,p.2.2)
theorem j2h (ρ:Nat→Nat) (lent:List (Nat × Nat × Nat)):z0d (x8f ρ lent)=z0d lent:=by
 funext i
 refine propext ⟨?_,?_⟩
 · rintro ⟨p,hp,h⟩
   obtain ⟨q,hq,rfl⟩:=List.mem_map.1 hp
   exact ⟨q,hq,h⟩
 · rintro ⟨q,hq,h⟩
   exact ⟨_,List.mem_map_of_mem hq,h⟩
def Ob.ren (ρ:Nat→Nat):Ob→Ob
 | .cells cs=>.cells (cs.map (AV.ren ρ))
 | .mat t xss lent=>.mat t xss (x8f ρ lent)
 | o=>o
theorem z6g {f:Option Nat} {g:Nat→Option Nat} {ρ:Nat→Nat} {o:Ob} {b:Nat}:blk f g (o.ren ρ) b↔blk f g o b:=by
 cases o with
 | mat t xss lent=>show (_∨∃ i,i<xss.length∧¬ z0d (x8f ρ lent) i∧_)↔_;rw [j2h];exact Iff.rfl
 | _=>exact Iff.rfl
def Ob.inB (k:Nat):Ob→Bool
 | .cells cs=>cs.all (AV.inB k)
 | .mat _ _ lent=>lent.all fun p=>decide (p.2.1<k)
 | _=>true
def Ob.simple:Ob→Bool
 | .cells _ | .mat ..=>false
 | _=>true
theorem Ob.ren_live (ρ:Nat→Nat) (o:Ob):(o.ren ρ).live=o.live:=by cases o <;> rfl
structure Like (D:Tab) (ρ:Nat→Nat) (k:Nat) (Γ Γ':Ctx):Prop where
 w:Γ'.w=Γ.w
 own:∀ b,Γ'.own b↔Γ.own b
 lk:∀ i,i<k→Gev.lk Γ'.objs (ρ i)=(Gev.lk Γ.objs i).map (Ob.ren ρ)
 S:∀ i,i<k→(Gev.lk Γ.objs i).isSome=true→Γ'.S (ρ i)=Γ.S i
 g:∀ i,i<k→(Gev.lk Γ.objs i).isSome=true→Γ'.S.g (ρ i)=Γ.S.g i
theorem Like.fw {ρ:Nat→Nat} {k:Nat} {Γ Γ':Ctx} (h:Like D ρ k Γ Γ') {l:Nat} (hl:l<k) {o:Ob} (h1:Gev.lk Γ.objs l=some o):Gev.lk Γ'.objs (ρ l)=some (o.ren ρ):=by
 rw [h.lk l hl,h1];rfl
theorem Like.bwc {ρ:Nat→Nat} {k:Nat} {Γ Γ':Ctx} (h:Like D ρ k Γ Γ') {l:Nat} (hl:l<k) {o:Ob} (h1:Gev.lk Γ'.objs (ρ l)=some o):∃ o0,Gev.lk Γ.objs l=some o0∧o0.ren ρ=o:=by
 rw [h.lk l hl] at h1
 exact Option.map_eq_some_iff.1 h1
theorem Like.bw {ρ:Nat→Nat} {k:Nat} {Γ Γ':Ctx} (h:Like D ρ k Γ Γ') {l:Nat} (hl:l<k) {o:Ob} (ho:o.simple=true)(h1:Gev.lk Γ'.objs (ρ l)=some o):Gev.lk Γ.objs l=some o:=by
 obtain ⟨o0,e1,e2⟩:=h.bwc hl h1
 cases o0 with
 | cells cs=>rw [← e2] at ho;cases ho
 | mat _ _ _=>rw [← e2] at ho;cases ho
 | _=>rw [e1,← e2];rfl
theorem Like.repD {ρ:Nat→Nat} {k:Nat} {Γ Γ':Ctx} (h:Like D ρ k Γ Γ') {v:Value} {d:DV} (hv:RepD Γ.w Γ.own v d):RepD Γ'.w Γ'.own v d:=by
 have:Γ'.own=Γ.own:=funext fun b=>propext (h.own b)
 rw [h.w,this];exact hv
theorem Like.repD' {ρ:Nat→Nat} {k:Nat} {Γ Γ':Ctx} (h:Like D ρ k Γ Γ') {v:Value} {d:DV} (hv:RepD Γ'.w Γ'.own v d):RepD Γ.w Γ.own v d:=by
 have:Γ'.own=Γ.own:=funext fun b=>propext (h.own b)
 rw [h.w,this] at hv;exact hv
theorem Like.dat {ρ:Nat→Nat} {k:Nat} {Γ Γ':Ctx} (h:Like D ρ k Γ Γ') {v:Value} {a:AV} (ha:AV.isDat a=true):RepA D Γ v a↔RepA D Γ' v a:=by
 have one:∀ (u:Value) (a:AV),(match a with | .c _ | .undef | .agg _=>true | _=>false)=true→(RepA D Γ u a↔RepA D Γ' u a):=by
  intro u a ha
  cases a with
  | c d=>exact ⟨fun x=>by cases x with | c hd=>exact .c (h.repD hd),fun x=>by cases x with | c hd=>exact .c (h.repD' hd)⟩
  | undef=>exact ⟨fun _=>.undef _,fun _=>.undef _⟩
  | agg cs=>exact ⟨fun x=>by cases x with | agg vs _ hl hd=>exact .agg vs cs hl fun j u d a b=>h.repD (hd j u d a b),fun x=>by cases x with | agg vs _ hl hd=>exact .agg vs cs hl fun j u d a b=>h.repD' (hd j u d a b)⟩
  | _=>simp at ha
 cases a with
 | c d=>exact one v _ rfl
 | undef=>exact one v _ rfl
 | agg cs=>exact one v _ rfl
 | nils=>exact ⟨fun x=>by cases x;exact .nils,fun x=>by cases x;exact .nils⟩
 | tup us =>
  simp only [AV.isDat,List.all_eq_true] at ha
  exact ⟨fun x=>by cases x with | tup vs _ hl hd=>exact .tup vs us hl fun i u a p q=>(one u a (ha a (List.mem_of_getElem? q))).1 (hd i u a p q),fun x=>by cases x with | tup vs _ hl hd=>exact .tup vs us hl fun i u a p q=>(one u a (ha a (List.mem_of_getElem? q))).2 (hd i u a p q)⟩
 | mv f us =>
  simp only [AV.isDat,List.all_eq_true] at ha
  exact ⟨fun x=>by cases x with | mv _ vs _ hl hq hd=>exact .mv f vs us hl hq fun i u a p q=>(one u a (ha a (List.mem_of_getElem? q))).1 (hd i u a p q),fun x=>by cases x with | mv _ vs _ hl hq hd=>exact .mv f vs us hl hq fun i u a p q=>(one u a (ha a (List.mem_of_getElem? q))).2 (hd i u a p q)⟩
 | _=>simp [AV.isDat] at ha
theorem z1h {α:Type} {o:Option α} {a:α} (h:o=some a):o.isSome=true:=by rw [h];rfl
theorem Like.up {ρ:Nat→Nat} {k:Nat} {Γ Γ':Ctx} (h:Like D ρ k Γ Γ') {v:Value} {a:AV} (ha:a.inB k=true):RepA D Γ v a↔RepA D Γ' v (a.ren ρ):=by
 have hp:∀ (u:Value) l o,l<k→(RepA D Γ u (.ptr l o)↔RepA D Γ' u (.ptr (ρ l) o)):=fun u l o hl =>
  ⟨fun x=>by cases x with | ptr _ _ b cs h1 h2=>exact .ptr (ρ l) o b _ (h.fw hl h1) ((h.S l hl (z1h h1)).trans h2),
   fun x=>by
    cases x with
    | ptr _ _ b cs h1 h2 =>
     obtain ⟨o0,e1,e2⟩:=h.bwc hl h1
     cases o0 with
     | cells cs0=>exact .ptr l o b cs0 e1 ((h.S l hl (z1h e1)).symm.trans h2)
     | _=>cases e2⟩
 have hfn:∀ (v:Value) (f:Nat) (cap:List AV),(∀ a∈cap,AV.in1 k a=true)→(RepA D Γ v (.fn f cap)↔RepA D Γ' v (.fn f (cap.map (AV.ren1 ρ)))):=by
  intro v f cap ha
  have one:∀ (u:Value) (a:AV),AV.in1 k a=true→(RepA D Γ u a↔RepA D Γ' u (a.ren1 ρ)):=by
   intro u a ha
   cases a with
   | ptr l o=>exact hp u l o (by simpa [AV.in1] using ha)
   | c d=>exact ⟨fun x=>by cases x with | c hd=>exact .c (h.repD hd),fun x=>by cases x with | c hd=>exact .c (h.repD' hd)⟩
   | _=>simp [AV.in1] at ha
  constructor
  · intro x
    cases x with
    | fn _ vs _ hl hd =>
     refine .fn f vs _ (by simp [hl]) fun i u a p q=>?_
     rw [List.getElem?_map] at q
     cases hc:cap[i]? with
     | none=>rw [hc] at q;cases q
     | some a'=>rw [hc] at q;cases q;exact (one u a' (ha a' (List.mem_of_getElem? hc))).1 (hd i u a' p hc)
  · intro x
    generalize hcap:AV.fn f (cap.map (AV.ren1 ρ))=y at x
    cases x with
    | fn _ vs cap' hl hd =>
     cases hcap
     refine .fn f vs _ (by simpa using hl) fun i u a p q=>?_
     exact (one u a (ha a (List.mem_of_getElem? q))).2 (hd i u (a.ren1 ρ) p (by rw [List.getElem?_map,q];rfl))
    | _=>cases hcap
 have hvec:∀ (v:Value) (l n:Nat),l<k→(RepA D Γ v (.vec l n)↔RepA D Γ' v (.vec (ρ l) n)):=by
  intro v l n hl
  constructor
  · intro x
    cases x with
    | vnil _ t h1 h2=>exact .vnil (ρ l) t (h.fw hl h1) ((h.S l hl (z1h h1)).trans h2)
    | vec _ _ cap b t ti xs arr h1 h2 h3 h4 h5 h6 h7=>exact .vec (ρ l) n cap b t ti xs arr (h.fw hl h1) h2 ((h.S l hl (z1h h1)).trans h3) h4 (by rw [h.w];exact h5) h6 h7
    | fvec _ _ xs h1 h2 h3=>exact .fvec (ρ l) n xs (h.fw hl h1) (h.repD h2) h3
    | mvec _ _ cap b t xss lent arr h1 h2 h3 h4 h5 h6=>exact .mvec (ρ l) n cap b t xss _ arr (h.fw hl h1) ((h.S l hl (z1h h1)).trans h2) h3 (by rw [h.w];exact h4) h5 h6
    | mnil _ t h1 h2=>exact .mnil (ρ l) t (h.fw hl h1) ((h.S l hl (z1h h1)).trans h2)
    | gone _ _ h1=>exact .gone (ρ l) n (h.fw hl h1)
  · intro x
    have hs:∀ {o:Ob},o.simple=true→Gev.lk Γ'.objs (ρ l)=some o→Gev.lk Γ.objs l=some o:=fun hc h1=>h.bw hl hc h1
    cases x with
    | vnil _ t h1 h2=>exact .vnil l t (hs rfl h1) ((h.S l hl (z1h (hs rfl h1))).symm.trans h2)
    | vec _ _ cap b t ti xs arr h1 h2 h3 h4 h5 h6 h7=>exact .vec l n cap b t ti xs arr (hs rfl h1) h2 ((h.S l hl (z1h (hs rfl h1))).symm.trans h3) h4 (by rw [h.w] at h5;exact h5) h6 h7
    | fvec _ _ xs h1 h2 h3=>exact .fvec l n xs (hs rfl h1) (h.repD' h2) h3
    | mnil _ t h1 h2 =>
     obtain ⟨o0,e1,e2⟩:=h.bwc hl h1
     cases o0 with
     | mat t0 xss0 lent0 =>
      simp only [Ob.ren,Ob.mat.injEq,x8f,List.map_eq_nil_iff] at e2
      obtain ⟨rfl,rfl,rfl⟩:=e2
      exact .mnil l t0 e1 ((h.S l hl (z1h e1)).symm.trans h2)
     | _=>cases e2
    | mvec _ _ cap b t xss lent arr h1 h2 h3 h4 h5 h6 =>
     obtain ⟨o0,e1,e2⟩:=h.bwc hl h1
     cases o0 with
     | mat t0 xss0 lent0=>cases e2;exact .mvec l n cap b _ _ lent0 arr e1 ((h.S l hl (z1h e1)).symm.trans h2) h3 (by rw [h.w] at h4;exact h4) h5 h6
     | _=>cases e2
    | gone _ _ h1=>exact .gone l n (hs rfl h1)
 have h3:∀ (u:Value) (a:AV),AV.in3 k a=true→(RepA D Γ u a↔RepA D Γ' u (a.ren3 ρ)):=by
  intro u a ha
  cases a with
  | vec l n=>exact hvec u l n (by simpa [AV.in3] using ha)
  | c d=>exact h.dat rfl
  | undef=>exact h.dat rfl
  | agg cs=>exact h.dat rfl
  | nils=>exact h.dat rfl
  | _=>simp [AV.in3] at ha
 cases a with
 | vec l n=>exact hvec v l n (by simpa [AV.inB] using ha)
 | ptr l o=>exact hp v l o (by simpa [AV.inB] using ha)
 | vptr l i o =>
  have hl:l<k:=by simpa [AV.inB] using ha
  have hs:∀ {o:Ob},o.simple=true→Gev.lk Γ'.objs (ρ l)=some o→Gev.lk Γ.objs l=some o:=fun hc h1=>h.bw hl hc h1
  constructor
  · intro x
    cases x with
    | vptr _ _ _ b t ti xs h1 h2 h3 h4=>exact .vptr (ρ l) i o b t ti xs (h.fw hl h1) h2 ((h.S l hl (z1h h1)).trans h3) h4
    | fptr _ _ _ a xs x h1 h2 h3 h4 h5=>exact .fptr (ρ l) i o a xs x (h.fw hl h1) h2 (by rw [h.w];exact h3) (fun e=>h4 ((h.own _).1 e)) fun j d hj=>(h5 j d hj).imp fun u e=>⟨by rw [h.w];exact e.1,h.repD e.2⟩
    | mptr _ _ b t xss lent h1 h2 h3=>exact .mptr (ρ l) i b t xss _ (h.fw hl h1) ((h.S l hl (z1h h1)).trans h2) h3
    | pgone _ _ _ h1=>exact .pgone (ρ l) i o (h.fw hl h1)
  · intro x
    cases x with
    | vptr _ _ _ b t ti xs h1 h2 h3 h4=>exact .vptr l i o b t ti xs (hs rfl h1) h2 ((h.S l hl (z1h (hs rfl h1))).symm.trans h3) h4
    | fptr _ _ _ a xs x h1 h2 h3 h4 h5=>exact .fptr l i o a xs x (hs rfl h1) h2 (by rw [h.w] at h3;exact h3) (fun e=>h4 ((h.own _).2 e)) fun j d hj=>(h5 j d hj).imp fun u e=>⟨by rw [← h.w];exact e.1,h.repD' e.2⟩
    | mptr _ _ b t xss lent h1 h2 h3 =>
     obtain ⟨o0,e1,e2⟩:=h.bwc hl h1
     cases o0 with
     | mat t0 xss0 lent0=>cases e2;exact .mptr l i b _ _ lent0 e1 ((h.S l hl (z1h e1)).symm.trans h2) h3
     | _=>cases e2
    | pgone _ _ _ h1=>exact .pgone l i o (hs rfl h1)
 | fn f cap =>
  simp only [AV.inB,List.all_eq_true] at ha
  exact hfn v f cap ha
 | frow vs =>
  simp only [AV.inB,List.all_eq_true] at ha
  have one:∀ (u:Value) (a:AV),AV.in2 k a=true→(RepA D Γ u a↔RepA D Γ' u (a.ren2 ρ)):=by
   intro u a ha
   cases a with
   | fn f cap=>exact hfn u f cap (by simpa [AV.in2] using ha)
   | _=>simp [AV.in2] at ha
  constructor
  · intro x
    cases x with
    | frow a n cap _ hs ho hl us hu hc hd =>
     refine .frow a n cap _ (by rw [h.w];exact hs) (fun e=>ho ((h.own _).1 e)) (by rw [List.length_map];exact hl) us hu (fun j u hj=>by rw [h.w];exact hc j u hj) fun i u a p q=>?_
     rw [List.getElem?_map] at q
     obtain ⟨a',e1,rfl⟩:=Option.map_eq_some_iff.1 q
     exact (one u a' (ha a' (List.mem_of_getElem? e1))).1 (hd i u a' p e1)
  · intro x
    generalize hvs:AV.ren ρ (.frow vs)=y at x
    cases x with
    | frow a n cap vs' hs ho hl us hu hc hd =>
     cases hvs
     refine .frow a n cap _ (by rw [h.w] at hs;exact hs) (fun e=>ho ((h.own _).2 e)) (by rw [List.length_map] at hl;exact hl) us hu (fun j u hj=>by rw [← h.w];exact hc j u hj) fun i u a p q=>?_
     exact (one u a (ha a (List.mem_of_getElem? q))).2 (hd i u (a.ren2 ρ) p (by rw [List.getElem?_map,q];rfl))
    | _=>cases hvs
 | c d=>exact h.dat rfl
 | undef=>exact h.dat rfl
 | agg cs=>exact h.dat rfl
 | nils=>exact h.dat rfl
 | tup us =>
  simp only [AV.inB,List.all_eq_true] at ha
  constructor
  · intro x
    cases x with
    | tup vs _ hl hd =>
     refine .tup vs _ (by simp [hl]) fun i u a p q=>?_
     rw [List.getElem?_map] at q
     obtain ⟨a',e1,rfl⟩:=Option.map_eq_some_iff.1 q
     exact (h3 u a' (ha a' (List.mem_of_getElem? e1))).1 (hd i u a' p e1)
  · intro x
    generalize hvs:AV.ren ρ (.tup us)=y at x
    cases x with
    | tup vs us' hl hd =>
     cases hvs
     exact .tup vs us (by simpa using hl) fun i u a p q=>(h3 u a (ha a (List.mem_of_getElem? q))).2 (hd i u (a.ren3 ρ) p (by rw [List.getElem?_map,q];rfl))
    | _=>cases hvs
 | mv f us=>exact h.dat ha
 | eptr cs=>simp [AV.inB,AV.isDat] at ha
 | frp v=>simp [AV.inB,AV.isDat] at ha
 | vtl e l lo hi=>simp [AV.inB,AV.isDat] at ha
 | agv us =>
  simp only [AV.inB,List.all_eq_true] at ha
  constructor
  · intro x
    cases x with
    | agv vs _ hl h1 hd =>
     refine .agv vs _ (by simp [hl]) h1 fun i u a p q=>?_
     rw [List.getElem?_map] at q
     obtain ⟨a',e1,rfl⟩:=Option.map_eq_some_iff.1 q
     exact (h3 u a' (ha a' (List.mem_of_getElem? e1))).1 (hd i u a' p e1)
  · intro x
    generalize hvs:AV.ren ρ (.agv us)=y at x
    cases x with
    | agv vs us' hl h1 hd =>
     cases hvs
     exact .agv vs us (by simpa using hl) h1 fun i u a p q=>(h3 u a (ha a (List.mem_of_getElem? q))).2 (hd i u (a.ren3 ρ) p (by rw [List.getElem?_map,q];rfl))
    | _=>cases hvs
theorem Like.ob {ρ:Nat→Nat} {k:Nat} {Γ Γ':Ctx} (h:Like D ρ k Γ Γ') {i:Nat} (hi:i<k) {o:Ob} (ho:o.inB k=true) (hl:Gev.lk Γ.objs i=some o):y5s D Γ i o↔y5s D Γ' (ρ i) (o.ren ρ):=by
 have hS:=h.S i hi (z1h hl)
 cases o with
 | cells cs =>
  simp only [Ob.inB,List.all_eq_true] at ho
  constructor
  · rintro ⟨b,arr,ty,h1,h2,h3,h4⟩
    refine ⟨b,arr,ty,hS.trans h1,by rw [h.w];exact h2,by rw [List.length_map];exact h3,fun j v u p q=>?_⟩
    rw [List.getElem?_map] at p
    obtain ⟨a,e1,rfl⟩:=Option.map_eq_some_iff.1 p
    exact (h.up (ho a (List.mem_of_getElem? e1))).1 (h4 j a u e1 q)
  · rintro ⟨b,arr,ty,h1,h2,h3,h4⟩
    refine ⟨b,arr,ty,hS.symm.trans h1,by rw [h.w] at h2;exact h2,by rw [List.length_map] at h3;exact h3,fun j v u p q=>?_⟩
    exact (h.up (ho v (List.mem_of_getElem? p))).2 (h4 j (v.ren ρ) u (by rw [List.getElem?_map,p];rfl) q)
 | vec t xs =>
  constructor
  · rintro ⟨ti,h0,h1,⟨h2,h3⟩ | ⟨b,arr,cap,h2,h3,h4,h5,h6⟩⟩
    · exact ⟨ti,h0,h1,.inl ⟨hS.trans h2,h3⟩⟩
    · exact ⟨ti,h0,h1,.inr ⟨b,arr,cap,hS.trans h2,by rw [h.w];exact h3,h4,h5,fun i x j d u p q r=>h.repD (h6 i x j d u p q r)⟩⟩
  · rintro ⟨ti,h0,h1,⟨h2,h3⟩ | ⟨b,arr,cap,h2,h3,h4,h5,h6⟩⟩
    · exact ⟨ti,h0,h1,.inl ⟨hS.symm.trans h2,h3⟩⟩
    · exact ⟨ti,h0,h1,.inr ⟨b,arr,cap,hS.symm.trans h2,by rw [h.w] at h3;exact h3,h4,h5,fun i x j d u p q r=>h.repD' (h6 i x j d u p q r)⟩⟩
 | mat t xss lent =>
  simp only [Ob.inB,List.all_eq_true,decide_eq_true_eq] at ho
  have hg:=h.g i hi (z1h hl)
  have hown:Γ'.own=Γ.own:=funext fun b=>propext (h.own b)
  have hm:(x8f ρ lent).map (·.1)=lent.map (·.1):=by unfold x8f;rw [List.map_map];rfl
  show (∃ tt e ti,D.ty t=some tt∧tt.u=.slice e∧tt.size=1∧D.ty e=some ti∧((Γ.S i=none∧xss=[]∧lent=[])∨_))↔∃ tt e ti,D.ty t=some tt∧tt.u=.slice e∧tt.size=1∧D.ty e=some ti∧((Γ'.S (ρ i)=none∧xss=[]∧x8f ρ lent=[])∨_)
  rw [j2h,hS,hg,h.w,hown,hm]
  have hnil:x8f ρ lent=[]↔lent=[]:=List.map_eq_nil_iff
  rw [hnil]
  have hq:(∀ (arr:Array Value),(∀ p∈lent,p.1<xss.length∧∃ u,arr[p.1]?=some u∧u.oneCell'=true∧RepA D Γ u (.vec p.2.1 p.2.2))↔∀ p∈x8f ρ lent,p.1<xss.length∧∃ u,arr[p.1]?=some u∧u.oneCell'=true∧RepA D Γ' u (.vec p.2.1 p.2.2)):=by
   intro arr
   constructor
   · intro hx p hp
     obtain ⟨q,hq,rfl⟩:=List.mem_map.1 hp
     obtain ⟨a1,u,a2,a3,a4⟩:=hx q hq
     exact ⟨a1,u,a2,a3,(h.up (a:=.vec q.2.1 q.2.2) (by simpa [AV.inB] using ho q hq)).1 a4⟩
   · intro hx q hq
     obtain ⟨a1,u,a2,a3,a4⟩:=hx _ (List.mem_map_of_mem hq)
     exact ⟨a1,u,a2,a3,(h.up (a:=.vec q.2.1 q.2.2) (by simpa [AV.inB] using ho q hq)).2 a4⟩
  constructor
  · rintro ⟨tt,e,ti,a1,a2,a3,a4,a0 | ⟨b,arr,cap,a5,a6,a7,a8,a9,a10,a11,a12,a13⟩⟩
    · exact ⟨tt,e,ti,a1,a2,a3,a4,.inl a0⟩
    · exact ⟨tt,e,ti,a1,a2,a3,a4,.inr ⟨b,arr,cap,a5,a6,a7,a8,a9,a10,a11,a12,(hq arr).1 a13⟩⟩
  · rintro ⟨tt,e,ti,a1,a2,a3,a4,a0 | ⟨b,arr,cap,a5,a6,a7,a8,a9,a10,a11,a12,a13⟩⟩
    · exact ⟨tt,e,ti,a1,a2,a3,a4,.inl a0⟩
    · exact ⟨tt,e,ti,a1,a2,a3,a4,.inr ⟨b,arr,cap,a5,a6,a7,a8,a9,a10,a11,a12,(hq arr).2 a13⟩⟩
 | fro xs=>exact Iff.rfl
 | dead=>exact Iff.rfl
open Classical in
theorem RunOk.frameG {f:Nat} {args:List AV} {sm sm':Objs} {r:AV} (h:RunOk P D B0 Gd f args sm r sm') (ρ:Nat→Nat) (big big':Objs)
    (inj:∀ i j,i<sm'.length→j<sm'.length→ρ i=ρ j→i=j) (hlen:sm.length≤sm'.length)
    (a1:∀ i,i<sm.length→lk big (ρ i)=(lk sm i).map (Ob.ren ρ)) (a2:∀ i,sm.length≤i→i<sm'.length→lk big (ρ i)=none)
    (a3:∀ i,i<sm'.length→lk big' (ρ i)=(lk sm' i).map (Ob.ren ρ)) (a4:∀ l,(∀ i,i<sm'.length→ρ i≠l)→lk big' l=lk big l)
    (s1:∀ i o,lk sm i=some o→o.inB sm.length=true) (s2:∀ i o,lk sm' i=some o→o.inB sm'.length=true)
    (hargs:∀ a∈args,a.inB sm.length=true) (hr:r.inB sm'.length=true) :
    RunOk P D B0 Gd f (args.map (AV.ren ρ)) big (r.ren ρ) big':=by
 refine ⟨h.enters,fun Γ cargs hΓ hG hl ha=>?_⟩
 subst hΓ
 have b1:∀ {i o},i<sm.length→lk sm i=some o→lk Γ.objs (ρ i)=some (o.ren ρ):=fun hi h=>by rw [a1 _ hi,h];rfl
 have lv:∀ {o:Ob},o.live=true→(o.ren ρ).live=true:=fun h=>(Ob.ren_live ρ _).trans h
 obtain ⟨M0,hM0⟩:∃ M0:Nat→Prop,M0=fun b=>∃ i o,i<sm.length∧lk sm i=some o∧o.live=true∧blk (Γ.S (ρ i)) (Γ.S.g (ρ i)) o b:=⟨_,rfl⟩
 obtain ⟨Γ0,hΓ0⟩:∃ Γ0:Ctx,Γ0=⟨⟨fun i=>if i<sm.length then Γ.S (ρ i) else none,fun i=>if i<sm.length then Γ.S.g (ρ i) else fun _=>none,fun b=>Γ.own b∧¬ M0 b⟩,sm,Γ.w⟩:=⟨_,rfl⟩
 have hm0:∀ b,Γ0.mine b↔M0 b:=by
  intro b;rw [hΓ0,hM0]
  constructor
  · rintro ⟨i,o,h1,h2,h3⟩
    have hi:=O2 h1
    simp only [if_pos hi] at h3
    exact ⟨i,o,hi,h1,h2,h3⟩
  · rintro ⟨i,o,hi,h1,h2,h3⟩
    exact ⟨i,o,h1,h2,by simp only [if_pos hi];exact h3⟩
 have hM:∀ b,M0 b→Γ.mine b:=by
  rw [hM0];rintro b ⟨i,o,hi,h1,h2,h3⟩
  exact ⟨ρ i,o.ren ρ,b1 hi h1,lv h2,z6g.2 h3⟩
 have hown:∀ b,Γ.own b↔Γ0.own b:=by
  intro b
  constructor
  · intro hb
    by_cases c:M0 b
    · exact .inr ((hm0 b).2 c)
    · exact .inl (by rw [hΓ0];exact ⟨hb,c⟩)
  · rintro (hb | hb)
    · rw [hΓ0] at hb;exact hb.1
    · exact .inr (hM b ((hm0 b).1 hb))
 have hk:Like D ρ sm.length Γ0 Γ:=⟨by rw [hΓ0],hown,fun i hi=>by rw [hΓ0];exact a1 i hi,fun i hi _=>by rw [hΓ0];simp [hi],fun i hi _=>by rw [hΓ0];simp [hi]⟩
 have hlive:∀ b,Γ.mine b→¬ M0 b→∃ l o,lk Γ.objs l=some o∧o.live=true∧blk (Γ.S l) (Γ.S.g l) o b∧∀ i,i<sm'.length→ρ i≠l:=by
  rintro b ⟨l,o,h1,h2,h3⟩ hn
  refine ⟨l,o,h1,h2,h3,fun i hi e=>?_⟩
  subst e
  by_cases c:i<sm.length
  · rw [a1 i c] at h1
    obtain ⟨o0,e1,rfl⟩:=Option.map_eq_some_iff.1 h1
    exact hn (by rw [hM0];exact ⟨i,o0,c,e1,(Ob.ren_live ρ o0).symm.trans h2,z6g.1 h3⟩)
  · rw [a2 i (by omega) hi] at h1;cases h1
 have hG0:Good D B0 Gd Γ0:=by
  have hob:Γ0.objs=sm:=by rw [hΓ0]
  refine ⟨fun i o hi=>?_,fun i j o o' b hi hj l1 l2 e1 e2=>?_,fun b hb=>hG.own b ((hown b).2 hb),fun b hb=>?_,by rw [hΓ0];exact hG.size,by rw [hΓ0];exact hG.gd⟩
  · rw [hob] at hi
    have hil:=O2 hi
    exact (hk.ob hil (s1 i o hi) (by rw [hob];exact hi)).2 (hG.ob (ρ i) (o.ren ρ) (b1 hil hi))
  · rw [hob] at hi hj
    have hil:=O2 hi
    have hjl:=O2 hj
    refine inj i j (by omega) (by omega) (hG.inj (ρ i) (ρ j) (o.ren ρ) (o'.ren ρ) b (b1 hil hi) (b1 hjl hj) (lv l1) (lv l2) ?_ ?_)
    · rw [hΓ0] at e1;simp only [if_pos hil] at e1;exact z6g.2 e1
    · rw [hΓ0] at e2;simp only [if_pos hjl] at e2;exact z6g.2 e2
  · have hb':Γ.own b∧¬ M0 b:=by rw [hΓ0] at hb;exact hb
    exact ⟨by rw [hk.w.symm];exact z2z hG b hb'.1,fun hm=>hb'.2 ((hm0 b).1 hm)⟩
 have hob0:Γ0.objs=sm:=by rw [hΓ0]
 have ha0:∀ (i:Nat) v a,cargs[i]?=some v→args[i]?=some a→RepA D Γ0 v a:=fun i v a hv hai =>
  (hk.up (hargs a (List.mem_of_getElem? hai))).2 (ha i v (a.ren ρ) hv (by rw [List.getElem?_map,hai];rfl))
 have hc:=h.calls Γ0 cargs hob0 hG0 (by simpa using hl) ha0
 rw [hk.w]
 refine Calls.mono hc ?_
 rintro e w' ⟨v,Γ1,rfl,k1,rfl,k2,k3,k4⟩
 obtain ⟨Γ',hΓ'⟩:∃ Γ':Ctx,Γ'=⟨⟨fun l=>if c:∃ i,i<sm'.length∧ρ i=l then Γ1.S (choose c) else Γ.S l,fun l=>if c:∃ i,i<sm'.length∧ρ i=l then Γ1.S.g (choose c) else Γ.S.g l,Γ.S.ext⟩,big',Γ1.w⟩:=⟨_,rfl⟩
 have hS1:∀ i,i<sm'.length→Γ'.S (ρ i)=Γ1.S i:=by
  intro i hi
  have c:∃ j,j<sm'.length∧ρ j=ρ i:=⟨i,hi,rfl⟩
  rw [hΓ']
  simp only [dif_pos c]
  congr 1
  exact inj _ _ (choose_spec c).1 hi (choose_spec c).2
 have hS2:∀ l,(∀ i,i<sm'.length→ρ i≠l)→Γ'.S l=Γ.S l:=by
  intro l hn
  rw [hΓ']
  simp only
  rw [dif_neg (fun ⟨i,hi,e⟩=>hn i hi e)]
 have hg1:∀ i,i<sm'.length→Γ'.S.g (ρ i)=Γ1.S.g i:=by
  intro i hi
  have c:∃ j,j<sm'.length∧ρ j=ρ i:=⟨i,hi,rfl⟩
  rw [hΓ']
  simp only [dif_pos c]
  congr 1
  exact inj _ _ (choose_spec c).1 hi (choose_spec c).2
 have hg2:∀ l,(∀ i,i<sm'.length→ρ i≠l)→Γ'.S.g l=Γ.S.g l:=by
  intro l hn
  rw [hΓ']
  simp only
  rw [dif_neg (fun ⟨i,hi,e⟩=>hn i hi e)]
 have hob':Γ'.objs=big':=by rw [hΓ']
 have hw':Γ'.w=Γ1.w:=by rw [hΓ']
 have hL2:∀ l,(∀ i,i<sm'.length→ρ i≠l)→lk Γ'.objs l=lk Γ.objs l:=fun l hn=>by rw [hob'];exact a4 l hn
 have oth:∀ b,Γ.mine b→¬ M0 b→Γ'.mine b:=by
  intro b hb hn
  obtain ⟨l,o,h1,h2,h3,h4⟩:=hlive b hb hn
  exact ⟨l,o,(hL2 l h4).trans h1,h2,by rw [hS2 l h4,hg2 l h4];exact h3⟩
 have hmine:∀ b,Γ'.mine b→Γ1.mine b∨(Γ.mine b∧¬ M0 b):=by
  rintro b ⟨l,o,h1,h2,h3⟩
  by_cases c:∃ i,i<sm'.length∧ρ i=l
  · obtain ⟨i,hi,rfl⟩:=c
    rw [hob',a3 i hi] at h1
    obtain ⟨o0,e1,rfl⟩:=Option.map_eq_some_iff.1 h1
    rw [hS1 i hi,hg1 i hi] at h3
    exact .inl ⟨i,o0,by rw [k1];exact e1,(Ob.ren_live ρ o0).symm.trans h2,z6g.1 h3⟩
  · have hn:∀ i,i<sm'.length→ρ i≠l:=fun i hi e=>c ⟨i,hi,e⟩
    rw [hL2 l hn] at h1
    rw [hS2 l hn,hg2 l hn] at h3
    refine .inr ⟨⟨l,o,h1,h2,h3⟩,?_⟩
    rw [hM0]
    rintro ⟨i,o',hi,g1,g2,g3⟩
    exact hn i (by omega) (hG.inj (ρ i) l (o'.ren ρ) o b (b1 hi g1) h1 (lv g2) h2 (z6g.2 g3) h3)
 have hmine1:∀ b,Γ1.mine b→Γ'.mine b:=by
  rintro b ⟨i,o,h1,h2,h3⟩
  rw [k1] at h1
  have hi:=O2 h1
  exact ⟨ρ i,o.ren ρ,by rw [hob',a3 i hi,h1];rfl,lv h2,by rw [hS1 i hi,hg1 i hi];exact z6g.2 h3⟩
 have hext0:∀ b,Γ0.S.ext b↔Γ.own b∧¬ M0 b:=fun b=>by rw [hΓ0]
 have hown':∀ b,Γ'.own b↔Γ1.own b:=by
  intro b
  constructor
  · rintro (hb | hb)
    · have hb':Γ.S.ext b:=by rw [hΓ'] at hb;exact hb
      have:Γ0.S.ext b:=(hext0 b).2 ⟨.inl hb',fun hm=>(hG.ext b hb').2 (hM b hm)⟩
      exact .inl (by rw [k3.ext];exact this)
    · rcases hmine b hb with h1 | ⟨h1,h2⟩
      · exact .inr h1
      · exact .inl (by rw [k3.ext];exact (hext0 b).2 ⟨.inr h1,h2⟩)
  · rintro (hb | hb)
    · rw [k3.ext] at hb
      obtain ⟨h1,h2⟩:=(hext0 b).1 hb
      rcases h1 with h1 | h1
      · exact .inl (by rw [hΓ'];exact h1)
      · exact .inr (oth b h1 h2)
    · exact .inr (hmine1 b hb)
 have hk':Like D ρ sm'.length Γ1 Γ':=⟨hw',hown',fun i hi=>by rw [hob',k1];exact a3 i hi,fun i hi _=>hS1 i hi,fun i hi _=>hg1 i hi⟩
 have hkept:Kept Γ.mine Γ.w Γ'.w:=by
  rw [hw',hk.w]
  exact k3.kept.mono fun b hb=>hM b ((hm0 b).1 hb)
 have hkept0:∀ b,b<Γ.w.heap.size→¬ M0 b→Γ'.w.heap[b]?=Γ.w.heap[b]?:=fun b hb hn=>by
  rw [hw',hk.w]
  exact k3.kept.heap b (by rw [← hk.w];exact hb) fun hm=>hn ((hm0 b).1 hm)
 have hmine':∀ b,Γ'.mine b→Γ.mine b∨Γ.w.heap.size≤b:=fun b hb=>by
  rcases hmine b hb with h1 | ⟨h1,_⟩
  · rcases k3.mine b h1 with h2 | h2
    · exact .inl (hM b ((hm0 b).1 h2))
    · exact .inr (by rw [hk.w];exact h2)
  · exact .inl h1
 have hextE:Γ'.S.ext=Γ.S.ext:=by rw [hΓ']
 have hTown:∀ b,Γ'.own b→Γ.own b∨Γ.w.heap.size≤b:=Ctx.own_of hextE hmine'
 have hd:∀ v d,RepD Γ.w Γ.own v d→RepD Γ'.w Γ'.own v d:=fun v d hv=>hv.mono hkept.up fun b hb ho=>(hTown b ho).resolve_right (by omega)
 have blk':∀ l o b,(∀ i,i<sm'.length→ρ i≠l)→lk Γ.objs l=some o→o.live=true→blk (Γ.S l) (Γ.S.g l) o b→Γ'.w.heap[b]?=Γ.w.heap[b]?:=by
  intro l o b hn h1 h2 h3
  refine hkept0 b (z2z hG b (.inr ⟨l,o,h1,h2,h3⟩)) ?_
  rw [hM0]
  rintro ⟨i,o',hi,g1,g2,g3⟩
  exact hn i (by omega) (hG.inj (ρ i) l (o'.ren ρ) o b (b1 hi g1) h1 (lv g2) h2 (z6g.2 g3) h3)
 have hT:Tr D Γ Γ':=by
  refine ⟨hkept,hextE,hmine',fun l cs h1=>?_,fun v l len hv=>?_,fun v l i off hv=>?_⟩
  · by_cases c:∃ i,i<sm'.length∧ρ i=l
    · obtain ⟨i,hi,rfl⟩:=c
      have hi0:i<sm.length:=by
       rcases Nat.lt_or_ge i sm.length with h2 | h2
       · exact h2
       · rw [a2 i h2 hi] at h1;cases h1
      rw [a1 i hi0] at h1
      obtain ⟨o0,e1,e2⟩:=Option.map_eq_some_iff.1 h1
      cases o0 with
      | cells cs0 =>
       obtain ⟨cs',g1,g2⟩:=k3.ptr i cs0 (by rw [hob0];exact e1)
       refine ⟨cs'.map (AV.ren ρ),by rw [hob',a3 i hi,← k1,g1];rfl,?_⟩
       rw [hS1 i hi,g2]
       exact (hk.S i hi0 (by rw [hob0];exact z1h e1)).symm
      | _=>cases e2
    · have hn:∀ i,i<sm'.length→ρ i≠l:=fun i hi e=>c ⟨i,hi,e⟩
      exact ⟨cs,(hL2 l hn).trans h1,hS2 l hn⟩
  · by_cases c:∃ i,i<sm'.length∧ρ i=l
    · obtain ⟨i,hi,rfl⟩:=c
      have hi0:i<sm.length:=by
       rcases Nat.lt_or_ge i sm.length with h2 | h2
       · exact h2
       · cases hv with
         | vnil _ _ h1=>rw [a2 i h2 hi] at h1;cases h1
         | vec _ _ _ _ _ _ _ _ h1=>rw [a2 i h2 hi] at h1;cases h1
         | fvec _ _ _ h1=>rw [a2 i h2 hi] at h1;cases h1
         | mvec _ _ _ _ _ _ _ _ h1=>rw [a2 i h2 hi] at h1;cases h1
         | mnil _ _ h1=>rw [a2 i h2 hi] at h1;cases h1
         | gone _ _ h1=>rw [a2 i h2 hi] at h1;cases h1
      have h0:=(hk.up (a:=.vec i len) (by simpa [AV.inB] using hi0)).2 hv
      exact (hk'.up (a:=.vec i len) (by simpa [AV.inB] using hi)).1 (k3.vec v i len h0)
    · have hn:∀ i,i<sm'.length→ρ i≠l:=fun i hi e=>c ⟨i,hi,e⟩
      exact RepA.vec_same hd (hL2 l hn) (hS2 l hn) (fun b o h1 h3 h2=>blk' l o b hn h1 h3 (j3r h2)) hv
  · by_cases c:∃ j,j<sm'.length∧ρ j=l
    · obtain ⟨j,hj,rfl⟩:=c
      have hj0:j<sm.length:=by
       rcases Nat.lt_or_ge j sm.length with h2 | h2
       · exact h2
       · cases hv with
         | vptr _ _ _ _ _ _ _ h1=>rw [a2 j h2 hj] at h1;cases h1
         | fptr _ _ _ _ _ _ h1=>rw [a2 j h2 hj] at h1;cases h1
         | mptr _ _ _ _ _ _ h1=>rw [a2 j h2 hj] at h1;cases h1
         | pgone _ _ _ h1=>rw [a2 j h2 hj] at h1;cases h1
      have h0:=(hk.up (a:=.vptr j i off) (by simpa [AV.inB] using hj0)).2 hv
      exact (hk'.up (a:=.vptr j i off) (by simpa [AV.inB] using hj)).1 (k3.vptr v j i off h0)
    · have hn:∀ i,i<sm'.length→ρ i≠l:=fun i hi e=>c ⟨i,hi,e⟩
      exact RepA.vptr_same (fun a d _ h2 ⟨u,h3,h4⟩=>⟨u,hkept.up.cell h3 h2,hd u d h4⟩) hkept.size (fun x hx hno h'=>(hTown x h').elim hno (fun h5=>by omega)) (hL2 l hn) (hS2 l hn) hv
 have hG':Good D B0 Gd Γ':=by
  refine ⟨fun l o h1=>?_,fun l l' o o' b h1 h2 l1 l2 e1 e2=>?_,fun b hb=>k2.own b ((hown' b).1 hb),fun b hb=>?_,by rw [hw'];exact k2.size,by rw [hw'];exact k2.gd⟩
  · by_cases c:∃ i,i<sm'.length∧ρ i=l
    · obtain ⟨i,hi,rfl⟩:=c
      rw [hob',a3 i hi] at h1
      obtain ⟨o0,e1,rfl⟩:=Option.map_eq_some_iff.1 h1
      exact (hk'.ob hi (s2 i o0 e1) (by rw [k1];exact e1)).1 (k2.ob i o0 (by rw [k1];exact e1))
    · have hn:∀ i,i<sm'.length→ρ i≠l:=fun i hi e=>c ⟨i,hi,e⟩
      rw [hL2 l hn] at h1
      exact y5s.same hT (hS2 l hn) (hg2 l hn) (fun b h2 h3=>blk' l o b hn h1 h2 h3) (hG.ob l o h1)
  · -- two objects at one block
    have key:∀ i l o o',i<sm'.length→(∀ j,j<sm'.length→ρ j≠l)→lk Γ'.objs (ρ i)=some o→lk Γ'.objs l=some o'→o.live=true→o'.live=true→blk (Γ'.S (ρ i)) (Γ'.S.g (ρ i)) o b→blk (Γ'.S l) (Γ'.S.g l) o' b→False:=by
     intro i l o o' hi hn h1 h2 l1 l2 e1 e2
     rw [hob',a3 i hi,← k1] at h1
     obtain ⟨o0,f1,rfl⟩:=Option.map_eq_some_iff.1 h1
     rw [hS1 i hi,hg1 i hi] at e1
     rw [hL2 l hn] at h2
     rw [hS2 l hn,hg2 l hn] at e2
     have hmb:Γ.mine b:=⟨l,o',h2,l2,e2⟩
     have hnM:¬ M0 b:=by
      rw [hM0]
      rintro ⟨j,o2,hj,g1,g2,g3⟩
      exact hn j (by omega) (hG.inj (ρ j) l (o2.ren ρ) o' b (b1 hj g1) h2 (lv g2) l2 (z6g.2 g3) e2)
     have:Γ1.S.ext b:=by rw [k3.ext];exact (hext0 b).2 ⟨.inr hmb,hnM⟩
     exact (k2.ext b this).2 ⟨i,o0,f1,(Ob.ren_live ρ o0).symm.trans l1,z6g.1 e1⟩
    by_cases c:∃ i,i<sm'.length∧ρ i=l
    · obtain ⟨i,hi,rfl⟩:=c
      by_cases c':∃ j,j<sm'.length∧ρ j=l'
      · obtain ⟨j,hj,rfl⟩:=c'
        rw [hob',a3 i hi,← k1] at h1
        rw [hob',a3 j hj,← k1] at h2
        obtain ⟨o0,f1,rfl⟩:=Option.map_eq_some_iff.1 h1
        obtain ⟨o1,f2,rfl⟩:=Option.map_eq_some_iff.1 h2
        rw [hS1 i hi,hg1 i hi] at e1
        rw [hS1 j hj,hg1 j hj] at e2
        rw [k2.inj i j o0 o1 b f1 f2 ((Ob.ren_live ρ o0).symm.trans l1) ((Ob.ren_live ρ o1).symm.trans l2) (z6g.1 e1) (z6g.1 e2)]
      · exact (key i l' o o' hi (fun j hj e=>c' ⟨j,hj,e⟩) h1 h2 l1 l2 e1 e2).elim
    · have hn:∀ i,i<sm'.length→ρ i≠l:=fun i hi e=>c ⟨i,hi,e⟩
      by_cases c':∃ j,j<sm'.length∧ρ j=l'
      · obtain ⟨j,hj,rfl⟩:=c'
        exact (key j l o' o hj hn h2 h1 l2 l1 e2 e1).elim
      · have hn':∀ i,i<sm'.length→ρ i≠l':=fun i hi e=>c' ⟨i,hi,e⟩
        rw [hL2 l hn] at h1
        rw [hL2 l' hn'] at h2
        rw [hS2 l hn,hg2 l hn] at e1
        rw [hS2 l' hn',hg2 l' hn'] at e2
        exact hG.inj l l' o o' b h1 h2 l1 l2 e1 e2
  · exact hT.extOk hG.ext b hb
 exact ⟨v,Γ',rfl,hob',hw',hG',hT,(hk'.up hr).1 k4⟩
theorem q5f {o:Ob} (h:o.plain=true) (ρ:Nat→Nat):o.ren ρ=o:=by
 cases o with
 | cells cs =>
  simp only [Ob.plain,List.all_eq_true] at h
  show Ob.cells (cs.map (AV.ren ρ))=_
  congr 1
  conv=>rhs;rw [← List.map_id cs]
  refine List.map_congr_left fun v hv=>?_
  have:=h v hv
  cases v <;> first | rfl | (simp at this)
 | mat t xss lent =>
  cases lent with
  | nil=>rfl
  | cons _ _=>cases h
 | _=>rfl
theorem j2q {o:Ob} (h:o.plain=true) (k:Nat):o.inB k=true:=by
 cases o with
 | cells cs =>
  simp only [Ob.plain,List.all_eq_true] at h
  simp only [Ob.inB,List.all_eq_true]
  intro v hv
  have:=h v hv
  cases v <;> first | rfl | (simp at this)
 | mat t xss lent =>
  cases lent with
  | nil=>rfl
  | cons _ _=>cases h
 | _=>rfl
theorem RunOk.frame {f:Nat} {args:List AV} {sm sm':Objs} {r:AV} (h:RunOk P D B0 Gd f args sm r sm') (ρ:Nat→Nat) (big big':Objs)
    (inj:∀ i j,i<sm'.length→j<sm'.length→ρ i=ρ j→i=j) (hlen:sm.length≤sm'.length)
    (a1:∀ i,i<sm.length→lk big (ρ i)=lk sm i) (a2:∀ i,sm.length≤i→i<sm'.length→lk big (ρ i)=none)
    (a3:∀ i,i<sm'.length→lk big' (ρ i)=lk sm' i) (a4:∀ l,(∀ i,i<sm'.length→ρ i≠l)→lk big' l=lk big l)
    (s1:∀ i o,lk sm i=some o→o.plain=true) (s2:∀ i o,lk sm' i=some o→o.plain=true)
    (hargs:∀ a∈args,a.inB sm.length=true) (hr:r.inB sm'.length=true) :
    RunOk P D B0 Gd f (args.map (AV.ren ρ)) big (r.ren ρ) big':=by
 have m:∀ {objs:Objs},(∀ i o,lk objs i=some o→o.plain=true)→∀ i,(lk objs i).map (Ob.ren ρ)=lk objs i:=fun hs i=>by
  cases hl:lk _ i with
  | none=>rfl
  | some o=>show some (o.ren ρ)=_;rw [q5f (hs i o hl)]
 exact h.frameG ρ big big' inj hlen (fun i hi=>(a1 i hi).trans (m s1 i).symm) a2 (fun i hi=>(a3 i hi).trans (m s2 i).symm) a4 (fun i o hl=>j2q (s1 i o hl) _) (fun i o hl=>j2q (s2 i o hl) _) hargs hr
end Gev
namespace Gev
open Go
variable {P:Program} {D:Tab} {B0:Nat} {Gd:World→Prop}
theorem k4t {ρ:Nat→Nat} {a:AV} (h:a.isDat=true):a.ren ρ=a:=by
 cases a with
 | tup vs =>
  simp only [AV.isDat,List.all_eq_true] at h
  show AV.tup (vs.map (AV.ren3 ρ))=_
  rw [List.map_congr_left fun a ha=>(show AV.ren3 ρ a=a by have:=h a ha;cases a <;> first | rfl | cases this),List.map_id']
 | _=>first | rfl | simp [AV.isDat] at h
theorem y4g {k:Nat} {a:AV} (h:a.isDat=true):a.inB k=true:=by
 cases a with
 | tup vs =>
  simp only [AV.isDat,List.all_eq_true] at h
  simp only [AV.inB,List.all_eq_true]
  intro a ha
  have:=h a ha
  cases a <;> first | rfl | cases this
 | _=>first | exact h | simp [AV.isDat] at h
theorem y0l {ρ:Nat→Nat} {args:List AV} (h:args.all AV.isDat=true):args.map (AV.ren ρ)=args:=by
 simp only [List.all_eq_true] at h
 exact (List.map_congr_left fun a ha=>k4t (h a ha)).trans (List.map_id _)
theorem k6m (l:Nat):lk [] l=none:=by simp [lk]
theorem q4w {objs more:Objs} {l:Nat} (h:l<objs.length):lk (objs++more) l=lk objs l:=by
 unfold lk;rw [List.getD_eq_getElem?_getD,List.getD_eq_getElem?_getD,List.getElem?_append_left h]
theorem q1d {objs:Objs} {o:Option Ob}:lk (objs++[o]) objs.length=o:=by
 unfold lk;rw [List.getD_eq_getElem?_getD,List.getElem?_append_right (Nat.le_refl _)];simp
theorem q7c {objs:Objs} {l:Nat} (h:objs.length≤l):lk objs l=none:=by
 unfold lk;rw [List.getD_eq_getElem?_getD,List.getElem?_eq_none h];rfl
theorem RunOk.data {f:Nat} {args:List AV} {r:AV} (h:RunOk P D B0 Gd f args [] r []) (ha:args.all AV.isDat=true) (hr:r.isDat=true) (objs:Objs):RunOk P D B0 Gd f args objs r objs:=by
 have:=h.frame id objs objs (fun i j hi _ _=>by simp at hi) (Nat.le_refl _) (fun i hi=>by simp at hi) (fun i _ hi=>by simp at hi) (fun i hi=>by simp at hi) (fun _ _=>rfl)
  (fun i o hi=>by rw [k6m] at hi;cases hi) (fun i o hi=>by rw [k6m] at hi;cases hi) (fun a hx=>y4g (by simp only [List.all_eq_true] at ha;exact ha a hx)) (y4g hr)
 rwa [y0l ha,k4t hr] at this
theorem RunOk.new {f:Nat} {args:List AV} {n:Nat} {o:Ob} (h:RunOk P D B0 Gd f args [] (.vec 0 n) [some o]) (ha:args.all AV.isDat=true) (ho:o.plain=true) (objs:Objs):RunOk P D B0 Gd f args objs (.vec objs.length n) (objs++[some o]):=by
 have h1:∀ (i:Nat) o',lk [some o] i=some o'→o'=o:=by
  intro i o' hi
  have:=O2 hi
  simp at this;subst this
  exact (Option.some.inj hi).symm
 have:=h.frame (fun _=>objs.length) objs (objs++[some o]) (fun i j hi hj _=>by simp at hi hj;omega) (by simp) (fun i hi=>by simp at hi) (fun i _ hi=>q7c (Nat.le_refl _))
  (fun i hi=>by simp at hi;subst hi;exact q1d) (fun l hl=>by
   have hne:objs.length≠l:=hl 0 (by simp)
   rcases Nat.lt_or_ge l objs.length with c | c
   · exact q4w c
   · rw [q7c c,q7c (by simp;omega)])
  (fun i o hi=>by rw [k6m] at hi;cases hi) (fun i o' hi=>by rw [h1 i o' hi];exact ho) (fun a hx=>y4g (by simp only [List.all_eq_true] at ha;exact ha a hx)) (by simp [AV.inB])
 rwa [y0l ha] at this
theorem RunOk.newAtV {f:Nat} {args:List AV} {r:AV} {o:Ob} (h:RunOk P D B0 Gd f args [] r [some o]) (ha:args.all AV.isDat=true) (hr:r.inB 1=true) (ho:o.plain=true) {objs:Objs} {fr:Nat} (hl:fr<objs.length) (hn:lk objs fr=none):RunOk P D B0 Gd f args objs (r.ren fun _=>fr) (objs.set fr (some o)):=by
 have h1:∀ (i:Nat) o',lk [some o] i=some o'→o'=o:=by
  intro i o' hi
  have:=O2 hi
  simp at this;subst this
  exact (Option.some.inj hi).symm
 have:=h.frame (fun _=>fr) objs (objs.set fr (some o)) (fun i j hi hj _=>by simp at hi hj;omega) (by simp) (fun i hi=>by simp at hi) (fun i _ hi=>hn)
  (fun i hi=>by simp at hi;subst hi;rw [I7 hl,if_pos rfl];rfl) (fun l hx=>by
   have hne:fr≠l:=hx 0 (by simp)
   rw [I7 hl,if_neg (Ne.symm hne)])
  (fun i o hi=>by rw [k6m] at hi;cases hi) (fun i o' hi=>by rw [h1 i o' hi];exact ho) (fun a hx=>y4g (by simp only [List.all_eq_true] at ha;exact ha a hx)) hr
 rwa [y0l ha] at this
theorem RunOk.newAt {f:Nat} {args:List AV} {n:Nat} {o:Ob} (h:RunOk P D B0 Gd f args [] (.vec 0 n) [some o]) (ha:args.all AV.isDat=true) (ho:o.plain=true) {objs:Objs} {fr:Nat} (hl:fr<objs.length) (hn:lk objs fr=none):RunOk P D B0 Gd f args objs (.vec fr n) (objs.set fr (some o)):=by
 have h1:∀ (i:Nat) o',lk [some o] i=some o'→o'=o:=by
  intro i o' hi
  have:=O2 hi
  simp at this;subst this
  exact (Option.some.inj hi).symm
 have:=h.frame (fun _=>fr) objs (objs.set fr (some o)) (fun i j hi hj _=>by simp at hi hj;omega) (by simp) (fun i hi=>by simp at hi) (fun i _ hi=>hn)
  (fun i hi=>by simp at hi;subst hi;rw [I7 hl,if_pos rfl];rfl) (fun l hx=>by
   have hne:fr≠l:=hx 0 (by simp)
   rw [I7 hl,if_neg (Ne.symm hne)])
  (fun i o hi=>by rw [k6m] at hi;cases hi) (fun i o' hi=>by rw [h1 i o' hi];exact ho) (fun a hx=>y4g (by simp only [List.all_eq_true] at ha;exact ha a hx)) (by simp [AV.inB])
 rwa [y0l ha] at this
theorem v0l {k:Nat} {args:List AV} (ha:args.all AV.isDat=true) (a:AV) (hx:a∈args):a.inB k=true:=by
 simp only [List.all_eq_true] at ha;exact y4g (ha a hx)
theorem RunOk.at {f:Nat} {args:List AV} {n:Nat} {o o':Ob} {r:AV} (h:RunOk P D B0 Gd f (.vec 0 n::args) [some o] r [some o']) (ha:args.all AV.isDat=true) (ho:o.plain=true) (ho':o'.plain=true) (hr:r.inB 1=true) {objs:Objs} {l:Nat} (hl:lk objs l=some o) :
    RunOk P D B0 Gd f (.vec l n::args) objs (r.ren fun _=>l) (objs.set l (some o')):=by
 have h1:∀ (o:Ob) (i:Nat) o',lk [some o] i=some o'→o'=o:=by
  intro o i o' hi
  have:=O2 hi
  simp at this;subst this
  exact (Option.some.inj hi).symm
 have hll:=O2 hl
 have:=h.frame (fun _=>l) objs (objs.set l (some o')) (fun i j hi hj _=>by simp at hi hj;omega) (by simp) (fun i hi=>by simp at hi;subst hi;exact hl) (fun i h1 h2=>by simp at h1 h2;omega)
  (fun i hi=>by simp at hi;subst hi;rw [I7 hll,if_pos rfl];rfl) (fun k hk=>by
   have hne:l≠k:=hk 0 (by simp)
   rw [I7 hll,if_neg (Ne.symm hne)])
  (fun i x hi=>by rw [h1 _ i x hi];exact ho) (fun i x hi=>by rw [h1 _ i x hi];exact ho') (fun a hx=>by
   rcases List.mem_cons.1 hx with rfl | hx
   · simp [AV.inB]
   · exact v0l ha a hx) hr
 rwa [List.map_cons,y0l ha] at this
theorem RunOk.sub {f:Nat} {args:List AV} {sm:Objs} {r:AV} (h:RunOk P D B0 Gd f args sm r sm) (ls:List Nat) (hn:ls.Nodup) (hlen:ls.length=sm.length) {objs:Objs} (hs:∀ i,i<sm.length→lk objs (ls.getD i 0)=lk sm i)
    (hp:∀ o∈sm,(match o with | some o=>o.plain | none=>true)=true) (ha:args.all (AV.inB sm.length)=true) (hr:r.inB sm.length=true) :
    RunOk P D B0 Gd f (args.map (AV.ren fun i=>ls.getD i 0)) objs (r.ren fun i=>ls.getD i 0) objs:=by
 have hp':∀ (i:Nat) o,lk sm i=some o→o.plain=true:=by
  intro i o hi
  have hil:=O2 hi
  have:sm[i]?=some (some o):=by
   unfold lk at hi
   rw [List.getD_eq_getElem?_getD,List.getElem?_eq_getElem hil] at hi
   rw [List.getElem?_eq_getElem hil];exact congrArg some hi
  exact hp _ (List.mem_of_getElem? this)
 refine h.frame (fun i=>ls.getD i 0) objs objs (fun i j hi hj e=>?_) (Nat.le_refl _) hs (fun i h1 h2=>by omega) hs (fun _ _=>rfl) hp' hp' (fun a hx=>by simp only [List.all_eq_true] at ha;exact ha a hx) hr
 have e':ls[i]?=ls[j]?:=by
  have e2:=e
  simp only [List.getD_eq_getElem?_getD] at e2
  rw [List.getElem?_eq_getElem (by omega),List.getElem?_eq_getElem (by omega)] at e2 ⊢
  exact congrArg some e2
 exact (List.getElem?_inj (by omega) hn).1 e'
end Gev
namespace Gev
open Go
variable {P:Program} {D:Tab} {B0:Nat} {Gd:World→Prop}
theorem k5u {o:Ob} (h:o.flat=true):o.plain=true:=by
 cases o with
 | vec t xs=>rfl
 | mat t xss lent=>cases lent with
  | nil=>rfl
  | cons p l=>cases h
 | cells cs=>cases h
 | fro xs=>cases h
 | dead=>cases h
theorem v2n {a:AV} {l:Nat} (h:AV.only l a=true):(AV.to0 a).inB 1=true:=by
 cases a with
 | vec k n=>rfl
 | _=>exact y4g (a:=_) h
theorem v2o {a:AV} {l:Nat} (h:AV.only l a=true):(AV.to0 a).ren (fun _=>l)=a:=by
 cases a with
 | vec k n =>
  have:k=l:=Nat.eq_of_beq_eq_true h
  subst this;rfl
 | _=>exact k4t (a:=_) h
theorem RunOk.only {f:Nat} {args:List AV} {o o':Ob} {r:AV} {l:Nat} (h:RunOk P D B0 Gd f (args.map AV.to0) [some o] r [some o']) (ha:args.all (AV.only l)=true) (ho:o.flat=true) (ho':o'.flat=true) (hr:r.isDat=true) {objs:Objs} (hl:lk objs l=some o) :
    RunOk P D B0 Gd f args objs r (objs.set l (some o')):=by
 rw [List.all_eq_true] at ha
 have h1:∀ (o:Ob) (i:Nat) o',lk [some o] i=some o'→o'=o:=by
  intro o i o' hi
  have:=O2 hi
  simp at this;subst this
  exact (Option.some.inj hi).symm
 have hll:=O2 hl
 have:=h.frame (fun _=>l) objs (objs.set l (some o')) (fun i j hi hj _=>by simp at hi hj;omega) (by simp) (fun i hi=>by simp at hi;subst hi;exact hl) (fun i h1 h2=>by simp at h1 h2;omega)
  (fun i hi=>by simp at hi;subst hi;rw [I7 hll,if_pos rfl];rfl) (fun k hk=>by
   have hne:l≠k:=hk 0 (by simp)
   rw [I7 hll,if_neg (Ne.symm hne)])
  (fun i x hi=>by rw [h1 _ i x hi];exact k5u ho) (fun i x hi=>by rw [h1 _ i x hi];exact k5u ho') (fun a hx=>by
   obtain ⟨b,hb,rfl⟩:=List.mem_map.1 hx
   exact v2n (ha b hb)) (y4g hr)
 have e:(args.map AV.to0).map (AV.ren fun _=>l)=args:=by
  rw [List.map_map]
  exact (List.map_congr_left fun a hx=>v2o (ha a hx)).trans (List.map_id _)
 rwa [k4t hr,e] at this
end Gev
namespace Gev
open Go
variable {D:Tab}
theorem J7 {α β:Type} {m:M α} {k:α→M β} {os os1 os2:List Orc} {a:α} {b:β} {p q:List Prop} (h1:m os=some (a,os1,p))(h2:k a os1=some (b,os2,q)):(m >>= k) os=some (b,os2,p++q):=by
 show M.bind m k os=_
 unfold M.bind
 rw [h1]
 simp only
 rw [h2]
def Eff.reads:Eff→List Nat
 | .val _ _ r=>r
 | .call _ _ _ r=>r
 | .tcall _ _=>[]
def AV.at:AV→List Nat
 | .ptr l _=>[l]
 | .vptr l _ _=>[l]
 | .vec l _=>[l]
 | _=>[]
section
variable {lk lk':Nat→Option Ob}
theorem q9z {v:AV} (h:∀ l∈v.at,lk' l=lk l):toD lk' v=toD lk v:=by
 cases v with
 | vec l len=>simp only [toD,h l (by simp [AV.at])]
 | _=>rfl
theorem q5p {v:AV} {d:DV} {u:Ups} {r:List Nat} (h:toD lk v=some (d,u,r)):∀ l∈v.at,l∈r:=by
 intro l hl
 cases v with
 | vec k len =>
  have e:l=k:=by simpa [AV.at] using hl
  subst e
  simp only [toD] at h
  cases hk:lk l with
  | none=>rw [hk] at h;cases h
  | some o=>rw [hk] at h;cases o <;> cases h <;> simp
 | ptr=>cases h
 | vptr=>cases h
 | _=>simp [AV.at] at hl
theorem q4d {v:AV} {d:DV} {u:Ups} {r:List Nat} (h:toD lk v=some (d,u,r)) (hl:∀ l∈r,lk' l=lk l):toD lk' v=some (d,u,r):=by
 rw [q9z fun l h'=>hl l (q5p h l h')];exact h
theorem k2v {v:AV} {cs:List DV} {u:Ups} {r:List Nat} (h:z1r lk v=some (cs,u,r)) (hl:∀ l∈r,lk' l=lk l):z1r lk' v=some (cs,u,r):=by
 unfold z1r at h ⊢
 split at h
 · exact h
 · exact h
 · cases hd:toD lk v with
   | none=>rw [hd] at h;cases h
   | some x =>
    obtain ⟨d,u',r'⟩:=x
    rw [hd] at h
    cases h
    rw [q4d hd hl]
theorem q2g {v a:AV} {u:Ups} {r:List Nat} (h:z8o lk v=some (a,u,r)) (hl:∀ l∈r,lk' l=lk l):z8o lk' v=some (a,u,r):=by
 unfold z8o at h ⊢
 split at h
 · exact h
 · exact h
 · exact h
 · cases hd:toD lk v with
   | none=>rw [hd] at h;cases h
   | some x =>
    obtain ⟨d,u',r'⟩:=x
    rw [hd] at h
    cases h
    rw [q4d hd hl]
theorem y4r:∀ {vs avz:List AV} {u:Ups} {r:List Nat},P1 lk vs=some (avz,u,r)→(∀ l∈r,lk' l=lk l)→P1 lk' vs=some (avz,u,r)
 | [],avz,u,r,h,_=>h
 | v::vs,avz,u,r,h,hl=>by
  simp only [P1] at h ⊢
  cases h1:z8o lk v with
  | none=>rw [h1] at h;cases h
  | some x =>
   cases h2:P1 lk vs with
   | none=>rw [h1,h2] at h;cases h
   | some y =>
    obtain ⟨d,u1,r1⟩:=x
    obtain ⟨ds,us,rs⟩:=y
    rw [h1,h2] at h
    cases h
    rw [q2g h1 fun l hm=>hl l (List.mem_append_left _ hm),y4r h2 fun l hm=>hl l (List.mem_append_right _ hm)]
theorem k8p {v:AV} {xs:List (List DV)} {r:List Nat} (h:z0j lk v=some (xs,r)) (hl:∀ l∈r,lk' l=lk l):z0j lk' v=some (xs,r):=by
 cases v with
 | vec l len =>
  have hm:l∈r:=by
   simp only [z0j] at h
   cases hk:lk l with
   | none=>rw [hk] at h;cases h
   | some o=>rw [hk] at h;cases o <;> cases h <;> simp
  simp only [z0j,hl l hm] at h ⊢
  exact h
 | c d=>cases d <;> exact h
 | _=>exact h
theorem k0h {pl:Nat→Option (Nat × Nat)}:∀ {parts:List (Nat × AV)} {cells ds:List DV} {u:Ups} {r:List Nat},z7e pl lk cells parts=some (ds,u,r)→(∀ l∈r,lk' l=lk l)→z7e pl lk' cells parts=some (ds,u,r)
 | [],cells,ds,u,r,h,_=>h
 | (i,v)::parts,cells,ds,u,r,h,hl=>by
  simp only [z7e] at h ⊢
  cases hp:pl i with
  | none=>rw [hp] at h;cases h
  | some os =>
   obtain ⟨off,size⟩:=os
   cases hc:z1r lk v with
   | none=>rw [hp,hc] at h;cases h
   | some cur =>
    obtain ⟨cs,u1,r1⟩:=cur
    rw [hp,hc] at h
    simp only at h
    split at h
    · rename_i hcond
      cases hrest:z7e pl lk (M3 cells off cs) parts with
      | none=>rw [hrest] at h;cases h
      | some dur =>
       obtain ⟨ds',us,rs⟩:=dur
       rw [hrest] at h
       cases h
       rw [k2v hc fun l hm=>hl l (List.mem_append_left _ hm)]
       simp only
       rw [if_pos hcond,k0h hrest fun l hm=>hl l (List.mem_append_right _ hm)]
    · cases h
theorem q5d {t:Nat} {cs:List AV} {off:Nat} {x:AV × Ups × List Nat} (h:k7n D lk t cs off=some x) (hl:∀ l∈x.2.2,lk' l=lk l):k7n D lk' t cs off=some x:=by
 unfold k7n at h ⊢
 cases hn:D.size t with
 | none=>rw [hn] at h;cases h
 | some n =>
  rw [hn] at h
  simp only at h ⊢
  split at h
  · rename_i c1
    rw [if_pos c1]
    split at h
    · rename_i c2
      rw [if_pos c2]
      cases hd:P1 lk ((cs.drop off).take n) with
      | none=>rw [hd] at h;cases h
      | some cur =>
       obtain ⟨avs,u,r⟩:=cur
       rw [hd] at h
       simp only at h
       cases ha:asDs avs with
       | none=>rw [ha] at h;cases h
       | some ds =>
        rw [ha] at h
        cases h
        rw [y4r hd hl]
        simp only [ha]
    · cases h
  · cases h
theorem y7q {t:Nat} {v:AV} {os:List Orc} {r:Eff × List Orc × List Prop} (h:z0y D lk t v os=some r) (hl:∀ l∈r.1.reads,lk' l=lk l):z0y D lk' t v os=some r:=by
 have key:∀ l∈v.at,l∈r.1.reads:=by
  intro l hm
  cases v with
  | ptr k off =>
   have e:l=k:=by simpa [AV.at] using hm
   subst e
   simp only [z0y] at h
   cases hk:lk l with
   | none=>rw [hk] at h;cases h
   | some o =>
    rw [hk] at h
    cases o with
    | cells cs =>
     simp only at h
     cases hp:x4z D t cs off with
     | some w =>
      rw [hp] at h
      cases A2 h
      simp [Eff.reads]
     | none =>
      rw [hp] at h
      obtain ⟨v,os1,p1,b,os2,q,h1,h2,rfl⟩:=bind_some h
      cases A2 h2
      simp [Eff.reads]
    | _=>cases h
  | vptr k i off =>
   have e:l=k:=by simpa [AV.at] using hm
   subst e
   simp only [z0y] at h
   cases hk:lk l with
   | none=>rw [hk] at h;cases h
   | some o =>
    rw [hk] at h
    have fin:∀ xs,(do let cs ← elem xs i;let v ← lift (y9e D t cs off);pure (Eff.val v [] [l]):M Eff) os=some r→l∈r.1.reads:=by
     intro xs h
     obtain ⟨cs,os1,p1,b,os2,q,h1,h2,rfl⟩:=bind_some h
     obtain ⟨v,os3,p3,b',os4,q',h3,h4,e⟩:=bind_some h2
     cases e
     cases A2 h4
     simp [Eff.reads]
    cases o with
    | vec t xs=>exact fin xs h
    | fro xs=>exact fin xs h
    | mat e xss lent =>
     obtain ⟨_,os1,p1,b,os2,q,h1,h2,rfl⟩:=bind_some h
     obtain ⟨p,os3,p3,b',os4,q',h3,h4,e⟩:=bind_some h2
     cases e
     cases A2 h4
     simp [Eff.reads]
    | _=>cases h
  | vec=>cases h
  | _=>simp [AV.at] at hm
 cases v with
 | ptr l off =>
  simp only [z0y,hl l (key l (by simp [AV.at]))] at h ⊢
  cases hk:lk l with
  | none=>rw [hk] at h;cases h
  | some o =>
   rw [hk] at h
   cases o with
   | cells cs =>
    simp only at h ⊢
    cases hp:x4z D t cs off with
    | some v=>rw [hp] at h;exact h
    | none =>
     rw [hp] at h
     have h':=h
     obtain ⟨v,os1,p1,b,os2,q,h1,h2,rfl⟩:=bind_some h
     obtain ⟨w,h3,e⟩:=G6 h1
     cases e
     cases A2 h2
     have h4:=q5d (lk':=lk') h3 fun k hk=>hl k (by simp [Eff.reads,hk])
     rw [h3] at h'
     rw [h4]
     exact h'
   | _=>cases h
 | vptr l i off=>simp only [z0y,hl l (key l (by simp [AV.at]))] at h ⊢;exact h
 | _=>exact h
theorem z6m {v:AV} (h:∀ l∈v.rd,lk' l=lk l):v.alive lk'=v.alive lk:=by
 cases v with
 | vec l len=>simp only [AV.alive,h l (by simp [AV.rd])]
 | vptr l i off=>simp only [AV.alive,h l (by simp [AV.rd])]
 | _=>rfl
theorem j3y {t:Nat} {v:AV} {os:List Orc} {r:Eff × List Orc × List Prop} (h:y5v D lk t v os=some r) (hl:∀ l∈r.1.reads,lk' l=lk l):y5v D lk' t v os=some r:=by
 cases v with
 | ptr l off =>
  simp only [y5v] at h ⊢
  cases hk:lk l with
  | none=>rw [hk] at h;cases h
  | some ob =>
   rw [hk] at h
   cases ob with
   | cells cs =>
    cases hn:D.size t with
    | none=>rw [hn] at h;cases h
    | some n =>
     rw [hn] at h
     have h':=h
     obtain ⟨_,os1,p1,b1,os2,q1,h1,h2,rfl⟩:=bind_some h
     cases A2 h2
     rw [hl l (by simp [Eff.reads]),hk]
     have e:(((cs.drop off).take n).all fun v=>v.holds && v.alive lk')=((cs.drop off).take n).all fun v=>v.holds && v.alive lk:=by
      rw [Bool.eq_iff_iff,List.all_eq_true,List.all_eq_true]
      have e:∀ v∈(cs.drop off).take n,v.alive lk'=v.alive lk:=fun v hv=>z6m fun l hm=>hl l (by
       simp only [Eff.reads,List.mem_cons,List.mem_flatMap];exact .inr ⟨v,hv,hm⟩)
      exact ⟨fun h v hv=>by rw [← e v hv];exact h v hv,fun h v hv=>by rw [e v hv];exact h v hv⟩
     simp only [e]
     exact h'
   | _=>cases h
 | _=>cases h
theorem j7o {t:Nat} {v:AV} {os:List Orc} {r:Eff × List Orc × List Prop} (h:x2z D lk t v os=some r) (hl:∀ l∈r.1.reads,lk' l=lk l):x2z D lk' t v os=some r:=by
 cases os with
 | nil=>exact y7q h hl
 | cons q os =>
  cases q with
  | tv =>
   unfold x2z at h ⊢
   cases hc:D.isAgg t with
   | true=>rw [hc] at h;exact j3y h hl
   | false=>rw [hc] at h;exact y7q h hl
  | _=>exact y7q h hl
theorem q0s {v:AV} (hl:∀ l∈v.rd,lk' l=lk l):x5k lk' v=x5k lk v:=by
 cases v <;> first | rfl | (simp only [x5k];rw [z6m (lk:=lk) (lk':=lk') hl])
theorem j1x {pl:Nat→Option (Nat × Nat)}:∀ {parts:List (Nat × AV)} {cells bs:List AV},y9b pl lk cells parts=some bs→(∀ l,(∃ p∈parts,l∈p.2.rd)→lk' l=lk l)→y9b pl lk' cells parts=some bs
 | [],cells,bs,h,_=>h
 | (i,v)::parts,cells,bs,h,hl=>by
  simp only [y9b] at h ⊢
  cases hp:pl i with
  | none=>rw [hp] at h;cases h
  | some os =>
   rw [q0s (lk:=lk) (lk':=lk') fun l hm=>hl l ⟨_,List.mem_cons_self,hm⟩]
   cases hc:x5k lk v with
   | none=>rw [hp,hc] at h;cases h
   | some cs =>
    rw [hp,hc] at h
    simp only at h ⊢
    split at h
    · rename_i hcond
      rw [if_pos hcond]
      exact j1x h fun l ⟨p,hp,hm⟩=>hl l ⟨p,List.mem_cons_of_mem _ hp,hm⟩
    · cases h
theorem j4a {t:Nat} {v x:AV} {os:List Orc} {r:Eff × List Orc × List Prop} (h:z1z D lk t v x os=some r) (hl:∀ l∈r.1.reads,lk' l=lk l):z1z D lk' t v x os=some r:=by
 cases x with
 | ptr l off =>
  simp only [z1z] at h
  cases hk:lk l with
  | none=>rw [hk] at h;cases h
  | some o =>
   rw [hk] at h
   cases hz:D.size t with
   | none=>rw [hz] at h;cases o <;> cases h
   | some n =>
    rw [hz] at h
    cases o with
    | cells cs =>
     by_cases ha:∃ ds,v=.agg ds
     · obtain ⟨ds,rfl⟩:=ha
       have h':=h
       obtain ⟨_,os1,p1,b,os2,q,h1,h2,rfl⟩:=bind_some h
       cases A2 h2
       have:=hl l (by simp [Eff.reads])
       simp only [z1z,this,hk,hz]
       exact h'
     · by_cases hb2:∃ vs,v=.agv vs
       · obtain ⟨vs,rfl⟩:=hb2
         have h':=h
         obtain ⟨_,os1,p1,b,os2,q,h1,h2,rfl⟩:=bind_some h
         cases A2 h2
         have:=hl l (by simp [Eff.reads])
         simp only [z1z,this,hk,hz]
         exact h'
       have h':(do sure (v.holds && v.alive lk && n == 1 && decide (off+1≤cs.length));pure (.val .undef [(l,.cells (cs.set off v))] (l::v.rd)):M Eff) os=some r:=by
        cases v with
        | agg ds=>exact absurd ⟨_,rfl⟩ ha
        | agv vs=>exact absurd ⟨_,rfl⟩ hb2
        | _=>exact h
       obtain ⟨_,os1,p1,b,os2,q,h1,h2,e⟩:=bind_some h'
       have h3:=A2 h2
       have hr:r.1.reads=l::v.rd:=by rw [e];cases h3;rfl
       have e1:=hl l (by rw [hr];simp)
       have e2:=z6m (lk:=lk) (lk':=lk') (v:=v) fun k hk=>hl k (by rw [hr];simp [hk])
       have h4:(do sure (v.holds && v.alive lk' && n == 1 && decide (off+1≤cs.length));pure (.val .undef [(l,.cells (cs.set off v))] (l::v.rd)):M Eff) os=some r:=by rw [e2];exact h'
       simp only [z1z,e1,hk,hz]
       cases v with
       | agg ds=>exact absurd ⟨_,rfl⟩ ha
       | agv vs=>exact absurd ⟨_,rfl⟩ hb2
       | _=>exact h4
    | _=>cases h
 | vptr l i off =>
  simp only [z1z] at h
  cases hk:lk l with
  | none=>rw [hk] at h;cases h
  | some o =>
   rw [hk] at h
   cases o with
   | mat e xss lent =>
    cases v with
    | vec f n =>
     have h':=h
     obtain ⟨_,os1,p1,b,os2,q,h1,h2,rfl⟩:=bind_some h
     obtain ⟨lent',os3,p3,b',os4,q',h3,h4,e⟩:=bind_some h2
     cases e
     cases A2 h4
     have e2:=z6m (lk:=lk) (lk':=lk') (v:=.vec f n) fun k hk=>hl k (by simp [AV.rd] at hk;simp [Eff.reads,hk])
     simp only [z1z,hl l (by simp [Eff.reads]),hk,e2]
     exact h'
    | _=>cases h
   | vec e xs =>
    cases hz:D.size t with
    | none=>rw [hz] at h;cases h
    | some n =>
     cases hc:z1r lk v with
     | none=>rw [hz,hc] at h;cases h
     | some x =>
      obtain ⟨ds,u,r'⟩:=x
      rw [hz,hc] at h
      have h':=h
      obtain ⟨cs,os1,p1,b,os2,q,h1,h2,rfl⟩:=bind_some h
      obtain ⟨_,os3,p3,b',os4,q',h3,h4,e⟩:=bind_some h2
      cases e
      cases A2 h4
      simp only [z1z,hl l (by simp [Eff.reads]),hk,hz,k2v hc fun k hm=>hl k (by simp [Eff.reads,hm])]
      exact h'
   | _=>cases hz:D.size t <;> cases hc:z1r lk v <;> rw [hz,hc] at h <;> cases h
 | _=>cases h
theorem j3x {t f:Nat} {v:AV} {os:List Orc} {r:Eff × List Orc × List Prop} (h:y2t D lk t f v os=some r) (hl:∀ l∈r.1.reads,lk' l=lk l):y2t D lk' t f v os=some r:=by
 cases v with
 | vptr l i off =>
  have hm:l∈r.1.reads:=by
   unfold y2t at h
   cases hp:x0q D t f with
   | none=>rw [hp] at h;cases h
   | some p =>
    obtain ⟨o,n⟩:=p
    rw [hp] at h
    obtain ⟨_,os1,p1,b,os2,q,h1,h2,rfl⟩:=bind_some h
    simp only at h2
    cases hk:lk l with
    | none=>rw [hk] at h2;cases h2
    | some o=>rw [hk] at h2;cases o <;> first | (cases A2 h2;simp [Eff.reads]) | cases h2
  simp only [y2t,hl l hm] at h ⊢
  exact h
 | _=>exact h
theorem k0f {t:Nat} {v:AV} {i:Int} {os:List Orc} {r:Eff × List Orc × List Prop} (h:Y7 D lk t v i os=some r) (hl:∀ l∈r.1.reads,lk' l=lk l):Y7 D lk' t v i os=some r:=by
 cases v with
 | vec l len =>
  have hm:l∈r.1.reads:=by
   unfold Y7 at h
   cases ht:D.ty t with
   | none=>rw [ht] at h;cases h
   | some tt =>
    obtain ⟨_,_,u,_⟩:=tt
    rw [ht] at h
    cases u with
    | slice e =>
     simp only at h
     cases hk:lk l with
     | none=>rw [hk] at h;cases h
     | some o =>
      rw [hk] at h
      cases o with
      | vec e' xs =>
       obtain ⟨_,os1,p1,b,os2,q,h1,h2,rfl⟩:=bind_some h
       obtain ⟨_,os3,p3,b',os4,q',h3,h4,e⟩:=bind_some h2
       cases e
       cases A2 h4
       simp [Eff.reads]
      | mat e' _ _ =>
       obtain ⟨_,os1,p1,b,os2,q,h1,h2,rfl⟩:=bind_some h
       obtain ⟨_,os3,p3,b',os4,q',h3,h4,e⟩:=bind_some h2
       cases e
       cases A2 h4
       simp [Eff.reads]
      | fro xs =>
       obtain ⟨_,os1,p1,b,os2,q,h1,h2,rfl⟩:=bind_some h
       obtain ⟨_,os3,p3,b',os4,q',h3,h4,e⟩:=bind_some h2
       cases e
       obtain ⟨_,os5,p5,b5,os6,q5,h5,h6,e⟩:=bind_some h4
       cases e
       cases A2 h6
       simp [Eff.reads]
      | _=>cases h
    | _=>cases h
  have e:=hl l hm
  unfold Y7 at h ⊢
  cases ht:D.ty t with
  | none=>rw [ht] at h;cases h
  | some tt =>
   obtain ⟨_,_,u,_⟩:=tt
   rw [ht] at h
   cases u <;> first | exact h | (simp only [e];exact h)
 | c d =>
  cases d <;>
  (unfold Y7 at h ⊢
   cases ht:D.ty t with
   | none=>rw [ht] at h;first | exact h | cases h
   | some tt =>
    obtain ⟨_,_,u,_⟩:=tt
    rw [ht] at h
    cases u <;> first | exact h | cases h)
 | _ =>
  unfold Y7 at h ⊢
  cases ht:D.ty t with
  | none=>rw [ht] at h;first | exact h | cases h
  | some tt =>
   obtain ⟨_,_,u,_⟩:=tt
   rw [ht] at h
   cases u <;> first | exact h | cases h
theorem y4z {t:Nat} {v:AV} {lo hi:Option Int} {os:List Orc} {r:Eff × List Orc × List Prop} (h:z3s D lk t v lo hi os=some r) (hl:∀ l∈r.1.reads,lk' l=lk l):z3s D lk' t v lo hi os=some r:=by
 cases v with
 | vec l len =>
  have hm:l∈r.1.reads:=by
   unfold z3s at h
   cases ht:D.ty t with
   | none=>rw [ht] at h;cases h
   | some tt =>
    obtain ⟨_,_,u,_⟩:=tt
    rw [ht] at h
    cases u with
    | slice e =>
     simp only at h
     cases he:D.size e with
     | none=>rw [he] at h;cases h
     | some m =>
     rw [he] at h
     simp only at h
     cases lo with
     | none =>
      simp only at h
      cases hk:lk l with
      | none=>rw [hk] at h;cases h
      | some o =>
       rw [hk] at h
       cases o with
       | vec e' xs =>
        obtain ⟨_,os1,p1,b,os2,q,h1,h2,rfl⟩:=bind_some h
        cases A2 h2
        simp [Eff.reads]
       | fro xs =>
        obtain ⟨_,os1,p1,b,os2,q,h1,h2,rfl⟩:=bind_some h
        cases A2 h2
        simp [Eff.reads]
       | _=>cases h
     | some lo =>
      simp only at h
      cases hk:lk l with
      | none=>rw [hk] at h;cases h
      | some o =>
       rw [hk] at h
       cases o with
       | vec e' xs =>
        obtain ⟨_,os1,p1,b,os2,q,h1,h2,rfl⟩:=bind_some h
        obtain ⟨_,os3,p3,b',os4,q',h3,h4,e⟩:=bind_some h2
        cases e
        cases A2 h4
        simp [Eff.reads]
       | fro xs =>
        obtain ⟨_,os1,p1,b,os2,q,h1,h2,rfl⟩:=bind_some h
        cases A2 h2
        simp [Eff.reads]
       | _=>cases h
    | _=>cases h
  have e:=hl l hm
  unfold z3s at h ⊢
  cases ht:D.ty t with
  | none=>rw [ht] at h;cases h
  | some tt =>
   obtain ⟨_,_,u,_⟩:=tt
   rw [ht] at h
   cases u <;> first | exact h | (simp only [e];exact h)
 | c d =>
  cases d <;>
  (unfold z3s at h ⊢
   cases ht:D.ty t with
   | none=>rw [ht] at h;first | exact h | cases h
   | some tt =>
    obtain ⟨_,_,u,_⟩:=tt
    rw [ht] at h
    cases u <;> first | exact h | cases h)
 | _ =>
  unfold z3s at h ⊢
  cases ht:D.ty t with
  | none=>rw [ht] at h;first | exact h | cases h
  | some tt =>
   obtain ⟨_,_,u,_⟩:=tt
   rw [ht] at h
   cases u <;> first | exact h | cases h
theorem j7p {t:Nat} {v:AV} {lo hi:Option Int} {os:List Orc} {r:Eff × List Orc × List Prop} (h:x3a D lk t v lo hi os=some r) (hl:∀ l∈r.1.reads,lk' l=lk l):x3a D lk' t v lo hi os=some r:=by
 unfold x3a at h ⊢
 cases ht:D.ty t with
 | none=>rw [ht] at h;cases h
 | some tt =>
 obtain ⟨sz,by',u,zz⟩:=tt
 rw [ht] at h
 cases u with
 | slice e =>
  cases v with
  | vec l len =>
   cases lo with
   | none=>cases h
   | some lo =>
    simp only at h ⊢
    cases hk:lk l with
    | none=>rw [hk] at h;cases h
    | some ob =>
     rw [hk] at h
     cases ob with
     | vec e' ys =>
      cases he:D.ty e with
      | none=>rw [he] at h;cases h
      | some ti =>
       rw [he] at h
       have h':=h
       obtain ⟨_,os1,p1,b1,os2,q1,h3,h4,rfl⟩:=bind_some h
       obtain ⟨_,os3,p3,b3,os4,q3,h5,h6,e2⟩:=bind_some h4
       cases e2
       cases A2 h6
       rw [hl l (by simp [Eff.reads]),hk]
       exact h'
     | _=>cases h
  | _=>cases h
 | _=>cases h
theorem j3z {t:Nat} {v:AV} {lo hi:Option Int} {os:List Orc} {r:Eff × List Orc × List Prop} (h:y5w D lk t v lo hi os=some r) (hl:∀ l∈r.1.reads,lk' l=lk l):y5w D lk' t v lo hi os=some r:=by
 cases os with
 | nil=>exact y4z h hl
 | cons q os =>
  cases q with
  | tl =>
   unfold y5w at h ⊢
   cases hc:lo.isSome && v.isRow with
   | true=>rw [hc] at h;exact j7p h hl
   | false=>rw [hc] at h;exact y4z h hl
  | _=>exact y4z h hl
theorem k5o {src dst:Nat} {v:AV} {os:List Orc} {r:Eff × List Orc × List Prop} (h:z2r D lk src dst v os=some r) (hl:∀ l∈r.1.reads,lk' l=lk l):z2r D lk' src dst v os=some r:=by
 cases v with
 | vec l len =>
  have hm:l∈r.1.reads:=by
   unfold z2r at h
   cases ht:D.ty src with
   | none=>rw [ht] at h;cases h
   | some tt =>
   cases ht2:D.ty dst with
   | none=>rw [ht,ht2] at h;cases h
   | some tt2 =>
   obtain ⟨_,_,u,_⟩:=tt
   obtain ⟨_,_,u2,_⟩:=tt2
   rw [ht,ht2] at h
   cases u with
   | slice e =>
    cases u2 with
    | str =>
     simp only at h
     cases he:D.ty e with
     | none=>rw [he] at h;cases h
     | some te =>
     cases hr:z0j lk (.vec l len) with
     | none =>
      rw [he,hr] at h
      obtain ⟨_,_,ue,_⟩:=te
      cases ue with
      | int k=>cases k <;> cases h
      | _=>cases h
     | some yr =>
      obtain ⟨ys,rr⟩:=yr
      rw [he,hr] at h
      have hm':l∈rr:=by
       simp only [z0j] at hr
       cases hk:lk l with
       | none=>rw [hk] at hr;cases hr
       | some o=>rw [hk] at hr;cases o <;> cases hr <;> simp
      obtain ⟨_,_,ue,_⟩:=te
      cases ue with
      | int k =>
       cases k with
       | u8 =>
        obtain ⟨_,os1,p1,b1,os2,q1,h3,h4,rfl⟩:=bind_some h
        cases A2 h4
        exact hm'
       | _=>cases h
      | _=>cases h
    | _=>cases h
   | _=>cases u2 <;> cases h
  have e:z0j lk' (.vec l len)=z0j lk (.vec l len):=by simp only [z0j,hl l hm]
  unfold z2r at h ⊢
  cases ht:D.ty src with
  | none=>rw [ht] at h;cases h
  | some tt =>
  cases ht2:D.ty dst with
  | none=>rw [ht,ht2] at h;cases h
  | some tt2 =>
   obtain ⟨_,_,u,_⟩:=tt
   obtain ⟨_,_,u2,_⟩:=tt2
   rw [ht,ht2] at h
   cases u <;> cases u2 <;> first | exact h | (simp only [e];exact h)
 | c d =>
  cases d <;>
  (unfold z2r at h ⊢
   cases ht:D.ty src with
   | none=>rw [ht] at h;first | exact h | cases h
   | some tt =>
   cases ht2:D.ty dst with
   | none=>rw [ht,ht2] at h;first | exact h | cases h
   | some tt2 =>
    obtain ⟨_,_,u,_⟩:=tt
    obtain ⟨_,_,u2,_⟩:=tt2
    rw [ht,ht2] at h
    cases u <;> cases u2 <;> first | exact h | cases h)
 | _ =>
  unfold z2r at h ⊢
  cases ht:D.ty src with
  | none=>rw [ht] at h;first | exact h | cases h
  | some tt =>
  cases ht2:D.ty dst with
  | none=>rw [ht,ht2] at h;first | exact h | cases h
  | some tt2 =>
   obtain ⟨_,_,u,_⟩:=tt
   obtain ⟨_,_,u2,_⟩:=tt2
   rw [ht,ht2] at h
   cases u <;> cases u2 <;> first | exact h | cases h
theorem z7p {fr t:Nat} {s x:AV} {os:List Orc} {r:Eff × List Orc × List Prop} (h:z1k D lk fr t s x os=some r) (hl:∀ l∈r.1.reads,lk' l=lk l):z1k D lk' fr t s x os=some r:=by
 have h0:=h
 unfold z1k at h
 cases ht:D.ty t with
 | none=>rw [ht] at h;cases h
 | some tt =>
 obtain ⟨sz,by',u,zz⟩:=tt
 rw [ht] at h
 cases u with
 | slice e =>
  cases hrow:z0j lk x with
  | none=>rw [hrow] at h;cases h
  | some yr =>
  obtain ⟨ys,rr⟩:=yr
  rw [hrow] at h
  simp only at h
  cases he:D.ty e with
  | none=>rw [he] at h;cases h
  | some ti =>
  rw [he] at h
  obtain ⟨_,os1,p1,b1,os2,q1,h1,h2,rfl⟩:=bind_some h
  obtain ⟨_,os3,p2,b2,os4,q2,h3,h4,e2⟩:=bind_some h2
  cases e2
  cases s with
  | nils =>
   simp only at h4
   obtain ⟨_,os5,p5,b5,os6,q5,h5,h6,e5⟩:=bind_some h4
   cases e5
   cases A2 h6
   have e:=k8p hrow (lk':=lk') fun l hm=>hl l hm
   simp only [z1k,ht,hrow,e,he] at h0 ⊢
   exact h0
  | vec l len =>
   simp only at h4
   cases hlv:lk l with
   | none=>rw [hlv] at h4;cases h4
   | some ob =>
   rw [hlv] at h4
   cases ob with
   | vec e' xs =>
    simp only at h4
    obtain ⟨_,os5,p5,b5,os6,q5,h5,h6,e5⟩:=bind_some h4
    cases e5
    obtain ⟨_,os7,p7,b7,os8,q7,h7,h8,e7⟩:=bind_some h6
    cases e7
    cases A2 h8
    have e:=k8p hrow (lk':=lk') fun k hm=>hl k (by simp [Eff.reads,hm])
    have e1:=hl l (by simp [Eff.reads])
    simp only [z1k,ht,hrow,e,he,e1] at h0 ⊢
    exact h0
   | _=>cases h4
  | _=>cases h4
 | _=>cases h
theorem k5m {fr t:Nat} {s x:AV} {os:List Orc} {r:Eff × List Orc × List Prop} (h:z9b D lk fr t s x os=some r) (hl:∀ l∈r.1.reads,lk' l=lk l):z9b D lk' fr t s x os=some r:=by
 unfold z9b at h ⊢
 cases ht:D.ty t with
 | none=>rw [ht] at h;cases h
 | some tt =>
 obtain ⟨sz,by',u,zz⟩:=tt
 rw [ht] at h
 cases u with
 | slice e =>
  cases s with
  | vec l len =>
   cases x with
   | vtl e' l' lo hi =>
    simp only at h ⊢
    cases hk:lk l with
    | none=>rw [hk] at h;cases h
    | some ob =>
     rw [hk] at h
     cases ob with
     | vec e2 xs =>
      cases he:D.ty e with
      | none=>rw [he] at h;cases h
      | some ti =>
       rw [he] at h
       have h':=h
       obtain ⟨_,os1,p1,b1,os2,q1,h1,h2,rfl⟩:=bind_some h
       obtain ⟨_,os3,p3,b3,os4,q3,h3,h4,e3⟩:=bind_some h2
       cases e3
       cases A2 h4
       rw [hl l (by simp [Eff.reads]),hk]
       exact h'
     | _=>cases h
   | _=>cases h
  | _=>cases h
 | _=>cases h
theorem k5l {fr t:Nat} {s x:AV} {os:List Orc} {r:Eff × List Orc × List Prop} (h:z9a D lk fr t s x os=some r) (hl:∀ l∈r.1.reads,lk' l=lk l):z9a D lk' fr t s x os=some r:=by
 unfold z9a at h ⊢
 cases ht:D.ty t with
 | none=>rw [ht] at h;cases h
 | some tt =>
 obtain ⟨sz,by',u,zz⟩:=tt
 rw [ht] at h
 cases u with
 | slice e =>
  cases s with
  | vec l len =>
   cases x with
   | frow vs =>
    simp only at h ⊢
    cases hk:lk l with
    | none=>rw [hk] at h;cases h
    | some ob =>
     rw [hk] at h
     cases ob with
     | mat e2 xss lent =>
      cases lent with
      | cons _ _=>cases h
      | nil =>
      cases he:D.ty e with
      | none=>rw [he] at h;cases h
      | some ti =>
       rw [he] at h
       have h':=h
       obtain ⟨_,os1,p1,b1,os2,q1,h1,h2,rfl⟩:=bind_some h
       obtain ⟨_,os3,p3,b3,os4,q3,h3,h4,e3⟩:=bind_some h2
       cases e3
       obtain ⟨_,os5,p5,b5,os6,q5,h5,h6,e5⟩:=bind_some h4
       cases e5
       cases A2 h6
       have e5:(vs.all fun v=>v.alive lk')=vs.all fun v=>v.alive lk:=by
        rw [Bool.eq_iff_iff,List.all_eq_true,List.all_eq_true]
        exact forall_congr' fun v=>forall_congr' fun hv=>by rw [z6m (lk:=lk) (lk':=lk') fun l hm=>hl l (List.mem_cons_of_mem _ (List.mem_flatMap.2 ⟨v,hv,hm⟩))]
       rw [hl l (by simp [Eff.reads]),hk]
       simp only [e5]
       exact h'
     | _=>cases h
   | _=>cases h
  | _=>cases h
 | _=>cases h
theorem k9j {fr t:Nat} {s x:AV} {os:List Orc} {r:Eff × List Orc × List Prop} (h:z8z D lk fr t s x os=some r) (hl:∀ l∈r.1.reads,lk' l=lk l):z8z D lk' fr t s x os=some r:=by
 cases os with
 | nil=>exact z7p h hl
 | cons q os =>
  cases q with
  | ta =>
   unfold z8z at h ⊢
   cases hc:x.isVtl with
   | true=>rw [hc] at h;exact k5m h hl
   | false=>rw [hc] at h;exact z7p h hl
  | am =>
   unfold z8z at h ⊢
   cases hc:x.isFrow with
   | true=>rw [hc] at h;exact k5l h hl
   | false=>rw [hc] at h;exact z7p h hl
  | _=>exact z7p h hl
theorem k5n {fr:Nat} {b:Builtin} {ts:Array Nat} {args:List AV} {os:List Orc} {r:Eff × List Orc × List Prop} (h:J3 D lk fr b ts args os=some r) (hl:∀ l∈r.1.reads,lk' l=lk l):J3 D lk' fr b ts args os=some r:=by
 cases b with
 | len =>
  cases args with
  | nil=>exact h
  | cons x xs =>
   cases xs with
   | cons y ys =>
    cases x with
    | c d=>cases d <;> exact h
    | _=>exact h
   | nil =>
    cases x with
    | vec l len =>
     have hm:l∈r.1.reads:=by
      simp only [J3] at h
      cases ht0:ts[0]? with
      | none=>rw [ht0] at h;cases h
      | some t =>
      rw [ht0] at h
      simp only at h
      cases ht:D.ty t with
      | none=>rw [ht] at h;cases h
      | some tt =>
      obtain ⟨_,_,u,_⟩:=tt
      rw [ht] at h
      cases u with
      | slice e =>
       simp only at h
       cases hk:lk l with
       | none=>rw [hk] at h;cases h
       | some o=>rw [hk] at h;cases o <;> first | (cases A2 h;simp [Eff.reads]) | cases h
      | _=>cases h
     have e:=hl l hm
     simp only [J3] at h ⊢
     cases ht0:ts[0]? with
     | none=>rw [ht0] at h;cases h
     | some t =>
     rw [ht0] at h
     simp only at h ⊢
     cases ht:D.ty t with
     | none=>rw [ht] at h;cases h
     | some tt =>
     obtain ⟨_,_,u,_⟩:=tt
     rw [ht] at h
     cases u <;> first | exact h | (simp only [e];exact h)
    | c d =>
     cases d <;>
     (simp only [J3] at h ⊢
      cases ht0:ts[0]? with
      | none=>rw [ht0] at h;first | exact h | cases h
      | some t =>
      rw [ht0] at h
      simp only at h ⊢
      cases ht:D.ty t with
      | none=>rw [ht] at h;first | exact h | cases h
      | some tt =>
      obtain ⟨_,_,u,_⟩:=tt
      rw [ht] at h
      cases u <;> first | exact h | cases h)
    | _ =>
     simp only [J3] at h ⊢
     cases ht0:ts[0]? with
     | none=>rw [ht0] at h;first | exact h | cases h
     | some t =>
     rw [ht0] at h
     simp only at h ⊢
     cases ht:D.ty t with
     | none=>rw [ht] at h;first | exact h | cases h
     | some tt =>
     obtain ⟨_,_,u,_⟩:=tt
     rw [ht] at h
     cases u <;> first | exact h | cases h
 | append =>
  cases args with
  | nil=>exact h
  | cons x xs =>
   cases xs with
   | nil=>exact h
   | cons y ys =>
    cases ys with
    | cons z zs=>exact h
    | nil =>
     simp only [J3] at h ⊢
     cases ht:ts.toList with
     | nil=>rw [ht] at h;cases h
     | cons t ts' =>
      cases ts' with
      | nil=>rw [ht] at h;cases h
      | cons t' ts'' =>
       cases ts'' with
       | nil =>
        rw [ht] at h
        obtain ⟨_,os1,p1,b1,os2,q1,h1,h2,rfl⟩:=bind_some h
        have h3:=k9j h2 (lk':=lk') hl
        exact J7 h1 h3
       | cons _ _=>rw [ht] at h;cases h
 | clear =>
  cases args with
  | nil=>exact h
  | cons x xs =>
   cases xs with
   | cons _ _=>cases x <;> exact h
   | nil =>
    cases x with
    | vtl e l lo hi =>
     simp only [J3] at h ⊢
     cases hk:lk l with
     | none=>rw [hk] at h;cases h
     | some ob =>
      rw [hk] at h
      cases ob with
      | vec e' xs =>
       have h':=h
       cases he:D.ty e with
       | none=>rw [he] at h;cases h
       | some ti =>
        cases hts:ts.toList with
        | nil=>rw [he,hts] at h;cases h
        | cons t ts' =>
         cases ts' with
         | cons _ _=>rw [he,hts] at h;cases h
         | nil =>
          rw [he,hts] at h
          simp only at h
          cases ht:D.ty t with
          | none=>rw [ht] at h;cases h
          | some tt =>
           obtain ⟨_,_,u,_⟩:=tt
           rw [ht] at h
           cases u with
           | slice e2 =>
            obtain ⟨_,os1,p1,b1,os2,q1,h3,h4,rfl⟩:=bind_some h
            cases A2 h4
            rw [hl l (by simp [Eff.reads]),hk]
            rw [he,hts] at h'
            exact h'
           | _=>cases h
      | _=>cases h
    | _=>exact h
 | max =>
  cases args with
  | nil=>exact h
  | cons x xs =>
   cases x with
   | c d=>cases d <;> exact h
   | _=>exact h
 | min =>
  cases args with
  | nil=>exact h
  | cons x xs =>
   cases x with
   | c d=>cases d <;> exact h
   | _=>exact h
 | _=>exact h
theorem x0l {f:Nat} {args:List AV} {os:List Orc} {r:Eff × List Orc × List Prop} (h:z7q D lk f args os=some r) (hl:∀ l∈r.1.reads,lk' l=lk l):z7q D lk' f args os=some r:=by
 unfold z7q at h ⊢
 split at h
 · rename_i c;rw [if_pos c];exact h
 · rename_i c
   rw [if_neg c]
   cases hd:P1 lk args with
   | none=>rw [hd] at h;cases h
   | some x =>
    obtain ⟨ds,u,rr⟩:=x
    rw [hd] at h
    cases A2 h
    rw [y4r hd hl]
    rfl
theorem k4j {ρ:Operand→AV} {fr:Nat} {o:Op} {os:List Orc} {r:Eff × List Orc × List Prop} (h:eff D ρ lk fr o os=some r) (hl:∀ l∈r.1.reads,lk' l=lk l):eff D ρ lk' fr o os=some r:=by
 cases o with
 | box t x =>
  simp only [eff] at h ⊢
  by_cases ha:∃ ds,ρ x=.agg ds
  · obtain ⟨ds,e⟩:=ha
    rw [e] at h ⊢
    exact h
  · generalize ρ x=v at h ha ⊢
    have h':(do sure (v.holds && v.alive lk);pure (.val (.ptr fr 0) [(fr,.cells [v])] v.rd):M Eff) os=some r:=by
     cases v with
     | agg ds=>exact absurd ⟨_,rfl⟩ ha
     | _=>exact h
    obtain ⟨_,os1,p1,q,os2,p2,h1,h2,e⟩:=bind_some h'
    have h3:=A2 h2
    have hr:r.1.reads=v.rd:=by rw [e];cases h3;rfl
    have e2:=z6m (lk:=lk) (lk':=lk') (v:=v) fun k hk=>hl k (by rw [hr];exact hk)
    have h4:(do sure (v.holds && v.alive lk');pure (.val (.ptr fr 0) [(fr,.cells [v])] v.rd):M Eff) os=some r:=by rw [e2];exact h'
    cases v with
    | agg ds=>exact absurd ⟨_,rfl⟩ ha
    | _=>exact h4
 | build t parts =>
  simp only [eff] at h ⊢
  cases ht:D.ty t with
  | none=>rw [ht] at h;cases h
  | some ti =>
   rw [ht] at h
   simp only at h ⊢
   have old:∀ os,(do
       sure (D.isAgg t)
       let (cs,u,r) ← lift (z7e (place D t) lk ti.zero (parts.toList.map fun p=>(p.1,ρ p.2)))
       pure (.val (.agg cs) u r):M Eff) os=some r→(do
       sure (D.isAgg t)
       let (cs,u,r) ← lift (z7e (place D t) lk' ti.zero (parts.toList.map fun p=>(p.1,ρ p.2)))
       pure (.val (.agg cs) u r):M Eff) os=some r:=by
    intro os h
    have h0:=h
    obtain ⟨_,os1,p1,b1,os2,q1,h1,h2,rfl⟩:=bind_some h
    obtain ⟨x,os3,p3,b3,os4,q3,h3,h4,e4⟩:=bind_some h2
    cases e4
    obtain ⟨x',h5,e5⟩:=G6 h3
    cases e5
    obtain ⟨cs,u,r⟩:=x
    cases A2 h4
    rw [k0h h5 hl]
    rw [h5] at h0
    exact h0
   have new:∀ os,(do
       sure (D.isAgg t)
       let vs ← lift (y9b (place D t) lk (ti.zero.map fun | .list _=>.nils | d=>.c d) (parts.toList.map fun p=>(p.1,ρ p.2)))
       pure (.val (.agv vs) [] ((parts.toList.map fun p=>(p.1,ρ p.2)).flatMap fun p=>p.2.rd)):M Eff) os=some r→(do
       sure (D.isAgg t)
       let vs ← lift (y9b (place D t) lk' (ti.zero.map fun | .list _=>.nils | d=>.c d) (parts.toList.map fun p=>(p.1,ρ p.2)))
       pure (.val (.agv vs) [] ((parts.toList.map fun p=>(p.1,ρ p.2)).flatMap fun p=>p.2.rd)):M Eff) os=some r:=by
    intro os h
    have h0:=h
    obtain ⟨_,os1,p1,b1,os2,q1,h1,h2,rfl⟩:=bind_some h
    obtain ⟨x,os3,p3,b3,os4,q3,h3,h4,e4⟩:=bind_some h2
    cases e4
    obtain ⟨x',h5,e5⟩:=G6 h3
    cases e5
    cases A2 h4
    have:=j1x (lk':=lk') h5 fun l hm=>hl l (by
     obtain ⟨p,hp,hm⟩:=hm
     exact List.mem_flatMap.2 ⟨p,hp,hm⟩)
    rw [this]
    rw [h5] at h0
    exact h0
   cases os with
   | nil=>exact old _ h
   | cons q os=>cases q <;> first | exact new _ h | exact old _ h
 | buildSlice t len parts =>
  simp only [eff] at h ⊢
  cases ht:D.ty t with
  | none=>rw [ht] at h;cases h
  | some tt =>
   obtain ⟨sz,by',u,zz⟩:=tt
   rw [ht] at h
   cases u with
   | slice e =>
    simp only at h ⊢
    cases he:D.ty e with
    | none=>rw [he] at h;cases h
    | some ti =>
     rw [he] at h
     simp only at h ⊢
     cases hca:(parts.toList.any fun p=>(ρ p.2).caps) with
     | true=>rw [hca] at h;exact h
     | false =>
      rw [hca] at h
      simp only [cond_false] at h ⊢
      unfold k2a at h ⊢
      split at h
      · have h0:=h
        obtain ⟨_,os1,p1,b1,os2,q1,h1,h2,rfl⟩:=bind_some h
        cases A2 h2
        have e5:((parts.toList.map fun p=>(p.1,ρ p.2)).all fun p=>p.2.isRow && p.2.alive lk')=(parts.toList.map fun p=>(p.1,ρ p.2)).all fun p=>p.2.isRow && p.2.alive lk:=by
         rw [Bool.eq_iff_iff,List.all_eq_true,List.all_eq_true]
         exact forall_congr' fun p=>forall_congr' fun hp=>by rw [z6m (lk:=lk) (lk':=lk') fun l hm=>hl l (List.mem_flatMap.2 ⟨p,hp,hm⟩)]
        simp only [e5]
        exact h0
      · have h0:=h
        obtain ⟨_,os1,p1,b1,os2,q1,h1,h2,rfl⟩:=bind_some h
        obtain ⟨x,os3,p3,b3,os4,q3,h3,h4,e4⟩:=bind_some h2
        cases e4
        obtain ⟨x',h5,e5⟩:=G6 h3
        cases e5
        obtain ⟨cs,u,r⟩:=x
        cases A2 h4
        rw [k0h h5 hl]
        rw [h5] at h0
        exact h0
   | _=>cases h
 | makeFunc fn first cap =>
  cases fn with
  | func f =>
   simp only [eff] at h ⊢
   split at h
   · rename_i c;rw [if_pos c];exact h
   · rename_i c
     rw [if_neg c]
     have h0:=h
     obtain ⟨_,os1,p1,b1,os2,q1,h1,h2,rfl⟩:=bind_some h
     obtain ⟨x,os3,p3,b3,os4,q3,h3,h4,e4⟩:=bind_some h2
     cases e4
     obtain ⟨x',h5,e5⟩:=G6 h3
     cases e5
     obtain ⟨ds,u,r⟩:=x
     cases A2 h4
     rw [y4r h5 hl]
     rw [h5] at h0
     exact h0
  | _=>exact h
 | load t a=>exact j7o h hl
 | store t a x=>exact j4a h hl
 | convert src dst x=>exact k5o h hl
 | slice t x lo hi mx =>
  cases mx with
  | none =>
   simp only [eff] at h ⊢
   obtain ⟨l,os1,p1,b1,os2,q1,h1,h2,rfl⟩:=bind_some h
   obtain ⟨hh,os3,p3,b3,os4,q3,h3,h4,e4⟩:=bind_some h2
   cases e4
   have h5:=j3z h4 (lk':=lk') hl
   exact J7 h1 (J7 h3 h5)
  | some _=>exact h
 | fieldAddr t x f=>exact j3x h hl
 | indexAddr t x i =>
  simp only [eff] at h ⊢
  cases hi:ρ i with
  | c d =>
   rw [hi] at h
   cases d with
   | int k n=>exact k0f h hl
   | _=>cases h
  | _=>rw [hi] at h;cases h
 | call c =>
  obtain ⟨cal,args,ts⟩:=c
  cases cal with
  | value g =>
   simp only [eff] at h ⊢
   cases hg:ρ g with
   | fn f cap=>rw [hg] at h;exact x0l h hl
   | mv f ds=>rw [hg] at h;exact x0l h hl
   | c d =>
    rw [hg] at h
    cases d with
    | fn f=>exact x0l h hl
    | _=>cases h
   | _=>rw [hg] at h;cases h
  | builtin b=>exact k5n h hl
  | _=>cases h
 | _=>exact h
theorem x0m {ρ ρ':Operand→AV} {fr:Nat} {o:Op} (h:∀ x∈o.operands,ρ' x=ρ x):eff D ρ' lk fr o=eff D ρ lk fr o:=by
 have arr:∀ xs:Array Operand,(∀ x∈xs,ρ' x=ρ x)→xs.toList.map ρ'=xs.toList.map ρ:=fun xs hx=>List.map_congr_left fun x hm=>hx x (by simpa using hm)
 have pairs:∀ ps:Array (Nat × Operand),(∀ x∈ps.map (·.2),ρ' x=ρ x)→(ps.toList.map fun p=>(p.1,ρ' p.2))=ps.toList.map fun p=>(p.1,ρ p.2):=fun ps hp =>
  List.map_congr_left fun p hm=>by rw [hp p.2 (Array.mem_map.2 ⟨p,by simpa using hm,rfl⟩)]
 cases o <;> simp only [Op.operands] at h <;> simp only [eff]
 case build t ps=>rw [pairs ps fun x hx=>h x (by simpa using hx)]
 case buildSlice t n ps =>
  have e:=pairs ps fun x hx=>h x (by simpa using hx)
  have e1:(ps.toList.any fun p=>(ρ' p.2).caps)=ps.toList.any fun p=>(ρ p.2).caps:=by
   have:=congrArg (fun l:List (Nat × AV)=>l.any fun q=>q.2.caps) e
   rwa [List.any_map,List.any_map] at this
  have e2:(ps.toList.all fun p=>(ρ' p.2).caps)=ps.toList.all fun p=>(ρ p.2).caps:=by
   have:=congrArg (fun l:List (Nat × AV)=>l.all fun q=>q.2.caps) e
   rwa [List.all_map,List.all_map] at this
  have e3:(ps.toList.map fun p=>ρ' p.2)=ps.toList.map fun p=>ρ p.2:=by
   have:=congrArg (fun l:List (Nat × AV)=>l.map fun q=>q.2) e
   rwa [List.map_map,List.map_map] at this
  rw [e,e1,e2,e3]
 case makeFunc fn first captured =>
  cases fn with
  | func f=>simp only;rw [arr captured fun x hx=>h x (by simp [hx]),arr first fun x hx=>h x (by simp [hx])]
  | _=>rfl
 case call c =>
  obtain ⟨cal,args,ts⟩:=c
  cases cal with
  | value g =>
   simp only
   rw [arr args fun x hx=>h x (by simp [Call.operands,hx]),h g (by simp [Call.operands])]
  | builtin b=>simp only;rw [arr args fun x hx=>h x (by simp [Call.operands,hx])]
  | _=>rfl
 case slice t x lo hi mx =>
  cases mx with
  | none=>cases lo <;> cases hi <;> simp_all
  | some _=>rfl
 all_goals (first | rfl | (simp_all;done))
end
end Gev
namespace Gev
open Go
variable {D:Tab} {C:Sem3}
theorem q6w {α:Type} (n:Nat) (f:Nat→α):force n f=f n:=by cases n <;> rfl
def x5j (ops:List Oper) (o:Oper) (s s':List AV):Prop:=∀ t∈o.looksAt ops.toArray,s'.getD t .undef=s.getD t .undef
theorem x2k {ops:List Oper} {o:Oper} {s s':List AV} (h:x5j ops o s s'):∀ x∈o.op.operands,rho s' x=rho s x:=by
 intro x hx
 cases x with
 | tmp t=>exact h t (List.mem_append_left _ (List.mem_filterMap.2 ⟨.tmp t,by simpa using hx,rfl⟩))
 | _=>rfl
theorem q0k {ops:List Oper} {o:Oper} {s s':List AV} (h:x5j ops o s s'):x3o ops s' o=x3o ops s o:=by
 unfold x3o
 cases hg:o.guard with
 | none=>rfl
 | some gw =>
  obtain ⟨g,want⟩:=gw
  simp only
  cases ht:(ops[g]?).bind (·.dst) with
  | none=>rfl
  | some t =>
   simp only
   rw [h t (List.mem_append_right _ (by simp [hg,ht]))]
theorem y2d {objs:Objs}:∀ {u:Ups} {l:Nat},l ∉ u.map (·.1)→lk (B6 objs u) l=lk objs l:=by
 intro u
 induction u generalizing objs with
 | nil=>intro l _;rfl
 | cons p u ih =>
  intro l hl
  simp only [List.map_cons,List.mem_cons,not_or] at hl
  simp only [B6]
  rw [ih hl.2]
  unfold lk
  rw [List.getD_eq_getElem?_getD,List.getD_eq_getElem?_getD,List.getElem?_set_ne (Ne.symm hl.1)]
theorem q1y {objs:Objs} {l:Nat} {o:Option Ob}:∀ {u:Ups},l ∉ u.map (·.1)→(B6 objs u).set l o=B6 (objs.set l o) u:=by
 intro u
 induction u generalizing objs with
 | nil=>intro _;rfl
 | cons p u ih =>
  intro hl
  simp only [List.map_cons,List.mem_cons,not_or] at hl
  simp only [B6]
  rw [ih hl.2,List.set_comm _ _ (Ne.symm hl.1)]
theorem j9w {objs:Objs} {u u':Ups} (h:∀ l∈u.map (·.1),l ∉ u'.map (·.1)):B6 (B6 objs u) u'=B6 (B6 objs u') u:=by
 induction u generalizing objs with
 | nil=>rfl
 | cons p u ih =>
  simp only [B6]
  rw [ih fun l hl=>h l (by simp only [List.map_cons,List.mem_cons];exact .inr hl),q1y (h p.1 (by simp))]
theorem y0q (objs:Objs) (u:Ups):(B6 objs u).length=objs.length:=by
 induction u generalizing objs with
 | nil=>rfl
 | cons p u ih=>simp only [B6];rw [ih,List.length_set]
theorem x7i {mk:Bool} {fr:Nat} {objs objs':Objs} {u:Ups} (h:x2p mk fr objs u=true) (hl:∀ l∈u.map (·.1),lk objs' l=lk objs l):x2p mk fr objs' u=true:=by
 unfold x2p at *
 rw [List.all_eq_true] at *
 intro p hp
 rw [hl p.1 (List.mem_map.2 ⟨p,hp,rfl⟩)]
 exact h p hp
theorem y7h {b:Bool} (h:b=true) (os:List Orc):sure b os=some ((),os,[]):=by subst h;rfl
theorem v0o {f fr:Nat} {args:List AV} {v:AV} {us:Ups} {os os':List Orc} {ps:List Prop} (h:askN C f fr args os=some ((v,us),os',ps)):∀ p∈us,p.1=fr:=by
 unfold askN at h
 cases os with
 | nil=>cases h
 | cons x os =>
  cases x with
  | nw n t xs=>cases h;intro p hp;simp at hp;rw [hp]
  | nm n t xss=>cases h;intro p hp;simp at hp;rw [hp]
  | nv w t xs =>
   simp only at h
   cases hb:w.inB 1 with
   | false=>rw [hb] at h;cases h
   | true=>rw [hb] at h;cases h;intro p hp;simp at hp;rw [hp]
  | v r=>cases h;intro p hp;cases hp
  | _=>cases h
theorem k2q {o:Oper} {st:St} {f:Nat} {args:List AV} {os:List Orc} {r:(St × Log) × List Orc × List Prop} (h:x9v C o st f args os=some r) :
    (∃ l rv ob ob' os',os=.vl l rv ob'::os'∧lk st.objs l=some ob∧args.all (AV.only l)=true∧rv.isDat=true∧ob.flat=true∧ob'.flat=true ∧
     r=((⟨I5 st.slots o.dst rv,B6 st.objs [(l,ob')]⟩,.rw [l] [l]),os',[C.run f (args.map AV.to0) [some ob] rv [some ob']])) ∨
    (j6z C o st f args os=some r∧∀ st2,x9v C o st2 f args os=j6z C o st2 f args os):=by
 unfold x9v at h
 split at h
 · rename_i l rv ob' os'
   split at h
   · rename_i ob hl
     cases hc:(args.all (AV.only l) && (rv.isDat && (ob.flat && ob'.flat))) with
     | false=>rw [hc] at h;cases h
     | true =>
      rw [hc] at h
      simp only [Bool.and_eq_true] at hc
      cases h
      exact .inl ⟨l,rv,ob,ob',os',rfl,hl,hc.1,hc.2.1,hc.2.2.1,hc.2.2.2,rfl⟩
   · cases h
 · rename_i hno
   refine .inr ⟨h,fun st2=>?_⟩
   unfold x9v
   split
   · rename_i l rv ob' os'
     exact absurd rfl (hno l rv ob' os')
   · rfl
theorem y7f {ops:List Oper} {fr:Nat} {o:Oper} {st st':St} {g:Log} {os os':List Orc} {ps:List Prop} (h:x2n D C ops fr o st os=some ((st',g),os',ps)) :
    ∃ v,(∃ r u,g=.rw r (u.map (·.1))∧x2p (P2 D o.op) fr st.objs u=true∧st'=⟨I5 st.slots o.dst v,B6 st.objs u⟩ ∧
        ∀ st2:St,x5j ops o st.slots st2.slots→(∀ l∈r,lk st2.objs l=lk st.objs l)→(∀ l∈u.map (·.1),lk st2.objs l=lk st.objs l)→x2n D C ops fr o st2 os=some ((⟨I5 st2.slots o.dst v,B6 st2.objs u⟩,g),os',ps)) ∨
     (∃ objs',(g=.all∨g=.ro∧objs'=st.objs)∧z3i st.objs objs'=true∧st'=⟨I5 st.slots o.dst v,objs'⟩ ∧
      ∀ st2:St,x5j ops o st.slots st2.slots→st2.objs=st.objs→x2n D C ops fr o st2 os=some ((⟨I5 st2.slots o.dst v,objs'⟩,g),os',ps)):=by
 unfold x2n at h
 obtain ⟨wt,os1,p1,b1,os2,q1,h1,h2,e⟩:=bind_some h
 cases e
 have hstep:∀ (st2:St) (r:(St × Log) × List Orc × List Prop),x5j ops o st.slots st2.slots →
     (if wt=true then (do
      match ← eff D (rho st2.slots) (lk st2.objs) fr o.op with
      | .val v u r=>do
       sure (x2p (P2 D o.op) fr st2.objs u)
       pure (⟨I5 st2.slots o.dst v,B6 st2.objs u⟩,.rw r (u.map (·.1)))
      | .call f args u r=>do
       sure (x2p (P2 D o.op) fr st2.objs u)
       if P2 D o.op then do
        sure (args.all AV.isDat && u.all fun p=>p.1 != fr)
        let (v,us) ← askN C f fr args
        pure (⟨I5 st2.slots o.dst v,B6 st2.objs (u++us)⟩,.rw r ((u++us).map (·.1)))
       else do
        let v ← askV C f args
        pure (⟨I5 st2.slots o.dst v,B6 st2.objs u⟩,.rw r (u.map (·.1)))
      | .tcall f args=>x9v C o st2 f args) else pure (⟨I5 st2.slots o.dst (.tup []),st2.objs⟩,.rw [] []):M (St × Log)) os1=some r→x2n D C ops fr o st2 os=some (r.1,r.2.1,p1++r.2.2):=by
  intro st2 r hs h3
  unfold x2n
  rw [q0k hs]
  exact J7 h1 h3
 cases wt with
 | false =>
  cases A2 h2
  exact ⟨.tup [],.inl ⟨[],[],rfl,rfl,rfl,fun st2 hs _ _=>hstep st2 (_,_,_) hs rfl⟩⟩
 | true =>
  simp only [if_true] at h2
  obtain ⟨e,os3,p3,b3,os4,q3,h3,h4,e4⟩:=bind_some h2
  cases e4
  cases e with
  | val v u r =>
   obtain ⟨_,os5,p5,b5,os6,q5,h5,h6,e6⟩:=bind_some h4
   cases e6
   obtain ⟨k5,e5⟩:=D3 h5
   cases e5
   cases A2 h6
   refine ⟨v,.inl ⟨r,u,rfl,k5,rfl,fun st2 hs hr hu=>?_⟩⟩
   refine hstep st2 ((_,_),_,_) hs ?_
   simp only [if_true]
   have e3:=k4j h3 hr
   rw [← x0m (x2k hs)] at e3
   exact J7 e3 (J7 (y7h (x7i k5 hu) _) rfl)
  | call f args u r =>
   obtain ⟨_,os5,p5,b5,os6,q5,h5,h6,e6⟩:=bind_some h4
   cases e6
   obtain ⟨k5,e5⟩:=D3 h5
   cases e5
   cases hm:P2 D o.op with
   | false =>
    rw [hm] at h6
    simp only [Bool.false_eq_true,if_false] at h6
    obtain ⟨v,os7,p7,b7,os8,q7,h7,h8,e8⟩:=bind_some h6
    cases e8
    cases A2 h8
    refine ⟨v,.inl ⟨r,u,rfl,by rw [← hm];exact k5,rfl,fun st2 hs hr hu=>?_⟩⟩
    refine hstep st2 ((_,_),_,_) hs ?_
    simp only [if_true]
    have e3:=k4j h3 hr
    rw [← x0m (x2k hs)] at e3
    refine J7 e3 (J7 (y7h (x7i k5 hu) _) ?_)
    rw [hm]
    simp only [Bool.false_eq_true,if_false]
    exact J7 h7 rfl
   | true =>
    rw [hm] at h6
    simp only [if_true] at h6
    obtain ⟨_,os9,p9,b9,os10,q9,h9,h10,e9⟩:=bind_some h6
    cases e9
    obtain ⟨k9,e9⟩:=D3 h9
    cases e9
    obtain ⟨x,os7,p7,b7,os8,q7,h7,h8,e8⟩:=bind_some h10
    cases e8
    obtain ⟨v,us⟩:=x
    cases A2 h8
    have k5':x2p true fr st.objs (u++us)=true:=by
     rw [hm] at k5
     unfold x2p at k5 ⊢
     rw [List.all_append,k5,Bool.true_and,List.all_eq_true]
     intro p hp
     have:p.1=fr:=v0o h7 p hp
     simp [this]
    refine ⟨v,.inl ⟨r,u++us,rfl,k5',rfl,fun st2 hs hr hu=>?_⟩⟩
    refine hstep st2 ((_,_),_,_) hs ?_
    simp only [if_true]
    have e3:=k4j h3 hr
    rw [← x0m (x2k hs)] at e3
    refine J7 e3 (J7 (y7h (x7i k5 fun l hl=>hu l (by rw [List.map_append];exact List.mem_append_left _ hl)) _) ?_)
    rw [hm]
    simp only [if_true]
    exact J7 (y7h k9 _) (J7 h7 rfl)
  | tcall f args =>
   rcases k2q h4 with ⟨l,rv,ob,ob',os',rfl,hl,ha,hr1,ho,ho',e⟩ | ⟨h4,hsame⟩
   · cases e
     refine ⟨rv,.inl ⟨[l],[(l,ob')],rfl,by simp [x2p,hl],rfl,fun st2 hs hr _=>?_⟩⟩
     refine hstep st2 ((_,_),_,_) hs ?_
     simp only [if_true]
     have e3:=k4j (lk':=lk st2.objs) h3 (fun l hl=>by cases hl)
     rw [← x0m (x2k hs)] at e3
     have hl2:lk st2.objs l=some ob:=(hr l (by simp)).trans hl
     have hT:x9v C o st2 f args (.vl l rv ob'::os')=some ((⟨I5 st2.slots o.dst rv,B6 st2.objs [(l,ob')]⟩,Log.rw [l] [l]),os',[C.run f (args.map AV.to0) [some ob] rv [some ob']]):=by
      unfold x9v
      simp only [hl2,ha,hr1,ho,ho',Bool.and_self,cond_true]
     exact J7 e3 hT
   obtain ⟨x,os7,p7,b7,os8,q7,h7,h8,e8⟩:=bind_some h4
   cases e8
   obtain ⟨v,objs',still⟩:=x
   obtain ⟨_,os5,p5,b5,os6,q5,h5,h6,e6⟩:=bind_some h8
   cases e6
   obtain ⟨k5,e5⟩:=D3 h5
   cases e5
   cases A2 h6
   have hg:(if still=true then Log.ro else .all)=.all∨(if still=true then Log.ro else .all)=.ro∧objs'=st.objs:=by
    cases still with
    | false=>exact .inl rfl
    | true =>
     refine .inr ⟨rfl,?_⟩
     unfold askT at h7
     split at h7 <;> cases h7
     rfl
   refine ⟨v,.inr ⟨objs',hg,k5,rfl,fun st2 hs ho=>?_⟩⟩
   refine hstep st2 ((_,_),_,_) hs ?_
   simp only [if_true]
   rw [← x0m (x2k hs)] at h3
   rw [ho]
   have hT:x9v C o st2 f args os3=some ((⟨I5 st2.slots o.dst v,objs'⟩,if still then Log.ro else .all),os',p7++([]++[])):=by
    rw [hsame]
    unfold j6z
    rw [ho]
    exact J7 h7 (J7 (y7h k5 _) rfl)
   exact J7 h3 hT
theorem q3k {s:List AV} {d:Option Tmp} {v:AV} {t:Nat} (h:∀ x,d=some x→x≠t):(I5 s d v).getD t .undef=s.getD t .undef:=by
 cases d with
 | none=>rfl
 | some x =>
  simp only [I5]
  rw [List.getD_eq_getElem?_getD,List.getD_eq_getElem?_getD,List.getElem?_set_ne (h x rfl)]
theorem x8o {s:List AV} {d e:Option Tmp} {v u:AV} (h:∀ x,d=some x→e≠some x):I5 (I5 s d v) e u=I5 (I5 s e u) d v:=by
 cases d with
 | none=>rfl
 | some x =>
  cases e with
  | none=>rfl
  | some y =>
   simp only [I5]
   exact List.set_comm _ _ (fun hxy=>h x rfl (by rw [hxy]))
theorem k1d {r w:List Nat} (h:(Log.rw r w).quiet=true):r=[]∧w=[]:=by
 cases r with
 | nil =>
  cases w with
  | nil=>exact ⟨rfl,rfl⟩
  | cons _ _=>cases h
 | cons _ _=>cases w <;> cases h
theorem q6b {r w r' w':List Nat} (h:(Log.rw r w).conflict (.rw r' w')=false):(∀ l∈w,l ∉ r'∧l ∉ w')∧∀ l∈w',l ∉ r:=by
 unfold Log.conflict at h
 by_cases q1:(Log.rw r w).quiet=true
 · obtain ⟨rfl,rfl⟩:=k1d q1
   exact ⟨fun l hl=>(List.not_mem_nil hl).elim,fun l _ h=>List.not_mem_nil h⟩
 by_cases q2:(Log.rw r' w').quiet=true
 · obtain ⟨rfl,rfl⟩:=k1d q2
   exact ⟨fun l _=>⟨List.not_mem_nil,List.not_mem_nil⟩,fun l h=>(List.not_mem_nil h).elim⟩
 simp only [q1,q2,Bool.not_false,Bool.true_and,Bool.or_eq_false_iff,List.any_eq_false,List.contains_eq_mem,decide_eq_true_eq,Bool.or_eq_true,not_or] at h
 simp only [Bool.not_eq_true] at q1 q2
 exact ⟨fun l hl=>h.1 l hl,fun l hl=>h.2 l hl⟩
def x7k (D:Tab) (C:Sem3) (ops:List Oper) (base:Nat) (i:Nat) (st st':St) (g:Log):Prop :=
 ∃ o os os' ps,ops[i]?=some o∧x2n D C ops (base+((ops.take i).filter (P2 D ·.op)).length) o st os=some ((st',g),os',ps)∧All ps
theorem q0q {ops:List Oper} {base i j:Nat} {oi oj:Oper} (hi:ops[i]?=some oi) (hj:ops[j]?=some oj) {st st1 st2:St} {gi gj:Log} (h1:x7k D C ops base i st st1 gi)(h2:x7k D C ops base j st1 st2 gj)
    (ha:oi.apart ops.toArray oj=true) (hc:gi.conflict gj=false):∃ st1',x7k D C ops base j st st1' gj∧x7k D C ops base i st1' st2 gi:=by
 obtain ⟨a1,a2,a3⟩:=Oper.apart_spec ha
 obtain ⟨o,os,os',ps,e,h1,p1⟩:=h1
 rw [hi] at e;cases e
 obtain ⟨o,qs,qs',qp,e,h2,p2⟩:=h2
 rw [hj] at e;cases e
 have sj:∀ (s:List AV) v,x5j ops oj (I5 s oi.dst v) s:=fun s v t ht=>(q3k fun x hx e=>a1 x hx (e ▸ ht)).symm
 have si:∀ (s:List AV) v,x5j ops oi s (I5 s oj.dst v):=fun s v t ht=>q3k fun x hx e=>a3 x hx (e ▸ ht)
 have none_of:∀ {r:List Nat} {u:Ups} {g:Log},g=.all∨g=.ro→(Log.rw r (u.map (·.1))).conflict g=false∨g.conflict (Log.rw r (u.map (·.1)))=false→u=[]∧(g=.all→r=[]):=by
  intro r u g hg h
  by_cases hq:(Log.rw r (u.map (·.1))).quiet=true
  · obtain ⟨e1,e2⟩:=k1d hq
    exact ⟨List.map_eq_nil_iff.1 e2,fun _=>e1⟩
  · simp only [Bool.not_eq_true] at hq
    rcases hg with rfl | rfl
    · unfold Log.conflict at h
      rw [hq] at h
      simp [Log.quiet] at h
    · unfold Log.conflict at h
      rw [hq] at h
      simp [Log.quiet] at h
      exact ⟨h,fun e=>by cases e⟩
 obtain ⟨vi,⟨ri,ui,rfl,ki,rfl,mi⟩ | ⟨oi',gi',ki,rfl,mi⟩⟩:=y7f h1
 · obtain ⟨vj,⟨rj,uj,rfl,kj,rfl,mj⟩ | ⟨oj',gj',kj,rfl,mj⟩⟩:=y7f h2
   · obtain ⟨d1,d2⟩:=q6b hc
     have k1:=mj st (sj _ _) (fun l hl=>(y2d fun h=>(d1 l h).1 hl).symm) (fun l hl=>(y2d fun h=>(d1 l h).2 hl).symm)
     have k2:=mi ⟨I5 st.slots oj.dst vj,B6 st.objs uj⟩ (si _ _) (fun l hl=>y2d fun h=>d2 l h hl) (fun l hl=>y2d fun h=>(d1 l hl).2 h)
     refine ⟨_,⟨oj,qs,qs',qp,hj,k1,p2⟩,oi,os,os',ps,hi,?_,p1⟩
     rw [k2]
     simp only
     rw [x8o a2,j9w fun l hl=>(d1 l hl).2]
   · -- the second is handed objects: the first turned none
     obtain ⟨e3,e1⟩:=none_of (gj'.imp id And.left) (.inl hc)
     subst e3
     have k1:=mj st (sj _ _) rfl
     have hsame:∀ l∈ri,lk oj' l=lk st.objs l:=fun l hl=>by
      rcases gj' with e | ⟨_,e⟩
      · rw [e1 e] at hl;cases hl
      · rw [e];rfl
     have k2:=mi ⟨I5 st.slots oj.dst vj,oj'⟩ (si _ _) hsame (fun l hl=>by cases hl)
     refine ⟨_,⟨oj,qs,qs',qp,hj,k1,p2⟩,oi,os,os',ps,hi,?_,p1⟩
     rw [k2]
     simp only [B6]
     rw [x8o a2]
 · obtain ⟨vj,⟨rj,uj,rfl,kj,rfl,mj⟩ | ⟨oj',gj',kj,rfl,mj⟩⟩:=y7f h2
   · obtain ⟨e3,e1⟩:=none_of (gi'.imp id And.left) (.inr hc)
     subst e3
     have hsame:∀ l∈rj,lk st.objs l=lk oi' l:=fun l hl=>by
      rcases gi' with e | ⟨_,e⟩
      · rw [e1 e] at hl;cases hl
      · rw [e]
     have k1:=mj st (sj _ _) hsame (fun l hl=>by cases hl)
     have k2:=mi ⟨I5 st.slots oj.dst vj,st.objs⟩ (si _ _) rfl
     refine ⟨_,⟨oj,qs,qs',qp,hj,k1,p2⟩,oi,os,os',ps,hi,?_,p1⟩
     simp only [B6] at k2 ⊢
     rw [k2,x8o a2]
   · rcases gi' with rfl | ⟨rfl,ei⟩
     · exfalso
       rcases gj' with rfl | ⟨rfl,_⟩ <;> (unfold Log.conflict at hc;simp [Log.quiet] at hc)
     · rcases gj' with rfl | ⟨rfl,ej⟩
       · exfalso
         unfold Log.conflict at hc
         simp [Log.quiet] at hc
       · subst ei
         have ej:oj'=st.objs:=ej
         subst ej
         have k1:=mj st (sj _ _) rfl
         have k2:=mi ⟨I5 st.slots oj.dst vj,st.objs⟩ (si _ _) rfl
         refine ⟨_,⟨oj,qs,qs',qp,hj,k1,p2⟩,oi,os,os',ps,hi,?_,p1⟩
         rw [k2,x8o a2]
theorem j7h {acc:List Nat} {i:Nat}:∀ (l:List Edge) (s:Nat),(l.foldl (fun s e=>if Region.binds .any e then s ||| 2 ^ e.on ||| acc.getD e.on 0 else s) s).testBit i=true →
    s.testBit i=true∨∃ e∈l,Region.binds .any e=true∧(e.on=i∨(acc.getD e.on 0).testBit i=true)
 | [],s,h=>.inl h
 | e::l,s,h=>by
  simp only [List.foldl_cons] at h
  rcases j7h l _ h with h1 | ⟨e',h1,h2,h3⟩
  · split at h1
    · rename_i hb
      rw [Nat.testBit_or,Nat.testBit_or,Nat.testBit_two_pow,Bool.or_eq_true,Bool.or_eq_true,decide_eq_true_eq] at h1
      rcases h1 with (h1 | h1) | h1
      · exact .inl h1
      · exact .inr ⟨e,by simp,hb,.inl h1⟩
      · exact .inr ⟨e,by simp,hb,.inr h1⟩
    · exact .inl h1
  · exact .inr ⟨e',by simp [h1],h2,h3⟩
theorem j1m:∀ (os:List Oper) (acc:List Nat),(ancs os acc).length=acc.length+os.length∧(ancs os acc).take acc.length=acc ∧
    ∀ j o,os[j]?=some o→(ancs os acc).getD (acc.length+j) 0=k2h ((ancs os acc).take (acc.length+j)) o
 | [],acc=>by simp [ancs]
 | o::os,acc=>by
  simp only [ancs,q6w]
  obtain ⟨h1,h2,h3⟩:=j1m os (acc++[k2h acc o])
  simp only [List.length_append,List.length_cons,List.length_nil] at h1 h2 h3
  have h4:(ancs os (acc++[k2h acc o])).take acc.length=acc:=by
   have:=congrArg (List.take acc.length) h2
   rw [List.take_take,Nat.min_eq_left (by omega),List.take_left] at this
   exact this
  refine ⟨by rw [h1];simp;omega,h4,fun j p hj=>?_⟩
  cases j with
  | zero =>
   simp only [List.getElem?_cons_zero,Option.some.injEq] at hj
   subst hj
   rw [Nat.add_zero,h4]
   have:(ancs os (acc++[k2h acc o])).getD acc.length 0=((ancs os (acc++[k2h acc o])).take (acc.length+1)).getD acc.length 0:=by
    rw [List.getD_eq_getElem?_getD,List.getD_eq_getElem?_getD,List.getElem?_take,if_pos (by omega)]
   rw [this]
   have h2':(ancs os (acc++[k2h acc o])).take (acc.length+1)=acc++[k2h acc o]:=h2
   rw [h2']
   simp
  | succ j =>
   have:=h3 j p (by simpa using hj)
   rw [show acc.length+(0+1)+j=acc.length+(j+1) by omega] at this
   exact this
def k4y (ops:List Oper) (listed:Array Bool):Prop:=∀ k,listed.getD k false=true→∀ i,((ancs ops []).getD k 0).testBit i=true→listed.getD i false=true
theorem j2y {ops:List Oper} {listed:Array Bool} (hc:k4y ops listed) {j:Nat} (hj:j∈Region.ready .any ops.toArray listed) (i:Nat) (hi:((ancs ops []).getD j 0).testBit i=true):listed.getD i false=true:=by
 obtain ⟨_,o,ho,hall⟩:=mem_ready.1 hj
 have ho':ops[j]?=some o:=by simpa using ho
 obtain ⟨h1,h2,h3⟩:=j1m ops []
 have h4:=h3 j o ho'
 simp only [List.length_nil,Nat.zero_add] at h4
 rw [h4] at hi
 rcases j7h o.after.toList 0 hi with h5 | ⟨e,h5,h6,h7⟩
 · simp at h5
 · have he:=hall e (by simpa using h5) h6
   rcases h7 with h7 | h7
   · rw [← h7];exact he
   · refine hc e.on he i ?_
     rw [List.getD_eq_getElem?_getD,List.getElem?_take] at h7
     split at h7
     · rw [List.getD_eq_getElem?_getD];exact h7
     · simp at h7
theorem q6y {listed:Array Bool} {i k:Nat} {b:Bool} (h:(listed.setIfInBounds i true).getD k b=true):listed.getD k b=true∨k=i:=by
 by_cases e:i=k
 · exact .inr e.symm
 · rw [getD_set_ne b e] at h;exact .inl h
theorem k5f {ops:List Oper} {listed:Array Bool} (hc:k4y ops listed) {j:Nat} (hj:j∈Region.ready .any ops.toArray listed):k4y ops (listed.setIfInBounds j true):=by
 intro k hk i hi
 rcases q6y hk with h | rfl
 · exact getD_set_true (hc k h i hi)
 · exact getD_set_true (j2y hc hj i hi)
def Any (D:Tab) (C:Sem3) (ops:List Oper) (base:Nat) (G:Nat→Log) (Q:St→Prop):Nat→Array Bool→St→Prop
 | 0,listed,st=>Region.ready .any ops.toArray listed=[]∧Q st
 | f+1,listed,st=>(Region.ready .any ops.toArray listed=[]→Q st)∧∀ i∈Region.ready .any ops.toArray listed,∃ st',x7k D C ops base i st st' (G i)∧Any D C ops base G Q f (listed.setIfInBounds i true) st'
theorem k9d {ops:List Oper} {listed:Array Bool} {i:Nat} (hr:i∈Region.ready .any ops.toArray listed):listed.getD i false=false:=by
 have h0:=(mem_ready.1 hr).1
 rcases Nat.lt_or_ge i listed.size with h' | h'
 · simp [h'] at h0 ⊢;exact h0
 · simp [Array.getElem?_eq_none h']
theorem q4j {ops:List Oper} {base:Nat} {G:Nat→Log} {Q:St→Prop} {i:Nat} {oi:Oper} (hi:ops[i]?=some oi) :
    ∀ (fuel:Nat) (listed:Array Bool) (st st1:St),k4y ops listed →
     (∀ j oj,ops[j]?=some oj→j≠i→listed.getD j true=false→((ancs ops []).getD j 0).testBit i=false→oi.apart ops.toArray oj=true∧(G i).conflict (G j)=false) →
     i∈Region.ready .any ops.toArray listed→x7k D C ops base i st st1 (G i)→Any D C ops base G Q fuel (listed.setIfInBounds i true) st1→Any D C ops base G Q (fuel+1) listed st:=by
 intro fuel
 induction fuel with
 | zero =>
  intro listed st st1 _ _ hr hs H
  refine ⟨fun h=>(by rw [h] at hr;cases hr),fun j hj=>?_⟩
  by_cases hji:j=i
  · subst hji;exact ⟨st1,hs,H⟩
  · have:=ready_mono hj hji
    rw [H.1] at this
    cases this
 | succ fuel ih =>
  intro listed st st1 hcl hfree hr hs H
  refine ⟨fun h=>(by rw [h] at hr;cases hr),fun j hj=>?_⟩
  by_cases hji:j=i
  · subst hji;exact ⟨st1,hs,H⟩
  · obtain ⟨st2,h1,h2⟩:=H.2 j (ready_mono hj hji)
    obtain ⟨hjun,oj,hoj,hall⟩:=mem_ready.1 hj
    have hnot:((ancs ops []).getD j 0).testBit i=false:=by
     cases hb:((ancs ops []).getD j 0).testBit i with
     | false=>rfl
     | true =>
      have:=j2y hcl hj i hb
      rw [k9d hr] at this
      cases this
    have hoj':ops[j]?=some oj:=by simpa using hoj
    obtain ⟨a1,a2⟩:=hfree j oj hoj' hji hjun hnot
    obtain ⟨st1',k1,k2⟩:=q0q hi hoj' hs h1 a1 a2
    refine ⟨st1',k1,ih (listed.setIfInBounds j true) st1' st2 (k5f hcl hj) (fun k ok hk hki hun hno=>?_) (ready_mono hr (Ne.symm hji)) k2 ?_⟩
    · refine hfree k ok hk hki ?_ hno
      by_cases hjk:j=k
      · subst hjk;exact hjun
      · rw [getD_set_ne true hjk] at hun;exact hun
    · rw [Array.setIfInBounds_comm _ _ hji]
      exact h2
def q2l (D:Tab) (C:Sem3) (ops:List Oper) (base:Nat) (G:Nat→Log) (fin:St):Nat→Nat→St→Prop
 | 0,_,st=>st=fin
 | n+1,k,st=>∃ st',x7k D C ops base k st st' (G k)∧q2l D C ops base G fin n (k+1) st'
theorem v0m {ops:List Oper} {base:Nat} {G:Nat→Log} {fin:St} (hb:∀ k o,ops[k]?=some o→∀ e∈o.after,Region.binds .any e=true→e.on<k)
    (hfree:∀ i j oi oj,ops[i]?=some oi→ops[j]?=some oj→i<j→((ancs ops []).getD j 0).testBit i=false→oi.apart ops.toArray oj=true∧(G i).conflict (G j)=false) :
    ∀ (n k:Nat) (listed:Array Bool) (st:St),k+n=ops.length→listed.size=ops.length→(∀ i,i<ops.length→listed.getD i false=decide (i<k))→k4y ops listed→q2l D C ops base G fin n k st→Any D C ops base G (·=fin) n listed st:=by
 intro n
 induction n with
 | zero =>
  intro k listed st hk hz hl _ h
  refine ⟨?_,h⟩
  rw [List.eq_nil_iff_forall_not_mem]
  intro j hj
  obtain ⟨hjun,oj,hoj,_⟩:=mem_ready.1 hj
  have hlt:j<ops.length:=by have:=(Array.getElem?_eq_some_iff.1 hoj).1;simpa using this
  have h1:=hl j hlt
  have hlt':j<listed.size:=by omega
  simp [hlt'] at h1 hjun
  rw [hjun] at h1
  have h2:j<k:=by omega
  simp [h2] at h1
 | succ n ih =>
  intro k listed st hk hz hl hcl h
  obtain ⟨st',h1,h2⟩:=h
  have hlt:k<ops.length:=by omega
  have hk':ops[k]?=some ops[k]:=List.getElem?_eq_getElem hlt
  have hr:k∈Region.ready .any ops.toArray listed:=by
   refine mem_ready.2 ⟨?_,ops[k],by simp,fun e he hbe=>?_⟩
   · have h3:=hl k hlt
     have hlt':k<listed.size:=by omega
     simp [hlt'] at h3 ⊢
     rw [h3]
   · have h3:=hb k _ hk' e he hbe
     rw [hl e.on (by omega)]
     simp [h3]
  refine q4j hk' n listed st st' hcl (fun j oj hj hji hun hno=>?_) hr h1 (ih (k+1) _ st' (by omega) (by simpa using hz) (fun i hi=>?_) (k5f hcl hr) h2)
  · have hlt2:j<ops.length:=(List.getElem?_eq_some_iff.1 hj).1
    have h3:=hl j hlt2
    have hlt':j<listed.size:=by omega
    simp [hlt'] at h3 hun
    rw [hun] at h3
    have h4:¬ j<k:=by
     intro h5
     simp [h5] at h3
    exact hfree k j _ oj hk' hj (by omega) hno
  · by_cases e:k=i
    · subst e
      have hlt':k<listed.size:=by omega
      simp [hlt']
    · rw [getD_set_ne false e,hl i hi]
      rcases Nat.lt_or_ge i k with h5 | h5
      · simp [h5,Nat.lt_succ_of_lt h5]
      · simp [Nat.not_lt.2 h5,show ¬ i<k+1 by omega]
theorem y7o {ops:List Oper} {base:Nat} {G:Nat→Log}:∀ (rest:List Oper) (k:Nat) (st fin:St) (gs:List Log) (os os':List Orc) (ps:List Prop),(∀ j,rest[j]?=ops[k+j]?)→k+rest.length=ops.length→(∀ j,j<gs.length→G (k+j)=gs.getD j default) →
    x7f D C ops rest (base+((ops.take k).filter (P2 D ·.op)).length) st os=some ((fin,gs),os',ps)→All ps→q2l D C ops base G fin rest.length k st∧gs.length=rest.length
 | [],k,st,fin,gs,os,os',ps,_,_,_,h,_=>by
  cases A2 h
  exact ⟨rfl,rfl⟩
 | o::rest,k,st,fin,gs,os,os',ps,hr,hk,hG,h,hp=>by
  simp only [x7f] at h
  obtain ⟨x,os1,p1,b1,os2,q1,h1,h2,e⟩:=bind_some h
  cases e
  obtain ⟨st1,g⟩:=x
  obtain ⟨y,os3,p3,b3,os4,q3,h3,h4,e⟩:=bind_some h2
  cases e
  obtain ⟨st2,gs'⟩:=y
  cases A2 h4
  have ho:ops[k]?=some o:=by simpa using (hr 0).symm
  have hp':=all_append hp
  have hp2:All p3:=(all_append hp'.2).1
  have hfr:(if P2 D o.op then base+((ops.take k).filter (P2 D ·.op)).length+1 else base+((ops.take k).filter (P2 D ·.op)).length)=base+((ops.take (k+1)).filter (P2 D ·.op)).length:=by
   rw [List.take_add_one,ho]
   simp only [Option.toList_some,List.filter_append,List.length_append]
   by_cases hm:P2 D o.op=true
   · simp [hm];omega
   · simp [hm]
  rw [hfr] at h3
  obtain ⟨c1,c2⟩:=y7o rest (k+1) st1 st2 gs' os1 _ p3 (fun j=>by have:=hr (j+1);simpa [Nat.add_assoc,Nat.add_comm 1 j] using this) (by simp at hk;omega)
   (fun j hj=>by have:=hG (j+1) (by simp;omega);simpa [Nat.add_assoc,Nat.add_comm 1 j] using this) h3 hp2
  have hg:G k=g:=by have:=hG 0 (by simp);simpa using this
  exact ⟨⟨st1,⟨o,os,os1,p1,ho,by rw [hg];exact h1,hp'.1⟩,c1⟩,by simp [c2]⟩
theorem k5c:∀ (ops:List Oper) (n:Nat),q2p n ops=true→∀ k o,ops[k]?=some o→∀ e∈o.after,Region.binds .any e=true→e.on<n+k
 | [],_,_,k,o,h=>by simp at h
 | p::ops,n,hB,k,o,h=>by
  simp only [q2p,Bool.and_eq_true] at hB
  cases k with
  | zero =>
   simp only [List.getElem?_cons_zero,Option.some.injEq] at h
   subst h
   intro e he hb
   have:=List.all_eq_true.1 hB.1 e (by simpa using he)
   simp [hb] at this
   omega
  | succ k =>
   intro e he hb
   have:=k5c ops (n+1) hB.2 k o (by simpa using h) e he hb
   omega
theorem q0p {ops:List Oper} {st fin:St} {gs:List Log} {os os':List Orc} {ps:List Prop} {base:Nat} (h:x7f D C ops ops base st os=some ((fin,gs),os',ps)) (hp:All ps) (hd:j3w ops gs=true) :
    ∃ G,Any D C ops base G (·=fin) ops.length (Array.replicate ops.length false) st:=by
 obtain ⟨c1,c2⟩:=y7o (ops:=ops) (base:=base) (G:=fun i=>gs.getD i default) ops 0 st fin gs os os' ps (by simp) (by simp) (by simp) (by simpa using h) hp
 simp only [j3w,Bool.and_eq_true] at hd
 obtain ⟨d1,d2,d3⟩:=hd
 refine ⟨fun i=>gs.getD i default,v0m (fun k o ho e he hb=>by simpa using k5c ops 0 d1 k o ho e he hb) (fun i j oi oj hi hj hij hno=>?_) ops.length 0 _ st (by simp) (by simp) (fun i hi=>by simp [hi]) (fun k hk=>?_) c1⟩
 · have hjl:j<ops.length:=(List.getElem?_eq_some_iff.1 hj).1
   refine ⟨?_,?_⟩
   · simp only [q6a,List.all_eq_true,List.mem_range] at d2
     have:=d2 j hjl i hij
     rw [hno,hi,hj] at this
     simpa using this
   · simp only [Bool.or_eq_true] at d3
     rcases d3 with d3 | d3
     · rw [List.all_eq_true] at d3
       have hig:i<gs.length:=by omega
       have:(gs.getD i default).quiet=true:=by
        rw [List.getD_eq_getElem?_getD,List.getElem?_eq_getElem hig]
        exact d3 _ (List.getElem_mem hig)
       unfold Log.conflict
       rw [this]
       rfl
     · simp only [q5z,List.all_eq_true,List.mem_range] at d3
       have:=d3 j (by omega) i hij
       rw [hno] at this
       simpa using this
 · exfalso
   have:(Array.replicate ops.length false).getD k false=false:=by
    rcases Nat.lt_or_ge k ops.length with h' | h' <;> simp [Array.getD,h']
   rw [this] at hk
   cases hk
end Gev
namespace Gev
open Go
variable {P:Program} {D:Tab} {B0:Nat} {Gd:World→Prop}
theorem Slots.tr {Γ Γ':Ctx} {slots:List AV} {a:Act} (h:Slots D Γ slots a) (ht:Tr D Γ Γ'):Slots D Γ' slots a:=⟨h.size,fun i v u h1 h2=>ht.rep (h.slot i v u h1 h2)⟩
theorem Slots.put {Γ:Ctx} {slots:List AV} {a:Act} (h:Slots D Γ slots a) {v:AV} {vc:Value} (hv:RepA D Γ vc v) (dst:Option Tmp):Slots D Γ (I5 slots dst v) (a.put dst vc):=by
 cases dst with
 | none=>exact h
 | some d =>
  refine ⟨by simp [Act.put,I5,h.size],fun i x u hx hu=>?_⟩
  simp only [I5,Act.put] at hx hu
  by_cases e:d=i
  · subst e
    rw [List.getElem?_set] at hx
    rw [Array.getElem?_setIfInBounds] at hu
    simp only [if_true] at hx hu
    split at hx
    · split at hu
      · cases hx;cases hu;exact hv
      · cases hu
    · cases hx
  · rw [List.getElem?_set_ne e] at hx
    rw [Array.getElem?_setIfInBounds_ne e] at hu
    exact h.slot i x u hx hu
theorem z4q (a:Act) (dst:Option Tmp) (v:Value):(a.put dst v).defers=a.defers:=by cases dst <;> rfl
theorem q2j {Γ:Ctx} {a:Act} {ops:List Oper} {slots:List AV} {o:Oper} {wt:Bool} {os os':List Orc} {ps:List Prop} (hs:Slots D Γ slots a) (h:x3o ops slots o os=some (wt,os',ps)) (hp:All ps):Region.wanted o (yielded ops.toArray a.tmps)=wt:=by
 unfold x3o at h
 unfold Region.wanted
 cases hg:o.guard with
 | none=>rw [hg] at h;cases A2 h;rfl
 | some gw =>
  obtain ⟨j,want⟩:=gw
  rw [hg] at h
  simp only at h ⊢
  unfold yielded
  rw [List.getElem?_toArray]
  cases hd:(ops[j]?).bind (·.dst) with
  | none=>rw [hd] at h;cases h
  | some d =>
   rw [hd] at h
   simp only [Option.bind_some] at h ⊢
   rw [List.getD_eq_getElem?_getD] at h
   cases hsl:slots[d]? with
   | none=>rw [hsl] at h;cases h
   | some v =>
    rw [hsl] at h
    simp only [Option.getD_some] at h
    have hlt:d<a.tmps.size:=by rw [hs.size];exact (List.getElem?_eq_some_iff.1 hsl).1
    have hr:=hs.slot d v _ hsl (Array.getElem?_eq_getElem hlt)
    rw [Array.getElem?_eq_getElem hlt]
    generalize a.tmps[d]=u at hr
    cases v with
    | c x =>
     cases x with
     | bool b =>
      obtain ⟨b',os1,p1,b1,os2,q1,h1,h2,e⟩:=bind_some h
      cases e
      cases k2d h1
      cases A2 h2
      rw [RepA.bool_inv hr]
      simp only
      cases b <;> cases want <;> rfl
     | _=>cases h
    | tup us =>
     cases us with
     | nil =>
      cases A2 h
      obtain ⟨vs,rfl,hl,_⟩:=RepA.tup_inv hr
      rfl
     | cons _ _=>cases h
    | _=>cases h
theorem q3b (hs:Stable B0 Gd) {Γ:Ctx} (h:Good D B0 Gd Γ) {w':World} (hk:Kept (fun _=>False) Γ.w w'):Good D B0 Gd ⟨Γ.S,Γ.objs,w'⟩∧Tr D Γ ⟨Γ.S,Γ.objs,w'⟩:=by
 have hkm:Kept Γ.mine Γ.w w':=hk.mono fun _ h=>h.elim
 have hd:∀ v d,RepD Γ.w Γ.own v d→RepD w' (Ctx.mk Γ.S Γ.objs w').own v d:=fun v d hv=>hv.mono hkm.up fun _ _ h=>h
 have hheap:∀ b,b<Γ.w.heap.size→w'.heap[b]?=Γ.w.heap[b]?:=fun b hb=>hk.heap b hb (fun h=>h)
 have ht:Tr D Γ ⟨Γ.S,Γ.objs,w'⟩:=⟨hkm,rfl,fun _ h=>.inl h,fun _ cs h=>⟨cs,h,rfl⟩,
  fun v l len hv=>RepA.vec_same (Γ:=Γ) (Γ':=⟨Γ.S,Γ.objs,w'⟩) hd rfl rfl (fun b o h1 hv h2=>hheap b (z2z h b (.inr ⟨l,o,h1,hv,j3r h2⟩))) hv,
  fun v l i off hv=>RepA.vptr_same (Γ:=Γ) (Γ':=⟨Γ.S,Γ.objs,w'⟩) (fun a d _ h2 ⟨u,h3,h4⟩=>⟨u,hkm.up.cell h3 h2,hd u d h4⟩) hk.size (fun _ _ h=>h) rfl rfl hv⟩
 exact ⟨⟨fun l o hl=>(h.ob l o hl).same ht rfl rfl fun b hv hb=>hheap b (z2z h b (.inr ⟨l,o,hl,hv,hb⟩)),h.inj,h.own,ht.extOk h.ext,Nat.le_trans h.size hk.size,h.gd_kept hs hkm.up⟩,ht⟩
theorem k4p {Γ:Ctx} (h:Good D B0 Gd Γ) {objs:Objs} (hl:∀ l,lk objs l=lk Γ.objs l):Good D B0 Gd ⟨Γ.S,objs,Γ.w⟩∧Tr D Γ ⟨Γ.S,objs,Γ.w⟩:=by
 have hm:∀ b,(Ctx.mk Γ.S objs Γ.w).mine b→Γ.mine b:=fun b ⟨l,o,h1,h2,h3⟩=>⟨l,o,(hl l).symm.trans h1,h2,h3⟩
 have ho:∀ b,(Ctx.mk Γ.S objs Γ.w).own b→Γ.own b:=Ctx.own_of' rfl hm
 have hd:∀ v d,RepD Γ.w Γ.own v d→RepD Γ.w (Ctx.mk Γ.S objs Γ.w).own v d:=fun v d hv=>hv.same ho
 have ht:Tr D Γ ⟨Γ.S,objs,Γ.w⟩:=⟨Kept.refl _ _,rfl,fun b h=>.inl (hm b h),fun l cs h=>⟨cs,(hl l).trans h,rfl⟩,
  fun v l len hv=>RepA.vec_same (Γ:=Γ) (Γ':=⟨Γ.S,objs,Γ.w⟩) hd (hl l) rfl (fun _ _ _ _ _=>rfl) hv,
  fun v l i off hv=>RepA.vptr_same (Γ:=Γ) (Γ':=⟨Γ.S,objs,Γ.w⟩) (fun a d _ _ ⟨u,h3,h4⟩=>⟨u,h3,hd u d h4⟩) (Nat.le_refl _) (fun b _ hn hb=>hn (ho b hb)) (hl l) rfl hv⟩
 exact ⟨⟨fun l o h1=>(h.ob l o ((hl l).symm.trans h1)).same ht rfl rfl fun _ _ _=>rfl,fun l l' o o' b h1 h2=>h.inj l l' o o' b ((hl l).symm.trans h1) ((hl l').symm.trans h2),fun b hb=>h.own b (ho b hb),ht.extOk h.ext,h.size,h.gd⟩,ht⟩
theorem j7q {ρ:Operand→AV} {L:Nat→Option Ob} {fr:Nat} {op:Op} {os:List Orc} {r:Eff × List Orc × List Prop} (h:eff D ρ L fr op os=some r) (c:_):op≠.defer c:=by
 intro e;rw [e] at h;cases h
section
variable (hT:TabOk P D) (hs:Stable B0 Gd)
include hT hs
theorem q9t {Γ:Ctx} {a:Act} {ops:List Oper} {fr:Nat} {o:Oper} {st st':St} {g:Log} {os os':List Orc} {ps:List Prop} (hΓ:Γ.objs=st.objs) (hG:Good D B0 Gd Γ) (hS:Slots D Γ st.slots a)
    (hfr:P2 D o.op=true→fr<st.objs.length∧lk st.objs fr=none) (h:x2n D (sem P D B0 Gd) ops fr o st os=some ((st',g),os',ps)) (hp:All ps) {ro:Option Nat} {m:Nat} {K:Act→World→Prop} {Q:Exit→Act→World→Prop}
    (hK:∀ Γ' a',Γ'.objs=st'.objs→Good D B0 Gd Γ'→Slots D Γ' st'.slots a'→Tr D Γ Γ'→a'.defers=a.defers→K a' Γ'.w) :
    if Region.wanted o (yielded ops.toArray a.tmps) then o.wpIn (Fr ro) m P a Γ.w K Q else K (a.put o.dst undef) Γ.w:=by
 unfold x2n at h
 obtain ⟨wt,os1,p1,b1,os2,q1,h1,h2,e⟩:=bind_some h
 cases e
 have hp':=all_append hp
 rw [q2j hS h1 hp'.1]
 cases wt with
 | false =>
  cases A2 h2
  exact hK Γ _ hΓ hG (hS.put (.tup [] [] rfl fun i v a h=>by simp at h) _) (Tr.refl _) (z4q _ _ _)
 | true =>
  simp only [if_true] at h2 ⊢
  obtain ⟨e,os3,p3,b3,os4,q3,h3,h4,e4⟩:=bind_some h2
  cases e4
  have hp2:=all_append hp'.2
  rw [← hΓ] at h3 hfr
  have hnd:=j7q h3
  have hsim:=v0z hT hs hG (fun x=>hS.rho x) hfr h3 hp2.1
  cases e with
  | val v u r =>
   obtain ⟨_,os5,p5,b5,os6,q5,h5,h6,e6⟩:=bind_some h4
   cases e6
   cases A2 h6
   obtain ⟨vc,S',w',hrun,g1,g2,g3⟩:=hsim
   rw [hΓ] at g1 g2 g3
   have hk:=hK ⟨S',B6 st.objs u,w'⟩ (a.put o.dst vc) rfl g1 ((hS.tr g2).put g3 _) g2 (z4q _ _ _)
   refine ⟨fun _ _=>trivial,?_⟩
   rw [Oper.semAt_eq ro _ o hnd]
   rcases hrun with hrun | ⟨hrun,rfl⟩
   · rw [hrun];exact hk
   · rw [hrun];exact hk
  | call f args u r =>
   obtain ⟨_,os5,p5,b5,os6,q5,h5,h6,e6⟩:=bind_some h4
   cases e6
   cases hm:P2 D o.op with
   | false =>
    rw [hm] at h6
    simp only [Bool.false_eq_true,if_false] at h6
    obtain ⟨v,os7,p7,b7,os8,q7,h7,h8,e8⟩:=bind_some h6
    cases e8
    cases A2 h8
    have hfn:FnOk P D B0 Gd f args v:=by
     unfold askV at h7
     cases os5 with
     | nil=>cases h7
     | cons x os5 =>
      cases x with
      | v r' =>
       cases h7
       have:=(all_append hp2.2).2
       simpa [All,sem] using (all_append this).1
      | _=>cases h7
    obtain ⟨cargs,hrun,g1,g2,g3,hargs,g4⟩:=hsim
    rw [hΓ] at g1 g2 g4
    have hrun':=hrun hfn.enters
    refine ⟨fun _ _=>trivial,?_⟩
    rw [Oper.semAt_eq ro _ o hnd,hrun']
    refine ⟨fun h=>(by cases h),Fr.calls ?_⟩
    refine Calls.mono (hfn.calls Γ.w (Ctx.mk Γ.S (B6 st.objs u) Γ.w).own cargs g1.gd g1.size (fun b hb=>⟨g1.own b hb,z2z g1 b hb⟩) g3 fun i v' a' h1 h2=>?_) ?_
    · exact y0d (Γ:=⟨Γ.S,B6 st.objs u,Γ.w⟩) (Γ':=⟨⟨fun _=>none,fun _ _=>none,(Ctx.mk Γ.S (B6 st.objs u) Γ.w).own⟩,[],Γ.w⟩) rfl (fun b hb=>x1q.1 hb) (hargs i a' h2) (g4 i v' a' h1 h2)
    · rintro e w' ⟨vc,rfl,k1,k2,k3⟩
      obtain ⟨m1,m2⟩:=q3b hs g1 k2
      have m3:=g2.trans m2
      exact hK ⟨Γ.S,B6 st.objs u,w'⟩ (a.put o.dst vc) rfl m1 ((hS.tr m3).put (y0d (Γ:=⟨⟨fun _=>none,fun _ _=>none,(Ctx.mk Γ.S (B6 st.objs u) Γ.w).own⟩,[],w'⟩) (Γ':=⟨Γ.S,B6 st.objs u,w'⟩) rfl (fun b hb=>x1q.2 hb) hfn.data k3) _) m3 (z4q _ _ _)
   | true =>
    rw [hm] at h6 h5
    simp only [if_true] at h6
    obtain ⟨_,os9,p9,b9,os10,q9,h9,h10,e9⟩:=bind_some h6
    cases e9
    obtain ⟨k9,e9⟩:=D3 h9
    cases e9
    obtain ⟨x,os7,p7,b7,os8,q7,h7,h8,e8⟩:=bind_some h10
    cases e8
    obtain ⟨v,us⟩:=x
    cases A2 h8
    simp only [Bool.and_eq_true] at k9
    obtain ⟨cargs,hrun,g1,g2,g3,hargs,g4⟩:=hsim
    rw [hΓ] at g1 g2 g4
    obtain ⟨hfl,hfn0⟩:=hfr hm
    rw [hΓ] at hfl hfn0
    have hno:lk (B6 st.objs u) fr=none:=by
     rw [y2d (fun hx=>?_)]
     · exact hfn0
     · obtain ⟨p,hp1,hp2⟩:=List.mem_map.1 hx
       have:=List.all_eq_true.1 k9.2 p hp1
       simp [hp2] at this
    have hcase:(∃ ob,us=[(fr,ob)]∧RunOk P D B0 Gd f args (B6 st.objs u) v ((B6 st.objs u).set fr (some ob)))∨(us=[]∧FnOk P D B0 Gd f args v):=by
     unfold askN at h7
     cases os5 with
     | nil=>cases h7
     | cons x os5 =>
      cases x with
      | nw n t xs =>
       cases h7
       have h1:=(all_append (all_append (all_append hp2.2).2).2).1
       have h2:RunOk P D B0 Gd f args [] (.vec 0 n) [some (.vec t xs)]:=by simpa [All,sem] using h1
       exact .inl ⟨_,rfl,h2.newAt k9.1 rfl (by rw [y0q];exact hfl) hno⟩
      | nm n t xss =>
       cases h7
       have h1:=(all_append (all_append (all_append hp2.2).2).2).1
       have h2:RunOk P D B0 Gd f args [] (.vec 0 n) [some (.mat t xss [])]:=by simpa [All,sem] using h1
       exact .inl ⟨_,rfl,h2.newAt k9.1 rfl (by rw [y0q];exact hfl) hno⟩
      | nv w t xs =>
       simp only at h7
       cases hb:w.inB 1 with
       | false=>rw [hb] at h7;cases h7
       | true =>
        rw [hb] at h7;cases h7
        have h1:=(all_append (all_append (all_append hp2.2).2).2).1
        have h2:RunOk P D B0 Gd f args [] w [some (.vec t xs)]:=by simpa [All,sem] using h1
        exact .inl ⟨_,rfl,h2.newAtV k9.1 hb rfl (by rw [y0q];exact hfl) hno⟩
      | v r' =>
       cases h7
       have h1:=(all_append (all_append (all_append hp2.2).2).2).1
       exact .inr ⟨rfl,by simpa [All,sem] using h1⟩
      | _=>cases h7
    rcases hcase with ⟨ob,rfl,hfn⟩ | ⟨rfl,hfn⟩
    · have hrun':=hrun hfn.enters
      refine ⟨fun _ _=>trivial,?_⟩
      rw [Oper.semAt_eq ro _ o hnd,hrun']
      refine ⟨fun h=>(by cases h),Fr.calls ?_⟩
      refine Calls.mono (hfn.calls ⟨Γ.S,B6 st.objs u,Γ.w⟩ cargs rfl g1 g3 g4) ?_
      rintro e w' ⟨vc,Γ',rfl,k0,rfl,k1,k2,k3⟩
      have m3:=g2.trans k2
      have hsa:B6 st.objs (u++[(fr,ob)])=(B6 st.objs u).set fr (some ob):=z9z _ _ _
      exact hK Γ' (a.put o.dst vc) (by rw [hsa];exact k0) k1 ((hS.tr m3).put k3 _) m3 (z4q _ _ _)
    · have hrun':=hrun hfn.enters
      refine ⟨fun _ _=>trivial,?_⟩
      rw [Oper.semAt_eq ro _ o hnd,hrun']
      refine ⟨fun h=>(by cases h),Fr.calls ?_⟩
      refine Calls.mono (hfn.calls Γ.w (Ctx.mk Γ.S (B6 st.objs u) Γ.w).own cargs g1.gd g1.size (fun b hb=>⟨g1.own b hb,z2z g1 b hb⟩) g3 fun i v' a' h1 h2=>?_) ?_
      · exact y0d (Γ:=⟨Γ.S,B6 st.objs u,Γ.w⟩) (Γ':=⟨⟨fun _=>none,fun _ _=>none,(Ctx.mk Γ.S (B6 st.objs u) Γ.w).own⟩,[],Γ.w⟩) rfl (fun b hb=>x1q.1 hb) (hargs i a' h2) (g4 i v' a' h1 h2)
      · rintro e w' ⟨vc,rfl,k1,k2,k3⟩
        obtain ⟨m1,m2⟩:=q3b hs g1 k2
        have m3:=g2.trans m2
        exact hK ⟨Γ.S,B6 st.objs u,w'⟩ (a.put o.dst vc) (by simp) m1 ((hS.tr m3).put (y0d (Γ:=⟨⟨fun _=>none,fun _ _=>none,(Ctx.mk Γ.S (B6 st.objs u) Γ.w).own⟩,[],w'⟩) (Γ':=⟨Γ.S,B6 st.objs u,w'⟩) rfl (fun b hb=>x1q.2 hb) hfn.data k3) _) m3 (z4q _ _ _)
  | tcall f args =>
   obtain ⟨cargs,hrun,g3,g4⟩:=hsim
   rcases k2q h4 with ⟨l,rv,ob,ob',os',rfl,hl,ha,hr1,ho,ho',e⟩ | ⟨h4,_⟩
   · cases e
     have hfn0:RunOk P D B0 Gd f (args.map AV.to0) [some ob] rv [some ob']:=by
      simpa [All,sem] using hp2.2
     have hfn:=hfn0.only ha ho ho' hr1 hl
     have hrun':=hrun hfn.enters
     refine ⟨fun _ _=>trivial,?_⟩
     rw [Oper.semAt_eq ro _ o hnd,hrun']
     refine ⟨fun h=>(by cases h),Fr.calls ?_⟩
     refine Calls.mono (hfn.calls Γ cargs hΓ hG g3 g4) ?_
     rintro e w' ⟨vc,Γ',rfl,k0,rfl,k1,k2,k3⟩
     exact hK Γ' (a.put o.dst vc) k0 k1 ((hS.tr k2).put k3 _) k2 (z4q _ _ _)
   obtain ⟨x,os7,p7,b7,os8,q7,h7,h8,e8⟩:=bind_some h4
   cases e8
   obtain ⟨v,objs',still⟩:=x
   obtain ⟨_,os5,p5,b5,os6,q5,h5,h6,e6⟩:=bind_some h8
   cases e6
   cases A2 h6
   have hfn:RunOk P D B0 Gd f args st.objs v objs':=by
    unfold askT at h7
    cases os3 with
    | nil=>cases h7
    | cons x os5 =>
     cases x with
     | vt r' objs'' =>
      cases h7
      simpa [All,sem] using (all_append hp2.2).1
     | vr r' =>
      cases h7
      simpa [All,sem] using (all_append hp2.2).1
     | _=>cases h7
   have hrun':=hrun hfn.enters
   refine ⟨fun _ _=>trivial,?_⟩
   rw [Oper.semAt_eq ro _ o hnd,hrun']
   refine ⟨fun h=>(by cases h),Fr.calls ?_⟩
   refine Calls.mono (hfn.calls Γ cargs hΓ hG g3 g4) ?_
   rintro e w' ⟨vc,Γ',rfl,k0,rfl,k1,k2,k3⟩
   exact hK Γ' (a.put o.dst vc) k0 k1 ((hS.tr k2).put k3 _) k2 (z4q _ _ _)
end
end Gev
namespace Gev
open Go
variable {P:Program} {D:Tab} {B0:Nat} {Gd:World→Prop}
theorem y5n:∀ {objs objs':Objs},z3i objs objs'=true→∀ k,k<objs.length→lk objs k=none→k<objs'.length∧lk objs' k=none
 | [],_,_,k,hk,_=>by simp at hk
 | none::os,[],h,k,hk,hn=>by simp [z3i] at h
 | none::os,none::os',h,k,hk,hn=>by
  cases k with
  | zero=>exact ⟨by simp,rfl⟩
  | succ k =>
   obtain ⟨h1,h2⟩:=y5n (objs:=os) (objs':=os') h k (by simpa using hk) (by simpa [lk] using hn)
   exact ⟨by simpa using h1,by simpa [lk] using h2⟩
 | none::os,some _::os',h,k,hk,hn=>by simp [z3i] at h
 | some _::os,[],h,k,hk,hn=>by simp [z3i] at h
 | some _::os,x::os',h,k,hk,hn=>by
  cases k with
  | zero=>simp [lk] at hn
  | succ k =>
   obtain ⟨h1,h2⟩:=y5n (objs:=os) (objs':=os') (by cases x <;> exact h) k (by simpa using hk) (by simpa [lk] using hn)
   exact ⟨by simpa using h1,by simpa [lk] using h2⟩
theorem q2c {C:Sem3} {ops:List Oper} {fr:Nat} {o:Oper} {st st':St} {g:Log} {os os':List Orc} {ps:List Prop} (h:x2n D C ops fr o st os=some ((st',g),os',ps)) {k:Nat} (hk:P2 D o.op=true→k≠fr) (hl:k<st.objs.length) (hn:lk st.objs k=none) :
    k<st'.objs.length∧lk st'.objs k=none:=by
 obtain ⟨v,⟨r,u,_,h1,rfl,_⟩ | ⟨objs',_,h1,rfl,_⟩⟩:=y7f h
 · simp only
   rw [y0q]
   refine ⟨hl,?_⟩
   rw [y2d]
   · exact hn
   · intro hm
     obtain ⟨p,hp,e⟩:=List.mem_map.1 hm
     have:=List.all_eq_true.1 h1 p hp
     simp only [Bool.or_eq_true,Bool.and_eq_true,beq_iff_eq] at this
     rcases this with ⟨h2,h3⟩ | h2
     · exact hk h2 (e ▸ h3)
     · rw [e,hn] at h2;cases h2
 · exact y5n h1 k hl hn
def j1l (D:Tab) (ops:List Oper) (base:Nat) (un:Nat→Prop) (st:St):Prop:=∀ i o,ops[i]?=some o→P2 D o.op=true→un i→base+((ops.take i).filter (P2 D ·.op)).length<st.objs.length∧lk st.objs (base+((ops.take i).filter (P2 D ·.op)).length)=none
theorem k5g {ops:List Oper} {i j:Nat} {o:Oper} (hi:ops[i]?=some o) (hm:P2 D o.op=true) (hij:i<j):((ops.take i).filter (P2 D ·.op)).length<((ops.take j).filter (P2 D ·.op)).length:=by
 have h1:((ops.take (i+1)).filter (P2 D ·.op)).length=((ops.take i).filter (P2 D ·.op)).length+1:=by
  rw [List.take_add_one,hi]
  simp [hm]
 have h2:((ops.take (i+1)).filter (P2 D ·.op)).length≤((ops.take j).filter (P2 D ·.op)).length:=by
  have:ops.take j=ops.take (i+1)++(ops.drop (i+1)).take (j-(i+1)):=by
   conv=>lhs;rw [show j=(i+1)+(j-(i+1)) by omega,List.take_add]
  rw [this,List.filter_append,List.length_append]
  omega
 omega
theorem q6i {ops:List Oper} {i j:Nat} {oi oj:Oper} (hi:ops[i]?=some oi) (hj:ops[j]?=some oj) (hmi:P2 D oi.op=true) (hmj:P2 D oj.op=true) (hne:i≠j) (base:Nat) :
    base+((ops.take i).filter (P2 D ·.op)).length≠base+((ops.take j).filter (P2 D ·.op)).length:=by
 rcases Nat.lt_or_ge i j with h | h
 · have:=k5g hi hmi h;omega
 · have:=k5g hj hmj (show j<i by omega);omega
theorem k5v {C:Sem3} {ops:List Oper} {base j:Nat} {st st':St} {g:Log} {un un':Nat→Prop} (h:x7k D C ops base j st st' g) (hu:∀ i,un' i→un i∧i≠j) (hf:j1l D ops base un st):j1l D ops base un' st':=by
 obtain ⟨oj,os,os',ps,hj,h1,_⟩:=h
 intro i oi hi hm hui
 obtain ⟨h2,h3⟩:=hu i hui
 obtain ⟨h4,h5⟩:=hf i oi hi hm h2
 exact q2c h1 (fun hmj=>q6i hi hj hm hmj h3 base) h4 h5
section
variable (hT:TabOk P D) (hs:Stable B0 Gd)
include hT hs
theorem j1o {Γ:Ctx} {a:Act} {ops:List Oper} {base i:Nat} {st st':St} {g:Log} (hΓ:Γ.objs=st.objs) (hG:Good D B0 Gd Γ) (hS:Slots D Γ st.slots a) {un:Nat→Prop} (hf:j1l D ops base un st) (hui:un i)
    (h:x7k D (sem P D B0 Gd) ops base i st st' g) {ro:Option Nat} {m:Nat} {K:Act→World→Prop} {Q:Exit→Act→World→Prop} (hK:∀ Γ' a',Γ'.objs=st'.objs→Good D B0 Gd Γ'→Slots D Γ' st'.slots a'→Tr D Γ Γ'→a'.defers=a.defers→K a' Γ'.w) :
    wpOpIn (Fr ro) m P ops.toArray Q i K a Γ.w:=by
 obtain ⟨o,os,os',ps,ho,h1,hp⟩:=h
 have:=q9t hT hs hΓ hG hS (fun hm=>hf i o ho hm hui) h1 hp (ro:=ro) (m:=m) (Q:=Q) hK
 unfold wpOpIn
 rw [List.getElem?_toArray,ho]
 simp only
 split at this
 · rename_i c;rw [if_pos c];exact this
 · rename_i c;rw [if_neg c];exact ⟨fun _ _=>trivial,this⟩
theorem q2o {ops:List Oper} {base:Nat} {G:Nat→Log} {fin:St} {Γ0:Ctx} {a0:Act} {ro:Option Nat} {m:Nat} {Q:Exit→Act→World→Prop}
    (hQ:∀ Γ' a',Γ'.objs=fin.objs→Good D B0 Gd Γ'→Slots D Γ' fin.slots a'→Tr D Γ0 Γ'→a'.defers=a0.defers→Q .normal a' Γ'.w) :
    ∀ (fuel:Nat) (listed:Array Bool) (st:St) (Γ:Ctx) (a:Act),Any D (sem P D B0 Gd) ops base G (·=fin) fuel listed st→Γ.objs=st.objs→Good D B0 Gd Γ→Slots D Γ st.slots a→j1l D ops base (fun i=>listed.getD i true=false) st→Tr D Γ0 Γ→a.defers=a0.defers →
     wpAnyIn (Fr ro) m P .any ops.toArray Q fuel listed a Γ.w
 | 0,listed,st,Γ,a,h,hΓ,hG,hS,hf,ht,hd=>by
  obtain ⟨h1,rfl⟩:=h
  exact ⟨h1,hQ Γ a hΓ hG hS ht hd⟩
 | fuel+1,listed,st,Γ,a,h,hΓ,hG,hS,hf,ht,hd=>by
  refine ⟨fun h0=>?_,fun i hi=>?_⟩
  · have:=h.1 h0
    subst this
    exact hQ Γ a hΓ hG hS ht hd
  · obtain ⟨st',h1,h2⟩:=h.2 i hi
    refine j1o hT hs hΓ hG hS hf (mem_ready.1 hi).1 h1 fun Γ' a' k1 k2 k3 k4 k5=>?_
    refine q2o hQ fuel _ st' Γ' a' h2 k1 k2 k3 (k5v h1 (fun k hk=>?_) hf) (ht.trans k4) (k5.trans hd)
    by_cases e:i=k
    · subst e
      exfalso
      rcases Nat.lt_or_ge i listed.size with h' | h'
      · simp [h'] at hk
      · have:=(mem_ready.1 hi).1
        simp [Array.getElem?_eq_none h'] at this
    · rw [getD_set_ne true e] at hk
      exact ⟨hk,Ne.symm e⟩
theorem j8a {ops:List Oper} {base:Nat} {G:Nat→Log} {fin:St} {Γ0:Ctx} {a0:Act} {ro:Option Nat} {m:Nat} {Q:Exit→Act→World→Prop}
    (hQ:∀ Γ' a',Γ'.objs=fin.objs→Good D B0 Gd Γ'→Slots D Γ' fin.slots a'→Tr D Γ0 Γ'→a'.defers=a0.defers→Q .normal a' Γ'.w) :
    ∀ (n k:Nat) (st:St) (Γ:Ctx) (a:Act),q2l D (sem P D B0 Gd) ops base G fin n k st→Γ.objs=st.objs→Good D B0 Gd Γ→Slots D Γ st.slots a→j1l D ops base (fun i=>k≤i) st→Tr D Γ0 Γ→a.defers=a0.defers →
     wpOpsIn (Fr ro) m P ops.toArray Q (List.range' k n) a Γ.w
 | 0,k,st,Γ,a,h,hΓ,hG,hS,hf,ht,hd=>by
  have:st=fin:=h
  subst this
  exact hQ Γ a hΓ hG hS ht hd
 | n+1,k,st,Γ,a,h,hΓ,hG,hS,hf,ht,hd=>by
  obtain ⟨st',h1,h2⟩:=h
  rw [List.range'_succ,wpOpsIn_cons]
  refine j1o hT hs hΓ hG hS hf (Nat.le_refl k) h1 fun Γ' a' k1 k2 k3 k4 k5=>?_
  exact j8a hQ n (k+1) st' Γ' a' h2 k1 k2 k3 (k5v h1 (fun i hi=>⟨by omega,by omega⟩) hf) (ht.trans k4) (k5.trans hd)
theorem j4i (objs:Objs) (n l:Nat):lk (objs++List.replicate n none) l=lk objs l:=by
 unfold lk
 rw [List.getD_eq_getElem?_getD,List.getD_eq_getElem?_getD,List.getElem?_append]
 split
 · rfl
 · rename_i h
   rw [List.getElem?_eq_none (by omega:objs.length≤l),List.getElem?_replicate]
   split <;> rfl
theorem k7q:∀ (ops:List Oper),rank D ops=(ops.filter (P2 D ·.op)).length
 | []=>rfl
 | o::ops=>by
  simp only [rank,List.filter_cons]
  rw [k7q ops]
  split <;> simp
theorem q1w {id:Nat} {ops:Array Oper} {draw:Bool} {st st':St} {os os':List Orc} {ps:List Prop} {Γ:Ctx} {a:Act} {ro:Option Nat} {m:Nat} {Q:Exit→Act→World→Prop} (hm:P.follows .mixedOrders=true) (h:y7c D (sem P D B0 Gd) ops draw st os=some (st',os',ps)) (hp:All ps)
    (hΓ:Γ.objs=st.objs) (hG:Good D B0 Gd Γ) (hS:Slots D Γ st.slots a)
    (hQ:∀ Γ' a',Γ'.objs=st'.objs→Good D B0 Gd Γ'→Slots D Γ' st'.slots a'→Tr D Γ Γ'→a'.defers=a.defers→Q .normal a' Γ'.w):(Code.region id ops draw).wpIn (Fr ro) m P Q a Γ.w:=by
 unfold y7c at h
 obtain ⟨x,os1,p1,b1,os2,q1,h1,h2,e⟩:=bind_some h
 cases e
 obtain ⟨fin,gs⟩:=x
 obtain ⟨_,os3,p3,b3,os4,q3,h3,h4,e⟩:=bind_some h2
 cases e
 obtain ⟨k3,e3⟩:=D3 h3
 cases e3
 cases A2 h4
 have hp1:=(all_append hp).1
 have hfresh:∀ un,j1l D ops.toList st.objs.length un ⟨st.slots,st.objs++List.replicate (rank D ops.toList) none⟩:=by
  intro un i o ho hmk _
  have hlt:((ops.toList.take i).filter (P2 D ·.op)).length<rank D ops.toList:=by
   rw [k7q hT hs]
   have:=k5g (j:=ops.toList.length) ho hmk (List.getElem?_eq_some_iff.1 ho).1
   rwa [List.take_length] at this
  simp only [List.length_append,List.length_replicate]
  refine ⟨by omega,?_⟩
  rw [j4i hT hs]
  unfold lk
  rw [List.getD_eq_getElem?_getD,List.getElem?_eq_none (by omega)]
  rfl
 cases draw with
 | false =>
  obtain ⟨g1,g2⟩:=k4p hG (objs:=st.objs++List.replicate (rank D ops.toList) none) (fun l=>by rw [j4i hT hs,hΓ])
  obtain ⟨c1,_⟩:=y7o (ops:=ops.toList) (base:=st.objs.length) (G:=fun i=>gs.getD i default) ops.toList 0 _ _ gs _ _ _ (by simp) (by simp) (by simp) (by simpa using h1) hp1
  refine wpIn_region ?_
  have:=j8a hT hs (ops:=ops.toList) (Γ0:=Γ) (a0:=a) (ro:=ro) (m:=m) (Q:=Q)  hQ ops.toList.length 0 _ ⟨Γ.S,st.objs++List.replicate (rank D ops.toList) none,Γ.w⟩ a c1 rfl g1 (hS.tr g2) (hfresh _) g2 rfl
  rw [← List.range_eq_range'] at this
  simpa using this
 | true =>
  have hd:j3w ops.toList gs=true:=by simpa using k3
  obtain ⟨d1,d2⟩:=q2x hs hG
  obtain ⟨g1,g2⟩:=k4p d1 (objs:=st.objs++List.replicate (rank D ops.toList) none) (fun l=>by rw [j4i hT hs,hΓ])
  obtain ⟨G,hany⟩:=q0p h1 hp1 hd
  refine wpIn_region_any hm ?_
  have:=q2o hT hs (ops:=ops.toList) (Γ0:=Γ) (a0:=a) (ro:=ro) (m:=m) (Q:=Q)  hQ ops.toList.length _ _ ⟨Γ.S,st.objs++List.replicate (rank D ops.toList) none,Γ.w.drew⟩ a hany rfl g1 (hS.tr (d2.trans g2)) (hfresh _) (d2.trans g2) rfl
  simpa using this
end
end Gev
namespace Gev
open Go
variable {P:Program} {D:Tab} {B0:Nat} {Gd:World→Prop}
theorem z5h {objs:Objs} {o:Option Ob} {k:Nat}:lk (objs++[o]) k=if k=objs.length then o else lk objs k:=by
 unfold lk
 rw [List.getD_eq_getElem?_getD,List.getD_eq_getElem?_getD,List.getElem?_append]
 by_cases h:k<objs.length
 · rw [if_pos h,if_neg (by omega)]
 · rw [if_neg h]
   by_cases e:k=objs.length
   · subst e;simp
   · rw [if_neg e,List.getElem?_eq_none (by simp;omega),List.getElem?_eq_none (by omega)]
theorem k6n {objs:Objs} {k:Nat} (h:objs.length≤k):lk objs k=none:=by
 unfold lk
 rw [List.getD_eq_getElem?_getD,List.getElem?_eq_none h]
 rfl
theorem j3d {Γ:Ctx} {slots:List AV} {a:Act} (h:Slots D Γ slots a) {i:Nat} {v:AV} (hv:∀ u,a.tmps[i]?=some u→RepA D Γ u v):Slots D Γ (slots.set i v) a:=by
 refine ⟨by simp [h.size],fun j x u hx hu=>?_⟩
 rw [List.getElem?_set] at hx
 split at hx
 · rename_i e
   subst e
   split at hx
   · cases hx;exact hv u hu
   · cases hx
 · exact h.slot j x u hx hu
theorem q9h (hs:Stable B0 Gd) {Γ Γb:Ctx} (hG:Good D B0 Gd Γ) (hGb:Good D B0 Gd Γb) (ht:Tr D Γ Γb) (hw:Γb.w=Γ.w) {k off:Nat} {cs:List AV} (hk:lk Γ.objs k=some (.cells cs)) (hkb:lk Γb.objs k=some (.cells cs)) (hS:Γb.S k=Γ.S k) {v0 v:AV} (h0:cs[off]?=some v0)
    (hv:∀ u,RepA D Γ u v0→RepA D Γb u v):Good D B0 Gd (Γb.put k (.cells (cs.set off v)) Γb.w)∧Tr D Γb (Γb.put k (.cells (cs.set off v)) Γb.w):=by
 obtain ⟨b,arr,ty,h1,h2,h3,h4⟩:=hG.ob k _ hk
 have h2b:Γb.w.heap[b]?=some (.cells arr ty (0,0)):=by rw [hw];exact h2
 have h:=x7q hs hGb hkb (hS.trans h1) h2b (cs':=cs.set off v) (arr':=arr) (by rw [List.length_set];exact h3) (fun j a u ha hu=>by
  by_cases e:off=j
  · subst e
    rw [List.getElem?_set_self (List.getElem?_eq_some_iff.1 h0).1] at ha
    cases ha
    exact hv u (h4 off v0 u h0 hu)
  · rw [List.getElem?_set_ne e] at ha
    exact ht.rep (h4 j a u ha hu))
 rw [j9u h2b] at h
 exact h
theorem y2g (hs:Stable B0 Gd) {a:Act}:∀ (rows:List (Nat × Nat)) (st st1:St) (Γ:Ctx),y5r D rows st=some st1→Γ.objs=st.objs→Good D B0 Gd Γ→Slots D Γ st.slots a →
    ∃ Γ1,Γ1.objs=st1.objs∧Γ1.w=Γ.w∧Good D B0 Gd Γ1∧Slots D Γ1 st1.slots a∧Tr D Γ Γ1∧st.objs.length≤st1.objs.length
 | [],st,st1,Γ,h,hΓ,hG,hS=>by cases h;exact ⟨Γ,hΓ,rfl,hG,hS,Tr.refl _,Nat.le_refl _⟩
 | (i,t)::rows,st,st1,Γ,h,hΓ,hG,hS=>by
  simp only [y5r] at h
  cases hfz:Nat.beq t 999999999 with
  | true =>
   rw [hfz] at h
   simp only [cond_true] at h
   cases hk:lk st.objs i with
   | none=>rw [hk] at h;cases h
   | some ob =>
    rw [hk] at h
    cases ob with
    | vec t' xs =>
     simp only at h
     obtain ⟨k1,k2⟩:=q0y hG (show lk Γ.objs i=some (.vec t' xs) by rw [hΓ];exact hk)
     obtain ⟨Γ1,m1,m2,m3,m4,m5,m6⟩:=y2g hs rows _ st1 _ h (show (Γ.put i (.fro xs) Γ.w).objs=_ by simp only [Ctx.put,hΓ]) k1 (hS.tr k2)
     exact ⟨Γ1,m1,m2,m3,m4,k2.trans m5,by simp at m6;omega⟩
    | _=>cases h
  | false =>
  rw [hfz] at h
  simp only [cond_false] at h
  cases hblt:Nat.blt i st.slots.length with
  | false =>
   rw [hblt] at h
   simp only [cond_false] at h
   generalize (i-st.slots.length) / 64=k at h
   generalize (i-st.slots.length) % 64=off at h
   have hn:lk Γ.objs st.objs.length=none:=by rw [hΓ];exact k6n (Nat.le_refl _)
   cases hk:lk st.objs k with
   | none=>rw [hk] at h;cases h
   | some ob =>
    rw [hk] at h
    cases ob with
    | cells cs =>
     simp only at h
     have hkl:=O2 hk
     have hkΓ:lk Γ.objs k=some (.cells cs):=by rw [hΓ];exact hk
     rw [List.getD_eq_getElem?_getD] at h
     cases hcs:cs[off]? with
     | none=>rw [hcs] at h;cases h
     | some v =>
      rw [hcs] at h
      simp only [Option.getD_some] at h
      cases v with
      | nils =>
       simp only at h
       cases ht:k7l D t with
       | none=>rw [ht] at h;cases h
       | some ob =>
        rw [ht] at h
        simp only at h
        obtain ⟨k1,k2,k3⟩:=q8a hs hG (fr:=st.objs.length) hn ht (objs:=st.objs++[some ob]) (fun k=>by rw [z5h,hΓ])
        obtain ⟨r1,r2⟩:=q9h (v:=.vec st.objs.length 0) hs hG k1 k2 rfl hkΓ (by show lk (st.objs++[some ob]) k=_;rw [z5h,if_neg (by omega)];exact hk) (by show (if k=st.objs.length then none else Γ.S k)=_;rw [if_neg (by omega)]) hcs (fun u hu=>by
         rw [RepA.nils_inv hu]
         exact k3)
        obtain ⟨Γ1,m1,m2,m3,m4,m5,m6⟩:=y2g hs rows _ st1 _ h rfl r1 (hS.tr (k2.trans r2))
        exact ⟨Γ1,m1,m2,m3,m4,(k2.trans r2).trans m5,by simp at m6;omega⟩
      | vec l len =>
       simp only at h
       cases hl:lk st.objs l with
       | none=>rw [hl] at h;cases h
       | some ob =>
        rw [hl] at h
        cases ob with
        | vec t' xs =>
         simp only at h
         obtain ⟨g1,g2⟩:=k4p hG (objs:=st.objs++[none]) (fun k=>by
          rw [z5h,hΓ]
          split
          · rename_i e;rw [e,k6n (Nat.le_refl _)]
          · rfl)
         have hl1:lk (st.objs++[none]) l=some (.vec t' xs):=by rw [z5h,if_neg (by have:=O2 hl;omega)];exact hl
         have hn1:lk (st.objs++[none]) st.objs.length=none:=by rw [z5h,if_pos rfl]
         have hobjs:((st.objs++[none]).set l (some .dead)).set st.objs.length (some (.vec t' xs))=st.objs.set l (some .dead)++[some (.vec t' xs)]:=by
          have:=O2 hl
          rw [List.set_append_left _ _ this]
          rw [List.set_append_right _ _ (by simp)]
          simp
         obtain ⟨ti,q0,q1,hob⟩:=g1.ob l _ hl1
         obtain ⟨k1,k2⟩:=y4k (Γ:=⟨Γ.S,st.objs++[none],Γ.w⟩) (zs:=xs) (sb:=Γ.S l) (w':=Γ.w) hs g1 (fr:=st.objs.length) (by simp) hn1 hl1 (Kept.refl _ _) (fun _ _ _=>rfl) (fun b hb=>.inr hb)
          (Γ':=⟨⟨fun k=>if k=st.objs.length then Γ.S l else Γ.S k,Γ.S.g,Γ.S.ext⟩,st.objs.set l (some .dead)++[some (.vec t' xs)],Γ.w⟩) (by rw [hobjs]) fun hd=>by
           refine ⟨ti,q0,q1,?_⟩
           rcases hob with ⟨h2,h3⟩ | ⟨b,arr,cap,h2,h3,h4,h5,h6⟩
           · exact .inl ⟨by simpa using h2,h3⟩
           · exact .inr ⟨b,arr,cap,by simpa using h2,h3,h4,h5,fun i x j d u a1 a2 a3=>hd _ _ (h6 i x j d u a1 a2 a3)⟩
         have hlk':lk (st.objs.set l (some .dead)++[some (.vec t' xs)]) st.objs.length=some (.vec t' xs):=by rw [z5h,if_pos (by simp)]
         have hkl':k≠l:=fun e=>by rw [e,hl] at hk;cases hk
         obtain ⟨r1,r2⟩:=q9h (v:=.vec st.objs.length len) hs hG k1 (g2.trans k2) rfl hkΓ (by
             show lk (st.objs.set l (some .dead)++[some (.vec t' xs)]) k=_
             rw [z5h,if_neg (by simp;omega),I7 (O2 hl),if_neg hkl'];exact hk) (by show (if k=st.objs.length then Γ.S l else Γ.S k)=_;rw [if_neg (by omega)]) hcs (fun u hu'=>by
          rw [← hΓ] at hl
          cases hu' with
          | vnil _ t'' a1 a2=>rw [hl] at a1;cases a1;exact .vnil _ t' hlk' (by simpa using a2)
          | vec _ _ cap b t'' ti' ys arr a1 a2 a3 a4 a5 a6 a7 =>
           rw [hl] at a1;cases a1
           exact .vec _ len cap b t' ti' xs arr hlk' a2 (by simpa using a3) a4 a5 a6 a7
          | fvec _ _ _ a1=>rw [hl] at a1;cases a1
          | mvec _ _ _ _ _ _ _ _ a1=>rw [hl] at a1;cases a1
          | mnil _ _ a1=>rw [hl] at a1;cases a1
          | gone _ _ a1=>rw [hl] at a1;cases a1)
         obtain ⟨Γ1,m1,m2,m3,m4,m5,m6⟩:=y2g hs rows _ st1 _ h rfl r1 (hS.tr ((g2.trans k2).trans r2))
         exact ⟨Γ1,m1,m2,m3,m4,((g2.trans k2).trans r2).trans m5,by simp at m6;omega⟩
        | _=>cases h
      | _=>cases h
    | _=>cases h
  | true =>
  rw [hblt] at h
  simp only [cond_true] at h
  rw [List.getD_eq_getElem?_getD] at h
  cases hsl:st.slots[i]? with
  | none=>rw [hsl] at h;cases h
  | some v =>
   rw [hsl] at h
   simp only [Option.getD_some] at h
   have hn:lk Γ.objs st.objs.length=none:=by rw [hΓ];exact k6n (Nat.le_refl _)
   cases v with
   | nils =>
    simp only at h
    cases ht:k7l D t with
    | none=>rw [ht] at h;cases h
    | some ob =>
     rw [ht] at h
     simp only at h
     obtain ⟨k1,k2,k3⟩:=q8a hs hG (fr:=st.objs.length) hn ht (objs:=st.objs++[some ob]) (fun k=>by rw [z5h,hΓ])
     obtain ⟨Γ1,m1,m2,m3,m4,m5,m6⟩:=y2g hs rows _ st1 ⟨⟨fun k=>if k=st.objs.length then none else Γ.S k,Γ.S.g,Γ.S.ext⟩,st.objs++[some ob],Γ.w⟩ h rfl k1
      (j3d (hS.tr k2) fun u hu=>by
       have:=hS.slot i _ u hsl hu
       rw [RepA.nils_inv this]
       exact k3)
     exact ⟨Γ1,m1,m2,m3,m4,k2.trans m5,by simp at m6;omega⟩
   | vec l len =>
    simp only at h
    cases hl:lk st.objs l with
    | none=>rw [hl] at h;cases h
    | some ob =>
     rw [hl] at h
     cases ob with
     | vec t' xs =>
      simp only at h
      obtain ⟨g1,g2⟩:=k4p hG (objs:=st.objs++[none]) (fun k=>by
       rw [z5h,hΓ]
       split
       · rename_i e;rw [e,k6n (Nat.le_refl _)]
       · rfl)
      have hl1:lk (st.objs++[none]) l=some (.vec t' xs):=by rw [z5h,if_neg (by have:=O2 hl;omega)];exact hl
      have hn1:lk (st.objs++[none]) st.objs.length=none:=by rw [z5h,if_pos rfl]
      have hobjs:((st.objs++[none]).set l (some .dead)).set st.objs.length (some (.vec t' xs))=st.objs.set l (some .dead)++[some (.vec t' xs)]:=by
       have:=O2 hl
       rw [List.set_append_left _ _ this]
       rw [List.set_append_right _ _ (by simp)]
       simp
      obtain ⟨ti,q0,q1,hob⟩:=g1.ob l _ hl1
      obtain ⟨k1,k2⟩:=y4k (Γ:=⟨Γ.S,st.objs++[none],Γ.w⟩) (zs:=xs) (sb:=Γ.S l) (w':=Γ.w) hs g1 (fr:=st.objs.length) (by simp) hn1 hl1 (Kept.refl _ _) (fun _ _ _=>rfl) (fun b hb=>.inr hb)
       (Γ':=⟨⟨fun k=>if k=st.objs.length then Γ.S l else Γ.S k,Γ.S.g,Γ.S.ext⟩,st.objs.set l (some .dead)++[some (.vec t' xs)],Γ.w⟩) (by rw [hobjs]) fun hd=>by
        refine ⟨ti,q0,q1,?_⟩
        rcases hob with ⟨h2,h3⟩ | ⟨b,arr,cap,h2,h3,h4,h5,h6⟩
        · exact .inl ⟨by simpa using h2,h3⟩
        · exact .inr ⟨b,arr,cap,by simpa using h2,h3,h4,h5,fun i x j d u a1 a2 a3=>hd _ _ (h6 i x j d u a1 a2 a3)⟩
      have hlk':lk (st.objs.set l (some .dead)++[some (.vec t' xs)]) st.objs.length=some (.vec t' xs):=by rw [z5h,if_pos (by simp)]
      obtain ⟨Γ1,m1,m2,m3,m4,m5,m6⟩:=y2g hs rows _ st1 ⟨⟨fun k=>if k=st.objs.length then Γ.S l else Γ.S k,Γ.S.g,Γ.S.ext⟩,st.objs.set l (some .dead)++[some (.vec t' xs)],Γ.w⟩ h rfl k1
       (j3d (hS.tr (g2.trans k2)) fun u hu=>by
        have hu':=hS.slot i _ u hsl hu
        rw [← hΓ] at hl
        cases hu' with
        | vnil _ t'' a1 a2=>rw [hl] at a1;cases a1;exact .vnil _ t' hlk' (by simpa using a2)
        | vec _ _ cap b t'' ti' ys arr a1 a2 a3 a4 a5 a6 a7 =>
         rw [hl] at a1;cases a1
         exact .vec _ len cap b t' ti' xs arr hlk' a2 (by simpa using a3) a4 a5 a6 a7
        | fvec _ _ _ a1=>rw [hl] at a1;cases a1
        | mvec _ _ _ _ _ _ _ _ a1=>rw [hl] at a1;cases a1
        | mnil _ _ a1=>rw [hl] at a1;cases a1
        | gone _ _ a1=>rw [hl] at a1;cases a1)
      exact ⟨Γ1,m1,m2,m3,m4,(g2.trans k2).trans m5,by simp at m6;omega⟩
     | _=>cases h
   | _=>cases h
theorem q1x {objs:Objs} {l:Nat} {o:Ob} (h:X2 objs l=some o):lk objs l=some o∧∀ cs,o≠.cells cs:=by
 unfold X2 at h
 cases hl:lk objs l with
 | none=>rw [hl] at h;cases h
 | some q=>rw [hl] at h;cases q <;> cases h <;> exact ⟨rfl,fun cs=>by simp⟩
theorem q9k {objs:Objs} {l:Nat} {o:Ob} (h:lk objs l=some o) (hno:∀ cs,o≠.cells cs):X2 objs l=some o:=by
 unfold X2
 rw [h]
 cases o with
 | cells cs=>exact absurd rfl (hno cs)
 | _=>rfl
theorem x8g (n0:Nat):∀ (vs:List AV) (acc:List Nat),acc.Nodup→(∀ l∈acc,n0≤l)→(z2a n0 acc vs).Nodup∧∀ l∈z2a n0 acc vs,n0≤l
 | [],acc,h1,h2=>⟨h1,h2⟩
 | v::vs,acc,h1,h2=>by
  have key:∀ acc':List Nat,acc'.Nodup→(∀ l∈acc',n0≤l)→(z2a n0 acc' vs).Nodup∧∀ l∈z2a n0 acc' vs,n0≤l:=x8g n0 vs
  cases v with
  | vec l len =>
   simp only [z2a]
   split
   · rename_i hc
     simp only [Bool.and_eq_true,decide_eq_true_eq,Bool.not_eq_true',List.contains_eq_mem,decide_eq_false_iff_not] at hc
     refine key _ ?_ ?_
     · rw [List.nodup_append]
       exact ⟨h1,by simp,fun a ha b hb=>by simp at hb;subst hb;intro e;subst e;exact hc.2 ha⟩
     · intro k hk
       rcases List.mem_append.1 hk with hk | hk
       · exact h2 k hk
       · simp at hk;omega
   · exact key acc h1 h2
  | _=>exact key acc h1 h2
theorem y0i {n0:Nat} {live:List Nat}:∀ {vs vs':List AV},z1q n0 live vs=some vs'→vs'.length=vs.length∧∀ (i:Nat) v',vs'[i]?=some v'→∃ v,vs[i]?=some v∧y2v n0 live v=some v'
 | [],vs',h=>by cases h;exact ⟨rfl,fun i v' h=>by simp at h⟩
 | v::vs,vs',h=>by
  simp only [z1q] at h
  cases h1:y2v n0 live v with
  | none=>rw [h1] at h;cases h
  | some x =>
   cases h2:z1q n0 live vs with
   | none=>rw [h1,h2] at h;cases h
   | some xs =>
    rw [h1,h2] at h
    cases h
    obtain ⟨l1,l2⟩:=y0i h2
    refine ⟨by simp [l1],fun i v' hv=>?_⟩
    cases i with
    | zero=>simp at hv;subst hv;exact ⟨v,by simp,h1⟩
    | succ i=>obtain ⟨u,e1,e2⟩:=l2 i v' (by simpa using hv);exact ⟨u,by simpa using e1,e2⟩
theorem x8c {n0:Nat} {live:List Nat}:∀ {os os':Objs},K6 n0 live os=some os'→os'.length=os.length∧∀ i,(∃ cs cs',lk os i=some (.cells cs)∧lk os' i=some (.cells cs')∧z1q n0 live cs=some cs')∨(lk os' i=lk os i∧∀ cs,lk os i≠some (.cells cs))
 | [],os',h=>by cases h;exact ⟨rfl,fun i=>.inr ⟨rfl,fun cs=>by simp [lk]⟩⟩
 | o::os,os',h=>by
  have key:∀ (o':Option Ob) (os2:Objs),K6 n0 live os=some os2→((∃ cs cs',o=some (.cells cs)∧o'=some (.cells cs')∧z1q n0 live cs=some cs')∨(o'=o∧∀ cs,o≠some (.cells cs))) →
      (o'::os2).length=(o::os).length∧∀ i,(∃ cs cs',lk (o::os) i=some (.cells cs)∧lk (o'::os2) i=some (.cells cs')∧z1q n0 live cs=some cs')∨(lk (o'::os2) i=lk (o::os) i∧∀ cs,lk (o::os) i≠some (.cells cs)):=by
   intro o' os2 h2 h3
   obtain ⟨l1,l2⟩:=x8c h2
   refine ⟨by simp [l1],fun i=>?_⟩
   cases i with
   | zero=>simpa [lk] using h3
   | succ i=>have:=l2 i;simpa [lk] using this
  cases h2:K6 n0 live os with
  | none =>
   cases o with
   | none=>simp only [K6,h2] at h;cases h
   | some ob =>
    cases ob with
    | cells cs=>simp only [K6,h2] at h;cases h3:z1q n0 live cs <;> rw [h3] at h <;> cases h
    | _=>simp only [K6,h2] at h;cases h
  | some os2 =>
   cases o with
   | none =>
    simp only [K6,h2] at h
    cases h
    exact key none os2 h2 (.inr ⟨rfl,fun cs=>by simp⟩)
   | some ob =>
    cases ob with
    | cells cs =>
     simp only [K6,h2] at h
     cases h3:z1q n0 live cs with
     | none=>rw [h3] at h;cases h
     | some cs' =>
      rw [h3] at h
      cases h
      exact key (some (.cells cs')) os2 h2 (.inl ⟨cs,cs',rfl,rfl,h3⟩)
    | vec t xs =>
     simp only [K6,h2] at h
     cases h
     exact key _ os2 h2 (.inr ⟨rfl,fun cs=>by simp⟩)
    | fro xs =>
     simp only [K6,h2] at h
     cases h
     exact key _ os2 h2 (.inr ⟨rfl,fun cs=>by simp⟩)
    | mat t xss lent =>
     simp only [K6,h2] at h
     cases h
     exact key _ os2 h2 (.inr ⟨rfl,fun cs=>by simp⟩)
    | dead =>
     simp only [K6,h2] at h
     cases h
     exact key _ os2 h2 (.inr ⟨rfl,fun cs=>by simp⟩)
theorem v1g {os:Objs} {n i:Nat}:lk (os.take n) i=if i<n then lk os i else none:=by
 unfold lk
 rw [List.getD_eq_getElem?_getD,List.getD_eq_getElem?_getD,List.getElem?_take]
 split <;> rfl
theorem y7v (keep:List Nat):∀ (vs:List AV) (i:Nat),(z4l keep i vs).length=vs.length∧∀ (j:Nat) (v':AV),(z4l keep i vs)[j]?=some v'→v'=.undef∨vs[j]?=some v'
 | [],i=>⟨rfl,fun j v' h=>by simp [z4l] at h⟩
 | v::vs,i=>by
  obtain ⟨l1,l2⟩:=y7v keep vs (i+1)
  refine ⟨by simp [z4l,l1],fun j v' h=>?_⟩
  cases j with
  | zero =>
   simp only [z4l,List.getElem?_cons_zero,Option.some.injEq] at h
   split at h
   · exact .inr (by simp [h])
   · exact .inl h.symm
  | succ j=>simpa using l2 j v' (by simpa [z4l] using h)
theorem x8b {n0:Nat} {live:List Nat}:∀ {vs vs':List AV},y6a n0 live vs=some vs'→vs'.length=vs.length∧∀ (i:Nat) v',vs'[i]?=some v'→∃ v,vs[i]?=some v∧k4o n0 live v=some v'
 | [],vs',h=>by cases h;exact ⟨rfl,fun i v h=>by simp at h⟩
 | v::vs,vs',h=>by
  simp only [y6a] at h
  cases h1:k4o n0 live v with
  | none=>rw [h1] at h;cases h
  | some v1 =>
   cases h2:y6a n0 live vs with
   | none=>rw [h1,h2] at h;cases h
   | some vs1 =>
    rw [h1,h2] at h
    cases h
    obtain ⟨k1,k2⟩:=x8b h2
    refine ⟨by simp [k1],fun i v' hv=>?_⟩
    cases i with
    | zero=>simp at hv;subst hv;exact ⟨v,rfl,h1⟩
    | succ i=>obtain ⟨w,a,b⟩:=k2 i v' (by simpa using hv);exact ⟨w,by simpa using a,b⟩
theorem v1c {objs:Objs} (h:x4y objs=true) {l t:Nat} {x:List (List (List DV))} {q:List (Nat × Nat × Nat)} (hl:lk objs l=some (.mat t x q)):q=[]:=by
 unfold x4y at h
 rw [List.all_eq_true] at h
 have hlt:=O2 hl
 unfold lk at hl
 rw [List.getD_eq_getElem?_getD,List.getElem?_eq_getElem hlt] at hl
 have:=h _ (List.getElem_mem hlt)
 rw [show objs[l]=some (.mat t x q) from hl] at this
 cases q with
 | nil=>rfl
 | cons _ _=>cases this
theorem k0m {n0:Nat} {st:St} {Γ:Ctx} {live:List Nat} {objs:Objs} (hhm:x4y st.objs=true) (hnd:live.Nodup) (hge:∀ l∈live,n0≤l)(h2:K6 n0 live (st.objs.take n0)=some objs) (hn:n0≤st.objs.length) (hΓ:Γ.objs=st.objs) (hG:Good D B0 Gd Γ) :
    ∃ Γ0,Γ0.objs=objs++live.map (X2 st.objs)∧Γ0.w=Γ.w∧Good D B0 Gd Γ0∧(∀ u v v',RepA D Γ u v→y2v n0 live v=some v'→RepA D Γ0 u v')∧TrB D n0 Γ Γ0∧n0≤(objs++live.map (X2 st.objs)).length∧Γ0.S.ext=Γ.S.ext:=by
 obtain ⟨l1,l2⟩:=x8c h2
 have hlen:objs.length=n0:=by rw [l1];simp;omega
 let S0:Sig:=⟨fun k=>if k<n0 then Γ.S k else match live[k-n0]? with | some l=>Γ.S l | none=>none,fun k=>if k<n0 then Γ.S.g k else match live[k-n0]? with | some l=>Γ.S.g l | none=>fun _=>none,Γ.S.ext⟩
 have hlow:∀ i,i<n0→lk (objs++live.map (X2 st.objs)) i=lk objs i:=by
  intro i hi
  unfold lk
  rw [List.getD_eq_getElem?_getD,List.getD_eq_getElem?_getD,List.getElem?_append_left (by omega)]
 have hhigh:∀ i,n0≤i→lk (objs++live.map (X2 st.objs)) i=match live[i-n0]? with | some l=>X2 st.objs l | none=>none:=by
  intro i hi
  conv=>lhs;unfold lk
  rw [List.getD_eq_getElem?_getD,List.getElem?_append_right (by omega),hlen,List.getElem?_map]
  cases live[i-n0]? <;> rfl
 have hlow2:∀ i,i<n0→(∃ cs cs',lk Γ.objs i=some (.cells cs)∧lk (objs++live.map (X2 st.objs)) i=some (.cells cs')∧z1q n0 live cs=some cs')∨(lk (objs++live.map (X2 st.objs)) i=lk Γ.objs i∧∀ cs,lk Γ.objs i≠some (.cells cs)):=by
  intro i hi
  have:=l2 i
  rw [v1g,if_pos hi,← hΓ] at this
  rw [hlow i hi]
  exact this
 have hS0low:∀ i,i<n0→S0 i=Γ.S i:=fun i hi=>by simp only [S0,if_pos hi]
 have hg0low:∀ i,i<n0→S0.g i=Γ.S.g i:=fun i hi=>by simp only [S0,if_pos hi]
 have hg0high:∀ i l,n0≤i→live[i-n0]?=some l→S0.g i=Γ.S.g l:=fun i l hi hl=>by simp only [S0,if_neg (Nat.not_lt.2 hi),hl]
 have hS0high:∀ i l,n0≤i→live[i-n0]?=some l→S0 i=Γ.S l:=fun i l hi hl=>by simp only [S0,if_neg (Nat.not_lt.2 hi),hl]
 have from':∀ i o,lk (objs++live.map (X2 st.objs)) i=some o→∃ l,(S0 i=Γ.S l∧S0.g i=Γ.S.g l)∧((i<n0∧l=i)∨(n0≤i∧live[i-n0]?=some l∧∀ cs,o≠.cells cs))∧(lk Γ.objs l=some o∨∃ cs cs',o=.cells cs'∧lk Γ.objs l=some (.cells cs)∧z1q n0 live cs=some cs'):=by
  intro i o ho
  rcases Nat.lt_or_ge i n0 with hi | hi
  · refine ⟨i,⟨hS0low i hi,hg0low i hi⟩,.inl ⟨hi,rfl⟩,?_⟩
    rcases hlow2 i hi with ⟨cs,cs',e1,e2,e3⟩ | ⟨e1,_⟩
    · rw [e2] at ho;cases ho
      exact .inr ⟨cs,cs',rfl,e1,e3⟩
    · exact .inl (e1 ▸ ho)
  · rw [hhigh i hi] at ho
    cases hl:live[i-n0]? with
    | none=>rw [hl] at ho;cases ho
    | some l =>
     rw [hl] at ho
     have:=q1x ho
     exact ⟨l,⟨hS0high i l hi hl,hg0high i l hi hl⟩,.inr ⟨hi,rfl,this.2⟩,.inl (hΓ ▸ this.1)⟩
 have hmine:∀ b,(Ctx.mk S0 (objs++live.map (X2 st.objs)) Γ.w).mine b→Γ.mine b:=by
  rintro b ⟨i,o,a1,a2,a3⟩
  obtain ⟨l,⟨e1,eg⟩,_,e2⟩:=from' i o a1
  simp only at a3
  rw [e1,eg] at a3
  rcases e2 with e2 | ⟨cs,cs',rfl,e2,_⟩
  · exact ⟨l,o,e2,a2,a3⟩
  · exact ⟨l,_,e2,rfl,a3⟩
 have hown:∀ b,(Ctx.mk S0 (objs++live.map (X2 st.objs)) Γ.w).own b→Γ.own b:=Ctx.own_of' rfl hmine
 have hd:∀ v d,RepD Γ.w Γ.own v d→RepD Γ.w (Ctx.mk S0 (objs++live.map (X2 st.objs)) Γ.w).own v d:=fun v d hv=>hv.same hown
 have hnc:∀ i o,i<n0→lk Γ.objs i=some o→(∀ cs,o≠.cells cs)→lk (objs++live.map (X2 st.objs)) i=lk Γ.objs i:=by
  intro i o hi ho hno
  rcases hlow2 i hi with ⟨cs,cs',e1,_,_⟩ | ⟨e1,_⟩
  · rw [e1] at ho;cases ho;exact absurd rfl (hno cs)
  · exact e1
 have hvec:∀ v l len,l<n0→RepA D Γ v (.vec l len)→RepA D (Ctx.mk S0 (objs++live.map (X2 st.objs)) Γ.w) v (.vec l len):=by
  intro v l len hl hv
  refine RepA.vec_same (Γ:=Γ) (Γ':=Ctx.mk S0 (objs++live.map (X2 st.objs)) Γ.w) hd ?_ (hS0low l hl) (fun _ _ _ _ _=>rfl) hv
  cases hv with
  | vnil _ _ h1=>exact hnc l _ hl h1 (by simp)
  | vec _ _ _ _ _ _ _ _ h1=>exact hnc l _ hl h1 (by simp)
  | fvec _ _ _ h1=>exact hnc l _ hl h1 (by simp)
  | mvec _ _ _ _ _ _ _ _ h1=>exact hnc l _ hl h1 (by simp)
  | mnil _ _ h1=>exact hnc l _ hl h1 (by simp)
  | gone _ _ h1=>exact hnc l _ hl h1 (by simp)
 have hvptr:∀ v l i off,l<n0→RepA D Γ v (.vptr l i off)→RepA D (Ctx.mk S0 (objs++live.map (X2 st.objs)) Γ.w) v (.vptr l i off):=by
  intro v l i off hl hv
  refine RepA.vptr_same (Γ:=Γ) (Γ':=Ctx.mk S0 (objs++live.map (X2 st.objs)) Γ.w) (fun a d _ _ ⟨u,h3,h4⟩=>⟨u,h3,hd u d h4⟩) (Nat.le_refl _) (fun b _ hno hb=>hno (hown b hb)) ?_ (hS0low l hl) hv
  cases hv with
  | vptr _ _ _ _ _ _ _ h1=>exact hnc l _ hl h1 (by simp)
  | fptr _ _ _ _ _ _ h1=>exact hnc l _ hl h1 (by simp)
  | mptr _ _ _ _ _ _ h1=>exact hnc l _ hl h1 (by simp)
  | pgone _ _ _ h1=>exact hnc l _ hl h1 (by simp)
 have hptr:∀ l cs,l<n0→lk Γ.objs l=some (.cells cs)→∃ cs',lk (objs++live.map (X2 st.objs)) l=some (.cells cs')∧S0 l=Γ.S l:=by
  intro l cs hl h1
  rcases hlow2 l hl with ⟨cs1,cs',e1,e2,_⟩ | ⟨_,e2⟩
  · exact ⟨cs',e2,hS0low l hl⟩
  · exact absurd h1 (e2 cs)
 have hfn:∀ (u:Value) (f:Nat) (cap:List AV),RepA D Γ u (.fn f cap)→(∀ a∈cap,AV.low n0 a=true)→RepA D (Ctx.mk S0 (objs++live.map (X2 st.objs)) Γ.w) u (.fn f cap):=by
  intro u f cap hv hal
  cases hv with
  | fn _ vs _ hvl h =>
   refine .fn f vs _ hvl fun i v a h1 h2=>?_
   have h3:=h i v a h1 h2
   have h4:=hal a (List.mem_of_getElem? h2)
   cases a with
   | ptr l off =>
    have hl:l<n0:=by simpa [AV.low] using h4
    cases h3 with
    | ptr _ _ b cs g1 g2 =>
     obtain ⟨cs',e1,e2⟩:=hptr l cs hl g1
     exact .ptr l off b cs' e1 (e2.trans g2)
   | _=>simp [AV.low] at h4
 have hkv:∀ u l len v',RepA D Γ u (.vec l len)→y2v n0 live (.vec l len)=some v'→RepA D (Ctx.mk S0 (objs++live.map (X2 st.objs)) Γ.w) u v':=by
  intro u l len v' hv hk
  simp only [y2v] at hk
  split at hk
  · rename_i hl
    cases hk
    exact hvec u l len hl hv
  · rename_i hl
    cases hx:live.idxOf? l with
    | none=>rw [hx] at hk;cases hk
    | some k =>
     rw [hx] at hk
     cases hk
     have hlk':live[k]?=some l:=by
      obtain ⟨hk1,hk2,_⟩:=List.idxOf?_eq_some_iff.1 hx
      rw [List.getElem?_eq_getElem hk1]
      exact congrArg some hk2
     have ho:∀ q,lk Γ.objs l=some q→(∀ cs,q≠.cells cs)→lk (objs++live.map (X2 st.objs)) (n0+k)=some q:=by
      intro q hq hno
      rw [hhigh _ (by omega),Nat.add_sub_cancel_left,hlk']
      exact q9k (hΓ ▸ hq) hno
     have hs0:S0 (n0+k)=Γ.S l:=hS0high _ l (by omega) (by rw [Nat.add_sub_cancel_left];exact hlk')
     cases hv with
     | vnil _ t h1 h2=>exact .vnil _ t (ho _ h1 (by simp)) (hs0.trans h2)
     | vec _ _ cap b t ti xs arr h1 h2 h3 h4 h5 h6 h7=>exact .vec _ len cap b t ti xs arr (ho _ h1 (by simp)) h2 (hs0.trans h3) h4 h5 h6 h7
     | fvec _ _ xs h1 h2 h3=>exact .fvec _ len xs (ho _ h1 (by simp)) (hd _ _ h2) h3
     | mvec _ _ cap b t xss lent arr h1 h2 h3 h4 h5 h6=>exact .mvec _ len cap b t xss lent arr (ho _ h1 (by simp)) (hs0.trans h2) h3 h4 h5 h6
     | mnil _ t h1 h2=>exact .mnil _ t (ho _ h1 (by simp)) (hs0.trans h2)
     | gone _ _ h1=>exact .gone _ len (ho _ h1 (by simp))
 have hk1:∀ u v v',RepA D Γ u v→k4o n0 live v=some v'→RepA D (Ctx.mk S0 (objs++live.map (X2 st.objs)) Γ.w) u v':=by
  intro u v v' hv hk
  cases v with
  | vec l len=>exact hkv u l len v' hv hk
  | c d=>cases hk;cases hv with | c h=>exact .c (hd _ _ h)
  | nils=>cases hk;cases hv;exact .nils
  | _=>cases hk
 have hkeep:∀ u v v',RepA D Γ u v→y2v n0 live v=some v'→RepA D (Ctx.mk S0 (objs++live.map (X2 st.objs)) Γ.w) u v':=by
  intro u v v' hv hk
  cases v with
  | c d=>cases hk;cases hv with | c h=>exact .c (hd _ _ h)
  | agg cs=>cases hk;cases hv with | agg vs _ hl h=>exact .agg vs cs hl fun j u d a b=>hd _ _ (h j u d a b)
  | nils=>cases hk;cases hv;exact .nils
  | undef=>cases hk;exact .undef u
  | eptr cs =>
   cases hk
   cases hv with
   | eptr a _ hs ho hc=>exact .eptr a cs hs (fun h=>ho (hown _ h)) fun j d hj=>by obtain ⟨x,e1,e2⟩:=hc j d hj;exact ⟨x,e1,hd _ _ e2⟩
  | ptr l off =>
   simp only [y2v] at hk
   split at hk
   · rename_i hl
     cases hk
     cases hv with
     | ptr _ _ b cs h1 h2 =>
      obtain ⟨cs',e1,e2⟩:=hptr l cs hl h1
      exact .ptr l off b cs' e1 (e2.trans h2)
   · cases hk
  | mv f ds =>
   cases hk
   exact y0d (Γ:=Γ) (Γ':=Ctx.mk S0 (objs++live.map (X2 st.objs)) Γ.w) rfl hown hv.mv_data hv
  | fn f cap =>
   simp only [y2v] at hk
   cases hal:cap.all (AV.low n0) with
   | false=>rw [hal] at hk;cases hk
   | true =>
    rw [hal] at hk
    cases hk
    exact hfn u f cap hv (by simpa using hal)
  | frow vs =>
   simp only [y2v] at hk
   cases hal:vs.all (AV.flow n0) with
   | false=>rw [hal] at hk;cases hk
   | true =>
    rw [hal] at hk
    cases hk
    simp only [List.all_eq_true] at hal
    cases hv with
    | frow a n cap _ hs ho hl us hu hc hr =>
     refine .frow a n cap vs hs (fun h=>ho (hown _ h)) hl us hu hc fun j u v h1 h2=>?_
     have h3:=hr j u v h1 h2
     have h4:=hal v (List.mem_of_getElem? h2)
     cases v with
     | fn f cp=>exact hfn u f cp h3 (by simpa [AV.flow] using h4)
     | _=>simp [AV.flow] at h4
  | vec l len=>exact hkv u l len v' hv hk
  | agv vs =>
   simp only [y2v] at hk
   cases h1:y6a n0 live vs with
   | none=>rw [h1] at hk;cases hk
   | some vs' =>
    rw [h1] at hk
    cases hk
    obtain ⟨k1,k2⟩:=x8b h1
    cases hv with
    | agv us _ hl ho h =>
     refine .agv us vs' (by omega) ho fun j u a hu ha=>?_
     obtain ⟨v,e1,e2⟩:=k2 j a ha
     exact hk1 u v a (h j u v hu e1) e2
  | _=>cases hk
 have htr:TrB D n0 Γ (Ctx.mk S0 (objs++live.map (X2 st.objs)) Γ.w):=⟨Kept.refl _ _,rfl,fun b hb=>.inl (hmine b hb),hptr,hvec,hvptr⟩
 refine ⟨⟨S0,objs++live.map (X2 st.objs),Γ.w⟩,rfl,rfl,⟨fun i o ho=>?_,fun i i' o o' b h1 h2 v1 v2 s1 s2=>?_,fun b hb=>hG.own b (hown b hb),fun b hb=>⟨(hG.ext b hb).1,fun hm=>(hG.ext b hb).2 (hmine b hm)⟩,hG.size,hG.gd⟩,hkeep,htr,by simp;omega,rfl⟩
 · obtain ⟨l,⟨e1,eg⟩,e3,e2⟩:=from' i o ho
   rcases e2 with e2 | ⟨cs,cs',rfl,e2,e4⟩
   · have hob:=hG.ob l o e2
     cases o with
     | cells cs =>
      obtain ⟨b,arr,ty,g1,g2,g3,g4⟩:=hob
      rcases e3 with ⟨hi,rfl⟩ | ⟨hi,hl,hno⟩
      · rcases hlow2 l hi with ⟨cs1,cs',f1,f2,f3⟩ | ⟨_,f2⟩
        · simp only at ho
          rw [f2] at ho;cases ho
          rw [e2] at f1;cases f1
          obtain ⟨m1,m2⟩:=y0i f3
          refine ⟨b,arr,ty,e1.trans g1,g2,by omega,fun j v u hv hu=>?_⟩
          obtain ⟨v0,n1,n2⟩:=m2 j v hv
          exact hkeep u v0 v (g4 j v0 u n1 hu) n2
        · exact absurd e2 (f2 cs)
      · exact absurd rfl (hno cs)
     | vec t xs =>
      obtain ⟨ti,g0,g1,⟨g2,g3⟩ | ⟨b,arr,cap,g2,g3,g4,g5,g6⟩⟩:=hob
      · exact ⟨ti,g0,g1,.inl ⟨e1.trans g2,g3⟩⟩
      · exact ⟨ti,g0,g1,.inr ⟨b,arr,cap,e1.trans g2,g3,g4,g5,fun i x j d u a1 a2 a3=>hd _ _ (g6 i x j d u a1 a2 a3)⟩⟩
     | mat t xss lent =>
      have hq:=v1c hhm (by rw [← hΓ];exact e2)
      subst hq
      obtain ⟨tt,e,ti,k1,k2,k3,k4,⟨q1,q2,q3⟩ | ⟨b,arr,cap,k5,k6,k7,k8,k9,k10,k11,k12,k13⟩⟩:=hob
      · exact ⟨tt,e,ti,k1,k2,k3,k4,.inl ⟨e1.trans q1,q2,q3⟩⟩
      have eg':(Ctx.mk S0 (objs++live.map (X2 st.objs)) Γ.w).S.g i=Γ.S.g l:=eg
      refine ⟨tt,e,ti,k1,k2,k3,k4,.inr ⟨b,arr,cap,e1.trans k5,k6,k7,k8,by rw [eg'];exact k9,by rw [eg'];exact k10,fun j x hx hno=>?_,k12,fun p hp=>by cases hp⟩⟩
      obtain ⟨u,m1,m2,m3⟩:=k11 j x hx hno
      refine ⟨u,m1,m2,?_⟩
      rw [eg']
      rcases m3 with m3 | ⟨b2,arr2,cap2,m3,m4,m5,m6,m7,m8⟩
      · exact .inl m3
      · exact .inr ⟨b2,arr2,cap2,m3,m4,m5,m6,m7,fun i y j d v a1 a2 a3=>hd _ _ (m8 i y j d v a1 a2 a3)⟩
     | fro xs=>trivial
     | dead=>trivial
   · obtain ⟨b,arr,ty,g1,g2,g3,g4⟩:=hG.ob l _ e2
     obtain ⟨m1,m2⟩:=y0i e4
     refine ⟨b,arr,ty,e1.trans g1,g2,by omega,fun j v u hv hu=>?_⟩
     obtain ⟨v0,n1,n2⟩:=m2 j v hv
     exact hkeep u v0 v (g4 j v0 u n1 hu) n2
 · obtain ⟨l,⟨e1,eg⟩,e3,e2⟩:=from' i o h1
   obtain ⟨l',⟨e1',eg'⟩,e3',e2'⟩:=from' i' o' h2
   simp only at s1 s2
   rw [e1,eg] at s1
   rw [e1',eg'] at s2
   have live1:∃ q,lk Γ.objs l=some q∧q.live=true∧blk (Γ.S l) (Γ.S.g l) q b:=by
    rcases e2 with e2 | ⟨cs,cs',rfl,e2,_⟩
    · exact ⟨o,e2,v1,s1⟩
    · exact ⟨_,e2,rfl,s1⟩
   have live2:∃ q,lk Γ.objs l'=some q∧q.live=true∧blk (Γ.S l') (Γ.S.g l') q b:=by
    rcases e2' with e2 | ⟨cs,cs',rfl,e2,_⟩
    · exact ⟨o',e2,v2,s2⟩
    · exact ⟨_,e2,rfl,s2⟩
   obtain ⟨q,f1,f2,f3⟩:=live1
   obtain ⟨q',f1',f2',f3'⟩:=live2
   have hll:l=l':=hG.inj l l' q q' b f1 f1' f2 f2' f3 f3'
   subst hll
   rcases e3 with ⟨hi,rfl⟩ | ⟨hi,hl,_⟩
   · rcases e3' with ⟨hi',rfl⟩ | ⟨hi',hl',_⟩
     · rfl
     · have:=hge l (List.mem_of_getElem? hl');omega
   · rcases e3' with ⟨hi',rfl⟩ | ⟨hi',hl',_⟩
     · have:=hge l (List.mem_of_getElem? hl);omega
     · have h3:=(List.getElem?_eq_some_iff.1 hl)
       have h4:=(List.getElem?_eq_some_iff.1 hl')
       obtain ⟨p1,p2⟩:=h3
       obtain ⟨p3,p4⟩:=h4
       have:=(List.getElem_inj (i:=i-n0) (j:=i'-n0) (h₀:=p1) (h₁:=p3) hnd).1 (p2.trans p4.symm)
       omega
theorem j5i {a:Act} {keep:List Nat} {n0:Nat} {st st0:St} {Γ:Ctx} (h:norm keep n0 st=some st0) (hn:n0≤st.objs.length) (hΓ:Γ.objs=st.objs) (hG:Good D B0 Gd Γ) (hS:Slots D Γ st.slots a) :
    ∃ Γ0,Γ0.objs=st0.objs∧Γ0.w=Γ.w∧Good D B0 Gd Γ0∧Slots D Γ0 st0.slots a∧TrB D n0 Γ Γ0∧n0≤st0.objs.length:=by
 unfold norm at h
 simp only at h
 cases hhm:x4y st.objs with
 | false=>rw [hhm] at h;cases h
 | true =>
 rw [hhm] at h
 simp only [cond_true] at h
 generalize hlive:z2a n0 (z2a n0 [] (z4l keep 0 st.slots)) (cellsOf (st.objs.take n0))=live at h
 obtain ⟨hnd,hge⟩:live.Nodup∧∀ l∈live,n0≤l:=by
  obtain ⟨a1,a2⟩:=x8g n0 (z4l keep 0 st.slots) [] (by simp) (by simp)
  rw [← hlive]
  exact x8g n0 _ _ a1 a2
 cases h1:z1q n0 live (z4l keep 0 st.slots) with
 | none=>rw [h1] at h;cases h
 | some slots =>
 cases h2:K6 n0 live (st.objs.take n0) with
 | none=>rw [h1,h2] at h;cases h
 | some objs =>
 rw [h1,h2] at h
 cases h
 obtain ⟨k1,k2⟩:=y0i h1
 obtain ⟨Γ0,g1,g2,g3,hkeep,g5,g6,_⟩:=k0m hhm hnd hge h2 hn hΓ hG
 refine ⟨Γ0,g1,g2,g3,⟨?_,fun i v u hv hu=>?_⟩,g5,g6⟩
 · obtain ⟨m1,_⟩:=y7v keep st.slots 0
   rw [hS.size,← m1,← k1]
 · obtain ⟨v0,n1,n2⟩:=k2 i v hv
   obtain ⟨_,m2⟩:=y7v keep st.slots 0
   rcases m2 i v0 n1 with rfl | hv0
   · cases n2;exact .undef u
   · exact hkeep u v0 v (hS.slot i v0 u hv0 hu) n2
theorem k2i (hs:Stable B0 Gd) {l t e:Nat} {tt:TI} (ht:D.ty t=some tt) (hu:tt.u=.slice e):∀ (lent:List (Nat × Nat × Nat)) (xss:List (List (List DV))) (objs':Objs) (Γ:Ctx),y0h l t e lent xss Γ.objs=some objs'→Good D B0 Gd Γ→lk Γ.objs l=some (.mat t xss lent) →
    ∃ Γ1,Γ1.objs=objs'∧Γ1.w=Γ.w∧Good D B0 Gd Γ1∧Tr D Γ Γ1∧objs'.length=Γ.objs.length
 | [],xss,objs',Γ,h,hG,hl=>by cases h;exact ⟨Γ,rfl,rfl,hG,Tr.refl _,rfl⟩
 | (i,f,n)::rest,xss,objs',Γ,h,hG,hl=>by
  simp only [y0h] at h
  cases hf:lk Γ.objs f with
  | none=>rw [hf] at h;cases h
  | some ob =>
   rw [hf] at h
   cases ob with
   | vec e' xs =>
    simp only at h
    cases he:Nat.beq e' e with
    | false=>rw [he] at h;cases h
    | true =>
     rw [he] at h
     simp only [cond_true] at h
     have:=Nat.eq_of_beq_eq_true he
     subst this
     obtain ⟨S,k1,k2⟩:=q4s hs hG hl hf ht hu rfl
     have hne:f≠l:=fun e=>by rw [e,hl] at hf;cases hf
     obtain ⟨Γ1,m1,m2,m3,m4,m5⟩:=k2i hs ht hu rest _ objs' ⟨S,_,Γ.w⟩ h k1 (by simp only;rw [I7 (by rw [List.length_set];exact O2 hl),if_pos rfl])
     exact ⟨Γ1,m1,m2,m3,k2.trans m4,by rw [m5];simp⟩
   | _=>cases h
theorem j2c (hs:Stable B0 Gd) {a:Act}:∀ (os:List Orc) (st st1:St) (os1:List Orc) (ps:List Prop) (Γ:Ctx),z6p D os st=some (st1,os1,ps)→All ps→Γ.objs=st.objs→Good D B0 Gd Γ→Slots D Γ st.slots a →
    ∃ Γ1,Γ1.objs=st1.objs∧Γ1.w=Γ.w∧Good D B0 Gd Γ1∧Slots D Γ1 st1.slots a∧Tr D Γ Γ1∧st.objs.length≤st1.objs.length:=by
 intro os
 induction os with
 | nil =>
  intro st st1 os1 ps Γ h hp hΓ hG hS
  cases h
  exact ⟨Γ,hΓ,rfl,hG,hS,Tr.refl _,Nat.le_refl _⟩
 | cons x os ih =>
  intro st st1 os1 ps Γ h hp hΓ hG hS
  cases x with
  | ln l i x =>
   simp only [z6p] at h
   cases hl:lk st.objs l with
   | none=>rw [hl] at h;cases h
   | some ob =>
    rw [hl] at h
    cases ob with
    | mat t xss lent =>
     simp only at h
     cases ht:D.ty t with
     | none=>rw [ht] at h;cases h
     | some tt =>
      rw [ht] at h
      obtain ⟨sz,by',u,z⟩:=tt
      cases u with
      | slice e =>
       simp only at h
       cases hg:z6p D os ⟨st.slots,st.objs.set l (some (.mat t xss (lent++[(i,st.objs.length,x.length)])))++[some (.vec e x)]⟩ with
       | none=>rw [hg] at h;cases h
       | some r =>
        rw [hg] at h
        obtain ⟨st',os',ps'⟩:=r
        cases h
        obtain ⟨p1,p3⟩:=all_append (p:=(xss[i]?=some x)::lent.map fun p=>i≠p.1) hp
        have p2:xss[i]?=some x∧∀ p∈lent,i≠p.1:=by
         have gen:∀ (q:Prop) (qs:List Prop),All (q::qs)→q∧∀ r∈qs,r:=by
          intro q qs
          induction qs generalizing q with
          | nil=>intro h;exact ⟨h,fun _ h=>by cases h⟩
          | cons r rs ih =>
           rintro ⟨h1,h2⟩
           obtain ⟨h3,h4⟩:=ih r h2
           exact ⟨h1,fun s hs=>(List.mem_cons.1 hs).elim (fun e=>e ▸ h3) (h4 s)⟩
         obtain ⟨h1,h2⟩:=gen _ _ p1
         exact ⟨h1,fun p hp=>h2 _ (List.mem_map_of_mem hp)⟩
        have hn:lk Γ.objs st.objs.length=none:=by rw [hΓ];exact k6n (Nat.le_refl _)
        have hll:=O2 hl
        obtain ⟨S,k1,k2⟩:=v1d hs hG (show lk Γ.objs l=some (.mat t xss lent) by rw [hΓ];exact hl) hn ht rfl p2.1 (fun ⟨p,hp,e⟩=>p2.2 p hp e.symm)
         (objs:=st.objs.set l (some (.mat t xss (lent++[(i,st.objs.length,x.length)])))++[some (.vec e x)]) (fun k=>by rw [z5h,List.length_set,I7 hll,hΓ])
        obtain ⟨Γ1,m1,m2,m3,m4,m5,m6⟩:=ih _ st1 os1 ps' ⟨S,_,Γ.w⟩ hg p3 rfl k1 (hS.tr k2)
        exact ⟨Γ1,m1,m2,m3,m4,k2.trans m5,by simp at m6;omega⟩
      | _=>cases h
    | _=>cases h
  | gt l =>
   simp only [z6p] at h
   cases hl:lk st.objs l with
   | none=>rw [hl] at h;cases h
   | some ob =>
    rw [hl] at h
    cases ob with
    | mat t xss lent =>
     simp only at h
     cases ht:D.ty t with
     | none=>rw [ht] at h;cases h
     | some tt =>
      rw [ht] at h
      obtain ⟨sz,by',u,z⟩:=tt
      cases u with
      | slice e =>
       simp only at h
       cases hg:y0h l t e lent xss st.objs with
       | none=>rw [hg] at h;cases h
       | some objs =>
        rw [hg] at h
        simp only at h
        obtain ⟨Γ1,k1,k2,k3,k4,k5⟩:=k2i hs ht rfl lent xss objs Γ (by rw [hΓ];exact hg) hG (by rw [hΓ];exact hl)
        obtain ⟨Γ2,m1,m2,m3,m4,m5,m6⟩:=ih ⟨st.slots,objs⟩ st1 os1 ps Γ1 h hp k1 k3 (hS.tr k4)
        exact ⟨Γ2,m1,m2.trans k2,m3,m4,k4.trans m5,by rw [hΓ] at k5;simp only at m6;omega⟩
      | _=>cases h
    | _=>cases h
  | dm l =>
   simp only [z6p] at h
   cases hl:lk st.objs l with
   | none=>rw [hl] at h;cases h
   | some ob =>
    rw [hl] at h
    cases ob with
    | mat t xss lent =>
     cases lent with
     | nil =>
      simp only at h
      obtain ⟨k1,k2⟩:=q4q hs hG (show lk Γ.objs l=some (.mat t xss []) by rw [hΓ];exact hl)
      obtain ⟨Γ1,m1,m2,m3,m4,m5,m6⟩:=ih _ st1 os1 ps _ h hp (show (Γ.put l _ Γ.w).objs=_ by simp only [Ctx.put,hΓ]) k1 (hS.tr k2)
      exact ⟨Γ1,m1,m2,m3,m4,k2.trans m5,by simp at m6;omega⟩
     | cons _ _=>cases h
    | _=>cases h
  | _ =>
   cases h
   exact ⟨Γ,hΓ,rfl,hG,hS,Tr.refl _,Nat.le_refl _⟩
theorem x7y {l t e:Nat}:∀ (lent:List (Nat × Nat × Nat)) (xss:List (List (List DV))) (objs objs':Objs),y0h l t e lent xss objs=some objs'→objs'.length=objs.length
 | [],xss,objs,objs',h=>by cases h;rfl
 | (i,f,n)::rest,xss,objs,objs',h=>by
  simp only [y0h] at h
  cases hf:lk objs f with
  | none=>rw [hf] at h;cases h
  | some ob =>
   rw [hf] at h
   cases ob with
   | vec e' xs =>
    simp only at h
    cases he:Nat.beq e' e with
    | false=>rw [he] at h;cases h
    | true =>
     rw [he] at h
     simp only [cond_true] at h
     rw [x7y rest _ _ objs' h];simp
   | _=>cases h
theorem y7s:∀ {os:List Orc} {st st1:St} {os1:List Orc} {ps:List Prop},z6p D os st=some (st1,os1,ps)→st.objs.length≤st1.objs.length:=by
 intro os
 induction os with
 | nil=>intro st st1 os1 ps h;cases h;exact Nat.le_refl _
 | cons x os ih =>
  intro st st1 os1 ps h
  cases x with
  | ln l i x =>
   simp only [z6p] at h
   cases hl:lk st.objs l with
   | none=>rw [hl] at h;cases h
   | some ob =>
    rw [hl] at h
    cases ob with
    | mat t xss lent =>
     simp only at h
     cases ht:D.ty t with
     | none=>rw [ht] at h;cases h
     | some tt =>
      rw [ht] at h
      obtain ⟨sz,by',u,z⟩:=tt
      cases u with
      | slice e =>
       simp only at h
       cases hg:z6p D os ⟨st.slots,st.objs.set l (some (.mat t xss (lent++[(i,st.objs.length,x.length)])))++[some (.vec e x)]⟩ with
       | none=>rw [hg] at h;cases h
       | some r =>
        rw [hg] at h
        obtain ⟨st',os',ps'⟩:=r
        cases h
        have:=ih hg
        simp at this;omega
      | _=>cases h
    | _=>cases h
  | gt l =>
   simp only [z6p] at h
   cases hl:lk st.objs l with
   | none=>rw [hl] at h;cases h
   | some ob =>
    rw [hl] at h
    cases ob with
    | mat t xss lent =>
     simp only at h
     cases ht:D.ty t with
     | none=>rw [ht] at h;cases h
     | some tt =>
      rw [ht] at h
      obtain ⟨sz,by',u,z⟩:=tt
      cases u with
      | slice e =>
       simp only at h
       cases hg:y0h l t e lent xss st.objs with
       | none=>rw [hg] at h;cases h
       | some objs =>
        rw [hg] at h
        have:=ih h
        rw [← x7y _ _ _ _ hg];exact this
      | _=>cases h
    | _=>cases h
  | dm l =>
   simp only [z6p] at h
   cases hl:lk st.objs l with
   | none=>rw [hl] at h;cases h
   | some ob =>
    rw [hl] at h
    cases ob with
    | mat t xss lent =>
     cases lent with
     | nil=>have:=ih h;simpa using this
     | cons _ _=>cases h
    | _=>cases h
  | _=>cases h;exact Nat.le_refl _
end Gev
namespace Gev
open Go
variable {P:Program} {D:Tab} {B0:Nat} {Gd:World→Prop}
theorem y8m:∀ {objs objs':Objs},z3i objs objs'=true→objs.length≤objs'.length
 | [],_,_=>by simp
 | none::os,[],h=>by simp [z3i] at h
 | none::os,none::os',h=>by have:=y8m (objs:=os) (objs':=os') h;simpa using this
 | none::os,some _::os',h=>by simp [z3i] at h
 | some _::os,[],h=>by simp [z3i] at h
 | some _::os,x::os',h=>by have:=y8m (objs:=os) (objs':=os') (by cases x <;> exact h);simpa using this
theorem k8r {C:Sem3} {ops:List Oper}:∀ (rest:List Oper) (fr:Nat) (st st':St) (gs:List Log) (os os':List Orc) (ps:List Prop),x7f D C ops rest fr st os=some ((st',gs),os',ps)→st.objs.length≤st'.objs.length
 | [],fr,st,st',gs,os,os',ps,h=>by cases A2 h;exact Nat.le_refl _
 | o::rest,fr,st,st',gs,os,os',ps,h=>by
  simp only [x7f] at h
  obtain ⟨x,os1,p1,b1,os2,q1,h1,h2,e⟩:=bind_some h
  cases e
  obtain ⟨st1,g⟩:=x
  obtain ⟨y,os3,p3,b3,os4,q3,h3,h4,e⟩:=bind_some h2
  cases e
  obtain ⟨st2,gs'⟩:=y
  cases A2 h4
  have h5:=k8r rest _ st1 _ gs' _ _ _ h3
  refine Nat.le_trans ?_ h5
  obtain ⟨v,⟨r,u,_,_,rfl,_⟩ | ⟨objs',_,k,rfl,_⟩⟩:=y7f h1
  · simp only;rw [y0q];exact Nat.le_refl _
  · exact y8m k
theorem x5f {C:Sem3} {ops:Array Oper} {draw:Bool} {st st':St} {os os':List Orc} {ps:List Prop} (h:y7c D C ops draw st os=some (st',os',ps)):st.objs.length≤st'.objs.length:=by
 unfold y7c at h
 obtain ⟨x,os1,p1,b1,os2,q1,h1,h2,e⟩:=bind_some h
 cases e
 obtain ⟨fin,gs⟩:=x
 obtain ⟨_,os3,p3,b3,os4,q3,h3,h4,e⟩:=bind_some h2
 cases e
 cases A2 h4
 have:=k8r _ _ _ _ _ _ _ _ h1
 simp at this
 omega
theorem y3a {C:Sem3}:∀ (c:Code) (st:St) (os:List Orc) (o:Out) (st':St) (os':List Orc) (ps:List Prop),path D C c st os=some ((o,st'),os',ps)→st.objs.length≤st'.objs.length
 | .skip,st,os,o,st',os',ps,h=>by cases A2 h;exact Nat.le_refl _
 | .region id ops draw,st,os,o,st',os',ps,h=>by
  obtain ⟨s1,os1,p1,b1,os2,q1,h1,h2,e⟩:=bind_some h
  cases e
  obtain ⟨s2,os3,p3,b3,os4,q3,h3,h4,e⟩:=bind_some h2
  cases e
  obtain ⟨s3,os5,p5,b5,os6,q5,h5,h6,e⟩:=bind_some h4
  cases e
  cases A2 h6
  exact Nat.le_trans (y7s h1) (Nat.le_trans (x5f h3) (y7s h5))
 | .seq x y,st,os,o,st',os',ps,h=>by
  obtain ⟨x1,os1,p1,b1,os2,q1,h1,h2,e⟩:=bind_some h
  cases e
  obtain ⟨o1,st1⟩:=x1
  have hx:=y3a x st os o1 st1 os1 p1 h1
  cases o1 with
  | norm=>exact Nat.le_trans hx (y3a y st1 os1 o st' _ q1 h2)
  | exit id=>cases A2 h2;exact hx
  | ret=>cases A2 h2;exact hx
 | .cond c x y,st,os,o,st',os',ps,h=>by
  simp only [path] at h
  generalize rho st.slots c=cv at h
  cases cv with
  | c d =>
   cases d with
   | bool t =>
    obtain ⟨t',os1,p1,b1,os2,q1,h1,h2,e⟩:=bind_some h
    cases e
    cases t' with
    | true=>exact y3a x st _ o st' _ q1 h2
    | false=>exact y3a y st _ o st' _ q1 h2
   | _=>cases h
  | _=>cases h
 | .block id b,st,os,o,st',os',ps,h=>by
  obtain ⟨x1,os1,p1,b1,os2,q1,h1,h2,e⟩:=bind_some h
  cases e
  obtain ⟨o1,st1⟩:=x1
  have hx:=y3a b st os o1 st1 os1 p1 h1
  cases o1 with
  | norm=>cases A2 h2;exact hx
  | ret=>cases A2 h2;exact hx
  | exit id' =>
   simp only at h2
   split at h2 <;> (cases A2 h2;exact hx)
 | .loop b,st,os,o,st',os',ps,h=>by
  simp only [path] at h
  unfold askL at h
  cases os with
  | nil=>cases h
  | cons x os1 =>
   cases x with
   | loop keep rows o2 st2 =>
    simp only at h
    cases hv:y5r D rows st with
    | none=>rw [hv] at h;cases h
    | some st1 =>
     rw [hv] at h
     simp only at h
     cases hno:norm keep st.objs.length st1 with
     | none=>rw [hno] at h;cases h
     | some st0 =>
      rw [hno] at h
      simp only at h
      split at h
      · rename_i hle
        cases h
        exact hle
      · cases h
   | _=>cases h
 | .exit id,st,os,o,st',os',ps,h=>by cases A2 h;exact Nat.le_refl _
 | .ret,st,os,o,st',os',ps,h=>by cases A2 h;exact Nat.le_refl _
 | .rangeFunc ..,st,os,o,st',os',ps,h=>by cases h
 | .scope b,st,os,o,st',os',ps,h=>y3a b st os o st' os' ps h
 | .goto _,st,os,o,st',os',ps,h=>by cases h
 | .label _,st,os,o,st',os',ps,h=>by cases A2 h;exact Nat.le_refl _
def x0c (D:Tab) (B0:Nat) (Gd:World→Prop) (n:Nat) (Γ:Ctx) (ds:List Deferred) (o:Out) (st':St) (e:Exit) (a':Act) (w':World):Prop :=
 o.fits e∧∃ Γ',Γ'.objs=st'.objs∧Γ'.w=w'∧Good D B0 Gd Γ'∧Slots D Γ' st'.slots a'∧TrB D n Γ Γ'∧a'.defers=ds
theorem x0c.after {n m:Nat} {Γ Γ1:Ctx} {ds:List Deferred} {o:Out} {st':St} {e:Exit} {a':Act} {w':World} (h:TrB D n Γ Γ1) (hm:n≤m) (k:x0c D B0 Gd m Γ1 ds o st' e a' w'):x0c D B0 Gd n Γ ds o st' e a' w':=by
 obtain ⟨k1,Γ',k2,k3,k4,k5,k6,k7⟩:=k
 exact ⟨k1,Γ',k2,k3,k4,k5,h.trans k6 hm,k7⟩
theorem z7i {b:Frame} {a:Act} {k:List Item} {cs:List Frame} {w:World} {c:Code}:step P (lone (b.atR a (.code (.scope c)::k)) cs w)=.next (lone (b.atR a (.code c::.inScope c::k)) cs w) :=
 step_lone_go (by simp [stepG,stepG.exec,Frame.atR])
theorem j1k {b:Frame} {a:Act} {k:List Item} {cs:List Frame} {w:World} {c:Code}:step P (lone (b.atR a (.inScope c::k)) cs w)=.next (lone (b.atR a k) cs w) :=
 step_lone_go (by simp [stepG,stepG.exec,Frame.atR])
theorem q2k {ro:Option Nat} {m:Nat} {c:Code} {Q:Exit→Act→World→Prop} {a:Act} {w:World} (h:c.wpIn (Fr ro) m P (fun e a' w'=>(∀ l,e≠.goto l)∧Q e a' w') a w):(Code.scope c).wpIn (Fr ro) m P Q a w:=by
 intro b k cs hro hb hr
 have h0:(lone (b.atR a (.code (.scope c)::k)) cs w).fenced P (Fr ro):=fenced_calm hb hr rfl
 obtain ⟨e,a₁,w₁,hq,harr⟩:=h b (.inScope c::k) cs hro hb hr
 cases e with
 | normal=>exact ⟨.normal,a₁,w₁,hq.2,.head h0 z7i (StepsIn.trans harr (.one (fenced_calm hb hr rfl) j1k))⟩
 | exit id' =>
  have hx:exitTo id' (.inScope c::k)=exitTo id' k:=by simp [exitTo]
  exact ⟨.exit id',a₁,w₁,hq.2,fun k' hk=>.head h0 z7i (harr.1 k' (by rw [hx];exact hk)),
   fun hr' hk=>let ⟨k₁,h1,h2⟩:=harr.2 hr' (by rw [hx];exact hk);⟨k₁,h1,.head h0 z7i h2⟩⟩
 | goto l=>exact absurd rfl (hq.1 l)
 | ret=>exact ⟨_,a₁,w₁,hq.2,.of_steps (.one h0 z7i) harr⟩
 | panic ch=>exact ⟨_,a₁,w₁,hq.2,.of_steps (.one h0 z7i) harr⟩
 | outgrown=>exact ⟨_,a₁,w₁,hq.2,.of_steps (.one h0 z7i) harr⟩
theorem k3a {ro:Option Nat} {m:Nat} {x y:Code} {Q:Exit→Act→World→Prop} {a:Act} {w:World} (h:x.wpIn (Fr ro) m P (fun e a' w'=>e≠.normal∧Q e a' w') a w):(Code.seq x y).wpIn (Fr ro) m P Q a w :=
 wpIn_seq (wpIn_mono h fun e a' w' hq=>by
  cases e with
  | normal=>exact absurd rfl hq.1
  | _=>exact hq.2)
theorem least {p:Nat→Prop} (h:∃ k,p k):∃ m,p m∧∀ j,p j→m≤j:=by
 obtain ⟨k,hk⟩:=h
 induction k using Nat.strongRecOn with
 | _ k ih =>
  by_cases c:∃ j,j<k∧p j
  · obtain ⟨j,h1,h2⟩:=c
    exact ih j h1 h2
  · exact ⟨k,hk,fun j hj=>Nat.le_of_not_lt fun h=>c ⟨j,h,hj⟩⟩
theorem k9g {ro:Option Nat} {m:Nat} {c:Code} {Q:Exit→Act→World→Prop} {a:Act} {w:World} (R:Nat→Act→World→Prop) {k:Nat} (h0:R k a w)
    (round:∀ k a w,R k a w→c.wpIn (Fr ro) m P (Exit.then (fun a' w'=>∃ j,j<k∧R j a' w') Q) a w):(Code.loop c).wpIn (Fr ro) m P Q a w:=by
 classical
 refine wpIn_loop (fun a w=>∃ k,R k a w) (fun a w=>if h:∃ k,R k a w then Classical.choose (least h) else 0) ⟨k,h0⟩ fun a w hI=>?_
 rw [dif_pos hI]
 refine wpIn_mono (round _ a w (Classical.choose_spec (least hI)).1) fun e a' w' hq=>?_
 cases e with
 | normal =>
  obtain ⟨j,hj,hr⟩:=hq
  have h1:∃ k,R k a' w':=⟨j,hr⟩
  refine ⟨h1,?_⟩
  rw [dif_pos h1]
  exact Nat.lt_of_le_of_lt ((Classical.choose_spec (least h1)).2 _ hr) hj
 | _=>exact hq
theorem q7e {n:Nat} {b:Code} {st st':St} {o:Out} {Γ:Ctx} {a:Act} (h:y4x P D B0 Gd n b st o st') (hn:n≤st.objs.length) (hΓ:Γ.objs=st.objs) (hG:Good D B0 Gd Γ) (hS:Slots D Γ st.slots a) (ro:Option Nat) (m:Nat) :
    (Code.loop b).wpIn (Fr ro) m P (x0c D B0 Gd n Γ a.defers o st') a Γ.w:=by
 obtain ⟨k,hk⟩:=h
 refine k9g (R:=fun k a1 w=>∃ st1 Γ1,n≤st1.objs.length∧Γ1.objs=st1.objs∧Γ1.w=w∧Good D B0 Gd Γ1∧Slots D Γ1 st1.slots a1∧TrB D n Γ Γ1∧a1.defers=a.defers∧q5w P D B0 Gd n b o st' k st1)
  ⟨st,Γ,hn,hΓ,rfl,hG,hS,(Tr.refl Γ).toB n,rfl,hk⟩ fun k a1 w hR=>?_
 obtain ⟨st1,Γ1,h1,h2,rfl,h4,h5,h6,h7,h8⟩:=hR
 cases k with
 | zero=>exact h8.elim
 | succ k =>
  refine wpIn_mono (h8 ro m Γ1 a1 h1 h2 h4 h5) fun e a' w' hq=>?_
  rcases hq with ⟨rfl,st2,Γ2,g1,g2,g3,g4,g5,g6,g7,g8⟩ | ⟨hne,hf,Γ',g1,g2,g3,g4,g5,g6⟩
  · exact ⟨k,Nat.lt_succ_self k,st2,Γ2,g1,g2,g3,g4,g5,h6.trans g6 (Nat.le_refl _),g7.trans h7,g8⟩
  · have hb:x0c D B0 Gd n Γ a.defers o st' e a' w':=⟨hf,Γ',g1,g2,g3,g4,h6.trans g5 (Nat.le_refl _),g6.trans h7⟩
    cases e with
    | normal=>exact absurd rfl hne
    | _=>exact hb
section
variable (hT:TabOk P D) (hs:Stable B0 Gd) (hm:P.follows .mixedOrders=true)
include hT hs hm
theorem z8b:∀ (c:Code) (st:St) (os:List Orc) (o:Out) (st':St) (os':List Orc) (ps:List Prop) (Γ:Ctx) (a:Act) (n:Nat) (ro:Option Nat) (m:Nat),path D (sem P D B0 Gd) c st os=some ((o,st'),os',ps)→All ps→Γ.objs=st.objs→Good D B0 Gd Γ→Slots D Γ st.slots a→n≤st.objs.length →
    n≤st'.objs.length∧c.wpIn (Fr ro) m P (x0c D B0 Gd n Γ a.defers o st') a Γ.w
 | .skip,st,os,o,st',os',ps,Γ,a,n,ro,m,h,hp,hΓ,hG,hS,hn=>by
  cases A2 h
  exact ⟨hn,wpIn_skip ⟨rfl,Γ,hΓ,rfl,hG,hS,(Tr.refl Γ).toB n,rfl⟩⟩
 | .region id ops draw,st,os,o,st',os',ps,Γ,a,n,ro,m,h,hp,hΓ,hG,hS,hn=>by
  obtain ⟨s1,os1,p1,b1,os2,q1,h1,h2,e⟩:=bind_some h
  cases e
  obtain ⟨s2,os3,p3,b3,os4,q3,h3,h4,e⟩:=bind_some h2
  cases e
  obtain ⟨s3,os5,p5,b5,os6,q5,h5,h6,e⟩:=bind_some h4
  cases e
  cases A2 h6
  have hp1:=all_append hp
  have hp2:=all_append hp1.2
  have hp3:=(all_append hp2.2).1
  obtain ⟨Γ1,e1,e2,e3,e4,e5,e6⟩:=j2c hs os st s1 os1 p1 Γ h1 hp1.1 hΓ hG hS
  refine ⟨Nat.le_trans hn (Nat.le_trans (y7s h1) (Nat.le_trans (x5f h3) (y7s h5))),?_⟩
  rw [← e2]
  refine q1w hT hs hm h3 hp2.1 e1 e3 e4 fun Γ' a' k1 k2 k3 k4 k5=>?_
  obtain ⟨Γ3,g1,g2,g3,g4,g5,g6⟩:=j2c hs os3 s2 st' _ _ Γ' h5 hp3 k1 k2 k3
  exact ⟨rfl,Γ3,g1,g2,g3,g4,(e5.trans (k4.trans g5)).toB n,k5⟩
 | .seq x y,st,os,o,st',os',ps,Γ,a,n,ro,m,h,hp,hΓ,hG,hS,hn=>by
  obtain ⟨x1,os1,p1,b1,os2,q1,h1,h2,e⟩:=bind_some h
  cases e
  obtain ⟨o1,st1⟩:=x1
  have hp':=all_append hp
  obtain ⟨hn1,hx⟩:=z8b x st os o1 st1 os1 p1 Γ a n ro m h1 hp'.1 hΓ hG hS hn
  cases o1 with
  | norm =>
   simp only at h2
   have hy:∀ Γ1 a1,Γ1.objs=st1.objs→Good D B0 Gd Γ1→Slots D Γ1 st1.slots a1→n≤st'.objs.length∧y.wpIn (Fr ro) m P (x0c D B0 Gd n Γ1 a1.defers o st') a1 Γ1.w :=
    fun Γ1 a1 k1 k2 k3=>z8b y st1 os1 o st' _ q1 Γ1 a1 n ro m h2 hp'.2 k1 k2 k3 hn1
   refine ⟨?_,?_⟩
   · -- the length of what comes behind
     exact Nat.le_trans hn1 (y3a y st1 os1 o st' _ q1 h2)
   · refine wpIn_seq (wpIn_mono hx fun e a1 w1 hq=>?_)
     obtain ⟨rfl,Γ1,k1,rfl,k2,k3,k4,k5⟩:=hq
     rw [← k5]
     exact wpIn_mono (hy Γ1 a1 k1 k2 k3).2 fun e a' w' hb=>hb.after k4 (Nat.le_refl _)
  | exit id =>
   cases A2 h2
   refine ⟨hn1,k3a (wpIn_mono hx fun e a1 w1 hq=>⟨?_,hq⟩)⟩
   obtain ⟨h3,_⟩:=hq
   have h3:e=.exit id:=h3
   rw [h3];simp
  | ret =>
   cases A2 h2
   refine ⟨hn1,k3a (wpIn_mono hx fun e a1 w1 hq=>⟨?_,hq⟩)⟩
   obtain ⟨h3,_⟩:=hq
   have h3:e=.ret:=h3
   rw [h3];simp
 | .cond c x y,st,os,o,st',os',ps,Γ,a,n,ro,m,h,hp,hΓ,hG,hS,hn=>by
  simp only [path] at h
  have hc:=hS.rho c
  generalize rho st.slots c=cv at h hc
  cases cv with
  | c d =>
   cases d with
   | bool t =>
    obtain ⟨t',os1,p1,b1,os2,q1,h1,h2,e⟩:=bind_some h
    cases e
    cases k2d h1
    have hp':=all_append hp
    cases t with
    | true =>
     obtain ⟨g1,g2⟩:=z8b x st _ o st' _ q1 Γ a n ro m h2 hp'.2 hΓ hG hS hn
     exact ⟨g1,wpIn_cond_true (RepA.bool_inv hc) g2⟩
    | false =>
     obtain ⟨g1,g2⟩:=z8b y st _ o st' _ q1 Γ a n ro m h2 hp'.2 hΓ hG hS hn
     exact ⟨g1,wpIn_cond_false (RepA.bool_inv hc) g2⟩
   | _=>cases h
  | _=>cases h
 | .block id b,st,os,o,st',os',ps,Γ,a,n,ro,m,h,hp,hΓ,hG,hS,hn=>by
  obtain ⟨x1,os1,p1,b1,os2,q1,h1,h2,e⟩:=bind_some h
  cases e
  obtain ⟨o1,st1⟩:=x1
  have hp':=all_append hp
  obtain ⟨hn1,hx⟩:=z8b b st os o1 st1 os1 p1 Γ a n ro m h1 hp'.1 hΓ hG hS hn
  cases o1 with
  | norm =>
   cases A2 h2
   refine ⟨hn1,wpIn_block (wpIn_mono hx fun e a1 w1 hq=>?_)⟩
   have h3:e=.normal:=hq.1
   subst h3
   exact hq
  | ret =>
   cases A2 h2
   refine ⟨hn1,wpIn_block (wpIn_mono hx fun e a1 w1 hq=>?_)⟩
   have h3:e=.ret:=hq.1
   subst h3
   exact hq
  | exit id' =>
   simp only at h2
   by_cases hid:id'=id
   · rw [if_pos hid] at h2
     cases A2 h2
     refine ⟨hn1,wpIn_block (wpIn_mono hx fun e a1 w1 hq=>?_)⟩
     have h3:e=.exit id':=hq.1
     subst h3
     simp only [Exit.inBlock,if_pos hid]
     exact ⟨rfl,hq.2⟩
   · rw [if_neg hid] at h2
     cases A2 h2
     refine ⟨hn1,wpIn_block (wpIn_mono hx fun e a1 w1 hq=>?_)⟩
     have h3:e=.exit id':=hq.1
     subst h3
     simp only [Exit.inBlock,if_neg hid]
     exact hq
 | .loop b,st,os,o,st',os',ps,Γ,a,n,ro,m,h,hp,hΓ,hG,hS,hn=>by
  simp only [path] at h
  unfold askL at h
  cases os with
  | nil=>cases h
  | cons x os1 =>
   cases x with
   | loop keep rows o2 st2 =>
    simp only at h
    cases hv:y5r D rows st with
    | none=>rw [hv] at h;cases h
    | some st1 =>
     rw [hv] at h
     simp only at h
     cases hno:norm keep st.objs.length st1 with
     | none=>rw [hno] at h;cases h
     | some st0 =>
      rw [hno] at h
      simp only at h
      split at h
      · rename_i hle
        cases h
        have hok:y4x P D B0 Gd st.objs.length b st0 o st':=by simpa [All,sem] using hp
        obtain ⟨Γ1,m1,m2,m3,m4,m5,m6⟩:=y2g hs rows st st1 Γ hv hΓ hG hS
        obtain ⟨Γ0,g1,g2,g3,g4,g5,g6⟩:=j5i hno m6 m1 m3 m4
        have:=q7e hok g6 g1 g3 g4 ro m
        rw [g2,m2] at this
        refine ⟨by omega,wpIn_mono this fun e a' w' hq=>?_⟩
        exact x0c.after (D:=D) (B0:=B0) (Gd:=Gd) ((m5.toB n).trans g5 hn) hn hq
      · cases h
   | _=>cases h
 | .exit id,st,os,o,st',os',ps,Γ,a,n,ro,m,h,hp,hΓ,hG,hS,hn=>by
  cases A2 h
  exact ⟨hn,wpIn_exit ⟨rfl,Γ,hΓ,rfl,hG,hS,(Tr.refl Γ).toB n,rfl⟩⟩
 | .ret,st,os,o,st',os',ps,Γ,a,n,ro,m,h,hp,hΓ,hG,hS,hn=>by
  cases A2 h
  exact ⟨hn,wpIn_ret ⟨rfl,Γ,hΓ,rfl,hG,hS,(Tr.refl Γ).toB n,rfl⟩⟩
 | .rangeFunc ..,st,os,o,st',os',ps,Γ,a,n,ro,m,h,hp,hΓ,hG,hS,hn=>by cases h
 | .scope b,st,os,o,st',os',ps,Γ,a,n,ro,m,h,hp,hΓ,hG,hS,hn=>by
  obtain ⟨hn1,hx⟩:=z8b b st os o st' os' ps Γ a n ro m h hp hΓ hG hS hn
  refine ⟨hn1,q2k (wpIn_mono hx fun e a1 w1 hq=>⟨fun l h3=>?_,hq⟩)⟩
  subst h3
  have h4:=hq.1
  cases o <;> cases h4
 | .goto _,st,os,o,st',os',ps,Γ,a,n,ro,m,h,hp,hΓ,hG,hS,hn=>by cases h
 | .label _,st,os,o,st',os',ps,Γ,a,n,ro,m,h,hp,hΓ,hG,hS,hn=>by
  cases A2 h
  exact ⟨hn,wpIn_label ⟨rfl,Γ,hΓ,rfl,hG,hS,(Tr.refl Γ).toB n,rfl⟩⟩
end
end Gev
