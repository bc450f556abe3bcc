/- The law of the last text of this claim: its walk, its plain words. -/
import Derived.Test.YtpjlnfpbkhcobaaGreatDoorF
import Derived.KernelRfl
import Derived.Test.YtpjlnfpbkhcobaaGreatDoorTie
import Derived.Test.YtpjlnfpbkhcobaaGreatDoorCards
set_option linter.unusedSectionVars false
set_option linter.unusedVariables false
set_option linter.unusedSimpArgs false
namespace Gev
open Go Go.Proofs
variable {E:Env}
variable {r0 r1 r2 r3 r4 r5 r6 r7 r8 r9 r10 r11 r12 r13 r14 r15 r16 r17:RW} {i0 i1 i2 i3 i4 i5 i6:Int} {s0 s1:BA} {b0:Bool}
section
variable (h1:Fn E y3p [] (.b true))
include h1
theorem z3q (h2:Fn E H5 [.agg [.l r0,.l r1,.l r2]] (.b true))(h3:Fn E V5 [.agg [.l r0,.l r1,.l r2]] (.agg [.l r3,.l r4,.l r5]))(h4:Fn E A9 [.agg [.l r3,.l r4,.l r5]] (.tup [.agg [.l r6,.l r7,.l r8],.i i1]))(h5:Fn E B4 [.agg [.l r0,.l r1,.l r2]] (.tup [.agg [.l r9,.l r10,.l r11],.i i2]))(h6:Fn E P8 [.agg [.l r3,.l r4,.l r5],.i i0] (.tup [.agg [.l r12,.l r13,.l r14],.i i3]))(h7:Fn E y2k [.agg [.l r0,.l r1,.l r2],.i i0] (.tup [.agg [.l r15,.l r16,.l r17],.i i4]))(h8:Fn E z5s [.agg [.l r6,.l r7,.l r8],.agg [.l r9,.l r10,.l r11]] (.b true))(h9:i1=i2)(h10:Fn E G4 [.agg [.l r12,.l r13,.l r14],.agg [.l r15,.l r16,.l r17]] (.b true))(h11:i3=i4):Fn E z8i [.agg [.l r0,.l r1,.l r2],.i i0] (.b true):=fnM (oF h1 (oF h2 (oF h3 (oF h4 (oF h5 (oF h3 (oF h6 (oF h7 (oF h8 (oB (beT h9) (oF h10 (oB (beT h11) oZ))))))))))))
theorem x7x (h2:Fn E H5 [.agg [.l r0,.l r1,.l r2]] (.b false)):Fn E z8i [.agg [.l r0,.l r1,.l r2],.i i0] (.b true):=fnM (oF h1 (oF h2 oZ))
end
theorem v2l (h1:Fn E k1m [] (.agg [.l r0,.l r1,.l r2]))(h2:Fn E x4r [.agg [.l r0,.l r1,.l r2],.i 0,.l r3] (.tup [.s s0,.i i0]))(h3:Fn E y2l [.agg [.l r0,.l r1,.l r2],.i 0,.l r3] (.tup [.s s1,.i i1]))(h4:Fn E z7b [.agg [.l r0,.l r1,.l r2],.l r3] (.tup [.l r4,.i i2]))(h5:Fn E A9 [.agg [.l r0,.l r1,.l r2]] (.tup [.agg [.l r5,.l r6,.l r7],.i i3]))(h6:Fn E P8 [.agg [.l r0,.l r1,.l r2],.i 0] (.tup [.agg [.l r8,.l r9,.l r10],.i i4]))(h7:Fn E I7 [.agg [.l r0,.l r1,.l r2]] (.tup [.i i5,.i i6]))(h8:i0=0)(h9:i1=0)(h10:i2=0)(h11:i3=0)(h12:i4=0)(h13:i6=0)(h14:i5=(-1))(h15:s0=(⟨#[55,53,47,50]⟩:BA))(h16:s1=(⟨#[49,53,47,50]⟩:BA))(h17:Fn E K9 [.l r4,.l r11] (.b true))(h18:(r7.length:Int)=4)(h19:(r6.length:Int)=8)(h20:(r10.length:Int)=1)(h21:Fn E z3a [.agg [.l r8,.l r9,.l r10],.l r3] (.b true))(h22:Fn E z3a [.agg [.l r0,.l r1,.l r2],.l r3] (.b b0))(e1:(([[.i 1,.i 1,.i 2],[.i 2,.i 2,.i 1]]:RW).take 2)=r3)(e2:(([[.i 0]]:RW).take 1)=r11):Fn E y3p [] (.b (!b0)):=by subst e1 e2;exact fnM (oF h1 (oF h2 (oF h1 (oF h3 (oF h1 (oF h4 (oF h1 (oF h5 (oF h1 (oF h6 (oF h1 (oF h7 (oB (beT h8) (oB (beT h9) (oB (beT h10) (oB (beT h11) (oB (beT h12) (oB (beT h13) (oB (beT h14) (oB (seT h15) (oB (seT h16) (oF h17 (oB (beT h18) (oB (beT h19) (oB (beT h20) (oF h21 (oF h1 (oF h22 oZ))))))))))))))))))))))))))))
theorem w1l (e1:(([[.i 1,.i 3,.i 1,.s ⟨#[97]⟩,.s ⟨#[50]⟩,.s ⟨#[49]⟩,.s ⟨#[53]⟩],[.i 2,.i 1,.i 2,.s ⟨#[98]⟩,.s ⟨#[49,47,50]⟩,.s ⟨#[52]⟩,.s ⟨#[49]⟩]]:RW).take 2)=r0)(e2:(([[.i 1,.s ⟨#[65]⟩,.s ⟨#[52]⟩,.s ⟨#[55]⟩,.s ⟨#[49,48]⟩,.s ⟨#[48]⟩,.s ⟨#[49]⟩],[.i 2,.s ⟨#[66]⟩,.s ⟨#[57]⟩,.s ⟨#[51]⟩,.s ⟨#[45,53]⟩,.s ⟨#[48]⟩,.s ⟨#[49]⟩]]:RW).take 2)=r1)(e3:(([[.s ⟨#[49,48]⟩],[.s ⟨#[45,53]⟩]]:RW).take 2)=r2)(e4:(([[.s ⟨#[108,105,115,116]⟩,.i 1,.l r2,.s ⟨#[48]⟩,.s ⟨#[51,48]⟩,.i 0,.i 0],[.s ⟨#[97,112,97,114,116]⟩,.i 2,.l [],.s ⟨#[]⟩,.s ⟨#[]⟩,.i 1,.i 2]]:RW).take 2)=r3):Fn E k1m [] (.agg [.l r0,.l r1,.l r3]):=by subst e1 e2 e3 e4;exact fnM oZ
end Gev
namespace Gev
open Go Gb
variable {E:Env}
attribute [local irreducible] Sz
structure Ln (ps:List Pc) (hs:List Hd) (rs:List Ru):Prop where
 p:ps.length≤9223372036854775807
 h:hs.length≤9223372036854775807
 r:rs.length≤9223372036854775807
theorem Sp.copy {ps:List Pc} {hs:List Hd} {rs:List Ru} (h:Sp ps hs rs):Fn E V5 [.agg (Pb ps hs rs)] (.agg (Pb ps hs rs)):=by
 have n1:=h.sh.np
 have n2:=h.sh.nh
 have n3:=h.nr
 exact u1y (by omega) (by omega) (by omega) fun r hr=>by have:=(h.r r hr).1;omega
end Gev
namespace Gev
open Go Gb
variable {E:Env}
attribute [local irreducible] Sz
theorem k2y {α β:Type} (P:β→Prop) (f:β→α→β) (h:∀ b x,P b→P (f b x)):∀ (l:List α) (b:β),P b→P (l.foldl f b)
 | [],_,hb=>hb
 | x::l,b,hb=>k2y P f h l (f b x) (h b x hb)
def Rok (b:List (List (List UInt8)) × List (List UInt8)):Prop:=b.1.length=b.2.length∧∀ x∈b.1,x.length≤49
theorem u2o (f:Nat→Nat→List UInt8) (np nh:Nat):(rowF f np nh).length=np*nh:=by
 have:∀ l:List Nat,(l.flatMap fun i=>(List.range nh).map (f i)).length=l.length*nh:=by
  intro l
  induction l with
  | nil=>simp
  | cons x l ih=>rw [List.flatMap_cons,List.length_append,ih,List.length_map,List.length_range,List.length_cons,Nat.add_mul];omega
 unfold rowF
 rw [this,List.length_range]
theorem Rok.snoc {b:List (List (List UInt8)) × List (List UInt8)} (h:Rok b) {f:Nat→Nat→List UInt8} {np nh:Nat} (n1:np≤7) (n2:nh≤7) (x:List UInt8):Rok (b.1++[rowF f np nh],b.2++[x]):=by
 refine ⟨by simp [h.1],fun y hy=>?_⟩
 rcases List.mem_append.1 hy with hy | hy
 · exact h.2 y hy
 · rw [List.mem_singleton.1 hy,u2o];exact Nat.mul_le_mul n1 n2
theorem u2m {ps:List Pc} {hs:List Hd} {rs:List Ru} (n1:ps.length≤7) (n2:hs.length≤7):Rok (y0x ps hs rs):=by
 unfold y0x
 refine k2y Rok _ (fun b r h=>?_) rs _ (k2y Rok _ (fun b x h=>h.snoc n1 n2 _) _ _ (k2y Rok _ (fun b x h=>h.snoc n1 n2 _) _ _ (k2y Rok _ (fun b x h=>h.snoc n1 n2 _) _ _ ⟨rfl,fun x h=>by cases h⟩)))
 unfold rlx3
 split
 · split
   · split
     · exact h
     · exact h.snoc n1 n2 _
   · split
     · exact h.snoc n1 n2 _
     · exact Rok.snoc (h.snoc n1 n2 _) n1 n2 _
 · exact h
theorem w5s {ps:List Pc} {hs:List Hd} {rs:List Ru} (n1:ps.length≤7) (n2:hs.length≤7) (h:rlxE ps hs rs=0):(y0x ps hs rs).1.length≤1000∧(y0x ps hs rs).2.length≤1000∧(rlxC ps hs).length≤1000∧∀ x∈(y0x ps hs rs).1,x.length≤1000:=by
 obtain ⟨k1,k2⟩:=u2m (rs:=rs) n1 n2
 have hm:ps.length*hs.length≤7*7:=Nat.mul_le_mul n1 n2
 have hl:(rlxC ps hs).length=ps.length*hs.length:=w7q ps hs.length
 unfold rlxE at h
 split at h
 · split at h
   · cases h
   · rename_i c
     have:¬ (y0x ps hs rs).2.length>12:=fun e=>c (.inr e)
     exact ⟨by omega,by omega,by omega,fun x hx=>by have:=k2 x hx;omega⟩
 · cases h
theorem law_Relaxes (hlib:Lib E) (hc:Cs E) (hA:Fn E y3p [] (.c (.bool true))) {ps:List Pc} {hs:List Hd} {rs:List Ru} {rule:Int} (n:Ln ps hs rs):Fn E z8i [.agg (Pb ps hs rs),.c (.i64 rule)] (.c (.bool true)):=by
 have hF:=u4s (E:=E) n.p n.h n.r
 cases c:fewA ps hs rs with
 | false=>rw [c] at hF;exact x7x hA hF
 | true =>
  rw [c] at hF
  have h:=v7u c
  have n1:=h.sh.np
  have n2:=h.sh.nh
  have n3:=h.nr
  have x1:=x7e hlib h
  have x2:=w8s hlib h
  have x3:=q0j hlib hc (rule:=rule) h
  have x4:=u1z hlib (rule:=rule) h
  have sd:(Fn E G4 [.agg (Pb ps hs (rs.eraseIdx rule.toNat)),.agg (Pb ps hs (rs.eraseIdx rule.toNat))] (.c (.bool true))) :=
   w2l (by omega) (by omega) (by have:=List.length_eraseIdx_le (l:=rs) (i:=rule.toNat);omega) fun r hr=>by have:=(h.r r (List.mem_of_mem_eraseIdx hr)).1;omega
  unfold drV at x3 x4
  by_cases c1:rlxE ps hs rs=0
  · rw [if_pos c1] at x1 x2
    obtain ⟨b1,b2,b3,b4⟩:=w5s (rs:=rs) n1 n2 c1
    have s1:=w2i (E:=E) b1 b2 b3 b4
    by_cases c2:drE ps hs rs rule=0
    · rw [if_pos c2] at x3 x4
      exact z3q hA hF h.copy x1 x2 x3 x4 s1 rfl sd rfl
    · rw [if_neg c2] at x3 x4
      exact z3q hA hF h.copy x1 x2 x3 x4 s1 rfl v6g rfl
  · rw [if_neg c1] at x1 x2
    by_cases c2:drE ps hs rs rule=0
    · rw [if_pos c2] at x3 x4
      exact z3q hA hF h.copy x1 x2 x3 x4 v6d rfl sd rfl
    · rw [if_neg c2] at x3 x4
      exact z3q hA hF h.copy x1 x2 x3 x4 v6d rfl v6g rfl
end Gev
namespace Gev
open Go Gb
theorem Sp.drop {ps:List Pc} {hs:List Hd} {rs:List Ru} (h:Sp ps hs rs) (i:Nat):Sp ps hs (rs.eraseIdx i) :=
 ⟨h.sh,Nat.le_trans ((List.length_eraseIdx_le rs i)) h.nr,fun r hr=>h.r r (List.mem_of_mem_eraseIdx hr)⟩
end Gev
namespace Gev
open Go Gb
variable {E:Env}
end Gev
namespace Gev
open Go Gb
variable {E:Env}
attribute [local irreducible] Sz
end Gev
namespace Gev
open Go Gb Go.Proofs
variable {E:Env}
attribute [local irreducible] Sz
theorem txq {l:List UInt8} {q:Rat} (h:w0w q l=true):decQ q=l:=(j8e.1 h).symm
def psT:List Pc:=[⟨1,3,1,[97],[50],[49],[53]⟩,⟨2,1,2,[98],[49,47,50],[52],[49]⟩]
def hsT:List Hd:=[⟨1,[65],[52],[55],[49,48],[48],[49]⟩,⟨2,[66],[57],[51],[45,53],[48],[49]⟩]
def ruA:Ru:=⟨[108,105,115,116],1,[[49,48],[45,53]],[48],[51,48],0,0⟩
def ruB:Ru:=⟨[97,112,97,114,116],2,[],[],[],1,2⟩
def rsT:List Ru:=[ruA,ruB]
def lT:List Sw:=[⟨1,1,2⟩,⟨2,2,1⟩]
theorem spT:Sp psT hsT rsT:=v7u (by kernel_rfl)
theorem spD:Sp psT hsT [ruB]:=v7u (by kernel_rfl)
theorem slT:Sl lT:=⟨by decide,by decide⟩
theorem t_chkN:chkN psT hsT rsT=-1:=by kernel_rfl
theorem u2v:chkE psT hsT rsT=0:=by kernel_rfl
theorem t_sm:smE psT hsT rsT 0 lT=0:=by kernel_rfl
theorem t_sum:sumS psT hsT (ruAt rsT 0).fs lT=mkRat 75 2:=by kernel_rfl
theorem t_ex:exS (ruAt rsT 0) (sumS psT hsT (ruAt rsT 0).fs lT)=mkRat 15 2:=by kernel_rfl
theorem t_sumT:sumT psT hsT rsT 0 lT=[55,53,47,50]:=by
 unfold sumT;rw [if_pos t_sm,t_sum];exact txq (by kernel_rfl)
theorem t_excT:excT psT hsT rsT 0 lT=[49,53,47,50]:=by
 unfold excT;rw [if_pos t_sm,t_ex];exact txq (by kernel_rfl)
theorem t_br:brR psT hsT rsT lT=[0]:=by kernel_rfl
theorem t_brE:brE psT hsT rsT lT=0:=by kernel_rfl
theorem t_kp:kpB psT hsT rsT lT=false:=by kernel_rfl
theorem t_kpD:kpB psT hsT [ruB] lT=true:=by kernel_rfl
theorem t_rE:rlxE psT hsT rsT=0:=by kernel_rfl
theorem t_rB:(y0x psT hsT rsT).2.length=8:=by kernel_rfl
theorem t_rC:(rlxC psT hsT).length=4:=by kernel_rfl
theorem t_dr:drR rsT ruA.nm=[ruB]:=by kernel_rfl
theorem two_ok:Fn E k1m [] (.agg (Pb psT hsT rsT)):=w1l rfl rfl rfl rfl
theorem w9t (hlib:Lib E) (hc:Cs E):Fn E y3p [] (.c (.bool true)):=by
 have k2:=v0x hlib hc (rule:=0) spT slT
 have k3:=j6s hlib hc (rule:=0) spT slT
 have k4:=j6r hlib hc spT slT
 have k5:=x7e hlib spT
 have k6:=x9q hlib hc (rule:=0) (r:=ruA) spT u2v rfl
 have k7:=z7p hlib spT
 have k8:=x7b hlib hc spD slT
 have k9:=x7b hlib hc spT slT
 have ke:=w8d (E:=E) (a:=[0]) (b:=[0]) (by decide) (by decide)
 rw [t_sumT,t_sm] at k2
 rw [t_excT,t_sm] at k3
 rw [t_br,t_brE] at k4
 rw [if_pos t_rE] at k5
 rw [t_dr] at k6
 rw [t_chkN,u2v] at k7
 rw [t_kpD] at k8
 rw [t_kp] at k9
 exact v2l two_ok k2 k3 k4 k5 k6 k7 rfl rfl rfl rfl rfl rfl rfl rfl rfl ke (by rw [z0p,t_rC];rfl) (by rw [z0p,t_rB];rfl) rfl k8 k9 rfl rfl
end Gev
namespace Gev
open Go Gb Go.Proofs
variable {P:Program}
inductive LK where
 | int | bool | str | slice (e:TypeId)
def v5s (P:Program) (rec:TypeId→Option (List LK)):Nat→List Field→Option (List LK)
 | _,[]=>some []
 | o,f::fs=>match rec f.type,v5s P rec (o+P.cellsOf f.type) fs with
  | some ks,some rs=>if f.offset=o∧P.cellsOf f.type=ks.length then some (ks++rs) else none
  | _,_=>none
def y3i (P:Program):Nat→TypeId→Option (List LK)
 | 0,_=>none
 | n+1,t=>match P.underlying t with
  | some (.int .i64)=>some [.int]
  | some .bool=>some [.bool]
  | some .string=>some [.str]
  | some (.slice e)=>some [.slice e]
  | some (.struct fs)=>match v5s P (y3i P n) 0 fs.toList with
   | some l=>if P.cellsOf t=l.length then some l else none
   | none=>none
  | _=>none
def InI (n:Int):Prop:=-9223372036854775808≤n∧n≤9223372036854775807
def LeL (n:Nat):Prop:=n≤9223372036854775807
inductive L1 (P:Program):LK→DV→Prop
 | int (n:Int) (h:InI n):L1 P .int (.i64 n)
 | bool (b:Bool):L1 P .bool (.bool b)
 | str (l:List UInt8):L1 P .str (.str (B l))
 | slice {e:TypeId} (xs:RW) (h:∀ x∈xs,TyD P e x) (hl:LeL xs.length):L1 P (.slice e) (.list xs)
inductive LOk (P:Program):List LK→List DV→Prop
 | nil:LOk P [] []
 | cons {k:LK} {ks:List LK} {d:DV} {ds:List DV} (h:L1 P k d) (t:LOk P ks ds):LOk P (k::ks) (d::ds)
theorem LOk.append {ks ls:List LK} {ds es:List DV} (h:LOk P ks ds) (g:LOk P ls es):LOk P (ks++ls) (ds++es):=by
 induction h with
 | nil=>exact g
 | cons h _ ih=>exact .cons h ih
theorem LOk.len {ks:List LK} {ds:List DV} (h:LOk P ks ds):ds.length=ks.length:=by
 induction h with
 | nil=>rfl
 | cons h _ ih=>rw [List.length_cons,List.length_cons,ih]
theorem LOk.hd {k:LK} {ks:List LK} {ds:List DV} (h:LOk P (k::ks) ds):∃ d es,ds=d::es∧L1 P k d∧LOk P ks es:=by
 cases h with
 | cons h t=>exact ⟨_,_,rfl,h,t⟩
theorem LOk.e {ds:List DV} (h:LOk P [] ds):ds=[]:=by cases h;rfl
theorem L1.i {d:DV} (h:L1 P .int d):∃ n,d=.i64 n:=by cases h;exact ⟨_,rfl⟩
theorem L1.j {d:DV} (h:L1 P .int d):∃ n,d=.i64 n∧InI n:=by cases h with | int n h=>exact ⟨_,rfl,h⟩
theorem L1.s {d:DV} (h:L1 P .str d):∃ l,d=.str (B l):=by cases h;exact ⟨_,rfl⟩
theorem L1.l {e:TypeId} {d:DV} (h:L1 P (.slice e) d):∃ xs,d=.list xs∧(∀ x∈xs,TyD P e x)∧LeL xs.length:=by cases h with | slice xs h n=>exact ⟨_,rfl,h,n⟩
theorem inI_wf {m:Int} (h:(Lit.int IntKind.i64 m).wf=true):InI m:=by
 unfold Lit.wf at h
 rw [Bool.and_eq_true,decide_eq_true_eq,decide_eq_true_eq] at h
 exact h
theorem v5j {rec:TypeId→Option (List LK)} (ih:∀ t ks ds,rec t=some ks→TyD P t ds→LOk P ks ds):∀ (fs:List Field) (o:Nat) (l:List LK) (ds:List DV),v5s P rec o fs=some l→(∀ f∈fs,TyD P f.type ((ds.drop f.offset).take (P.cellsOf f.type)))→LOk P l ((ds.drop o).take l.length)
 | [],o,l,ds,h,hp=>by cases h;exact .nil
 | f::fs,o,l,ds,h,hp=>by
  unfold v5s at h
  cases h1:rec f.type with
  | none=>rw [h1] at h;cases h
  | some ks =>
   cases h2:v5s P rec (o+P.cellsOf f.type) fs with
   | none=>rw [h1,h2] at h;cases h
   | some rs =>
    rw [h1,h2] at h
    simp only at h
    split at h
    · rename_i hc
      cases h
      have a1:=ih _ _ _ h1 (hp f (by simp))
      have a2:=v5j ih fs _ rs ds h2 fun g hg=>hp g (List.mem_cons_of_mem _ hg)
      rw [hc.1,hc.2] at a1
      rw [hc.2] at a2
      rw [List.length_append,List.take_add,List.drop_drop]
      exact a1.append a2
    · cases h
theorem y5i:∀ (n:Nat) (t:TypeId) (ks:List LK) (ds:List DV),y3i P n t=some ks→TyD P t ds→LOk P ks ds
 | 0,t,ks,ds,h,hd=>by cases h
 | n+1,t,ks,ds,h,hd=>by
  unfold y3i at h
  cases hd with
  | int m hu hw =>
   rename_i k
   rw [hu] at h
   cases k <;> first | (cases h;exact .cons (.int m (inI_wf hw)) .nil) | cases h
  | bool b hu=>rw [hu] at h;cases h;exact .cons (.bool b) .nil
  | str s hu=>rw [hu] at h;cases h;rw [← B_of s];exact .cons (.str _) .nil
  | slice xs hu hx hl=>rw [hu] at h;cases h;exact .cons (.slice xs hx hl) .nil
  | struct ds hu hl hp =>
   rw [hu] at h
   simp only at h
   rename_i fs
   cases h2:v5s P (y3i P n) 0 fs.toList with
   | none=>rw [h2] at h;cases h
   | some l =>
    rw [h2] at h
    simp only at h
    split at h
    · rename_i hc
      cases h
      have:=v5j (y5i n) fs.toList 0 _ ds h2 hp
      rw [List.drop_zero,← hc,← hl,List.take_length] at this
      exact this
    · cases h
theorem j6q {α:Type} {p:List DV→Prop} {f:α→List DV} (h:∀ x,p x→∃ a,x=f a):∀ xs:RW,(∀ x∈xs,p x)→∃ l:List α,xs=l.map f
 | [],_=>⟨[],rfl⟩
 | x::xs,hx=>by
  obtain ⟨l,rfl⟩:=j6q h xs fun y hy=>hx y (List.mem_cons_of_mem _ hy)
  obtain ⟨a,rfl⟩:=h x (hx x (by simp))
  exact ⟨a::l,rfl⟩
theorem u_R1 {e:TypeId} {n:Nat} (h:y3i P n e=some [.str]) {xs:RW} (hx:∀ x∈xs,TyD P e x):∃ l,xs=R1 l :=
 j6q (fun x k=>by
  have:=y5i _ _ _ _ h k
  match x,this with
  | _,.cons (.str l) .nil=>exact ⟨l,rfl⟩) xs hx
theorem u_Ps {e:TypeId} {n:Nat} (h:y3i P n e=some [.int,.int,.int,.str,.str,.str,.str]) {xs:RW} (hx:∀ x∈xs,TyD P e x):∃ l,xs=Ps l :=
 j6q (fun x k=>by
  obtain ⟨_,_,rfl,z1,t⟩:=(y5i _ _ _ _ h k).hd
  obtain ⟨_,_,rfl,z2,t⟩:=t.hd
  obtain ⟨_,_,rfl,z3,t⟩:=t.hd
  obtain ⟨_,_,rfl,z4,t⟩:=t.hd
  obtain ⟨_,_,rfl,z5,t⟩:=t.hd
  obtain ⟨_,_,rfl,z6,t⟩:=t.hd
  obtain ⟨_,_,rfl,z7,t⟩:=t.hd
  cases t.e
  obtain ⟨a,rfl⟩:=z1.i
  obtain ⟨b,rfl⟩:=z2.i
  obtain ⟨c,rfl⟩:=z3.i
  obtain ⟨d,rfl⟩:=z4.s
  obtain ⟨e,rfl⟩:=z5.s
  obtain ⟨f,rfl⟩:=z6.s
  obtain ⟨g,rfl⟩:=z7.s
  exact ⟨⟨a,b,c,d,e,f,g⟩,rfl⟩) xs hx
theorem u_Hs {e:TypeId} {n:Nat} (h:y3i P n e=some [.int,.str,.str,.str,.str,.str,.str]) {xs:RW} (hx:∀ x∈xs,TyD P e x):∃ l,xs=Hs l :=
 j6q (fun x k=>by
  obtain ⟨_,_,rfl,z1,t⟩:=(y5i _ _ _ _ h k).hd
  obtain ⟨_,_,rfl,z2,t⟩:=t.hd
  obtain ⟨_,_,rfl,z3,t⟩:=t.hd
  obtain ⟨_,_,rfl,z4,t⟩:=t.hd
  obtain ⟨_,_,rfl,z5,t⟩:=t.hd
  obtain ⟨_,_,rfl,z6,t⟩:=t.hd
  obtain ⟨_,_,rfl,z7,t⟩:=t.hd
  cases t.e
  obtain ⟨a,rfl⟩:=z1.i
  obtain ⟨b,rfl⟩:=z2.s
  obtain ⟨c,rfl⟩:=z3.s
  obtain ⟨d,rfl⟩:=z4.s
  obtain ⟨e,rfl⟩:=z5.s
  obtain ⟨f,rfl⟩:=z6.s
  obtain ⟨g,rfl⟩:=z7.s
  exact ⟨⟨a,b,c,d,e,f,g⟩,rfl⟩) xs hx
theorem u_Rs {e q:TypeId} {n:Nat} (h:y3i P n e=some [.str,.int,.slice q,.str,.str,.int,.int]) (hq:y3i P n q=some [.str]) {xs:RW} (hx:∀ x∈xs,TyD P e x):∃ l,xs=Rs l :=
 j6q (fun x k=>by
  obtain ⟨_,_,rfl,z1,t⟩:=(y5i _ _ _ _ h k).hd
  obtain ⟨_,_,rfl,z2,t⟩:=t.hd
  obtain ⟨_,_,rfl,z3,t⟩:=t.hd
  obtain ⟨_,_,rfl,z4,t⟩:=t.hd
  obtain ⟨_,_,rfl,z5,t⟩:=t.hd
  obtain ⟨_,_,rfl,z6,t⟩:=t.hd
  obtain ⟨_,_,rfl,z7,t⟩:=t.hd
  cases t.e
  obtain ⟨a,rfl⟩:=z1.s
  obtain ⟨b,rfl⟩:=z2.i
  obtain ⟨c,rfl,hc,_⟩:=z3.l
  obtain ⟨d,rfl⟩:=z4.s
  obtain ⟨e,rfl⟩:=z5.s
  obtain ⟨f,rfl⟩:=z6.i
  obtain ⟨g,rfl⟩:=z7.i
  obtain ⟨c,rfl⟩:=u_R1 hq hc
  exact ⟨⟨a,b,c,d,e,f,g⟩,rfl⟩) xs hx
theorem u_Pb {t p h r q:TypeId} {n:Nat} (ht:y3i P n t=some [.slice p,.slice h,.slice r]) (hp:y3i P n p=some [.int,.int,.int,.str,.str,.str,.str]) (hh:y3i P n h=some [.int,.str,.str,.str,.str,.str,.str]) (hr:y3i P n r=some [.str,.int,.slice q,.str,.str,.int,.int]) (hq:y3i P n q=some [.str]) {a:AV} (ha:AvOf P t a) :
    ∃ ps hs rs,a=.agg (Pb ps hs rs)∧Ln ps hs rs:=by
 cases ha with
 | agg hu hd =>
  obtain ⟨_,_,rfl,z1,t⟩:=(y5i _ _ _ _ ht hd).hd
  obtain ⟨_,_,rfl,z2,t⟩:=t.hd
  obtain ⟨_,_,rfl,z3,t⟩:=t.hd
  cases t.e
  obtain ⟨a,rfl,ha,na⟩:=z1.l
  obtain ⟨b,rfl,hb,nb⟩:=z2.l
  obtain ⟨c,rfl,hc,nc⟩:=z3.l
  obtain ⟨ps,rfl⟩:=u_Ps hp ha
  obtain ⟨hs,rfl⟩:=u_Hs hh hb
  obtain ⟨rs,rfl⟩:=u_Rs hr hq hc
  rw [z0z] at na
  rw [Z7] at nb
  rw [z5m] at nc
  exact ⟨ps,hs,rs,rfl,⟨na,nb,nc⟩⟩
 | one hd=>have:=(y5i _ _ _ _ ht hd).len;cases this
theorem u_Int {t:TypeId} {n:Nat} (ht:y3i P n t=some [.int]) {a:AV} (ha:AvOf P t a) (hu:P.underlying t=some (.int .i64)):∃ z,a=.c (.i64 z)∧-9223372036854775808≤z∧z≤9223372036854775807:=by
 cases ha with
 | agg h _=>rw [hu] at h;cases h
 | one hd =>
  have:=y5i _ _ _ _ ht hd
  cases this with
  | cons h t=>cases t;cases h with
  | int z hz=>exact ⟨z,rfl,hz⟩
end Gev
namespace Gev
open Go Gb Go.Proofs
variable {E:Env}
theorem cs_ok:Cs E where
 sw l hl:=by
  have h:=x6w (E:=E) (f:=z6u) (T:=F7) (k:=3) (P5 (by kernel_rfl)) (by kernel_rfl) w4s q7e (Ss l) (fun x hx=>by obtain ⟨m,_,rfl⟩:=List.mem_map.1 hx;rfl) (by rw [k1t];omega)
  rw [k1t] at h;exact h
 pc l hl:=by
  have h:=x6w (E:=E) (f:=z5f) (T:=x7m) (k:=7) (P5 (by kernel_rfl)) (by kernel_rfl) v7h j8c (Ps l) (fun x hx=>by obtain ⟨m,_,rfl⟩:=List.mem_map.1 hx;rfl) (by rw [z0z];omega)
  rw [z0z] at h;exact h
 hd l hl:=by
  have h:=x6w (E:=E) (f:=z6s) (T:=j0d) (k:=7) (P5 (by kernel_rfl)) (by kernel_rfl) w4q q7c (Hs l) (fun x hx=>by obtain ⟨m,_,rfl⟩:=List.mem_map.1 hx;rfl) (by rw [Z7];omega)
  rw [Z7] at h;exact h
 ru l hl:=by
  have h:=x6w (E:=E) (f:=z6t) (T:=C7) (k:=7) (P5 (by kernel_rfl)) (by kernel_rfl) w4r q7d (Rs l) (fun x hx=>by obtain ⟨m,_,rfl⟩:=List.mem_map.1 hx;rfl) (by rw [z5m];omega)
  rw [z5m] at h;exact h
 ra l hl:=by
  have h:=x6w (E:=E) (f:=z8l) (T:=A0) (k:=1) (P5 (by kernel_rfl)) (by kernel_rfl) w8a v2a (R1 l) (fun x hx=>by obtain ⟨m,_,rfl⟩:=List.mem_map.1 hx;rfl) (by rw [z0p];omega)
  rw [z0p] at h;exact h
theorem cs0:Cs E0:=cs_ok
theorem awake0:Fn E0 y3p [] (.c (.bool true)):=w9t lib0 cs0
end Gev
