/- A part of the proof: see the last text of this claim. -/
import Derived.Test.YtfjcadbekkfddaaGreatDoorC
set_option linter.unusedSectionVars false
set_option linter.unusedVariables false
set_option linter.unusedSimpArgs false
namespace Gev
open Go Gb
variable {E:Env}
structure Dv (u v:List Int) (lu k j:Nat):Prop where
 hu:Wd u
 hv:Wd v
 elu:u.length=lu
 elv:v.length=k
 two:2≤k
 norm:1000000000≤2*v.getD (k-1) 0
 jk:j+k<lu
 small:lu<35184372088832
 low:wv (u.drop (j+1))<wv v
theorem Dv.vk {u v:List Int} {lu k j:Nat} (h:Dv u v lu k j):wv v<pw k:=by have:=z7y h.hv;rwa [h.elv] at this
theorem Dv.zero {u v:List Int} {lu k j:Nat} (h:Dv u v lu k j):wv (u.drop (j+k+1))=0:=v0r h.hu (Int.lt_trans h.low h.vk)
theorem Dv.vpos {u v:List Int} {lu k j:Nat} (h:Dv u v lu k j):0<wv v:=by
 have e:=x1t h.elv h.two
 have h1:=C6 (h.hv.take (k-2))
 have h2:=h.hv.getD (k-2)
 have h3:=h.norm
 have:0<(v.getD (k-1) 0*1000000000+v.getD (k-2) 0)*pw (k-2):=Int.mul_pos (by omega) (z0f _)
 omega
theorem q7z {m w1 w3 w4:RW} {lq lu k j:Nat} {u v:List Int} (D:Dv u v lu k j) (hw3:∀ i:Nat,i<k→w3[i]?=some [.u32 (v.getD i 0)]) :
    ∀ (t:Nat) (g rest:Int),0≤g→g<t→g≤1000000001→0≤rest∧rest<1000000000→g*v.getD (k-1) 0+rest=u.getD (j+k) 0*1000000000+u.getD (j+k-1) 0→wv (u.drop j)<(g+1)*wv v→(g=1000000001→rest+v.getD (k-1) 0<1000000000) →
    ∃ g',Lp E 5 A4 1 (G5 m lu k k lq j g rest w1 (Wr u) w3 w4) (.exit 3) (J7 m lu k k lq j w1 (Wr u) w3 w4 g')∧(0≤g'∧g'<1000000000)∧wv (u.drop j)<(g'+1)*wv v∧(g'-1)*wv v≤wv (u.drop j)
 | 0,g,rest,h0,ht,_,_,_,_,_=>by omega
 | t+1,g,rest,h0,ht,hg,hr,he,hX,hbig=>by
  have h2:=D.two
  have hjk:=D.jk
  have hsm:=D.small
  have hlu:=D.elu
  have a1:=D.hv.getD (k-1)
  have a2:=D.hv.getD (k-2)
  have b2:=D.hu.getD (j+k-2)
  have b1:=D.hu.getD (j+k-1)
  have b0:=D.hu.getD (j+k)
  have hnorm:=D.norm
  have eV:=x1t D.elv D.two
  have eX:=y8v (u:=u) (j:=j) (k:=k) D.two (by omega) D.zero
  have vl0:=C6 (D.hv.take (k-2))
  have vl1:=D.hv.val_take_lt (k-2) (by have:=D.elv;omega)
  have xl0:=C6 ((D.hu.drop j).take (k-2))
  have xl1:=(D.hu.drop j).val_take_lt (k-2) (by simp;omega)
  have hP:=z0f (k-2)
  have gk1:w3[Int.toNat ((k:Int)-1)]?=some [.u32 (v.getD (k-1) 0)]:=by
   rw [show Int.toNat ((k:Int)-1)=k-1 by omega];exact hw3 _ (by omega)
  have gk2:w3[Int.toNat ((k:Int)-2)]?=some [.u32 (v.getD (k-2) 0)]:=by
   rw [show Int.toNat ((k:Int)-2)=k-2 by omega];exact hw3 _ (by omega)
  have gu:(Wr u)[Int.toNat ((j:Int)+k-2)]?=some [.u32 (u.getD (j+k-2) 0)]:=by
   rw [show Int.toNat ((j:Int)+k-2)=j+k-2 by omega];exact F0 (by omega)
  obtain ⟨v1,e1⟩:∃ x,x=v.getD (k-1) 0:=⟨_,rfl⟩
  obtain ⟨v2,e2⟩:∃ x,x=v.getD (k-2) 0:=⟨_,rfl⟩
  obtain ⟨u2,e3⟩:∃ x,x=u.getD (j+k-2) 0:=⟨_,rfl⟩
  obtain ⟨top,e4⟩:∃ x,x=u.getD (j+k) 0*1000000000+u.getD (j+k-1) 0:=⟨_,rfl⟩
  rw [← e1] at a1 hnorm eV gk1 he hbig
  rw [← e2] at a2 eV gk2
  rw [← e3] at b2 eX gu
  rw [← e4] at eX he
  have hg2:0≤g*v2∧g*v2≤1000000001*999999999:=by
   constructor
   · exact Int.mul_nonneg h0 a2.1
   · exact Int.mul_le_mul hg (by omega) a2.1 (by decide)
  have down:1≤g→wv (u.drop j)<g*wv v→(g=1000000001→rest+v1<1000000000) →
      (¬ rest+v1≥1000000000→∃ g',Lp E 5 A4 1 (G5 m lu k k lq j (g-1) (rest+v1) w1 (Wr u) w3 w4) (.exit 3) (J7 m lu k k lq j w1 (Wr u) w3 w4 g')∧(0≤g'∧g'<1000000000)∧wv (u.drop j)<(g'+1)*wv v∧(g'-1)*wv v≤wv (u.drop j)) ∧
      (rest+v1≥1000000000→(0≤g-1∧g-1<1000000000)∧wv (u.drop j)<(g-1+1)*wv v∧(g-1-1)*wv v≤wv (u.drop j)):=by
   intro hg1 hlt hb
   have hmul:(g-1)*v1+(rest+v1)=top:=by
    have:(g-1)*v1=g*v1-v1:=by grind
    omega
   refine ⟨fun hc=>?_,fun hc=>?_⟩
   · refine q7z D hw3 t (g-1) (rest+v1) (by omega) (by omega) (by omega) (by omega) ?_ (by rw [show g-1+1=g by omega];exact hlt) (fun h=>by omega)
     rw [← e1,← e4];exact hmul
   · have hgB:g-1<1000000000:=by
      rcases Int.lt_or_le (g-1) 1000000000 with h | h
      · exact h
      · have:=hb (by omega);omega
     refine ⟨⟨by omega,hgB⟩,by rw [show g-1+1=g by omega];exact hlt,?_⟩
     refine x2m hP ⟨vl0,vl1⟩ xl0 eV eX hmul ⟨by omega,hgB⟩ ?_ hnorm a2.1
     have h5:(g-1)*v2≤999999999*999999999:=Int.mul_le_mul (by omega) (by omega) a2.1 (by decide)
     omega
  by_cases c1:g≥1000000000
  · have hlt:wv (u.drop j)<g*wv v:=by
     have h6:=N8 u j (by omega)
     have h7:=D.hu.getD j
     have h8:=D.low
     have h9:1000000000*wv v≤g*wv v:=Int.mul_le_mul_of_nonneg_right c1 (by have:=D.vpos;omega)
     omega
    obtain ⟨d1,d2⟩:=down (by omega) hlt hbig
    by_cases c2:rest+v1≥1000000000
    · obtain ⟨d3,d4,d5⟩:=d2 c2
      exact ⟨g-1,y5t (i6:=(k:Int)-1) (i7:=v1) (i8:=v1) (i9:=rest+v1) (wu (by omega)) (wi (by omega)) (wu (by omega)) (wu (by omega)) c1 (by omega) gk1 c2,d3,d4,d5⟩
    · obtain ⟨g',d3,d4⟩:=d1 c2
      exact ⟨g',y7z (i6:=(k:Int)-1) (i7:=v1) (i8:=v1) (wu (by omega)) (wi (by omega)) (wu (by omega)) (wu (by omega)) c1 (by omega) gk1 c2 d3,d4⟩
  · by_cases c3:g*v2>rest*1000000000+u2
    · have hlt:=q1g hP vl0 xl1 eV eX he h0 c3
      have hg1:1≤g:=by
       rcases Int.lt_or_le g 1 with h | h
       · have:g=0:=by omega
         subst this
         rw [Int.zero_mul] at c3
         omega
       · exact h
      obtain ⟨d1,d2⟩:=down hg1 hlt hbig
      by_cases c2:rest+v1≥1000000000
      · obtain ⟨d3,d4,d5⟩:=d2 c2
        exact ⟨g-1,y5u (i5:=(k:Int)-2) (i6:=v2) (i7:=v2) (i8:=g*v2) (i9:=rest*1000000000) (i10:=(j:Int)+k) (i11:=(j:Int)+k-2) (i12:=u2) (i13:=u2) (i14:=rest*1000000000+u2) (i16:=(k:Int)-1) (i17:=v1) (i18:=v1) (i19:=rest+v1)
         (wi (by omega)) (wu (by omega)) (wu (by omega)) (wu (by omega)) (wi (by omega)) (wi (by omega)) (wu (by omega)) (wu (by omega)) (wu (by omega)) (wi (by omega)) (wu (by omega)) (wu (by omega)) c1 (by omega) gk2 (by omega) gu c3 (by omega) gk1 c2,d3,d4,d5⟩
      · obtain ⟨g',d3,d4⟩:=d1 c2
        exact ⟨g',y8a (i5:=(k:Int)-2) (i6:=v2) (i7:=v2) (i8:=g*v2) (i9:=rest*1000000000) (i10:=(j:Int)+k) (i11:=(j:Int)+k-2) (i12:=u2) (i13:=u2) (i14:=rest*1000000000+u2) (i16:=(k:Int)-1) (i17:=v1) (i18:=v1)
         (wi (by omega)) (wu (by omega)) (wu (by omega)) (wu (by omega)) (wi (by omega)) (wi (by omega)) (wu (by omega)) (wu (by omega)) (wu (by omega)) (wi (by omega)) (wu (by omega)) (wu (by omega)) c1 (by omega) gk2 (by omega) gu c3 (by omega) gk1 c2 d3,d4⟩
    · refine ⟨g,y5v (i5:=(k:Int)-2) (i6:=v2) (i7:=v2) (i8:=g*v2) (i9:=rest*1000000000) (i10:=(j:Int)+k) (i11:=(j:Int)+k-2) (i12:=u2) (i13:=u2) (i14:=rest*1000000000+u2)
          (wi (by omega)) (wu (by omega)) (wu (by omega)) (wu (by omega)) (wi (by omega)) (wi (by omega)) (wu (by omega)) (wu (by omega)) c1 (by omega) gk2 (by omega) gu c3,⟨h0,by omega⟩,hX,?_⟩
      exact x2m hP ⟨vl0,vl1⟩ xl0 eV eX he ⟨h0,by omega⟩ (by omega) hnorm a2.1
theorem v8t {m w1 w3 w4:RW} {lq lu k j:Nat} {u v:List Int} (D:Dv u v lu k j) (hw3:∀ i:Nat,i<k→w3[i]?=some [.u32 (v.getD i 0)]) {g:Int} (hg:0≤g∧g<1000000000) :
    ∀ d i c b u',i+d=k→0≤c∧c<1000000000→b=0∨b=1→Wd u'→u'.length=lu→(∀ n,n<j∨j+i≤n→u'.getD n 0=u.getD n 0)→wv u'=wv u-pw j*(g*wv (v.take i))+pw j*pw i*(c+b) →
    ∃ c' b' u'',Lp E 5 A4 2 (G6 m lu k k lq j g c b k i w1 (Wr u') w3 w4) (.exit 5) (P6 m lu k k lq j g w1 w3 w4 c' b' (Wr u''))∧(0≤c'∧c'<1000000000)∧(b'=0∨b'=1)∧Wd u''∧u''.length=lu∧(∀ n,n<j∨j+k≤n→u''.getD n 0=u.getD n 0)∧wv u''=wv u-pw j*(g*wv v)+pw j*pw k*(c'+b')
 | 0,i,c,b,u',hi,hc,hb,hw,hl,hn,hv=>by
  have:i=k:=by omega
  subst this
  have:=D.elv
  rw [List.take_of_length_le (by omega)] at hv
  exact ⟨c,b,u',y5w (by omega),hc,hb,hw,hl,hn,hv⟩
 | d+1,i,c,b,u',hi,hc,hb,hw,hl,hn,hv=>by
  have hjk:=D.jk
  have hsm:=D.small
  have a0:=D.hv.getD i
  have b0:=hw.getD (i+j)
  have gk:w3[Int.toNat (i:Int)]?=some [.u32 (v.getD i 0)]:=hw3 i (by omega)
  have gu:(Wr u')[Int.toNat ((i+j:Nat):Int)]?=some [.u32 (u'.getD (i+j) 0)]:=F0 (by omega)
  have et:=Z2 v i (by have:=D.elv;omega)
  have es:=z9n u' (i+j) (by omega)
  obtain ⟨x,ex⟩:∃ x,x=v.getD i 0:=⟨_,rfl⟩
  obtain ⟨w,ew⟩:∃ w,w=u'.getD (i+j) 0:=⟨_,rfl⟩
  rw [← ex] at a0 gk et
  rw [← ew] at b0 gu es
  have hgx:0≤g*x∧g*x≤999999998000000001:=x9k hg a0
  obtain ⟨S,eS⟩:∃ S,S=g*x+c:=⟨_,rfl⟩
  have hS:0≤S∧S≤999999999000000000:=by omega
  obtain ⟨dd,ed⟩:∃ dd,dd=w-S % 1000000000-b:=⟨_,rfl⟩
  have key:∀ b' d',d'=dd+1000000000*b'→0≤d'∧d'<1000000000→(b'=0∨b'=1) →
      (∀ {c2:Int} {st:St},Lp E 5 A4 2 (G6 m lu k k lq j g (S / 1000000000) b' k ((i+1:Nat):Int) w1 (Wr (u'.set (i+j) d')) w3 w4) (.exit 5) st→Lp E 5 A4 2 (G6 m lu k k lq j g c b k i w1 (Wr u') w3 w4) (.exit 5) st) →
      ∃ c' b' u'',Lp E 5 A4 2 (G6 m lu k k lq j g c b k i w1 (Wr u') w3 w4) (.exit 5) (P6 m lu k k lq j g w1 w3 w4 c' b' (Wr u''))∧(0≤c'∧c'<1000000000)∧(b'=0∨b'=1)∧Wd u''∧u''.length=lu∧(∀ n,n<j∨j+k≤n→u''.getD n 0=u.getD n 0)∧wv u''=wv u-pw j*(g*wv v)+pw j*pw k*(c'+b'):=by
   intro b' d' hd' hd0 hb' hstep
   obtain ⟨c2,b2,u2,k1,k2⟩:=v8t D hw3 hg d (i+1) (S / 1000000000) b' (u'.set (i+j) d') (by omega) (by omega) hb' (hw.set _ hd0.1 hd0.2) (by simpa using hl)
    (fun n h=>by rw [J0 (by omega)];exact hn n (by omega)) (by
     rw [es d',et,z2z,show i+j=j+i by omega,y0b]
     have:=v0g hv eS (Int.emod_add_mul_ediv S 1000000000) ed hd'
     rw [this];grind)
   exact ⟨c2,b2,u2,hstep (c2:=0) k1,k2⟩
  by_cases c1:dd<0
  · refine key 1 (dd+1000000000) (by omega) (by omega) (.inr rfl) fun k1=>?_
    exact y8b (i9:=g) (i10:=x) (i11:=x) (i12:=g*x) (i13:=S) (i14:=S / 1000000000) (i15:=((i+j:Nat):Int)) (i16:=w) (i17:=w) (i18:=S % 1000000000) (i19:=w-S % 1000000000) (i20:=dd) (i21:=dd+1000000000) (i22:=dd+1000000000) (r6:=Wr (u'.set (i+j) (dd+1000000000))) (i23:=((i+1:Nat):Int))
     (wi (by omega)) (wi (by omega)) (wi (by omega)) (wi (by omega)) (wi ⟨tdv hS.1 rfl,by omega,by omega⟩) (wi (by omega)) (wi (by omega)) (tmd hS.1 rfl) (wi (by omega)) (wi (by omega)) (wi (by omega)) (w32 (by omega)) (by rw [Int.toNat_natCast,z3w]) (wi (by omega))
     (by omega) (by omega) gk (by omega) gu c1 k1
  · refine key 0 dd (by omega) (by omega) (.inl rfl) fun k1=>?_
    exact y8c (i9:=g) (i10:=x) (i11:=x) (i12:=g*x) (i13:=S) (i14:=S / 1000000000) (i15:=((i+j:Nat):Int)) (i16:=w) (i17:=w) (i18:=S % 1000000000) (i19:=w-S % 1000000000) (i20:=dd) (i21:=dd) (r7:=Wr (u'.set (i+j) dd)) (i24:=((i+1:Nat):Int))
     (wi (by omega)) (wi (by omega)) (wi (by omega)) (wi (by omega)) (wi ⟨tdv hS.1 rfl,by omega,by omega⟩) (wi (by omega)) (wi (by omega)) (tmd hS.1 rfl) (wi (by omega)) (wi (by omega)) (w32 (by omega)) (by rw [Int.toNat_natCast,z3w]) (wi (by omega))
     (by omega) (by omega) gk (by omega) gu c1 k1
theorem v8r {m w1 w3 w4:RW} {lq lu k j:Nat} {u v:List Int} (D:Dv u v lu k j) (hw3:∀ i:Nat,i<k→w3[i]?=some [.u32 (v.getD i 0)]) {g last:Int} {u1:List Int} :
    ∀ d i up u',i+d=k→0≤up∧up≤1→Wd u'→u'.length=lu→(∀ n,n<j∨j+i≤n→u'.getD n 0=u1.getD n 0)→wv u'=wv u1+pw j*wv (v.take i)-pw j*pw i*up →
    ∃ up' u'',Lp E 5 A4 3 (X1 m lu k k lq j g last up k i w1 (Wr u') w3 w4) (.exit 7) (z3l m lu k k lq j g last w1 w3 w4 up' (Wr u''))∧(0≤up'∧up'≤1)∧Wd u''∧u''.length=lu∧(∀ n,n<j∨j+k≤n→u''.getD n 0=u1.getD n 0)∧wv u''=wv u1+pw j*wv v-pw j*pw k*up'
 | 0,i,up,u',hi,hc,hw,hl,hn,hv=>by
  have:i=k:=by omega
  subst this
  have:=D.elv
  rw [List.take_of_length_le (by omega)] at hv
  exact ⟨up,u',y5x (by omega),hc,hw,hl,hn,hv⟩
 | d+1,i,up,u',hi,hc,hw,hl,hn,hv=>by
  have hjk:=D.jk
  have hsm:=D.small
  have a0:=D.hv.getD i
  have b0:=hw.getD (i+j)
  have gk:w3[Int.toNat (i:Int)]?=some [.u32 (v.getD i 0)]:=hw3 i (by omega)
  have gu:(Wr u')[Int.toNat ((i+j:Nat):Int)]?=some [.u32 (u'.getD (i+j) 0)]:=F0 (by omega)
  have et:=Z2 v i (by have:=D.elv;omega)
  have es:=z9n u' (i+j) (by omega)
  obtain ⟨x,ex⟩:∃ x,x=v.getD i 0:=⟨_,rfl⟩
  obtain ⟨w,ew⟩:∃ w,w=u'.getD (i+j) 0:=⟨_,rfl⟩
  rw [← ex] at a0 gk et
  rw [← ew] at b0 gu es
  obtain ⟨S,eS⟩:∃ S,S=up+(w+x):=⟨_,rfl⟩
  have hS:0≤S∧S≤1999999999:=by omega
  obtain ⟨up2,u2,k1,k2⟩:=v8r (g:=g) (last:=last) D hw3 (u1:=u1) d (i+1) (S / 1000000000) (u'.set (i+j) (S % 1000000000)) (by omega) (by omega) (hw.set _ (by omega) (by omega)) (by simpa using hl)
   (fun n h=>by rw [J0 (by omega)];exact hn n (by omega)) (by
    rw [es,et,z2z,show i+j=j+i by omega,y0b]
    have:=q6t hv eS (Int.emod_add_mul_ediv S 1000000000)
    rw [this];grind)
  refine ⟨up2,u2,?_,k2⟩
  exact y8d (i8:=((i+j:Nat):Int)) (i9:=w) (i10:=w) (i11:=x) (i12:=x) (i13:=w+x) (i14:=S) (i15:=S % 1000000000) (i16:=S % 1000000000) (r6:=Wr (u'.set (i+j) (S % 1000000000))) (i17:=S / 1000000000) (i18:=((i+1:Nat):Int))
   (wi (by omega)) (wu (by omega)) (wu (by omega)) (wu (by omega)) (wu (by omega)) (tmd hS.1 rfl) (w32 (by omega)) (by rw [Int.toNat_natCast,z3w]) (wu ⟨tdv hS.1 rfl,by omega,by omega⟩) (wi (by omega))
   (by omega) (by omega) gu (by omega) gk k1
theorem w3o {xs ys:List Int} (hl:xs.length=ys.length) (j:Nat) (h:∀ n,n<j→xs.getD n 0=ys.getD n 0):xs.take j=ys.take j:=by
 induction j with
 | zero=>simp
 | succ j ih =>
  rcases Nat.lt_or_ge j xs.length with hj | hj
  · rw [x9t xs j hj,x9t ys j (by omega),ih (fun n hn=>h n (by omega)),h j (by omega)]
  · rw [List.take_of_length_le (by omega),List.take_of_length_le (by omega)]
    rw [List.take_of_length_le hj,List.take_of_length_le (by omega)] at ih
    exact ih fun n hn=>h n (by omega)
theorem v1k {p a b:Int} (hp:0<p) (h:p*a=p*b):a=b:=Int.eq_of_mul_eq_mul_left (by omega) h
theorem y4b {xs ys:List Int} (hl:xs.length=ys.length) {j:Nat} (hj:j≤xs.length) (h:∀ n,n<j→xs.getD n 0=ys.getD n 0) {T:Int} (hv:wv xs=wv ys-pw j*T):wv (xs.drop j)=wv (ys.drop j)-T:=by
 have e1:=F9 xs j hj
 have e2:=F9 ys j (by omega)
 rw [w3o hl j h] at e1
 refine v1k (z0f j) ?_
 rw [Int.mul_sub]
 omega
theorem v8s {m w1 w3:RW} {lq lu k j:Nat} {u v q:List Int} (D:Dv u v lu k j) (hw3:∀ i:Nat,i<k→w3[i]?=some [.u32 (v.getD i 0)]) (hq:q.length=lq) (hj:j<lq) :
    ∃ u' g,(∀ {o:Out} {st:St},Lp E 5 A4 0 (H4 m lu k k lq ((j:Int)-1) w1 (Wr u') w3 (Wr (q.set j g))) o st→Lp E 5 A4 0 (H4 m lu k k lq j w1 (Wr u) w3 (Wr q)) o st) ∧
     (0≤g∧g<1000000000)∧Wd u'∧u'.length=lu∧wv u'=wv u-pw j*(g*wv v)∧0≤wv (u'.drop j)∧wv (u'.drop j)<wv v:=by
 have h2:=D.two
 have hjk:=D.jk
 have hsm:=D.small
 have hlu:=D.elu
 have hlv:=D.elv
 have hnorm:=D.norm
 have hV:=D.vpos
 have hVk:=D.vk
 have a1:=D.hv.getD (k-1)
 have b1:=D.hu.getD (j+k-1)
 have b0:=D.hu.getD (j+k)
 have bj:=D.hu.getD j
 have hlow:=D.low
 have hz:=D.zero
 have eX1:=N8 u j (by omega)
 obtain ⟨v1,e1⟩:∃ x,x=v.getD (k-1) 0:=⟨_,rfl⟩
 obtain ⟨u0,e3⟩:∃ x,x=u.getD (j+k) 0:=⟨_,rfl⟩
 obtain ⟨u1',e4⟩:∃ x,x=u.getD (j+k-1) 0:=⟨_,rfl⟩
 obtain ⟨top,et⟩:∃ x,x=u0*1000000000+u1':=⟨_,rfl⟩
 have gk1:w3[Int.toNat ((k:Int)-1)]?=some [.u32 v1]:=by
  rw [show Int.toNat ((k:Int)-1)=k-1 by omega,e1];exact hw3 _ (by omega)
 have gu0:(Wr u)[Int.toNat ((j:Int)+k)]?=some [.u32 u0]:=by
  rw [show Int.toNat ((j:Int)+k)=j+k by omega,e3];exact F0 (by omega)
 have gu1:(Wr u)[Int.toNat ((j:Int)+k-1)]?=some [.u32 u1']:=by
  rw [show Int.toNat ((j:Int)+k-1)=j+k-1 by omega,e4];exact F0 (by omega)
 rw [← e1] at a1 hnorm
 rw [← e3] at b0
 rw [← e4] at b1
 have htop:0≤top:=by omega
 have hdm:=Int.emod_add_mul_ediv top v1
 have hr0:=Int.emod_nonneg top (show v1≠0 by omega)
 have hr1:=Int.emod_lt_of_pos top (show 0<v1 by omega)
 have hg0:0≤top / v1:=Int.ediv_nonneg htop (by omega)
 have hmul:top / v1*v1+top % v1=top:=by rw [Int.mul_comm];omega
 have hX3:=y8v (u:=u) (j:=j) (k:=k) h2 (by omega) hz
 rw [← e3,← e4,← et] at hX3
 have hV2:=x1t hlv h2
 rw [← e1] at hV2
 have a2:=D.hv.getD (k-2)
 have vl1:=D.hv.val_take_lt (k-2) (by omega)
 have xl0:=C6 ((D.hu.drop j).take (k-2))
 have hP:=z0f (k-2)
 have b2:=D.hu.getD (j+k-2)
 have hu0:u0≤v1:=by
  rcases Int.lt_or_le v1 u0 with h | h
  · exfalso
    have e5:=F9 (u.drop (j+1)) (k-1) (by simp;omega)
    rw [List.drop_drop,show j+1+(k-1)=j+k by omega,N8 u (j+k) (by omega),hz,← e3] at e5
    have h6:=C6 ((D.hu.drop (j+1)).take (k-1))
    have e7:=F9 v (k-1) (by omega)
    rw [N8 v (k-1) (by omega),← e1,show k-1+1=k by omega,List.drop_eq_nil_of_le (by omega),show wv []=0 from rfl] at e7
    have h8:=D.hv.val_take_lt (k-1) (by omega)
    have h9:pw (k-1)*(v1+1)≤pw (k-1)*u0:=Int.mul_le_mul_of_nonneg_left (by omega) (by have:=z0f (k-1);omega)
    rw [Int.mul_add,Int.mul_one] at h9
    simp at e5 e7
    omega
  · exact h
 have hgB:top / v1≤1000000001:=by
  have:top / v1<1000000002:=Int.ediv_lt_of_lt_mul (by omega) (by omega)
  omega
 have hbig:top / v1=1000000001→top % v1+v1<1000000000:=by
  intro h
  rw [h] at hmul
  omega
 have hXg:wv (u.drop j)<(top / v1+1)*wv v:=by
  have h5:top+1≤(top / v1+1)*v1:=by
   have:(top / v1+1)*v1=top / v1*v1+v1:=by grind
   omega
  have h6:=Int.mul_le_mul_of_nonneg_right h5 (show 0≤1000000000*pw (k-2) by omega)
  have h7:(top / v1+1)*(v1*(1000000000*pw (k-2)))≤(top / v1+1)*wv v:=by
   refine Int.mul_le_mul_of_nonneg_left ?_ (by omega)
   have h8:(v1*1000000000+v.getD (k-2) 0)*pw (k-2)=v1*(1000000000*pw (k-2))+v.getD (k-2) 0*pw (k-2):=by grind
   have h9:0≤v.getD (k-2) 0*pw (k-2):=Int.mul_nonneg a2.1 (by omega)
   have h10:=C6 (D.hv.take (k-2))
   omega
  have h8:(top / v1+1)*v1*(1000000000*pw (k-2))=(top / v1+1)*(v1*(1000000000*pw (k-2))):=by grind
  have h9:(top+1)*(1000000000*pw (k-2))=top*1000000000*pw (k-2)+1000000000*pw (k-2):=by grind
  have h10:(top*1000000000+u.getD (j+k-2) 0)*pw (k-2)=top*1000000000*pw (k-2)+u.getD (j+k-2) 0*pw (k-2):=by grind
  have h11:u.getD (j+k-2) 0*pw (k-2)≤999999999*pw (k-2):=Int.mul_le_mul_of_nonneg_right (by omega) (by omega)
  have h12:=(D.hu.drop j).val_take_lt (k-2) (by simp;omega)
  omega
 obtain ⟨g,k1,k2,k3,k4⟩:=q7z (E:=E) (m:=m) (w1:=w1) (w4:=Wr q) (lq:=lq) D hw3 1000000002 (top / v1) (top % v1) hg0 (by omega) hgB ⟨hr0,by omega⟩ (by rw [← e1,← e3,← e4,← et];exact hmul) hXg (by rw [← e1];exact hbig)
 obtain ⟨c,b,us,s1,s2,s3,s4,s5,s6,s7⟩:=v8t (E:=E) (m:=m) (w1:=w1) (w4:=Wr q) (lq:=lq) D hw3 k2 k 0 0 0 u (by omega) (by omega) (.inl rfl) D.hu D.elu (fun _ _=>rfl) (by simp [wv])
 have hsu:us.getD (j+k) 0=u0:=by rw [s6 _ (.inr (Nat.le_refl _)),← e3]
 have gs0:(Wr us)[Int.toNat ((j:Int)+k)]?=some [.u32 u0]:=by
  rw [show Int.toNat ((j:Int)+k)=j+k by omega,← hsu];exact F0 (by omega)
 obtain ⟨last,hlast⟩:∃ x,x=u0-c-b:=⟨_,rfl⟩
 have hset:=z9n us (j+k) (by omega)
 rw [hsu] at hset
 have sv:wv us=wv u-pw j*(g*wv v-pw k*(c+b)):=by rw [s7];grind
 have sd:=y4b (xs:=us) (ys:=u) (by omega) (j:=j) (by omega) (fun n hn=>s6 n (.inl hn)) sv
 have sk:=F9 (us.drop j) k (by simp;omega)
 have sz:wv (us.drop (j+k+1))=0:=by
  have h0:wv (us.drop (j+k+1))=wv (u.drop (j+k+1)):=by
   congr 1
   apply List.ext_getElem?
   intro i
   rw [List.getElem?_drop,List.getElem?_drop]
   rcases Nat.lt_or_ge (j+k+1+i) lu with h | h
   · rw [getD_some (by omega),getD_some (by omega),s6 _ (.inr (by omega))]
   · rw [List.getElem?_eq_none (by omega),List.getElem?_eq_none (by omega)]
  rw [h0];exact hz
 rw [List.drop_drop,N8 us (j+k) (by omega),sz,hsu] at sk
 have sk0:=C6 ((s4.drop j).take k)
 have sk1:=(s4.drop j).val_take_lt k (by simp;omega)
 have hpk:=z0f k
 have hpj:=z0f j
 have wj:((j:Int)+k)=((j+k:Nat):Int):=by omega
 have gq:(Wr q)[Int.toNat (j:Int)]?=some [.u32 (q.getD j 0)]:=F0 (by omega)
 have hXV:(g+1)*wv v=g*wv v+wv v:=by grind
 by_cases c1:last<0
 · -- once too often
   have hneg:wv (u.drop j)<g*wv v:=by
    have h5:pw k*last≤pw k*(-1):=Int.mul_le_mul_of_nonneg_left (by omega) (by omega)
    have h6:pw k*last=pw k*u0-pw k*(c+b):=by rw [hlast];grind
    simp at sk
    omega
   have hg1:1≤g:=by
    rcases Int.lt_or_le g 1 with h | h
    · have:g=0:=by omega
      subst this
      have:=C6 (D.hu.drop j)
      omega
    · exact h
   obtain ⟨up,ua,t1,t2,t3,t4,t5,t6⟩:=v8r (E:=E) (m:=m) (w1:=w1) (w4:=Wr q) (lq:=lq) (g:=g-1) (last:=last) D hw3 (u1:=us) k 0 0 us (by omega) (by omega) s4 s5 (fun _ _=>rfl) (by simp [wv])
   have hau:ua.getD (j+k) 0=u0:=by rw [t5 _ (.inr (Nat.le_refl _)),hsu]
   have ga0:(Wr ua)[Int.toNat ((j:Int)+k)]?=some [.u32 u0]:=by
    rw [show Int.toNat ((j:Int)+k)=j+k by omega,← hau];exact F0 (by omega)
   have hset2:=z9n ua (j+k) (by omega)
   rw [hau] at hset2
   have tv:wv ua=wv u-pw j*((g-1)*wv v-pw k*(c+b)+pw k*up):=by rw [t6,s7];grind
   have td:=y4b (xs:=ua) (ys:=u) (by omega) (j:=j) (by omega) (fun n hn=>by rw [t5 n (.inl hn)];exact s6 n (.inl hn)) tv
   have tk:=F9 (ua.drop j) k (by simp;omega)
   have tz:wv (ua.drop (j+k+1))=0:=by
    have h0:wv (ua.drop (j+k+1))=wv (us.drop (j+k+1)):=by
     congr 1
     apply List.ext_getElem?
     intro i
     rw [List.getElem?_drop,List.getElem?_drop]
     rcases Nat.lt_or_ge (j+k+1+i) lu with h | h
     · rw [getD_some (by omega),getD_some (by omega),t5 _ (.inr (by omega))]
     · rw [List.getElem?_eq_none (by omega),List.getElem?_eq_none (by omega)]
    rw [h0];exact sz
   rw [List.drop_drop,N8 ua (j+k) (by omega),tz,hau] at tk
   have tk0:=C6 ((t3.drop j).take k)
   have tk1:=(t3.drop j).val_take_lt k (by simp;omega)
   have hg1V:(g-1)*wv v=g*wv v-wv v:=by grind
   have hzero:last+up=0:=by
    have h5:pw k*(last+up)=pw k*u0-pw k*(c+b)+pw k*up:=by rw [hlast];grind
    have h6:-pw k<pw k*(last+up)∧pw k*(last+up)<pw k:=by
     simp at tk
     omega
    rcases Int.lt_trichotomy (last+up) 0 with h | h | h
    · have:pw k*(last+up)≤pw k*(-1):=Int.mul_le_mul_of_nonneg_left (by omega) (by omega)
      omega
    · exact h
    · have:pw k*1≤pw k*(last+up):=Int.mul_le_mul_of_nonneg_left (by omega) (by omega)
      omega
   have hfin:wv (ua.set (j+k) 0)=wv u-pw j*((g-1)*wv v):=by
    rw [hset2,tv,y0b]
    have:u0=c+b-up:=by omega
    rw [this];grind
   have hd:=y4b (xs:=ua.set (j+k) 0) (ys:=u) (by simp;omega) (j:=j) (by simp;omega) (fun n hn=>by rw [J0 (by omega),t5 n (.inl hn)];exact s6 n (.inl hn)) hfin
   refine ⟨ua.set (j+k) 0,g-1,fun {o} {st} ih=>?_,by omega,t3.set _ (by omega) (by omega),by simpa using t4,hfin,?_,?_⟩
   · exact y7x (i2:=(j:Int)+k) (i3:=u0) (i4:=u0) (i5:=u0*1000000000) (i6:=(j:Int)+k-1) (i7:=u1') (i8:=u1') (i9:=top) (i10:=(k:Int)-1) (i11:=v1) (i12:=v1) (i13:=top / v1) (i14:=top % v1) (i15:=g) (i16:=c) (i17:=b) (r7:=Wr us) (i18:=u0) (i19:=u0) (i20:=u0-c) (i21:=last) (i22:=g-1) (i23:=up) (r8:=Wr ua) (i24:=up) (i25:=0) (i26:=0) (i27:=0) (i28:=u0) (r9:=Wr (ua.set (j+k) 0)) (i29:=g-1) (i30:=q.getD j 0) (r10:=Wr (q.set j (g-1))) (i31:=(j:Int)-1)
      (wi (by omega)) (wu (by omega)) (wu (by omega)) (wi (by omega)) (wu (by omega)) (wu (by omega)) (wi (by omega)) (wu (by omega)) (wu ⟨tdv htop rfl,hg0,by omega⟩) (tmd htop rfl) (wi (by omega)) (wi (by omega)) (wi (by omega)) (wu (by omega)) (wi (by omega)) (wi (by omega)) (by simp) (w32 (by omega)) (by rw [wj,Int.toNat_natCast,z3w]) (w32 (by omega)) (by rw [Int.toNat_natCast,z3w]) (wi (by omega))
      (by omega) (by omega) gu0 (by omega) gu1 (by omega) gk1 (by omega) k1 s1 gs0 c1 t1 ga0 (by omega) gq ih
   · rw [hd];omega
   · rw [hd];omega
 · have hfin:wv (us.set (j+k) last)=wv u-pw j*(g*wv v):=by
    rw [hset,sv,y0b,hlast];grind
   have hd:=y4b (xs:=us.set (j+k) last) (ys:=u) (by simp;omega) (j:=j) (by simp;omega) (fun n hn=>by rw [J0 (by omega)];exact s6 n (.inl hn)) hfin
   refine ⟨us.set (j+k) last,g,fun {o} {st} ih=>?_,k2,s4.set _ (by omega) (by omega),by simpa using s5,hfin,?_,?_⟩
   · exact y7y (i2:=(j:Int)+k) (i3:=u0) (i4:=u0) (i5:=u0*1000000000) (i6:=(j:Int)+k-1) (i7:=u1') (i8:=u1') (i9:=top) (i10:=(k:Int)-1) (i11:=v1) (i12:=v1) (i13:=top / v1) (i14:=top % v1) (i15:=g) (i16:=c) (i17:=b) (r7:=Wr us) (i18:=u0) (i19:=u0) (i20:=u0-c) (i21:=last) (i22:=last) (i23:=last) (r8:=Wr (us.set (j+k) last)) (i24:=g) (i25:=q.getD j 0) (r11:=Wr (q.set j g)) (i27:=(j:Int)-1)
      (wi (by omega)) (wu (by omega)) (wu (by omega)) (wi (by omega)) (wu (by omega)) (wu (by omega)) (wi (by omega)) (wu (by omega)) (wu ⟨tdv htop rfl,hg0,by omega⟩) (tmd htop rfl) (wi (by omega)) (wi (by omega)) (wi (by omega)) (if_neg (by omega)) (w32 (by omega)) (by rw [wj,Int.toNat_natCast,z3w]) (w32 (by omega)) (by rw [Int.toNat_natCast,z3w]) (wi (by omega))
      (by omega) (by omega) gu0 (by omega) gu1 (by omega) gk1 (by omega) k1 s1 gs0 c1 (by omega) gq ih
   · have h5:=C6 ((s4.set (j+k) (show 0≤last by omega) (by omega)).drop j)
     exact h5
   · rw [hd];omega
theorem v3p {m w1 w3:RW} {lq lu k:Nat} {v:List Int} (hv:Wd v) (hlv:v.length=k)(h2:2≤k) (hn:1000000000≤2*v.getD (k-1) 0) (hsm:lu<35184372088832) (hw3:∀ i:Nat,i<k→w3[i]?=some [.u32 (v.getD i 0)]) :
    ∀ j u q,Wd u→u.length=lu→Wd q→q.length=lq→j≤lq→(0<j→j-1+k<lu)→wv (u.drop j)<wv v →
    ∃ u' q',Lp E 5 A4 0 (H4 m lu k k lq ((j:Int)-1) w1 (Wr u) w3 (Wr q)) (.exit 1) (z3k m lu k lq w1 w3 (Wr u') (Wr q'))∧Wd u'∧u'.length=lu∧Wd q'∧q'.length=lq∧wv u'<wv v∧wv u'+wv v*wv q'=wv u+wv v*(pw j*wv (q.drop j))
 | 0,u,q,hu,hlu,hq,hlq,_,_,hlow=>⟨u,q,y5s (by omega),hu,hlu,hq,hlq,by simpa using hlow,by simp [x3o]⟩
 | j+1,u,q,hu,hlu,hq,hlq,hj,hjk,hlow=>by
  have D:Dv u v lu k j:=⟨hu,hv,hlu,hlv,h2,hn,by have:=hjk (by omega);omega,hsm,hlow⟩
  obtain ⟨u1,g,st,hg,k1,k2,k3,k4,k5⟩:=v8s (E:=E) (m:=m) (w1:=w1) D hw3 hlq (by omega)
  obtain ⟨u',q',r1,r2,r3,r4,r5,r6,r7⟩:=v3p hv hlv h2 hn hsm hw3 j u1 (q.set j g) k1 k2 (hq.set _ hg.1 hg.2) (by simpa using hlq) (by omega) (fun h=>by have:=D.jk;omega) k5
  refine ⟨u',q',?_,r2,r3,r4,r5,r6,?_⟩
  · rw [show ((j+1:Nat):Int)-1=(j:Int) by omega];exact st r1
  · have hd:(q.set j g).drop (j+1)=q.drop (j+1):=List.drop_set_of_lt (Nat.lt_succ_self j)
    rw [r7,k3,z7b (q.set j g) j,z8y (by omega),hd,z2z]
    grind
theorem y9e {n m q r:Nat} (h:n=q*m+r) (hr:r<m):n / m=q∧n % m=r:=by
 subst h
 rw [Nat.mul_comm]
 exact ⟨by rw [Nat.mul_add_div (by omega),Nat.div_eq_of_lt hr,Nat.add_zero],by rw [Nat.mul_add_mod,Nat.mod_eq_of_lt hr]⟩
theorem v6c {xs:List Int} {k i:Nat} (h:i<k):(xs.take k).getD i 0=xs.getD i 0:=by
 rw [List.getD_eq_getElem?_getD,List.getD_eq_getElem?_getD,List.getElem?_take_of_lt h]
theorem q3b {m n:Nat} (hm:2≤(words m).length) (hmn:m≤n) (hl:(words n).length<1099511627776) (hns:¬ n<1000000000000000000):Fn E A4 [.c (.list (Wr (words n))),.c (.list (Wr (words m)))] (.tup [.c (.list (Wr (words (n / m)))),.c (.list (Wr (words (n % m))))]):=by
 have hlm:(words m).length≤(words n).length:=(V1 m).length_le (B3 m) (B3 n) (by rw [B2,B2];omega)
 obtain ⟨k,hk⟩:∃ k,k=(words m).length:=⟨_,rfl⟩
 rw [← hk] at hm hlm
 have ht:=(B3 m).getD (k-1)
 obtain ⟨t,et⟩:∃ t,t=(words m).getD (k-1) 0:=⟨_,rfl⟩
 rw [← et] at ht
 obtain ⟨f,hf⟩:∃ f:Nat,(f:Int)=1000000000 / (t+1):=⟨(1000000000 / (t+1)).toNat,by have:0≤1000000000 / (t+1):=Int.ediv_nonneg (by decide) (by omega);omega⟩
 obtain ⟨f1,f2,lv,nv⟩:=j0l (n:=m) rfl hk.symm (by omega) (f:=f) (by rw [← et];exact hf)
 have hfl:(words f).length≤1:=z2n (by rw [show pw 1=1000000000 by decide];omega)
 obtain ⟨ku,xu,hru,eu,hku,hxu⟩:=j7o (E:=E) (m:=n) (n:=f) (by omega)
 obtain ⟨kv,xv,hrv,ev,hkv,hxv⟩:=j7o (E:=E) (m:=m) (n:=f) (by omega)
 have hkv':kv=k:=by
  have:=congrArg List.length ev
  rw [List.length_take,lv] at this
  omega
 subst hkv'
 have hku':ku=(words (n*f)).length:=by
  have:=congrArg List.length eu
  rw [List.length_take] at this
  omega
 have hnf:n≤n*f:=by have:=Nat.mul_le_mul_left n f1;omega
 have hkn:(words n).length≤ku:=by rw [hku'];exact (V1 n).length_le (B3 n) (B3 _) (by rw [B2,B2];omega)
 have hku2:ku≤(words n).length+1:=by omega
 have hu0:Wd (words (n*f)++[0]):=(B3 _).append (Wd.cons (by omega) (by omega) Wd.nil)
 have hu0l:(words (n*f)++[0]).length=ku+1:=by simp [hku']
 have hw3:∀ i:Nat,i<kv→(Wr xv)[i]?=some [.u32 ((words (m*f)).getD i 0)]:=fun i hi=>by
  rw [← ev,v6c hi];exact F0 (by omega)
 have hvk:=z7y (B3 (m*f))
 have hvge:=(V1 (m*f)).val_ge (B3 _) (by intro h;rw [h] at lv;simp at lv;omega)
 rw [lv] at hvk hvge
 have hlow:wv ((words (n*f)++[0]).drop (ku+1-kv))<wv (words (m*f)):=by
  have h5:=z7y ((B3 (n*f)).drop (ku+1-kv))
  rw [List.length_drop,← hku',show ku-(ku+1-kv)=kv-1 by omega] at h5
  rw [List.drop_append_of_le_length (by omega),z7z]
  omega
 obtain ⟨u',q',r1,r2,r3,r4,r5,r6,r7⟩:=v3p (E:=E) (m:=Wr (words f)) (w1:=[[.u32 0]]) (w3:=Wr xv) (lq:=ku+1-kv) (lu:=ku+1) (B3 (m*f)) lv hm nv (by omega) hw3 (ku+1-kv) (words (n*f)++[0]) (List.replicate (ku+1-kv) 0) hu0 hu0l (Wd.replicate _) (by simp) (Nat.le_refl _) (fun _=>by omega) hlow
 rw [drop_nil (by simp),z7z,B2,B2,show wv []=0 from rfl] at r7
 rw [B2] at r6
 have hq0:=C6 r4
 have hr0:=C6 r2
 obtain ⟨Q,hQ⟩:∃ Q:Nat,wv q'=Q:=⟨(wv q').toNat,by omega⟩
 obtain ⟨R,hR⟩:∃ R:Nat,wv u'=R:=⟨(wv u').toNat,by omega⟩
 rw [hQ,hR] at r7
 rw [hR] at r6
 have hmf0:0<m*f:=by omega
 have e1:n*f=Q*(m*f)+R:=by
  have:((n*f:Nat):Int)=((Q*(m*f)+R:Nat):Int):=by
   rw [Int.natCast_add,Int.natCast_mul Q]
   have:((Q:Int))*((m*f:Nat):Int)=((m*f:Nat):Int)*Q:=Int.mul_comm _ _
   simp at r7
   simp at this ⊢
   omega
  omega
 have hfR:f ∣ R:=by
  have h5:f ∣ Q*(m*f):=⟨Q*m,by rw [← Nat.mul_assoc,Nat.mul_comm]⟩
  exact (Nat.dvd_add_right h5).1 (by rw [← e1];exact ⟨n,Nat.mul_comm _ _⟩)
 obtain ⟨R',hR'⟩:=hfR
 have e2:n=Q*m+R':=by
  have:f*n=f*(Q*m+R'):=by
   rw [Nat.mul_add,← hR',Nat.mul_comm f n,e1,← Nat.mul_assoc,Nat.mul_comm f]
  exact Nat.eq_of_mul_eq_mul_left (by omega) this
 have e3:R'<m:=by
  have:f*R'<f*m:=by rw [← hR',Nat.mul_comm f m];omega
  exact Nat.lt_of_mul_lt_mul_left this
 obtain ⟨d1,d2⟩:=y9e e2 e3
 have hRf:R / f=R':=by rw [hR',Nat.mul_div_cancel_left _ (by omega)]
 have hul:wv (u'.take kv)=R:=by
  have h5:=F9 u' kv (by omega)
  have h6:=C6 (r2.take kv)
  have h7:=C6 (r2.drop kv)
  rw [B2] at hvk
  rcases Int.lt_or_le 0 (wv (u'.drop kv)) with h | h
  · have h8:pw kv*1≤pw kv*wv (u'.drop kv):=Int.mul_le_mul_of_nonneg_left (by omega) (by have:=z0f kv;omega)
    omega
  · have:wv (u'.drop kv)=0:=by omega
    rw [this,Int.mul_zero] at h5
    omega
 have t1:=(x1z (E:=E) (ws:=u') (k:=kv) (by omega) (by omega)).at (args:=[]) rfl rfl rfl rfl (objs:=[some .dead,some (.vec A0 [[.u32 0]]),some (.vec A0 (Wr u')),some (.vec A0 (Wr xv)),some (.vec A0 (Wr q'))]) (l:=2) rfl
 have t2:=(x1z (E:=E) (ws:=q') (k:=ku+1-kv) (by omega) (by omega)).at (args:=[]) rfl rfl rfl rfl (objs:=[some .dead,some (.vec A0 [[.u32 0]]),some (.fro (Wr u')),some (.vec A0 (Wr xv)),some (.vec A0 (Wr q'))]) (l:=4) rfl
 have w1:=z0i r2 (k:=kv) (by omega)
 rw [hul] at w1
 have w2:=z0i r4 (k:=ku+1-kv) (by omega)
 rw [← r5,List.take_length,hQ,r5] at w2
 have hRl:(words R).length<35184372088000:=by
  have:=congrArg List.length w1
  rw [List.length_take,Int.toNat_natCast] at this
  have:=k7w u' kv
  omega
 have hby:=by_ok (E:=E) (n:=R) (w:=f) ⟨by omega,by omega⟩ hRl
 rw [hRf,show words R=u'.take (z0h u' kv) from w1.symm,← Y9] at hby
 rw [d1,d2]
 have h18:(18446744073709551615:Int)≥0:=by decide
 by_cases hsm:m<1000000000000000000
 · exact y4i (i0:=cmpI n m) (i1:=0) (i2:=(m:Int)) (b2:=true) (i3:=(kv:Int)-1) (i5:=t) (i4:=t) (i6:=t+1) (i7:=(f:Int)) (r5:=Wr (words f)) (n0:=ku) (r6:=Wr xu) (r7:=Wr (words (n*f)++[0])) (n1:=ku+1) (n2:=kv) (r8:=Wr xv) (i11:=((ku+1-kv:Nat):Int)) (n3:=ku+1-kv) (r17:=Wr (List.replicate (ku+1-kv) 0)) (i12:=((ku+1-kv:Nat):Int)-1) (r10:=Wr u') (r18:=Wr q') (i13:=(f:Int)) (b1:=true) (n8:=kv) (n9:=z0h u' kv) (n10:=z0h q' (ku+1-kv))
    (wi (by rw [A8,← hk];omega)) (wu (by omega)) (wu (by omega)) (wu ⟨tdv (by omega) hf.symm,by omega,by omega⟩) (by rw [Y9,eu,y8j]) rfl (wi (by omega)) (Int.toNat_natCast _) (z4x _ _) (wi (by omega)) (Int.toNat_natCast _) rfl (by rw [Y9,w2,Int.toNat_natCast])
    (y6s (by omega)) (by unfold cmpI;split <;> (try split) <;> omega) (y2h hns) (z4j hsm) (by rw [A8,← hk];omega) (by omega) (by rw [show Int.toNat ((kv:Int)-1)=kv-1 by omega,et];exact F0 (by omega)) (by omega) (q1u (by omega)) hru (by omega) hrv (by rw [A8];omega) (by omega) r1 (z4j (by omega)) (by omega) t1 hby t2
 · exact y4i (i0:=cmpI n m) (i1:=0) (i2:=0) (b2:=false) (i3:=(kv:Int)-1) (i5:=t) (i4:=t) (i6:=t+1) (i7:=(f:Int)) (r5:=Wr (words f)) (n0:=ku) (r6:=Wr xu) (r7:=Wr (words (n*f)++[0])) (n1:=ku+1) (n2:=kv) (r8:=Wr xv) (i11:=((ku+1-kv:Nat):Int)) (n3:=ku+1-kv) (r17:=Wr (List.replicate (ku+1-kv) 0)) (i12:=((ku+1-kv:Nat):Int)-1) (r10:=Wr u') (r18:=Wr q') (i13:=(f:Int)) (b1:=true) (n8:=kv) (n9:=z0h u' kv) (n10:=z0h q' (ku+1-kv))
    (wi (by rw [A8,← hk];omega)) (wu (by omega)) (wu (by omega)) (wu ⟨tdv (by omega) hf.symm,by omega,by omega⟩) (by rw [Y9,eu,y8j]) rfl (wi (by omega)) (Int.toNat_natCast _) (z4x _ _) (wi (by omega)) (Int.toNat_natCast _) rfl (by rw [Y9,w2,Int.toNat_natCast])
    (y6s (by omega)) (by unfold cmpI;split <;> (try split) <;> omega) (y2h hns) (y2h hsm) (by rw [A8,← hk];omega) (by omega) (by rw [show Int.toNat ((kv:Int)-1)=kv-1 by omega,et];exact F0 (by omega)) (by omega) (q1u (by omega)) hru (by omega) hrv (by rw [A8];omega) (by omega) r1 (z4j (by omega)) (by omega) t1 hby t2
def Lim:Nat:=1000000000
structure Lib (E:Env):Prop where
 parseUint:∀ l:List UInt8,Dg l→1≤l.length→l.length≤9→Fn E z8l [.c (.str (B l)),.c (.i64 10),.c (.i64 32)] (.tup [.c (.u64 (dval l:Int)),.undef])
 /-- what is behind a text in front of another one -/
 cutPrefix:∀ l p:List UInt8,l.length<10000000000000→p.length<10000000000000→Fn E z0r [.c (.str (B l)),.c (.str (B p))] (.tup [.c (.str (B (if p.isPrefixOf l then l.drop p.length else l))),.c (.bool (p.isPrefixOf l))])
 /-- what is ahead of the first slash,and behind it -/
 cutYes:∀ p q:List UInt8,(47:UInt8) ∉ p→p.length+q.length<4000000000→Fn E z6h [.c (.str (B (p++47::q))),.c (.str (B [47]))] (.tup [.c (.str (B p)),.c (.str (B q)),.c (.bool true)])
 cutNo:∀ p:List UInt8,(47:UInt8) ∉ p→p.length<4000000000→Fn E z6h [.c (.str (B p)),.c (.str (B [47]))] (.tup [.c (.str (B p)),.c (.str (B [])),.c (.bool false)])
 parseInt:∀ z:Int,(decZ z).length≤9→Fn E z4w [.c (.str (B (decZ z))),.c (.i64 10),.c (.i64 64)] (.tup [.c (.i64 z),.undef])
 formatInt:∀ z:Int,-9223372036854775808≤z∧z≤9223372036854775807→Fn E z3q [.c (.i64 z),.c (.i64 10)] (.c (.str (B (decZ z))))
 itoa:∀ z:Int,-9223372036854775808≤z∧z≤9223372036854775807→Fn E x5s [.c (.i64 z)] (.c (.str (B (decZ z))))
 /-- an operation of package rational,by its byte -/
 apply:∀ (op:Int) (f:Nat),(op,f)∈[(43,z0n),(42,Y1),(45,U5),(47,U6)]→∀ (a b x1 x2 y1 y2 z1 z2 t:BA),Fn E F_rational_both [.c (.str a),.c (.str b)] (.tup [.agg [.str x1,.str x2],.agg [.str y1,.str y2],.c (.i64 0)])→(op=47→¬ y1=B [48]) →
  Fn E f [.agg [.str x1,.str x2],.agg [.str y1,.str y2]] (.agg [.str z1,.str z2])→Fn E F_rational_frac_text [.agg [.str z1,.str z2]] (.c (.str t))→Fn E z1k [.c (.u8 op),.c (.str a),.c (.str b)] (.tup [.c (.str t),.c (.i64 0)])
 text:∀ n K:Nat,n<10 ^ K→K≤Lim+1→Fn E M8 [.c (.list (Wr (words n)))] (.c (.str (B (dec n))))
theorem v5v (K:Nat):((10 ^ K:Nat):Int)≤pw K:=by
 unfold pw
 rw [show (1000000000:Int) ^ K=((1000000000 ^ K:Nat):Int) by rw [Int.natCast_pow];rfl]
 exact Int.ofNat_le.2 (Nat.pow_le_pow_left (by decide) K)
theorem z6g {n K:Nat} (h:n<10 ^ K):(words n).length≤K:=z2n (Int.lt_of_lt_of_le (Int.ofNat_lt.2 h) (v5v K))
theorem y3s {a b:Int}:cmpI a b<0↔a<b:=by unfold cmpI;split <;> (try split) <;> omega
theorem q0w {m n:Nat} (hm:m≠0) (hl:(words n).length<1099511627776):Fn E A4 [.c (.list (Wr (words n))),.c (.list (Wr (words m)))] (.tup [.c (.list (Wr (words (n / m)))),.c (.list (Wr (words (n % m))))]):=by
 have hc:=y6s (E:=E) (m:=n) (n:=m) (by omega)
 by_cases h1:n<m
 · rw [Nat.div_eq_of_lt h1,Nat.mod_eq_of_lt h1,O2]
   exact x7k hc (y3s.2 (by omega))
 · have hc':¬ cmpI n m<0:=fun h=>h1 (by have:=y3s.1 h;omega)
   by_cases h2:n<1000000000000000000
   · have hd:n / m<1000000000000000000:=Nat.lt_of_le_of_lt (Nat.div_le_self _ _) h2
     have hr:n % m<1000000000000000000:=Nat.lt_of_lt_of_le (Nat.mod_lt _ (by omega)) (by omega)
     have hdz:0≤((n / m:Nat):Int)∧((n / m:Nat):Int)≤18446744073709551615:=⟨Int.natCast_nonneg _,by have:=Int.ofNat_lt.2 hd;exact Int.le_trans (Int.le_of_lt this) (by decide)⟩
     exact x7l (i3:=((n / m:Nat):Int)) (i4:=((n % m:Nat):Int)) (wu ⟨tdv (by omega) rfl,hdz⟩) (tmd (by omega) rfl) hc hc' (z4j h2) (z4j (by omega)) (by omega) (q1u hd) (q1u hr)
   · by_cases h3:(words m).length=1
     · have hm1:m<1000000000:=by
        have:=z7y (B3 m)
        rw [B2,h3,show pw 1=1000000000 by decide] at this
        omega
       have e:words m=[(m:Int)]:=by
        rcases x9w (n:=m) (by omega) with ⟨_,h⟩ | ⟨e,_,_⟩ | ⟨_,h⟩
        · exact absurd h hm
        · exact e
        · omega
       have hs:=z4j (E:=E) (n:=m) (by omega)
       have hb:=by_ok (E:=E) (n:=n) (w:=m) ⟨by omega,hm1⟩ (by omega)
       exact x7m (i3:=(m:Int)) (i5:=(m:Int)) (wu (by omega)) hc hc' (y2h h2) hs (by rw [A8,h3];rfl) (by rw [e];rfl) hb
     · have:words m≠[]:=fun h=>hm (z4k.1 h)
       have:=z8d this
       exact q3b (by omega) (by omega) hl h2
theorem q1e:∀ (t y x:Nat),y<t→x<1000000000000000000→y<1000000000000000000→Lp E 0 C7 1 (z1y x y) (.exit 2) (z7k (Nat.gcd x y:Nat))
 | 0,y,x,h,_,_=>by omega
 | t+1,y,x,h,hx,hy=>by
  by_cases h0:y=0
  · subst h0
    rw [Nat.gcd_zero_right]
    exact x1h (by omega)
  · have hm:=Nat.mod_lt x (show 0<y by omega)
    have e:Nat.gcd x y=Nat.gcd y (x % y):=by rw [Nat.gcd_comm x y,Nat.gcd_rec y x,Nat.gcd_comm]
    rw [e]
    exact x5j (i3:=((x % y:Nat):Int)) (tmd (by omega) rfl) (by omega) (by omega) (q1e t (x % y) y (by omega) hy (by omega))
theorem j4i {L:Nat} (hL:L<1099511627776):∀ (t n m:Nat),n<t→(words m).length≤L→(words n).length≤L →
    (Lp E 0 C7 0 (J8 (Wr (words m)) (Wr (words n))) .ret (z7i (Wr (words (Nat.gcd m n))))) ∨
    (Lp E 0 C7 0 (J8 (Wr (words m)) (Wr (words n))) (.exit 0) (z7j (Wr (words (Nat.gcd m n)))))
 | 0,n,m,h,_,_=>by omega
 | t+1,n,m,h,hm,hn=>by
  by_cases h0:n=0
  · subst h0
    rw [Nat.gcd_zero_right,O2]
    exact .inr (x1g (by simp [Wr]))
  · have hpos:((Wr (words n)).length:Int)>0:=by
     have:words n≠[]:=fun h=>h0 (z4k.1 h)
     have:=z8d this
     rw [A8];omega
    have hr:=Nat.mod_lt m (show 0<n by omega)
    have e:Nat.gcd m n=Nat.gcd n (m % n):=by rw [Nat.gcd_comm m n,Nat.gcd_rec n m,Nat.gcd_comm]
    have hrl:(words (m % n)).length≤L:=Nat.le_trans ((V1 _).length_le (B3 _) (B3 n) (by rw [B2,B2];omega)) hn
    have hd:=q0w (E:=E) (m:=n) (n:=m) h0 (by omega)
    by_cases s1:m<1000000000000000000
    · by_cases s2:n<1000000000000000000
      · refine .inl (x1f hpos (z4j s1) (z4j s2) (q1e (n+1) n m (by omega) s1 s2) (q1u ?_))
        exact Nat.lt_of_le_of_lt (Nat.gcd_le_right m (by omega)) s2
      · rw [e]
        rcases j4i hL t (m % n) n (by omega) hn hrl with ih | ih
        · exact .inl (y2l hpos (z4j s1) (y2h s2) hd ih)
        · exact .inr (y2l hpos (z4j s1) (y2h s2) hd ih)
    · rw [e]
      have hs:∃ v b,Fn E C1 [.c (.list (Wr (words n)))] (.tup [.c (.u64 v),.c (.bool b)]):=by
       by_cases s2:n<1000000000000000000
       · exact ⟨_,_,z4j s2⟩
       · exact ⟨_,_,y2h s2⟩
      obtain ⟨v,b,hs⟩:=hs
      rcases j4i hL t (m % n) n (by omega) hn hrl with ih | ih
      · exact .inl (y2m hpos (y2h s1) hs hd ih)
      · exact .inr (y2m hpos (y2h s1) hs hd ih)
theorem gcd_ok {m n L:Nat} (hL:L<1099511627776) (hm:(words m).length≤L) (hn:(words n).length≤L):Fn E C7 [.c (.list (Wr (words m))),.c (.list (Wr (words n)))] (.c (.list (Wr (words (Nat.gcd m n))))):=by
 rcases j4i (E:=E) hL (n+1) n m (by omega) hm hn with h | h
 · exact k5y h
 · exact k5z h
def y8m (c:UInt8):Bool:=decide (48≤c.toNat) && decide (c.toNat≤57)
def natB (l:List UInt8):Bool:=!l.isEmpty && l.all y8m && (decide (l.length≤1) || !(l.head? == some 48))
theorem x9i {c:UInt8}:y8m c=true↔48≤c.toNat∧c.toNat≤57:=by simp [y8m]
theorem y8n {c:UInt8} (h:c.toNat<48∨57<c.toNat):y8m c=false:=by
 cases hb:y8m c with
 | false=>rfl
 | true=>have:=x9i.1 hb;omega
theorem x0w {l:List UInt8}:natB l=true↔j0h l:=by
 unfold natB j0h Dg
 simp only [Bool.and_eq_true,Bool.not_eq_true',List.isEmpty_eq_false_iff,List.all_eq_true,x9i,Bool.or_eq_true,decide_eq_true_eq,beq_eq_false_iff_ne,and_assoc]
 constructor
 · rintro ⟨h1,h2,h3⟩
   exact ⟨h1,h2,fun h=>h3.resolve_left (by omega)⟩
 · rintro ⟨h1,h2,h3⟩
   refine ⟨h1,h2,?_⟩
   by_cases h:l.length≤1
   · exact .inl h
   · exact .inr (h3 (by omega))
theorem j5t (n:Nat):natB (dec n)=true:=x0w.2 (x9b n)
theorem y5p (l:List UInt8) (i:Nat):(((B l).data.toList.getD (Int.toNat (i:Int)) 0).toNat:Int)=((l.getD i 0).toNat:Int):=by rw [z9o,Int.toNat_natCast]
theorem j7w (l:List UInt8) (hl:l.length<9223372036854775807):∀ d i:Nat,i+d=l.length →
    ((l.drop i).all y8m=true∧Lp E 0 C8 0 (M3 (B l) l.length i) (.exit 0) z5h) ∨
    ((l.drop i).all y8m=false∧Lp E 0 C8 0 (M3 (B l) l.length i) .ret z1x)
 | 0,i,hi=>.inl ⟨by rw [List.drop_eq_nil_of_le (by omega)];rfl,x5f (by omega)⟩
 | d+1,i,hi=>by
  have hd:l.drop i=l.getD i 0::l.drop (i+1):=by
   rw [List.drop_eq_getElem_cons (by omega),List.getD_eq_getElem?_getD,List.getElem?_eq_getElem (by omega)];rfl
  have hlt:0≤(i:Int)∧(i:Int)<(B l).size:=by rw [D1];omega
  rw [hd,List.all_cons]
  by_cases c1:(l.getD i 0).toNat<48
  · have:y8m (l.getD i 0)=false:=y8n (by omega)
    exact .inr ⟨by rw [this];rfl,x5d (y5p l i) (by omega) hlt (by omega)⟩
  · by_cases c2:(l.getD i 0).toNat>57
    · have:y8m (l.getD i 0)=false:=y8n (by omega)
      exact .inr ⟨by rw [this];rfl,x5e (y5p l i) (by omega) hlt (by omega) (by omega)⟩
    · have:y8m (l.getD i 0)=true:=x9i.2 (by omega)
      rw [this,Bool.true_and]
      rcases j7w l hl d (i+1) (by omega) with ⟨h1,h2⟩ | ⟨h1,h2⟩
      · exact .inl ⟨h1,y5m (y5p l i) (wi (by omega)) (by omega) hlt (by omega) (by omega) h2⟩
      · exact .inr ⟨h1,y5m (y5p l i) (wi (by omega)) (by omega) hlt (by omega) (by omega) h2⟩
theorem v6l {l:List UInt8} (h:l≠[]):¬ B l=(⟨#[]⟩:BA):=fun e=>h (y0i (e.trans B_nil.symm))
theorem z1m (l:List UInt8) (hl:l.length<9223372036854775807):Fn E C8 [.c (.str (B l))] (.c (.bool (natB l))):=by
 cases l with
 | nil=>exact j1l B_nil
 | cons c m =>
  have hne:=v6l (l:=c::m) (by simp)
  have h0:(((B (c::m)).data.toList.getD 0 0).toNat:Int)=(c.toNat:Int):=by rw [z9o];rfl
  have hloop:=j7w (E:=E) (c::m) hl (c::m).length 0 (by omega)
  simp only [List.drop_zero] at hloop
  by_cases h1:1<(c::m).length
  · have hlt:0≤(0:Int)∧(0:Int)<(B (c::m)).size:=by rw [D1];omega
    by_cases h2:c.toNat=48
    · have hc:c=48:=UInt8.toNat_inj.1 h2
      have e:natB (c::m)=false:=by
       unfold natB
       have:decide ((c::m).length≤1)=false:=decide_eq_false (by omega)
       rw [this];subst hc;simp
      rw [e]
      exact j1m h0 hne (by rw [D1];omega) hlt (by omega)
    · have hc:¬ c=48:=fun e=>h2 (by rw [e];rfl)
      have e:natB (c::m)=(c::m).all y8m:=by
       unfold natB
       have:((c::m).head? == some 48)=false:=by simp [hc]
       rw [this];simp
      rw [e]
      rcases hloop with ⟨g1,g2⟩ | ⟨g1,g2⟩
      · rw [g1];exact j1o h0 hne (by rw [D1];omega) hlt (by omega) (by rw [D1];exact g2)
      · rw [g1];exact j1n h0 hne (by rw [D1];omega) hlt (by omega) (by rw [D1];exact g2)
  · have e:natB (c::m)=(c::m).all y8m:=by
     unfold natB
     have:decide ((c::m).length≤1)=true:=decide_eq_true (by omega)
     rw [this];simp
    rw [e]
    rcases hloop with ⟨g1,g2⟩ | ⟨g1,g2⟩
    · rw [g1];exact j1q hne (by rw [D1];omega) (by rw [D1];exact g2)
    · rw [g1];exact j1p hne (by rw [D1];omega) (by rw [D1];exact g2)
theorem Dg.take {l:List UInt8} (h:Dg l) (n:Nat):Dg (l.take n):=fun c hc=>h c (List.mem_of_mem_take hc)
theorem Dg.drop {l:List UInt8} (h:Dg l) (n:Nat):Dg (l.drop n):=fun c hc=>h c (List.mem_of_mem_drop hc)
theorem y4r:(10:Nat) ^ 9=1000000000:=by decide
theorem q2b (hlib:Lib E) {l:List UInt8} (hd:Dg l) (hl:l.length<10000000000000):∀ (t i:Nat) (ws:List Int) (n:Nat),n≤t→n≤l.length→9*i≤l.length+8→ws.length=i→(0<n→n+9*i=l.length)→Wd ws→wv ws+pw i*(dval (l.take n):Int)=dval l →
    ∃ ws',Lp E 0 V5 0 (z5u (B (l.take n)) i (Wr ws)) (.exit 0) (y1p ws'.length (Wr ws'))∧Wd ws'∧wv ws'=dval l∧ws'.length≤l.length+8
 | t,i,ws,0,_,_,hi,hw,_,hwd,hv=>by
  rw [List.take_zero,show dval []=0 from rfl] at hv
  exact ⟨ws,by rw [hw];exact x7o (by rw [D1];simp),hwd,by simpa using hv,by omega⟩
 | 0,i,ws,n+1,h,_,_,_,_,_,_=>by omega
 | t+1,i,ws,n+1,hn,hnl,hi,hw,hni,hwd,hv=>by
  obtain ⟨at',ha⟩:∃ a,a=n+1-9:=⟨_,rfl⟩
  have hlen:(l.take (n+1)).length=n+1:=by simp;omega
  obtain ⟨p,hp⟩:∃ p,p=(l.take (n+1)).drop at':=⟨_,rfl⟩
  have hpd:Dg p:=by rw [hp];exact Dg.drop (Dg.take hd _) _
  have hpl:p.length=n+1-at':=by rw [hp,List.length_drop,hlen]
  have hval:dval p<1000000000:=by
   have:=k5g hpd
   have h9:(10:Nat) ^ p.length≤10 ^ 9:=Nat.pow_le_pow_right (by decide) (by omega)
   rw [y4r] at h9
   omega
  have hsplit:l.take (n+1)=l.take at'++p:=by
   rw [hp]
   have:=(List.take_append_drop at' (l.take (n+1))).symm
   rwa [List.take_take,Nat.min_eq_left (by omega)] at this
  have hvs:wv (ws++[(dval p:Int)])+pw (i+1)*(dval (l.take at'):Int)=dval l:=by
   rw [z7z,hw,z2z]
   rw [hsplit,y4c] at hv
   by_cases h9:p.length=9
   · rw [h9,y4r] at hv
     have e:((dval (l.take at')*1000000000+dval p:Nat):Int)=1000000000*(dval (l.take at'):Int)+dval p:=by omega
     rw [e] at hv
     grind
   · have:at'=0:=by omega
     subst this
     rw [List.take_zero,show dval []=0 from rfl] at hv ⊢
     rw [show ((0*10 ^ p.length+dval p:Nat):Int)=(dval p:Int) by simp] at hv
     simp
     omega
  obtain ⟨ws',k1,k2,k3,k4⟩:=q2b hlib hd hl t (i+1) (ws++[(dval p:Int)]) at' (by omega) (by omega) (by omega) (by simp [hw]) (by omega) (hwd.append (Wd.cons (by omega) (by omega) Wd.nil)) hvs
  refine ⟨ws',?_,k2,k3,k4⟩
  have hsz:((B (l.take (n+1))).size:Int)=((n+1:Nat):Int):=by rw [D1,hlen]
  refine k3f (i0:=((n+1:Nat):Int)-9) (i1:=(at':Int)) (s1:=B p) (i2:=(dval p:Int)) (i3:=(dval p:Int)) (r2:=Wr (ws++[(dval p:Int)])) (n2:=i+1) (s2:=B (l.take at'))
   (wi (by rw [hsz];omega)) (by split <;> omega) (by rw [hsz,Int.toNat_natCast,Int.toNat_natCast,y6c,List.take_of_length_le (by omega),hp]) (w32 (by omega)) (by rw [Y9,← hw,List.take_length,y8j]) rfl (by rw [Int.toNat_natCast,y6c,List.drop_zero,List.take_take,Nat.min_eq_left (by omega)])
   (by rw [hsz];omega) (by rw [D1,hlen];omega) (hlib.parseUint p hpd (by omega) (by omega)) (by omega) (by rw [D1,hlen];omega) k1
theorem v4h (hlib:Lib E) {l:List UInt8} (hd:Dg l) (hl:l.length<10000000000000):Fn E V5 [.c (.str (B l))] (.c (.list (Wr (words (dval l))))):=by
 obtain ⟨ws,k1,k2,k3,k4⟩:=q2b (E:=E) hlib hd hl l.length 0 [] l.length (Nat.le_refl _) (Nat.le_refl _) (by omega) rfl (by omega) Wd.nil (by rw [List.take_length,x3o];simp [wv])
 rw [List.take_length] at k1
 have h:=z0i k2 (k:=ws.length) (Nat.le_refl _)
 rw [List.take_length,k3,Int.toNat_natCast] at h
 exact j5w (by rw [Y9,h]) k1 (x1z (Nat.le_refl _) (by omega))
theorem k2k {n K:Nat} (h:n<10 ^ K):(dec n).length≤K+1:=by
 rcases Nat.eq_zero_or_pos K with rfl | hK
 · have:n=0:=by simpa using h
   subst this;rw [z3y];simp
 · exact Nat.le_succ_of_le (dec_length h hK)
theorem O6:Lim=1000000000:=rfl
theorem x8w (hlib:Lib E) {a b K L:Nat} (ha:a<10 ^ K) (hb:b<10 ^ L) (hK:K≤Lim) (hL:L≤Lim):Fn E Z6 [.c (.str (B (dec a))),.c (.str (B (dec b)))] (.tup [.c (.list (Wr (words a))),.c (.list (Wr (words b))),.c (.i64 0)]):=by
 have h1:=k2k ha
 have h2:=k2k hb
 rw [O6] at hK hL
 have v1:=z1m (E:=E) (dec a) (by omega)
 have v2:=z1m (E:=E) (dec b) (by omega)
 have r1:=v4h hlib (y2q a) (by omega)
 have r2:=v4h hlib (y2q b) (by omega)
 rw [j5t] at v1 v2
 rw [z2s] at r1 r2
 exact j5v v1 v2 r1 r2
theorem k3c (hlib:Lib E) {a b K L:Nat} (ha:a<10 ^ K) (hb:b<10 ^ L) (hK:K≤Lim) (hL:L≤Lim):Fn E y0x [.c (.str (B (dec a))),.c (.str (B (dec b)))] (.tup [.c (.i64 (cmpI a b)),.c (.i64 0)]):=by
 have w1:=z6g ha
 have hK':=hK
 rw [O6] at hK'
 exact k5x (x8w hlib ha hb hK hL) rfl (y6s (by omega))
theorem z0e {a K M:Nat} (h:a<10 ^ K) (k:K≤M):a<10 ^ M:=Nat.lt_of_lt_of_le h (Nat.pow_le_pow_right (by decide) k)
theorem v0s {a b K:Nat} (h:a<10 ^ K) (k:b<10 ^ K):a+b<10 ^ (K+1):=by rw [Nat.pow_succ];omega
theorem x7i (hlib:Lib E) {a b K L:Nat} (ha:a<10 ^ K) (hb:b<10 ^ L) (hK:K≤Lim) (hL:L≤Lim):Fn E y3q [.c (.str (B (dec a))),.c (.str (B (dec b)))] (.tup [.c (.str (B (dec (a+b)))),.c (.i64 0)]):=by
 have w1:=z6g ha
 have w2:=z6g hb
 have hK':=hK
 have hL':=hL
 rw [O6] at hK' hL'
 have hs:=v0s (z0e ha (show K≤max K L by omega)) (z0e hb (show L≤max K L by omega))
 exact j8u (x8w hlib ha hb hK hL) rfl (y0u (w2u (by omega) (by omega)) (hlib.text _ _ hs (by omega)))
theorem y6y (hlib:Lib E) {a b K L:Nat} (ha:a<10 ^ K) (hb:b<10 ^ L) (hK:K≤Lim) (hL:L≤Lim) (hab:b≤a):Fn E z8w [.c (.str (B (dec a))),.c (.str (B (dec b)))] (.tup [.c (.str (B (dec (a-b)))),.c (.i64 0)]):=by
 have w1:=z6g ha
 have hK':=hK
 rw [O6] at hK'
 exact j8x (x8w hlib ha hb hK hL) rfl (y6s (by omega)) (fun h=>by have:=y3s.1 h;omega) (z9z (v8p (by omega) hab) (hlib.text _ _ (Nat.lt_of_le_of_lt (Nat.sub_le _ _) ha) (by omega)))
theorem y6x (hlib:Lib E) {a b K L:Nat} (ha:a<10 ^ K) (hb:b<10 ^ L) (hKL:K+L≤Lim):Fn E z3g [.c (.str (B (dec a))),.c (.str (B (dec b)))] (.tup [.c (.str (B (dec (a*b)))),.c (.i64 0)]):=by
 have w1:=z6g ha
 have w2:=z6g hb
 have hK':=hKL
 rw [O6] at hK'
 exact j8w (x8w hlib ha hb (by omega) (by omega)) rfl (y0a (w1c (by omega)) (hlib.text _ _ (z1w ha hb) (by omega)))
theorem y8q (hlib:Lib E) {a b K L:Nat} (ha:a<10 ^ K) (hb:b<10 ^ L) (hK:K≤Lim) (hL:L≤Lim)(h0:b≠0):Fn E z1j [.c (.str (B (dec a))),.c (.str (B (dec b)))] (.tup [.c (.str (B (dec (a / b)))),.c (.str (B (dec (a % b)))),.c (.i64 0)]):=by
 have w1:=z6g ha
 have hK':=hK
 rw [O6] at hK'
 have hne:((Wr (words b)).length:Int)≠0:=by
  have:words b≠[]:=fun h=>h0 (z4k.1 h)
  have:=z8d this
  rw [A8];omega
 exact k8x (x8w hlib ha hb hK hL) rfl hne (q0w h0 (by omega)) (hlib.text _ _ (Nat.lt_of_le_of_lt (Nat.div_le_self _ _) ha) (by omega)) (hlib.text _ _ (Nat.lt_of_le_of_lt (Nat.mod_le _ _) ha) (by omega))
theorem j5u (hlib:Lib E) {a b K L:Nat} (ha:a<10 ^ K) (hb:b<10 ^ L) (hK:K≤Lim) (hL:L≤Lim) (hp:0<a∨0<b):Fn E y9b [.c (.str (B (dec a))),.c (.str (B (dec b)))] (.tup [.c (.str (B (dec (Nat.gcd a b)))),.c (.i64 0)]):=by
 have w1:=z6g ha
 have w2:=z6g hb
 have hK':=hK
 have hL':=hL
 rw [O6] at hK' hL'
 have hg:Nat.gcd a b<10 ^ max K L:=by
  rcases hp with h | h
  · exact Nat.lt_of_le_of_lt (Nat.gcd_le_left b h) (z0e ha (by omega))
  · exact Nat.lt_of_le_of_lt (Nat.gcd_le_right a h) (z0e hb (by omega))
 exact j8v (x8w hlib ha hb hK hL) rfl (y1o (gcd_ok (L:=max K L) (by omega) (by omega) (by omega)) (hlib.text _ _ hg (by omega)))
theorem v6k (l m:List UInt8):(B l == B m)=(l == m):=by
 rw [beq_toListBytes,toList_eq,toList_eq,z9o,z9o]
theorem B48:(⟨#[48]⟩:BA)=B [48]:=rfl
theorem B45:(⟨#[45]⟩:BA)=B [45]:=rfl
theorem B49:(⟨#[49]⟩:BA)=B [49]:=rfl
theorem v7c:B [49]=B (dec 1):=by rw [y1c]
def Zc (z:Int):List DV:=[.bool (decide (z<0)),.str (B (dec z.natAbs))]
def intB (l:List UInt8):Bool:=if [45].isPrefixOf l then natB (l.drop 1) && !(l.drop 1 == [48]) else natB l
theorem q8k (c:UInt8) (m:List UInt8):[45].isPrefixOf (c::m)=(c == 45):=by
 show ((45:UInt8) == c && [].isPrefixOf m)=(c == 45)
 simp [Bool.beq_eq_decide_eq,eq_comm]
theorem x6k {l:List UInt8}:intB l=true↔q6s l:=by
 unfold intB q6s
 cases l with
 | nil =>
  show natB []=true↔_
  constructor
  · intro h;exact absurd h (by decide)
  · rintro (h | ⟨m,h,_⟩)
    · exact absurd rfl h.1
    · cases h
 | cons c m =>
  rw [q8k]
  by_cases hc:c=45
  · subst hc
    simp only [beq_self_eq_true,if_true,List.drop_succ_cons,List.drop_zero,Bool.and_eq_true,Bool.not_eq_true',beq_eq_false_iff_ne,x0w]
    constructor
    · rintro ⟨h1,h2⟩;exact .inr ⟨m,rfl,h1,h2⟩
    · rintro (h | ⟨m',h,h1,h2⟩)
      · have:=h.2.1 45 (by simp)
        exact absurd this.1 (by decide)
      · cases h;exact ⟨h1,h2⟩
  · simp only [beq_eq_false_iff_ne.2 hc,Bool.false_eq_true,if_false,x0w]
    constructor
    · exact .inl
    · rintro (h | ⟨m',h,_⟩)
      · exact h
      · cases h;exact absurd rfl hc
theorem x9h (z:Int):intB (decZ z)=true:=x6k.2 (v1a z)
theorem q8t (hlib:Lib E) {l:List UInt8} (hl:l.length<10000000000000):Fn E Z5 [.c (.str (B l))] (.tup [.agg [.bool ([45].isPrefixOf l),.str (B (if [45].isPrefixOf l then l.drop 1 else l))],.c (.bool (intB l))]):=by
 have hc:=hlib.cutPrefix l [45] hl (by decide)
 unfold intB
 cases hb:[45].isPrefixOf l with
 | true =>
  rw [hb] at hc
  simp only [if_true,List.length_singleton] at hc ⊢
  have hv:=z1m (E:=E) (l.drop 1) (by simp;omega)
  cases hn:natB (l.drop 1) with
  | true =>
   rw [hn] at hv
   by_cases h48:l.drop 1=[48]
   · rw [h48,show (true && !([48] == ([48]:List UInt8)))=false from rfl]
     rw [h48] at hc hv
     exact j4q hc hv (by rw [B48,v6k];rfl)
   · rw [show (true && !(l.drop 1 == [48]))=true by rw [beq_eq_false_iff_ne.2 h48];rfl]
     exact x6n hc hv (by rw [B48,v6k,beq_eq_false_iff_ne.2 h48];rfl)
  | false =>
   rw [hn] at hv
   rw [Bool.false_and]
   exact x6o hc hv
 | false =>
  rw [hb] at hc
  simp only [Bool.false_eq_true,if_false] at hc ⊢
  have hv:=z1m (E:=E) l (by omega)
  cases hn:natB l with
  | true=>rw [hn] at hv;exact x6n hc hv rfl
  | false=>rw [hn] at hv;exact x6o hc hv
theorem k5f (z:Int):[45].isPrefixOf (decZ z)=decide (z<0)∧(if [45].isPrefixOf (decZ z) then (decZ z).drop 1 else decZ z)=dec z.natAbs:=by
 by_cases h:z<0
 · rw [z1u h,q8k];simp [h]
 · rw [M5 (by omega)]
   have:[45].isPrefixOf (dec z.natAbs)=false:=by
    cases hd:dec z.natAbs with
    | nil=>rfl
    | cons c m =>
     rw [q8k]
     refine beq_eq_false_iff_ne.2 fun e=>?_
     have:=y2q z.natAbs c (by rw [hd];simp)
     rw [e] at this
     exact absurd this.1 (by decide)
   rw [this];simp [h]
theorem q2a (hlib:Lib E) {z:Int} (hl:(decZ z).length<10000000000000):Fn E Z5 [.c (.str (B (decZ z)))] (.tup [.agg (Zc z),.c (.bool true)]):=by
 have:=q8t hlib hl
 rw [(k5f z).2,(k5f z).1,x9h] at this
 exact this
theorem x8y {z:Int} {K:Nat} (h:z.natAbs<10 ^ K):(decZ z).length≤K+2:=by
 have:=k2k h
 unfold decZ
 split <;> simp <;> omega
theorem y2v (hlib:Lib E) {l:List UInt8} (hl:l.length<10000000000000):Fn E z5q [.c (.str (B l))] (.c (.bool (intB l))):=j1f (q8t hlib hl)
theorem x5v (hlib:Lib E) {a b:Int} {K L:Nat} (ha:a.natAbs<10 ^ K) (hb:b.natAbs<10 ^ L) (hK:K≤Lim) (hL:L≤Lim):Fn E z1n [.c (.str (B (decZ a))),.c (.str (B (decZ b)))] (.tup [.agg (Zc a),.agg (Zc b),.c (.i64 0)]):=by
 have h1:=x8y ha
 have h2:=x8y hb
 rw [O6] at hK hL
 exact j4p (q2a hlib (by omega)) (q2a hlib (by omega))
theorem q4u (hlib:Lib E) {a:Int} {K:Nat} (ha:a.natAbs<10 ^ K) (hK:K≤Lim):Fn E z8v [.c (.str (B (decZ a)))] (.tup [.agg (Zc a),.c (.i64 0)]):=by
 have:=x5v hlib ha (show (0:Int).natAbs<10 ^ 1 by decide) hK (by rw [O6];omega)
 rw [y6e] at this
 exact j8i this
def sgn (neg:Bool) (n:Nat):Int:=if neg then -(n:Int) else n
theorem y2k (neg:Bool) (n:Nat):Fn E H7 [.c (.bool neg),.c (.str (B (dec n)))] (.agg (Zc (sgn neg n))):=by
 cases neg with
 | false =>
  have:Zc (sgn false n)=[.bool false,.str (B (dec n))]:=by unfold Zc sgn;simp
  rw [this];exact j4t
 | true =>
  by_cases h:n=0
  · subst h
    have:Zc (sgn true 0)=[.bool false,.str (B (dec 0))]:=by unfold Zc sgn;simp
    rw [this];exact j4s (by rw [B48,z3y])
  · have:Zc (sgn true n)=[.bool true,.str (B (dec n))]:=by
     unfold Zc sgn
     simp only [if_true,Int.natAbs_neg,Int.natAbs_natCast]
     rw [decide_eq_true (by omega)]
    rw [this]
    exact j4r (fun e=>h (by rw [B48] at e;exact y0l.1 (y0i e)))
theorem x8t {z:Int} {K:Nat} (hz:z.natAbs<10 ^ K) (hK:K≤Lim+Lim):Fn E K1 [.agg (Zc z)] (.c (.str (B (decZ z)))):=by
 have h1:=k2k hz
 rw [O6] at hK
 by_cases h:z<0
 · have:Zc z=[.bool true,.str (B (dec z.natAbs))]:=by unfold Zc;rw [decide_eq_true h]
   rw [this,z1u h]
   exact x4t (by rw [B45,y6l];rfl) (by rw [B45,D1,D1];simp;omega)
 · have:Zc z=[.bool false,.str (B (dec z.natAbs))]:=by unfold Zc;rw [decide_eq_false h]
   rw [this,M5 (by omega)]
   exact x4u
theorem j0n (z:Int):Fn E X7 [.agg (Zc z)] (.agg (Zc (-z))):=by
 have:=y2k (E:=E) (!decide (z<0)) z.natAbs
 have e:sgn (!decide (z<0)) z.natAbs=-z:=by unfold sgn;split <;> rename_i h <;> simp at h <;> omega
 rw [e] at this
 exact y7m this
theorem k7y:Fn E y0w [] (.agg [.bool false,.str (B [48])]):=j4u
theorem v7s (z:Int):((decide (z<0) == false) && ((B (dec z.natAbs) == B [48]) && true))=decide (z=0):=by
 rw [v6k]
 by_cases h:z=0
 · subst h;rw [decide_eq_true rfl];simp [z3y]
 · rw [decide_eq_false h]
   have:(dec z.natAbs == [48])=false:=beq_eq_false_iff_ne.2 fun e=>h (by have:=y0l.1 e;omega)
   rw [this];simp
theorem v0c (z:Int):Fn E P4 [.agg (Zc z)] (.c (.i64 (cmpI z 0))):=by
 have hz:=v7s z
 by_cases h:z=0
 · rw [decide_eq_true h] at hz
   rw [j2r h]
   exact x4q k7y hz
 · rw [decide_eq_false h] at hz
   by_cases h1:z<0
   · have e:cmpI z 0=-1:=by unfold cmpI;rw [if_pos h1]
     have:Zc z=[.bool true,.str (B (dec z.natAbs))]:=by unfold Zc;rw [decide_eq_true h1]
     rw [e,this]
     exact x4r k7y rfl
   · have e:cmpI z 0=1:=by unfold cmpI;rw [if_neg h1,if_pos (by omega)]
     have:Zc z=[.bool false,.str (B (dec z.natAbs))]:=by unfold Zc;rw [decide_eq_false h1]
     rw [e,this]
     rw [decide_eq_false h1] at hz
     exact x4s k7y hz
theorem w3n (hlib:Lib E) {a b:Int} {K L:Nat} (ha:a.natAbs<10 ^ K) (hb:b.natAbs<10 ^ L) (hK:K≤Lim) (hL:L≤Lim) (hs:decide (a<0)=decide (b<0)):Fn E y3p [.agg (Zc a),.agg (Zc b)] (.agg (Zc (a+b))):=by
 have h:=x7i hlib ha hb hK hL
 have hw:=y2k (E:=E) (decide (a<0)) (a.natAbs+b.natAbs)
 have e:sgn (decide (a<0)) (a.natAbs+b.natAbs)=a+b:=by
  unfold sgn
  rw [decide_eq_decide] at hs
  by_cases c:a<0
  · have:=hs.1 c;rw [decide_eq_true c,if_pos rfl];omega
  · have:¬ b<0:=fun x=>c (hs.2 x)
    rw [decide_eq_false c,if_neg (by simp)];omega
 rw [e] at hw
 exact j8j h hw
theorem j3t (hlib:Lib E) {a b:Int} {K L:Nat} (ha:a.natAbs<10 ^ K) (hb:b.natAbs<10 ^ L) (hK:K≤Lim) (hL:L≤Lim) (hs:decide (a<0)≠decide (b<0)):Fn E Z4 [.agg (Zc a),.agg (Zc b)] (.agg (Zc (a+b))):=by
 have hc:=k3c hlib ha hb hK hL
 have hs':¬ (a<0↔b<0):=fun h=>hs (decide_eq_decide.2 h)
 by_cases c:a.natAbs<b.natAbs
 · have h:=y6y hlib hb ha hL hK (by omega)
   have hw:=y2k (E:=E) (decide (b<0)) (b.natAbs-a.natAbs)
   have e:sgn (decide (b<0)) (b.natAbs-a.natAbs)=a+b:=by
    unfold sgn
    by_cases d:b<0
    · have:¬ a<0:=fun x=>hs' ⟨fun _=>d,fun _=>x⟩
      rw [decide_eq_true d,if_pos rfl];omega
    · have:a<0:=Classical.byContradiction fun x=>hs' ⟨fun y=>absurd y x,fun y=>absurd y d⟩
      rw [decide_eq_false d,if_neg (by simp)];omega
   rw [e] at hw
   exact x6l hc (y3s.2 (by omega)) h hw
 · have h:=y6y hlib ha hb hK hL (by omega)
   have hw:=y2k (E:=E) (decide (a<0)) (a.natAbs-b.natAbs)
   have e:sgn (decide (a<0)) (a.natAbs-b.natAbs)=a+b:=by
    unfold sgn
    by_cases d:a<0
    · have:¬ b<0:=fun x=>hs' ⟨fun _=>x,fun _=>d⟩
      rw [decide_eq_true d,if_pos rfl];omega
    · have:b<0:=Classical.byContradiction fun x=>hs' ⟨fun y=>absurd y d,fun y=>absurd y x⟩
      rw [decide_eq_false d,if_neg (by simp)];omega
   rw [e] at hw
   exact x6m hc (fun x=>c (by have:=y3s.1 x;omega)) h hw
theorem v6v (b:Bool):Fn E Y4 [.c (.bool b)] (.c (.i64 (if b then 1 else 0))):=by
 cases b
 · exact j8h
 · exact j8g
theorem q8i (hlib:Lib E) {a b:Int} {K L:Nat} (ha:a.natAbs<10 ^ K) (hb:b.natAbs<10 ^ L) (hK:K≤Lim) (hL:L≤Lim):Fn E N6 [.agg (Zc a),.agg (Zc b)] (.agg (Zc (a+b))):=by
 have b1:=v6v (E:=E) (decide (a<0))
 have b2:=v6v (E:=E) (decide (b<0))
 by_cases hs:decide (a<0)=decide (b<0)
 · have h:=w3n hlib ha hb hK hL hs
   cases c:decide (a<0) with
   | true =>
    rw [c] at b1 hs;rw [← hs] at b2
    simp only [Zc] at h ⊢;rw [c,← hs] at h ⊢
    exact x4p b1 b2 h
   | false =>
    rw [c] at b1 hs;rw [← hs] at b2
    simp only [Zc] at h ⊢;rw [c,← hs] at h ⊢
    exact x4m b1 b2 h
 · have h:=j3t hlib ha hb hK hL hs
   cases c:decide (a<0) with
   | true =>
    have d:decide (b<0)=false:=by rw [c] at hs;cases x:decide (b<0) with | true=>exact absurd x.symm hs | false=>rfl
    rw [c] at b1;rw [d] at b2
    simp only [Zc] at h ⊢;rw [c,d] at h ⊢
    exact x4o b1 b2 h
   | false =>
    have d:decide (b<0)=true:=by rw [c] at hs;cases x:decide (b<0) with | false=>exact absurd x.symm hs | true=>rfl
    rw [c] at b1;rw [d] at b2
    simp only [Zc] at h ⊢;rw [c,d] at h ⊢
    exact x4n b1 b2 h
theorem v6f (hlib:Lib E) {a b:Int} {K L:Nat} (ha:a.natAbs<10 ^ K) (hb:b.natAbs<10 ^ L) (hKL:K+L≤Lim):Fn E z4s [.agg (Zc a),.agg (Zc b)] (.agg (Zc (a*b))):=by
 have h:=y6x hlib ha hb hKL
 have hw:=y2k (E:=E) (!(decide (a<0) == decide (b<0))) (a.natAbs*b.natAbs)
 have e:sgn (!(decide (a<0) == decide (b<0))) (a.natAbs*b.natAbs)=a*b:=by
  unfold sgn
  have ea:(a.natAbs:Int)=if a<0 then -a else a:=by split <;> omega
  have eb:(b.natAbs:Int)=if b<0 then -b else b:=by split <;> omega
  rw [Int.natCast_mul,ea,eb]
  by_cases c:a<0 <;> by_cases d:b<0 <;> simp [c,d] <;> grind
 rw [e] at hw
 exact x2n rfl h hw
theorem x2b {a b:Int} {K:Nat} (ha:a.natAbs<10 ^ K) (hb:b.natAbs<10 ^ K):(a+b).natAbs<10 ^ (K+1):=by
 have:=Int.natAbs_add_le a b
 rw [Nat.pow_succ];omega
theorem j4m (hlib:Lib E) {a b:Int} {K L:Nat} (ha:a.natAbs<10 ^ K) (hb:b.natAbs<10 ^ L) (hK:K≤Lim) (hL:L≤Lim):Fn E y3o [.c (.str (B (decZ a))),.c (.str (B (decZ b)))] (.tup [.c (.str (B (decZ (a+b)))),.c (.i64 0)]):=by
 have hs:=x2b (z0e ha (show K≤max K L by omega)) (z0e hb (show L≤max K L by omega))
 have:1≤Lim:=by rw [O6];omega
 exact j8d (x5v hlib ha hb hK hL) rfl (q8i hlib ha hb hK hL) (x8t hs (by omega))
theorem z1t {a b:Int} {K L:Nat} (ha:a.natAbs<10 ^ K) (hb:b.natAbs<10 ^ L):(a*b).natAbs<10 ^ (K+L):=by
 rw [Int.natAbs_mul];exact z1w ha hb
theorem z7f (hlib:Lib E) {a b:Int} {K L:Nat} (ha:a.natAbs<10 ^ K) (hb:b.natAbs<10 ^ L) (hKL:K+L≤Lim):Fn E V2 [.c (.str (B (decZ a))),.c (.str (B (decZ b)))] (.tup [.c (.str (B (decZ (a*b)))),.c (.i64 0)]) :=
 j8e (x5v hlib ha hb (by omega) (by omega)) rfl (v6f hlib ha hb hKL) (x8t (z1t ha hb) (by omega))
theorem j4n (hlib:Lib E) {a:Int} {K:Nat} (ha:a.natAbs<10 ^ K) (hK:K≤Lim):Fn E y9a [.c (.str (B (decZ a)))] (.tup [.c (.str (B (decZ (-a)))),.c (.i64 0)]) :=
 j8f (q4u hlib ha hK) rfl (j0n a) (x8t (K:=K) (by rw [Int.natAbs_neg];exact ha) (by omega))
theorem j4l (hlib:Lib E) {a:Int} {K:Nat} (ha:a.natAbs<10 ^ K) (hK:K≤Lim):Fn E y8z [.c (.str (B (decZ a)))] (.tup [.c (.str (B (dec a.natAbs))),.c (.i64 0)]) :=
 j8c (q4u hlib ha hK) rfl
theorem j1e (hlib:Lib E) {a:Int} {K:Nat} (ha:a.natAbs<10 ^ K) (hK:K≤Lim):Fn E y6m [.c (.str (B (decZ a)))] (.tup [.c (.i64 (cmpI a 0)),.c (.i64 0)]) :=
 j4o (q4u hlib ha hK) (v0c a)
theorem v6y (a b:Int):cmpI (a+-b) 0=cmpI a b:=by unfold cmpI;split <;> split <;> (try split) <;> (try split) <;> omega
theorem k2p (hlib:Lib E) {a b:Int} {K L:Nat} (ha:a.natAbs<10 ^ K) (hb:b.natAbs<10 ^ L) (hK:K≤Lim) (hL:L≤Lim):Fn E y0v [.c (.str (B (decZ a))),.c (.str (B (decZ b)))] (.tup [.c (.i64 (cmpI a b)),.c (.i64 0)]):=by
 rw [← v6y a b]
 exact k5m (x5v hlib ha hb hK hL) (j0n b) (q8i hlib ha (b:=-b) (by rw [Int.natAbs_neg];exact hb) hK hL) (v0c _)
theorem v1b (hlib:Lib E) {a:Int} {b K L:Nat} (ha:a.natAbs<10 ^ K) (hb:b<10 ^ L) (hK:K≤Lim) (hL:L≤Lim)(h0:b≠0):Fn E U3 [.agg (Zc a),.agg (Zc b)] (.tup [.agg (Zc (a / b)),.agg (Zc (a % b))]):=by
 have h:=y8q hlib ha hb hK hL h0
 have eb:Zc (b:Int)=[.bool false,.str (B (dec b))]:=by unfold Zc;rw [decide_eq_false (by omega),Int.natAbs_natCast]
 have hdm:=Nat.div_add_mod a.natAbs b
 have hlt:=Nat.mod_lt a.natAbs (show 0<b by omega)
 obtain ⟨q,eq⟩:∃ q,q=a.natAbs / b:=⟨_,rfl⟩
 obtain ⟨r,er⟩:∃ r,r=a.natAbs % b:=⟨_,rfl⟩
 rw [← eq,← er] at h hdm
 rw [← er] at hlt
 have hq:q<10 ^ K:=by rw [eq];exact Nat.lt_of_le_of_lt (Nat.div_le_self _ _) ha
 rw [eb]
 have uniq:∀ Q R:Int,a=b*Q+R→0≤R→R<b→a / b=Q∧a % b=R:=by
  intro Q R e h1 h2
  have:=(Int.ediv_emod_unique (show 0<(b:Int) by omega) (a:=a) (r:=R) (q:=Q)).2 ⟨by rw [e];omega,h1,h2⟩
  exact this
 have hdm':((b:Int))*q+r=a.natAbs:=by have:=congrArg (Nat.cast (R:=Int)) hdm;simpa using this
 by_cases c:a<0
 · have ea:Zc a=[.bool true,.str (B (dec a.natAbs))]:=by unfold Zc;rw [decide_eq_true c]
   rw [ea]
   by_cases hr:r=0
   · obtain ⟨u1,u2⟩:=uniq (-(q:Int)) 0 (by rw [Int.mul_neg];omega) (by omega) (by omega)
     rw [u1,u2]
     have w1:=y2k (E:=E) true q
     have w2:=y2k (E:=E) false r
     rw [show sgn true q=-(q:Int) from rfl] at w1
     rw [show sgn false r=(r:Int) from rfl,hr,show ((0:Nat):Int)=0 from rfl] at w2
     rw [hr] at h
     exact x0f rfl h (by rw [B48,z3y]) w1 w2
   · obtain ⟨u1,u2⟩:=uniq (-((q+1:Nat):Int)) ((b-r:Nat):Int) (by rw [Int.mul_neg,Int.natCast_add,Int.mul_add];omega) (by omega) (by omega)
     rw [u1,u2]
     have w1:=y2k (E:=E) true (q+1)
     have w2:=y2k (E:=E) false (b-r)
     have h1:=x7i hlib hq (show 1<10 ^ 1 by decide) hK (by rw [O6];omega)
     have h2:=y6y hlib hb (show r<10 ^ L by omega) hL hL (by omega)
     rw [← v7c] at h1
     exact x0e rfl h (fun e=>hr (by rw [B48] at e;exact y0l.1 (y0i e))) h1 h2 w1 w2
 · have ea:Zc a=[.bool false,.str (B (dec a.natAbs))]:=by unfold Zc;rw [decide_eq_false c]
   rw [ea]
   obtain ⟨u1,u2⟩:=uniq q r (by omega) (by omega) (by omega)
   rw [u1,u2]
   exact x0g rfl h (y2k false q) (y2k false r)
theorem q7e {a:Int} {b:Nat}:(a / b).natAbs≤a.natAbs:=Int.natAbs_ediv_le_natAbs a b
theorem k5n (hlib:Lib E) {a:Int} {b K L:Nat} (ha:a.natAbs<10 ^ K) (hb:b<10 ^ L) (hK:K≤Lim) (hL:L≤Lim)(h0:b≠0):Fn E y2n [.c (.str (B (decZ a))),.c (.str (B (dec b)))] (.tup [.c (.str (B (decZ (a / b)))),.c (.str (B (decZ (a % b)))),.c (.i64 0)]):=by
 have hbo:=x5v hlib ha (show (b:Int).natAbs<10 ^ L from hb) hK hL
 rw [z8x] at hbo
 have hz:=v7s (b:Int)
 rw [decide_eq_false (show ¬ (b:Int)=0 by omega)] at hz
 have hr0:=Int.emod_nonneg a (show (b:Int)≠0 by omega)
 have hr1:=Int.emod_lt_of_pos a (show 0<(b:Int) by omega)
 exact k8i hbo rfl k7y hz (v1b hlib ha hb hK hL h0) (x8t (Nat.lt_of_le_of_lt q7e ha) (by omega)) (x8t (K:=L) (Nat.lt_of_le_of_lt (show (a % b).natAbs≤b by omega) hb) (by omega))
def Qc (q:Rat):List DV:=[.str (B (decZ q.num)),.str (B (dec q.den))]
theorem B47:(⟨#[47]⟩:BA)=B [47]:=rfl
theorem Sz.num {q:Rat} {K:Nat} (h:Sz q K):q.num.natAbs<10 ^ K:=h.1
theorem Sz.den {q:Rat} {K:Nat} (h:Sz q K):q.den<10 ^ K:=h.2
theorem q3a {q:Rat} {K:Nat} (h:Sz q K):(dec q.den).length≤K:=dec_length h.2 h.pos
theorem k7v {q:Rat} {K:Nat} (h:Sz q K) (hK:K≤Lim):Fn E F_rational_frac_text [.agg (Qc q)] (.c (.str (B (decQ q)))):=by
 have h1:=x8y h.1
 have h2:=q3a h
 rw [O6] at hK
 by_cases hd:q.den=1
 · rw [z3x hd]
   exact x7z (by rw [hd,y1c];rfl)
 · rw [z1l hd]
   exact x8a (s2:=B (decZ q.num++[47])) (by rw [B47,y6l]) (by rw [y6l];simp) (fun e=>hd (by rw [B49] at e;exact y2r.1 (y0i e))) (by rw [B47,D1,D1];simp;omega) (by rw [D1,D1];simp;omega)
theorem k2l (hlib:Lib E) {z:Int} {d K L:Nat} (hz:z.natAbs<10 ^ K) (hd:d<10 ^ L) (hK:K≤Lim) (hL:L≤Lim)(h0:d≠0):Fn E z4u [.c (.str (B (decZ z))),.c (.str (B (dec d)))] (.c (.str (B (dec (Nat.gcd z.natAbs d))))) :=
 k3k (j4l hlib hz hK) (j5u hlib hz hd hK hL (.inr (by omega)))
theorem v1e {z:Int} {d:Nat} (h0:d≠0):Nat.gcd z.natAbs d≠0:=fun h=>h0 (Nat.eq_zero_of_gcd_eq_zero_right h)
theorem q1t {z:Int} {d:Nat} (h0:d≠0):(mkRat z d).num=z / (Nat.gcd z.natAbs d:Nat):=by rw [Rat.num_mkRat,if_neg h0,Nat.gcd_comm]
theorem q1s {z:Int} {d:Nat} (h0:d≠0):(mkRat z d).den=d / Nat.gcd z.natAbs d:=by rw [Rat.den_mkRat,if_neg h0,Nat.gcd_comm]
theorem Qc_mk {z:Int} {d:Nat} (h0:d≠0):Qc (mkRat z d)=[.str (B (decZ (z / (Nat.gcd z.natAbs d:Nat)))),.str (B (dec (d / Nat.gcd z.natAbs d)))]:=by unfold Qc;rw [q1t h0,q1s h0]
theorem q1o (hlib:Lib E) {z:Int} {d K L:Nat} (hz:z.natAbs<10 ^ K) (hd:d<10 ^ L) (hK:K≤Lim) (hL:L≤Lim)(h0:d≠0):Fn E P3 [.c (.str (B (decZ z))),.c (.str (B (dec d)))] (.agg (Qc (mkRat z d))):=by
 have hg:=k2l hlib hz hd hK hL h0
 rw [Qc_mk h0]
 obtain ⟨g,eg⟩:∃ g,g=Nat.gcd z.natAbs d:=⟨_,rfl⟩
 have hg0:g≠0:=by rw [eg];exact v1e h0
 have hgl:g<10 ^ L:=by rw [eg];exact Nat.lt_of_le_of_lt (Nat.gcd_le_right _ (by omega)) hd
 rw [← eg] at hg ⊢
 by_cases h1:g=1
 · rw [h1] at hg ⊢
   rw [show ((1:Nat):Int)=1 from rfl,Int.ediv_one,Nat.div_one]
   exact k6l hg (by rw [y1c,B49])
 · exact k6k hg (fun e=>h1 (by rw [B49] at e;exact y2r.1 (y0i e))) (k5n hlib hz hgl hK hL hg0) (y8q hlib hd hgl hL hL hg0)
theorem x1s {z:Int} (h:(decZ z).length≤9):z.natAbs<1000000000:=by
 have h1:(dec z.natAbs).length≤(decZ z).length:=by unfold decZ;split <;> simp
 have h2:=z1i z.natAbs
 have h3:(10:Nat) ^ (dec z.natAbs).length≤10 ^ 9:=Nat.pow_le_pow_right (by decide) (by omega)
 rw [y4r] at h3
 omega
theorem x9q {n:Nat} (h:(dec n).length≤9):n<1000000000:=by
 have:=x1s (z:=(n:Int)) (by rw [z8x];exact h)
 omega
theorem z7h (hlib:Lib E) {q:Rat} (h1:(decZ q.num).length≤9)(h2:(dec q.den).length≤9):Fn E B7 [.agg (Qc q)] (.tup [.c (.i64 q.num),.c (.i64 q.den),.c (.bool true)]):=by
 have p1:=hlib.parseInt q.num h1
 have p2:=hlib.parseInt (q.den:Int) (by rw [z8x];exact h2)
 rw [z8x] at p2
 exact x3r (by rw [D1];omega) (by rw [D1];omega) p1 p2
theorem y6f {q:Rat} (h:¬ ((decZ q.num).length≤9∧(dec q.den).length≤9)):Fn E B7 [.agg (Qc q)] (.tup [.c (.i64 0),.c (.i64 0),.c (.bool false)]):=by
 by_cases h1:(decZ q.num).length≤9
 · exact x3q (by rw [D1];omega) (by rw [D1];have:¬ (dec q.den).length≤9:=fun x=>h ⟨h1,x⟩;omega)
 · exact x3p (by rw [D1];omega)
theorem v3s {x0 x1:Int} {s:BA}:∀ (t:Nat) (a b:Int),b.natAbs<t→∃ g:Int,Lp E 1 Y6 0 (z7l x0 x1 a b s s) (.exit 0) (y2x x0 x1 s s g)∧g.natAbs=Nat.gcd a.natAbs b.natAbs
 | 0,a,b,h=>by omega
 | t+1,a,b,h=>by
  by_cases h0:b=0
  · subst h0
    exact ⟨a,k0v rfl,by simp⟩
  · have hlt:(Int.tmod a b).natAbs<b.natAbs:=by
     rw [Int.natAbs_tmod]
     exact Nat.mod_lt _ (by omega)
    obtain ⟨g,h1,h2⟩:=v3s t b (Int.tmod a b) (by omega)
    refine ⟨g,k6m rfl h0 h0 h1,?_⟩
    rw [h2,Int.natAbs_tmod]
    exact (Nat.gcd_comm _ _).trans ((Nat.gcd_rec _ _).symm.trans (Nat.gcd_comm _ _))
theorem v8y (hlib:Lib E) {p:Int} {q:Nat} (hp:p.natAbs<9000000000000000000) (hq:q<9000000000000000000)(h0:q≠0):Fn E Y6 [.c (.i64 p),.c (.i64 q)] (.agg (Qc (mkRat p q))):=by
 obtain ⟨g,h1,h2⟩:=v3s (E:=E) (x0:=p) (x1:=q) (s:=⟨#[]⟩) (q+1) p q (by omega)
 rw [Int.natAbs_natCast] at h2
 have hg0:=v1e (z:=p) h0
 have hgle:Nat.gcd p.natAbs q≤q:=Nat.gcd_le_right _ (by omega)
 rw [Qc_mk h0]
 obtain ⟨G,eG⟩:∃ G,G=Nat.gcd p.natAbs q:=⟨_,rfl⟩
 have d1:((G:Nat):Int) ∣ p:=by rw [eG];exact Int.ofNat_dvd_left.2 (Nat.gcd_dvd_left _ _)
 rw [← eG] at h2 hg0 hgle ⊢
 have hm:(if (if g<0 then -g else -g)>g then (if g<0 then -g else -g) else g)=(G:Int):=by split <;> split at*<;> omega
 have hq':((q / G:Nat):Int)=(q:Int) / G:=Int.natCast_ediv q G
 have f1:=hlib.formatInt (p / G) (by have:=Int.natAbs_ediv_le_natAbs p G;omega)
 have hqg:q / G≤q:=Nat.div_le_self _ _
 obtain ⟨Q,eQ⟩:∃ Q,Q=q / G:=⟨_,rfl⟩
 rw [← eQ] at hq' hqg ⊢
 have f2:=hlib.formatInt (Q:Int) (by omega)
 rw [z8x] at f2
 have hpd:Int.tdiv p G=p / G:=Int.tdiv_eq_ediv_of_dvd d1
 have hpa:=Int.natAbs_ediv_le_natAbs p G
 refine j9b (i3:=-g) (i4:=(G:Int)) (i5:=p / G) (i6:=(Q:Int)) (wi (by omega)) (by split <;> omega) (wi ⟨hpd,by omega,by omega⟩) (wi ⟨(tdv (by omega) hq'.symm),by omega,by omega⟩) h1 (by omega) f1 f2
theorem q8j (hlib:Lib E) {x y:Rat} {K L:Nat} (hx:Sz x K) (hy:Sz y L) (hKL:K+L+1≤Lim):Fn E z0n [.agg (Qc x),.agg (Qc y)] (.agg (Qc (x+y))):=by
 rw [Rat.add_def']
 have hd:x.den*y.den≠0:=Nat.mul_ne_zero x.den_nz y.den_nz
 have low:Fn E P3 [.c (.str (B (decZ (x.num*y.den+y.num*x.den)))),.c (.str (B (dec (x.den*y.den))))] (.agg (Qc (mkRat (x.num*y.den+y.num*x.den) (x.den*y.den)))):=by
  refine q1o hlib (K:=K+L+1) (L:=K+L) ?_ (z1w hx.2 hy.2) hKL (by omega) hd
  have h1:=z1t (b:=(y.den:Int)) hx.1 (show (y.den:Int).natAbs<10 ^ L from hy.2)
  have h2:=z1t (b:=(x.den:Int)) hy.1 (show (x.den:Int).natAbs<10 ^ K from hx.2)
  exact x2b h1 (by rw [Nat.add_comm];exact h2)
 have m1:=z7f hlib hx.1 (b:=(y.den:Int)) (show (y.den:Int).natAbs<10 ^ L from hy.2) (by omega)
 have m2:=z7f hlib hy.1 (b:=(x.den:Int)) (show (x.den:Int).natAbs<10 ^ K from hx.2) (by omega)
 rw [z8x] at m1 m2
 have a1:=j4m hlib (z1t hx.1 (show (y.den:Int).natAbs<10 ^ L from hy.2)) (z1t hy.1 (show (x.den:Int).natAbs<10 ^ K from hx.2)) (by omega) (by omega)
 have n1:=y6x hlib hx.2 hy.2 (by omega)
 by_cases c1:(decZ x.num).length≤9∧(dec x.den).length≤9
 · by_cases c2:(decZ y.num).length≤9∧(dec y.den).length≤9
   · have b1:=x1s c1.1
     have b2:=x9q c1.2
     have b3:=x1s c2.1
     have b4:=x9q c2.2
     have p1:(x.num*(y.den:Int)).natAbs≤999999999*999999999:=by rw [Int.natAbs_mul];exact Nat.mul_le_mul (by omega) (by simp;omega)
     have p2:(y.num*(x.den:Int)).natAbs≤999999999*999999999:=by rw [Int.natAbs_mul];exact Nat.mul_le_mul (by omega) (by simp;omega)
     have p3:x.den*y.den≤999999999*999999999:=Nat.mul_le_mul (by omega) (by omega)
     have e3:(x.den:Int)*y.den=((x.den*y.den:Nat):Int):=(Int.natCast_mul _ _).symm
     have o:=v8y hlib (p:=x.num*y.den+y.num*x.den) (q:=x.den*y.den) (by omega) (by omega) hd
     exact j1t (i4:=x.num*y.den) (i5:=y.num*x.den) (i6:=x.num*y.den+y.num*x.den) (i7:=((x.den*y.den:Nat):Int)) (wi (by omega)) (wi (by omega)) (wi (by omega)) (wi ⟨e3,by omega,by omega⟩) (z7h hlib c1.1 c1.2) (z7h hlib c2.1 c2.2) o
   · exact j1u (z7h hlib c1.1 c1.2) (y6f c2) m1 m2 a1 n1 low
 · have:∃ v w b,Fn E B7 [.agg (Qc y)] (.tup [.c (.i64 v),.c (.i64 w),.c (.bool b)]):=by
    by_cases c2:(decZ y.num).length≤9∧(dec y.den).length≤9
    · exact ⟨_,_,_,z7h hlib c2.1 c2.2⟩
    · exact ⟨_,_,_,y6f c2⟩
   obtain ⟨v,w,b,hl⟩:=this
   exact j1v (y6f c1) hl m1 m2 a1 n1 low
theorem q2m (hlib:Lib E) {x y:Rat} {K L:Nat} (hx:Sz x K) (hy:Sz y L) (hKL:K+L≤Lim):Fn E Y1 [.agg (Qc x),.agg (Qc y)] (.agg (Qc (x*y))):=by
 rw [Rat.mul_def']
 have hd:x.den*y.den≠0:=Nat.mul_ne_zero x.den_nz y.den_nz
 have low:=q1o hlib (z1t hx.1 hy.1) (z1w hx.2 hy.2) (by omega) (by omega) hd
 have m1:=z7f hlib hx.1 hy.1 (by omega)
 have n1:=y6x hlib hx.2 hy.2 (by omega)
 by_cases c1:(decZ x.num).length≤9∧(dec x.den).length≤9
 · by_cases c2:(decZ y.num).length≤9∧(dec y.den).length≤9
   · have b1:=x1s c1.1
     have b2:=x9q c1.2
     have b3:=x1s c2.1
     have b4:=x9q c2.2
     have p1:(x.num*y.num).natAbs≤999999999*999999999:=by rw [Int.natAbs_mul];exact Nat.mul_le_mul (by omega) (by omega)
     have p3:x.den*y.den≤999999999*999999999:=Nat.mul_le_mul (by omega) (by omega)
     have e3:(x.den:Int)*y.den=((x.den*y.den:Nat):Int):=(Int.natCast_mul _ _).symm
     have o:=v8y hlib (p:=x.num*y.num) (q:=x.den*y.den) (by omega) (by omega) hd
     exact k9d (i4:=x.num*y.num) (i5:=((x.den*y.den:Nat):Int)) (wi (by omega)) (wi ⟨e3,by omega,by omega⟩) (z7h hlib c1.1 c1.2) (z7h hlib c2.1 c2.2) o
   · exact k9e (z7h hlib c1.1 c1.2) (y6f c2) m1 n1 low
 · have:∃ v w b,Fn E B7 [.agg (Qc y)] (.tup [.c (.i64 v),.c (.i64 w),.c (.bool b)]):=by
    by_cases c2:(decZ y.num).length≤9∧(dec y.den).length≤9
    · exact ⟨_,_,_,z7h hlib c2.1 c2.2⟩
    · exact ⟨_,_,_,y6f c2⟩
   obtain ⟨v,w,b,hl⟩:=this
   exact k9f (y6f c1) hl m1 n1 low
theorem q4x (hlib:Lib E) {x:Rat} {K:Nat} (hx:Sz x K) (hK:K≤Lim):Fn E z8k [.agg (Qc x)] (.agg (Qc (-x))):=by
 have h:=j4n hlib hx.1 hK
 have e:Qc (-x)=[.str (B (decZ (-x.num))),.str (B (dec x.den))]:=by unfold Qc;rw [Rat.neg_num,Rat.neg_den]
 rw [e]
 exact k0w h
theorem q7n (hlib:Lib E) {x:Rat} {K:Nat} (hx:Sz x K) (hK:K≤Lim)(h0:x≠0):Fn E z4v [.agg (Qc x)] (.agg (Qc x⁻¹)):=by
 have hn:x.num≠0:=fun h=>h0 (Rat.num_eq_zero.1 h)
 have h1:=x8y hx.1
 have h2:=q3a hx
 rw [O6] at hK
 have hc:=hlib.cutPrefix (decZ x.num) [45] (by omega) (by decide)
 rw [List.length_singleton,(k5f x.num).2,(k5f x.num).1] at hc
 have e:Qc x⁻¹=[.str (B (decZ (x.num.sign*x.den))),.str (B (dec x.num.natAbs))]:=by unfold Qc;rw [Rat.num_inv,Rat.den_inv,if_neg hn]
 rw [e]
 have hd:=Nat.pos_of_ne_zero x.den_nz
 by_cases c:x.num<0
 · rw [decide_eq_true c] at hc
   rw [Int.sign_eq_neg_one_of_neg c,show (-1:Int)*x.den=-(x.den:Int) by omega,z1u (by omega),Int.natAbs_neg,Int.natAbs_natCast]
   exact k3l (by rw [B45,y6l];rfl) hc (by rw [B45,D1,D1];simp;omega)
 · rw [decide_eq_false c] at hc
   rw [Int.sign_eq_one_of_pos (by omega),Int.one_mul,z8x]
   have e2:Qc x=[.str (B (dec x.num.natAbs)),.str (B (dec x.den))]:=by unfold Qc;rw [M5 (by omega)]
   rw [e2]
   rw [M5 (by omega)] at hc
   exact k3m hc
def v3f (z:Int) (l:List UInt8):Bool:=bif decide (z<0) then (match l with
 | c::m=>c == 45 && (natB m && dval m == z.natAbs)
 | []=>false) else natB l && dval l == z.natAbs
theorem j3a {l:List UInt8} {n:Nat}:(natB l && dval l == n)=true↔l=dec n:=by
 rw [Bool.and_eq_true,x0w,beq_iff_eq]
 exact ⟨fun h=>by rw [← h.2];exact h.1.eq_dec,fun h=>by rw [h];exact ⟨x9b n,z2s n⟩⟩
theorem k8a {z:Int} {l:List UInt8}:v3f z l=true↔l=decZ z:=by
 unfold v3f
 by_cases h:z<0
 · rw [decide_eq_true h,cond_true,z1u h]
   cases l with
   | nil=>simp
   | cons c m=>rw [Bool.and_eq_true,beq_iff_eq,j3a,List.cons.injEq]
 · rw [decide_eq_false h,cond_false,M5 (by omega)];exact j3a
def q6z (q:Rat) (l:List UInt8):Bool:=bif q.den == 1 then v3f q.num l else (match l.drop (l.takeWhile (· != 47)).length with
 | c::m=>c == 47 && (v3f q.num (l.takeWhile (· != 47)) && (natB m && dval m == q.den))
 | []=>false)
theorem v3c {a b:List UInt8} (h:(47:UInt8) ∉ a):(a++47::b).takeWhile (· != 47)=a:=by
 induction a with
 | nil=>rfl
 | cons x a ih =>
  have hx:(x != 47)=true:=by rw [bne_iff_ne];exact fun e=>h (by simp [e])
  rw [List.cons_append,List.takeWhile_cons,if_pos hx,ih (fun e=>h (List.mem_cons_of_mem _ e))]
theorem w1w {a:List UInt8} (h:(47:UInt8) ∉ a):a.takeWhile (· != 47)=a:=by
 induction a with
 | nil=>rfl
 | cons x a ih =>
  have hx:(x != 47)=true:=by rw [bne_iff_ne];exact fun e=>h (by simp [e])
  rw [List.takeWhile_cons,if_pos hx,ih (fun e=>h (List.mem_cons_of_mem _ e))]
theorem k7z {q:Rat} {l:List UInt8}:q6z q l=true↔l=decQ q:=by
 unfold q6z
 by_cases h:q.den=1
 · rw [h,beq_self_eq_true,cond_true,z3x h];exact k8a
 · rw [beq_false_of_ne h,cond_false,z1l h]
   constructor
   · intro e
     split at e
     · rename_i c m hd
       rw [Bool.and_eq_true,beq_iff_eq,Bool.and_eq_true,k8a,j3a] at e
       obtain ⟨e1,e2,e3⟩:=e
       have ht:l.take (l.takeWhile (· != 47)).length=l.takeWhile (· != 47):=(List.prefix_iff_eq_take.1 (List.takeWhile_prefix _)).symm
       rw [← List.take_append_drop (l.takeWhile (· != 47)).length l,ht,hd,e1,e2,e3]
     · cases e
   · intro e
     rw [e,v3c (X2 _),List.drop_left]
     show (47 == 47 && _)=true
     rw [Bool.and_eq_true,Bool.and_eq_true]
     exact ⟨rfl,k8a.2 rfl,j3a.2 rfl⟩
def rdZ (l:List UInt8):Int:=bif l.head? == some 45 then -(dval l.tail:Int) else dval l
def rdQ (l:List UInt8):Rat:=match l.drop (l.takeWhile (· != 47)).length with
 | _::m=>mkRat (rdZ (l.takeWhile (· != 47))) (dval m)
 | []=>mkRat (rdZ l) 1
theorem v4f (z:Int):rdZ (decZ z)=z:=by
 unfold rdZ
 by_cases h:z<0
 · rw [z1u h]
   show -(dval (dec z.natAbs):Int)=z
   rw [z2s];omega
 · rw [M5 (by omega)]
   have hh:((dec z.natAbs).head? == some 45)=false:=by
    rw [beq_eq_false_iff_ne]
    intro e
    cases hd:dec z.natAbs with
    | nil=>rw [hd] at e;cases e
    | cons c m=>rw [hd] at e;cases e;exact x6a _ (by decide) _ hd
   rw [hh,cond_false,z2s];omega
theorem w3a (q:Rat):rdQ (decQ q)=q:=by
 unfold rdQ
 by_cases h:q.den=1
 · rw [z3x h,w1w (X2 _),List.drop_length]
   show mkRat (rdZ (decZ q.num)) 1=q
   rw [v4f,← h];exact Rat.mkRat_self q
 · rw [z1l h,v3c (X2 _),List.drop_left]
   show mkRat (rdZ (decZ q.num)) (dval (dec q.den))=q
   rw [v4f,z2s];exact Rat.mkRat_self q
noncomputable def rd (l:List UInt8):Option Rat:=bif q6z (rdQ l) l then some (rdQ l) else none
theorem x9n (q:Rat):rd (decQ q)=some q:=by
 unfold rd
 rw [w3a,k7z.2 rfl];rfl
theorem j3c {l:List UInt8} {q:Rat} (h:rd l=some q):l=decQ q:=by
 unfold rd at h
 cases c:q6z (rdQ l) l with
 | true=>rw [c] at h;cases h;exact k7z.1 c
 | false=>rw [c] at h;cases h
theorem v4g {l:List UInt8} (h:rd l=none) (q:Rat):l≠decQ q:=fun e=>by rw [e,x9n] at h;cases h
theorem j8y {q:Rat} (h:q.den≠1):q.num≠0:=by
 intro h0
 have:=q.reduced
 rw [h0] at this
 simp [Nat.Coprime] at this
 exact h this
theorem j6j (hlib:Lib E) {q:Rat} {K:Nat} (hq:Sz q K) (hK:K≤Lim):Fn E I6 [.c (.str (B (decQ q)))] (.tup [.agg (Qc q),.c (.bool true)]):=by
 have h1:=x8y hq.1
 have h2:=q3a hq
 have hK':=hK
 rw [O6] at hK'
 have hv:=y2v hlib (l:=decZ q.num) (by omega)
 rw [x9h] at hv
 by_cases hd:q.den=1
 · rw [z3x hd]
   have e:Qc q=[.str (B (decZ q.num)),.str (B [49])]:=by unfold Qc;rw [hd,y1c]
   rw [e]
   exact x4k (hlib.cutNo _ (X2 _) (by omega)) hv
 · rw [z1l hd]
   have hn:=j8y hd
   have hnv:=z1m (E:=E) (dec q.den) (by omega)
   rw [j5t] at hnv
   have hg:=k2l hlib hq.1 hq.2 hK hK q.den_nz
   have hg1:Nat.gcd q.num.natAbs q.den=1:=q.reduced
   rw [hg1] at hg
   exact j1w (hlib.cutYes _ _ (X2 _) (by omega)) hv (fun e=>hn (by rw [B48] at e;exact x0a ((y0i e).trans y6e.symm))) hnv (fun e=>q.den_nz (by rw [B48] at e;exact y0l.1 (y0i e))) (fun e=>hd (by rw [B49] at e;exact y2r.1 (y0i e))) hg (by rw [y1c,B49])
theorem x6g:∀ (l:List UInt8),(47:UInt8)∈l→∃ p r,l=p++47::r∧(47:UInt8) ∉ p
 | [],h=>by cases h
 | c::l,h=>by
  by_cases hc:c=47
  · exact ⟨[],l,by rw [hc];rfl,by simp⟩
  · have h':(47:UInt8)∈l:=by
     rcases List.mem_cons.1 h with h | h
     · exact absurd h.symm hc
     · exact h
    obtain ⟨p,r,e,hp⟩:=x6g l h'
    exact ⟨c::p,r,by rw [e];rfl,fun hx=>by
     rcases List.mem_cons.1 hx with hx | hx
     · exact hc hx.symm
     · exact hp hx⟩
theorem x6b (z:Int):(dec z.natAbs).length≤(decZ z).length:=by unfold decZ;split <;> simp
theorem w3b (hlib:Lib E) {l:List UInt8} (h:rd l=none) (hl:l.length≤Lim):∃ x y,Fn E I6 [.c (.str (B l))] (.tup [.agg [.str x,.str y],.c (.bool false)]):=by
 have hl':=hl
 rw [O6] at hl'
 by_cases hs:(47:UInt8)∈l
 · obtain ⟨p,r,rfl,hp⟩:=x6g l hs
   simp only [List.length_append,List.length_cons] at hl hl'
   have hc:=hlib.cutYes p r hp (by omega)
   have hv:=y2v hlib (l:=p) (by omega)
   have hnv:=z1m (E:=E) r (by omega)
   cases hi:intB p with
   | false=>rw [hi] at hv;exact ⟨_,_,j2c hc hv⟩
   | true =>
    rw [hi] at hv
    obtain ⟨z,rfl⟩:=(x6k.1 hi).eq_decZ
    by_cases hz:z=0
    · exact ⟨_,_,j2b hc hv (by rw [hz,y6e];rfl)⟩
    · have hz':¬ B (decZ z)=(⟨#[48]⟩:BA):=fun e=>hz (by rw [B48] at e;exact x0a ((y0i e).trans y6e.symm))
      cases hn:natB r with
      | false=>rw [hn] at hnv;exact ⟨_,_,j2a hc hv hz' hnv⟩
      | true =>
       rw [hn] at hnv
       have hr:=x0w.1 hn
       obtain ⟨n,rfl⟩:∃ n,r=dec n:=⟨_,hr.eq_dec⟩
       by_cases h0:n=0
       · exact ⟨_,_,j1z hc hv hz' hnv (by rw [h0,z3y];rfl)⟩
       · have h0':¬ B (dec n)=(⟨#[48]⟩:BA):=fun e=>h0 (by rw [B48] at e;exact y0l.1 (y0i e))
         by_cases h1:n=1
         · exact ⟨_,_,j1y hc hv hz' hnv h0' (by rw [h1,y1c];rfl)⟩
         · have h1':¬ B (dec n)=(⟨#[49]⟩:BA):=fun e=>h1 (by rw [B49] at e;exact y2r.1 (y0i e))
           have hzl:z.natAbs<10 ^ (decZ z).length:=z0e (z1i _) (x6b z)
           have hg:=k2l hlib hzl (z1i n) (by omega) (by omega) h0
           by_cases hg1:Nat.gcd z.natAbs n=1
           · obtain ⟨q,_,_,e⟩:=v3e z n (by omega) hg1
             exact absurd e.symm (v4g h q)
           · exact ⟨_,_,j1x hc hv hz' hnv h0' h1' hg (fun e=>hg1 (by rw [B49] at e;exact y2r.1 (y0i e)))⟩
 · have hc:=hlib.cutNo l hs (by omega)
   have hv:=y2v hlib (l:=l) (by omega)
   cases hi:intB l with
   | false=>rw [hi] at hv;exact ⟨_,_,x4k hc hv⟩
   | true =>
    obtain ⟨z,e⟩:=(x6k.1 hi).eq_decZ
    exact absurd (e.trans (x2h z).symm) (v4g h z)
theorem k6j (hlib:Lib E) {l:List UInt8} (hl:l.length≤Lim):Fn E y2o [.c (.str (B l))] (.c (.bool (rd l).isSome)):=by
 cases h:rd l with
 | none =>
  obtain ⟨x,y,hr⟩:=w3b hlib h hl
  exact x1o hr
 | some q =>
  have:=j3c h
  subst this
  exact x1o (j6j hlib (Sz.of_len (Nat.le_refl _)) hl)
theorem x5w (hlib:Lib E) {a b:Rat} {K L:Nat} (ha:Sz a K) (hb:Sz b L) (hK:K≤Lim) (hL:L≤Lim):Fn E F_rational_both [.c (.str (B (decQ a))),.c (.str (B (decQ b)))] (.tup [.agg (Qc a),.agg (Qc b),.c (.i64 0)]) :=
 j1s (j6j hlib ha hK) (j6j hlib hb hL)
theorem z5v (hlib:Lib E) {a b:Rat} {K L:Nat} (ha:Sz a K) (hb:Sz b L) (h:K+L+1≤Lim):Fn E z1p [.c (.str (B (decQ a))),.c (.str (B (decQ b)))] (.tup [.c (.str (B (decQ (a+b)))),.c (.i64 0)]) :=
 j6f (hlib.apply 43 _ (by simp) _ _ _ _ _ _ _ _ _ (x5w hlib ha hb (by omega) (by omega)) (by omega) (q8j hlib ha hb h) (k7v (ha.add hb) h))
theorem z5w (hlib:Lib E) {a b:Rat} {K L:Nat} (ha:Sz a K) (hb:Sz b L) (h:K+L≤Lim):Fn E z1r [.c (.str (B (decQ a))),.c (.str (B (decQ b)))] (.tup [.c (.str (B (decQ (a*b)))),.c (.i64 0)]) :=
 j6h (hlib.apply 42 _ (by simp) _ _ _ _ _ _ _ _ _ (x5w hlib ha hb (by omega) (by omega)) (by omega) (q2m hlib ha hb h) (k7v (ha.mul hb) h))
theorem y4z (hlib:Lib E) {a b:Rat} {K L:Nat} (ha:Sz a K) (hb:Sz b L) (h:K+L+1≤Lim):Fn E z7d [.c (.str (B (decQ a))),.c (.str (B (decQ b)))] (.tup [.c (.str (B (decQ (a-b)))),.c (.i64 0)]):=by
 refine j6i (hlib.apply 45 U5 (by simp) _ _ _ _ _ _ _ _ _ (x5w hlib ha hb (by omega) (by omega)) (by omega) (?_:Fn E U5 [.agg (Qc a),.agg (Qc b)] (.agg (Qc (a-b)))) (k7v (ha.sub hb) h))
 rw [Rat.sub_eq_add_neg]
 exact x1p (q4x hlib hb (by omega)) (q8j hlib ha hb.neg h)
theorem j1r (hlib:Lib E) {a b:Rat} {K L:Nat} (ha:Sz a K) (hb:Sz b L) (h:K+L≤Lim)(h0:b≠0):Fn E y6n [.c (.str (B (decQ a))),.c (.str (B (decQ b)))] (.tup [.c (.str (B (decQ (a / b)))),.c (.i64 0)]):=by
 have hn:b.num≠0:=fun x=>h0 (Rat.num_eq_zero.1 x)
 refine j6g (hlib.apply 47 U6 (by simp) _ _ _ _ _ _ _ _ _ (x5w hlib ha hb (by omega) (by omega)) (fun _ e=>hn (x0a ((y0i e).trans y6e.symm))) (?_:Fn E U6 [.agg (Qc a),.agg (Qc b)] (.agg (Qc (a / b)))) (k7v (ha.div hb) h))
 rw [Rat.div_def]
 exact x1q (q7n hlib hb (by omega) h0) (q2m hlib ha hb.inv h)
def cmpQ (a b:Rat):Int:=cmpI (a.num*b.den) (b.num*a.den)
theorem v3b {a b:Rat}:cmpQ a b<0↔a<b:=by unfold cmpQ;rw [y3s,Rat.lt_iff]
theorem v3a {a b:Int}:cmpI a b>0↔b<a:=by unfold cmpI;split <;> (try split) <;> omega
theorem w1t {a b:Rat}:cmpQ a b>0↔b<a:=by unfold cmpQ;rw [v3a,Rat.lt_iff]
theorem y6d {a b:Int}:cmpI a b=0↔a=b:=by unfold cmpI;split <;> (try split) <;> omega
theorem q0s (a:Rat):cmpQ a a=0:=j2r rfl
theorem v5e {a b:Rat}:cmpQ a b=0↔a=b:=by
 constructor
 · intro h
   have h1:¬ a<b:=fun x=>by have:=v3b.2 x;omega
   have h2:¬ b<a:=fun x=>by have:=w1t.2 x;omega
   exact Rat.le_antisymm (Rat.not_lt.1 h2) (Rat.not_lt.1 h1)
 · rintro rfl;exact q0s a
theorem j3r (a b:Int):-1≤cmpI a b∧cmpI a b≤1:=by unfold cmpI;split <;> (try split) <;> omega
theorem k5j (hlib:Lib E) {a:Rat} {K:Nat} (ha:Sz a K) (hK:K≤Lim):Fn E U4 [.agg (Qc a)] (.c (.i64 (cmpI a.num 0))):=x7y (j1e hlib ha.1 hK)
theorem v0y {a b:Rat} (h:cmpI a.num 0≠cmpI b.num 0):cmpQ a b=(if cmpI a.num 0<cmpI b.num 0 then -1 else 1):=by
 have pa:=Nat.pos_of_ne_zero a.den_nz
 have pb:=Nat.pos_of_ne_zero b.den_nz
 have sg:∀ (n:Int) (d:Nat),0<d→cmpI (n*d) 0=cmpI n 0:=by
  intro n d hd
  rcases Int.lt_trichotomy n 0 with c | c | c
  · have:n*d<0:=Int.mul_neg_of_neg_of_pos c (by omega)
    unfold cmpI;rw [if_pos this,if_pos c]
  · subst c;simp
  · have:0<n*d:=Int.mul_pos c (by omega)
    unfold cmpI;rw [if_neg (by omega),if_pos (by omega),if_neg (by omega),if_pos (by omega)]
 have s1:=sg a.num b.den pb
 have s2:=sg b.num a.den pa
 rw [← s1,← s2] at h ⊢
 unfold cmpQ
 generalize a.num*(b.den:Int)=u at *
 generalize b.num*(a.den:Int)=v at *
 unfold cmpI at *
 split <;> (try split) <;> split at*<;> (try split at *) <;> (try split at *) <;> (try split at *) <;> omega
theorem k0u (hlib:Lib E) {a b:Rat} {K L:Nat} (ha:Sz a K) (hb:Sz b L) (h:K+L≤Lim):Fn E z1q [.c (.str (B (decQ a))),.c (.str (B (decQ b)))] (.tup [.c (.i64 (cmpQ a b)),.c (.i64 0)]):=by
 have hbo:=x5w hlib ha hb (by omega) (by omega)
 by_cases he:a=b
 · subst he
   rw [q0s]
   exact k3h hbo rfl rfl
 · have hne:¬ B (decQ a)=B (decQ b):=fun e=>he (k5d (y0i e))
   have s1:=k5j hlib ha (by omega)
   have s2:=k5j hlib hb (by omega)
   have r1:=j3r a.num 0
   have r2:=j3r b.num 0
   by_cases hs:cmpI a.num 0=cmpI b.num 0
   · have m1:=z7f hlib ha.1 (b:=(b.den:Int)) (show (b.den:Int).natAbs<10 ^ L from hb.2) h
     have m2:=z7f hlib hb.1 (b:=(a.den:Int)) (show (a.den:Int).natAbs<10 ^ K from ha.2) (by omega)
     rw [z8x] at m1 m2
     have c:=k2p hlib (z1t ha.1 (show (b.den:Int).natAbs<10 ^ L from hb.2)) (z1t hb.1 (show (a.den:Int).natAbs<10 ^ K from ha.2)) h (by omega)
     exact k3j hbo rfl hne s1 s2 hs m1 m2 c
   · rw [v0y hs]
     refine k3i (i3:=cmpI a.num 0-cmpI b.num 0) (i4:=if 1<cmpI a.num 0-cmpI b.num 0 then 1 else cmpI a.num 0-cmpI b.num 0) (wi (by omega)) rfl ?_ hbo rfl hne s1 s2 hs
     split <;> split <;> (try split) <;> omega
theorem k6g (ws:List Int):∀ k,k≤ws.length→k<9223372036854775807→Lp E 1 H3 0 (z6l k (Wr ws)) (.exit 0) (z9l (Wr ws) (z0h ws k))
 | 0,_,_=>k3x (by omega)
 | k+1,hk,hb=>by
  unfold z0h
  by_cases h0:ws.getD k 0=0
  · rw [if_pos h0]
    exact k9q (i0:=(k:Int)) (i1:=ws.getD k 0) (n2:=k) (wi (by omega)) rfl (by omega) (by omega) (F0 (by omega)) h0 (by omega) (k6g ws k (by omega) (by omega))
  · rw [if_neg h0]
    exact k3w (i0:=(k:Int)) (i1:=ws.getD k 0) (wi (by omega)) (by omega) (by omega) (F0 (by omega)) h0
theorem y3t {ws:List Int} {k:Nat} (hk:k≤ws.length) (hb:k<9223372036854775807):Rn E H3 [.vec 0 k] [some (.vec A0 (Wr ws))] (.vec 0 (z0h ws k)) [some (.vec A0 (Wr ws))] :=
 q5i (k6g ws k hk hb)
theorem y7l {ws:List Int} (h:Wd ws) {n:Nat} (hv:wv ws=n):(Wr ws).take (z0h ws ws.length)=Wr (words n):=by
 rw [Y9,z0i h (Nat.le_refl _),List.take_length,hv,Int.toNat_natCast]
theorem x7s {n:Nat} (h:n<4294967296):Fn E z1g [.c (.u32 n)] (.c (.list (Wr (words n)))):=by
 have hw:Wd [((n % 1000000000:Nat):Int),((n / 1000000000:Nat):Int)]:=Wd.cons (by omega) (by omega) (Wd.cons (by omega) (by omega) Wd.nil)
 have ht:=y3t (E:=E) (ws:=[((n % 1000000000:Nat):Int),((n / 1000000000:Nat):Int)]) (k:=2) (Nat.le_refl _) (by decide)
 exact j9d (i1:=((n % 1000000000:Nat):Int)) (i2:=((n / 1000000000:Nat):Int)) (tmd (by omega) (by omega)) (w32 ⟨tdv (by omega) (by omega),by omega,by omega⟩) (y7l hw (by simp [wv];omega)) ht
theorem w2x {n:Nat} (h:n<18446744073709551616):Fn E x2a [.c (.u64 n)] (.c (.list (Wr (words n)))):=by
 have hw:Wd [((n % 1000000000:Nat):Int),((n / 1000000000 % 1000000000:Nat):Int),((n / 1000000000 / 1000000000:Nat):Int)]:=Wd.cons (by omega) (by omega) (Wd.cons (by omega) (by omega) (Wd.cons (by omega) (by omega) Wd.nil))
 have ht:=y3t (E:=E) (ws:=[((n % 1000000000:Nat):Int),((n / 1000000000 % 1000000000:Nat):Int),((n / 1000000000 / 1000000000:Nat):Int)]) (k:=3) (Nat.le_refl _) (by decide)
 exact q5j (i1:=((n % 1000000000:Nat):Int)) (i2:=((n % 1000000000:Nat):Int)) (i3:=((n / 1000000000:Nat):Int)) (i4:=((n / 1000000000 % 1000000000:Nat):Int)) (i5:=((n / 1000000000 % 1000000000:Nat):Int)) (i6:=((n / 1000000000 / 1000000000:Nat):Int)) (i7:=((n / 1000000000 / 1000000000:Nat):Int))
  (tmd (by omega) (by omega)) (w32 (by omega)) (wu ⟨tdv (by omega) (by omega),by omega,by omega⟩) (tmd (by omega) (by omega)) (w32 (by omega)) (wu ⟨tdv (by omega) (by omega),by omega,by omega⟩) (w32 (by omega)) (y7l hw (by simp [wv];omega)) ht
theorem k6h (xs:List Int) (hx:Wd xs) (hl:xs.length≤2):∀ k:Nat,k≤xs.length→Lp E 0 z1a 0 (z9e (Wr xs) (wv (xs.drop k)) ((k:Int)-1)) (.exit 0) (y5d (wv xs))
 | 0,_=>by rw [List.drop_zero];exact k3y (by omega)
 | k+1,hk=>by
  have h0:=hx.getD k
  have h1:=C6 (hx.drop (k+1))
  have h2:=z7y (hx.drop (k+1))
  rw [List.length_drop] at h2
  have h3:pw (xs.length-(k+1))≤pw 1:=j3b (by omega)
  rw [show pw 1=1000000000 by decide] at h3
  have e:=z7b xs k
  rw [show ((k+1:Nat):Int)-1=(k:Int) by omega]
  exact k9r (i3:=wv (xs.drop (k+1))*1000000000) (i4:=xs.getD k 0) (i5:=xs.getD k 0) (i6:=wv (xs.drop k)) (i7:=(k:Int)-1) (wu (by omega)) (wu (by omega)) (wu (by omega)) (wi (by omega)) (by omega) (by omega) (F0 (by omega)) (k6h xs hx hl k (by omega))
theorem v3z {n:Nat} (h:(words n).length≤2):Fn E z1a [.c (.list (Wr (words n)))] (.c (.u64 n)):=by
 have:=k6h (E:=E) (words n) (B3 n) h (words n).length (Nat.le_refl _)
 rw [List.drop_length,B2] at this
 exact q5k (i0:=((words n).length:Int)-1) (wi (by rw [A8];omega)) this
theorem j0p (xs ys:List Int) (hx:Wd xs) (hy:Wd ys) (hl:xs.length=ys.length) (hb:xs.length<9223372036854775807):∀ k:Nat,k≤xs.length→xs.drop k=ys.drop k →
    (xs=ys∧Lp E 0 H9 0 (z1e (Wr xs) (Wr ys) ((k:Int)-1)) (.exit 0) y7a) ∨
    (xs≠ys∧Lp E 0 H9 0 (z1e (Wr xs) (Wr ys) ((k:Int)-1)) .ret (y1s (cmpI (wv xs) (wv ys))))
 | 0,_,h=>.inl ⟨by simpa using h,k6p (by omega)⟩
 | k+1,hk,h=>by
  rw [show ((k+1:Nat):Int)-1=(k:Int) by omega]
  have g1:(Wr xs)[Int.toNat (k:Int)]?=some [.u32 (xs.getD k 0)]:=F0 (by omega)
  have g2:(Wr ys)[Int.toNat (k:Int)]?=some [.u32 (ys.getD k 0)]:=F0 (by omega)
  rcases Int.lt_trichotomy (xs.getD k 0) (ys.getD k 0) with c | c | c
  · have:=y3x hx hy (by omega) (by omega) c h
    refine .inr ⟨fun e=>by rw [e] at c;omega,?_⟩
    have e:cmpI (wv xs) (wv ys)=-1:=by unfold cmpI;rw [if_pos this]
    rw [e]
    exact k6n (by omega) (by omega) g1 g2 c
  · have hd:xs.drop k=ys.drop k:=by rw [x0b xs k (by omega),x0b ys k (by omega),c,h]
    rcases j0p xs ys hx hy hl hb k (by omega) hd with ⟨e,ih⟩ | ⟨e,ih⟩
    · exact .inl ⟨e,x4l (wi (by omega)) (by omega) (by omega) g1 g2 (by omega) (by omega) ih⟩
    · exact .inr ⟨e,x4l (wi (by omega)) (by omega) (by omega) g1 g2 (by omega) (by omega) ih⟩
  · have:=y3x hy hx (by omega) (by omega) c h.symm
    refine .inr ⟨fun e=>by rw [e] at c;omega,?_⟩
    have e:cmpI (wv xs) (wv ys)=1:=by unfold cmpI;rw [if_neg (by omega),if_pos (by omega)]
    rw [e]
    exact k6o (by omega) (by omega) g1 g2 (by omega) c
theorem j6a {m n:Nat} (hm:(words m).length<9223372036854775807):Fn E H9 [.c (.list (Wr (words m))),.c (.list (Wr (words n)))] (.c (.i64 (cmpI m n))):=by
 by_cases hl:(words m).length=(words n).length
 · rcases j0p (E:=E) (words m) (words n) (B3 m) (B3 n) hl hm (words m).length (Nat.le_refl _) (by rw [List.drop_length,hl,List.drop_length]) with ⟨e,h⟩ | ⟨e,h⟩
   · have:=q2r e
     subst this
     rw [j2r rfl]
     exact q8x (wi (by rw [A8];omega)) (by rw [A8]) h
   · rw [B2,B2] at h
     exact q8w (wi (by rw [A8];omega)) (by rw [A8,A8];omega) h
 · rcases Nat.lt_or_gt_of_ne hl with c | c
   · have:m<n:=by
      rcases Nat.lt_or_ge m n with h | h
      · exact h
      · have:=(V1 n).length_le (B3 n) (B3 m) (by rw [B2,B2];omega)
        omega
     have e:cmpI (m:Int) n=-1:=by unfold cmpI;rw [if_pos (by omega)]
     rw [e]
     exact q8u (by rw [A8,A8];omega) (by rw [A8,A8];omega)
   · have:n<m:=by
      rcases Nat.lt_or_ge n m with h | h
      · exact h
      · have:=(V1 m).length_le (B3 m) (B3 n) (by rw [B2,B2];omega)
        omega
     have e:cmpI (m:Int) n=1:=by unfold cmpI;rw [if_neg (by omega),if_pos (by omega)]
     rw [e]
     exact q8v (by rw [A8,A8];omega) (by rw [A8,A8];omega)
theorem k6f {xs ys:List Int} (hx:Wd xs) (hy:Wd ys) (hxl:xs.length<17592186044000) (hyl:ys.length<17592186044000):∀ (t i:Nat) (c:Int) (zs:List Int),xs.length+ys.length+2≤t+i→i≤xs.length+ys.length+1→0≤c∧c≤1→(xs.length+ys.length<i→c=0)→zs.length=i→Wd zs →
    ∃ zs',Lp E 0 N7 0 (P8 (Wr xs) (Wr ys) i c i (Wr zs)) (.exit 0) (y5c zs'.length (Wr zs'))∧Wd zs'∧zs'.length≤xs.length+ys.length+1∧wv zs'=wv zs+pw i*(c+wv (xs.drop i)+wv (ys.drop i))
 | 0,i,c,zs,ht,hi,_,_,_,_=>by omega
 | t+1,i,c,zs,ht,hi,hc,hc0,hz,hw=>by
  have ha:=hx.getD i
  have hb:=hy.getD i
  obtain ⟨a,ea⟩:∃ a,a=xs.getD i 0:=⟨_,rfl⟩
  obtain ⟨b,eb⟩:∃ b,b=ys.getD i 0:=⟨_,rfl⟩
  rw [← ea] at ha
  rw [← eb] at hb
  have gx:i<xs.length→(Wr xs)[Int.toNat (i:Int)]?=some [.u32 a]:=fun h=>by rw [ea];exact F0 h
  have gy:i<ys.length→(Wr ys)[Int.toNat (i:Int)]?=some [.u32 b]:=fun h=>by rw [eb];exact F0 h
  obtain ⟨S,eS⟩:∃ S,S=c+a+b:=⟨_,rfl⟩
  have hap:∀ w,(Wr zs).take i++[[DV.u32 w]]=Wr (zs++[w]):=fun w=>by rw [Y9,← hz,List.take_length,y8j]
  have stop:¬ i<xs.length→¬ i<ys.length→c=0→wv zs=wv zs+pw i*(c+wv (xs.drop i)+wv (ys.drop i)):=by
   intro h1 h2 h3
   rw [drop_nil (by omega),drop_nil (by omega),h3]
   simp [wv]
  by_cases hend:¬ i<xs.length∧¬ i<ys.length∧c=0
  · exact ⟨zs,by rw [hz];exact k3s (by rw [A8];omega) (by rw [A8];omega) (by omega),hw,by omega,stop hend.1 hend.2.1 hend.2.2⟩
  · have hii:i≤xs.length+ys.length:=by
     rcases Nat.lt_or_ge (xs.length+ys.length) i with h | h
     · exact absurd ⟨by omega,by omega,hc0 h⟩ hend
     · exact h
    have ndone:xs.length+ys.length<i+1→S / 1000000000=0:=by
     intro h
     have h0:i=xs.length+ys.length:=by omega
     have:b=0∨a=0:=by
      rcases Nat.lt_or_ge i xs.length with h1 | h1
      · left;rw [eb];exact z5r (by omega)
      · right;rw [ea];exact z5r h1
     by_cases hcc:c=0
     · rcases this with h2 | h2 <;> omega
     · -- the last carry has no words beside it
       have h1:a=0:=by
        rcases Nat.lt_or_ge i xs.length with h1 | h1
        · omega
        · rw [ea];exact z5r h1
       have h2:b=0:=by
        rcases Nat.lt_or_ge i ys.length with h1 | h1
        · omega
        · rw [eb];exact z5r h1
       omega
    obtain ⟨zs',k1,k2,k3,k4⟩:=k6f hx hy hxl hyl t (i+1) (S / 1000000000) (zs++[S % 1000000000]) (by omega) (by omega) (by omega) ndone (by simp [hz]) (hw.append (Wd.cons (by omega) (by omega) Wd.nil))
    refine ⟨zs',?_,k2,k3,?_⟩
    · have hlen:(i+1)*4≤140737488355328∧i+1≤140737488355328:=by omega
      by_cases c1:i<xs.length
      · by_cases c2:i<ys.length
        · exact k9k (i2:=a) (i3:=c+a) (i4:=b) (i5:=S) (i6:=S % 1000000000) (r4:=Wr (zs++[S % 1000000000])) (n2:=i+1) (i7:=S / 1000000000) (i8:=((i+1:Nat):Int)) (w32 (by omega)) (w32 (by omega)) (tmd (by omega) rfl) (hap _) rfl (w32 ⟨tdv (by omega) rfl,by omega,by omega⟩) (wi (by omega)) (by rw [A8];omega) (by omega) (gx c1) (by rw [A8];omega) (gy c2) hlen k1
        · have b0:b=0:=by rw [eb];exact z5r (by omega)
          exact k9l (i2:=a) (i3:=S) (i4:=S % 1000000000) (r5:=Wr (zs++[S % 1000000000])) (n3:=i+1) (i9:=S / 1000000000) (i10:=((i+1:Nat):Int)) (w32 (by omega)) (tmd (by omega) rfl) (hap _) rfl (w32 ⟨tdv (by omega) rfl,by omega,by omega⟩) (wi (by omega)) (by rw [A8];omega) (by omega) (gx c1) (by rw [A8];omega) hlen k1
      · have a0:a=0:=by rw [ea];exact z5r (by omega)
        by_cases c2:i<ys.length
        · exact k9m (i2:=b) (i3:=S) (i4:=S % 1000000000) (r5:=Wr (zs++[S % 1000000000])) (n3:=i+1) (i9:=S / 1000000000) (i10:=((i+1:Nat):Int)) (w32 (by omega)) (tmd (by omega) rfl) (hap _) rfl (w32 ⟨tdv (by omega) rfl,by omega,by omega⟩) (wi (by omega)) (by rw [A8];omega) (by rw [A8];omega) (by omega) (gy c2) hlen k1
        · have b0:b=0:=by rw [eb];exact z5r (by omega)
          have e0:S=c:=by omega
          rw [e0] at k1
          exact k9n (i2:=c % 1000000000) (r6:=Wr (zs++[c % 1000000000])) (n4:=i+1) (i5:=c / 1000000000) (i6:=((i+1:Nat):Int)) (tmd (by omega) rfl) (hap _) rfl (w32 ⟨tdv (by omega) rfl,by omega,by omega⟩) (wi (by omega)) (by rw [A8];omega) (by rw [A8];omega) (by omega) hlen k1
    · rw [k4,z7z,hz,z7b xs i,z7b ys i,z2z,← ea,← eb]
      have e1:S % 1000000000=c+a+b-1000000000*(S / 1000000000):=by omega
      rw [e1];grind
theorem w2w {m n:Nat} (h1:(words m).length<17592186044000)(h2:(words n).length<17592186044000):Fn E N7 [.c (.list (Wr (words m))),.c (.list (Wr (words n)))] (.c (.list (Wr (words (m+n))))):=by
 obtain ⟨zs,k1,k2,k3,k4⟩:=k6f (E:=E) (B3 m) (B3 n) h1 h2 ((words m).length+(words n).length+2) 0 0 [] (by omega) (by omega) (by omega) (fun _=>rfl) rfl Wd.nil
 rw [List.drop_zero,List.drop_zero,B2,B2,x3o] at k4
 exact q5h (y7l k2 (by simp [wv] at k4;omega)) k1 (y3t (Nat.le_refl _) (by omega))
theorem k2a {xs ys:List Int} (hx:Wd xs) (hy:Wd ys) (hxl:xs.length<17592186044000):∀ d i b zs,i+d=xs.length→(b=0∨b=1)→zs.length=i→Wd zs →
    ∃ b' zs',Lp E 0 G8 0 (J4 (Wr xs) (Wr ys) i b i (Wr zs)) (.exit 0) (z8g zs'.length (Wr zs'))∧Wd zs'∧zs'.length=xs.length∧(b'=0∨b'=1)∧wv zs'+pw i*(0-wv (xs.drop i)+wv ((ys.take xs.length).drop i)+b)=wv zs+pw xs.length*b'
 | 0,i,b,zs,hi,hb,hz,hw=>by
  refine ⟨b,zs,by rw [hz];exact k0y (by rw [A8];omega),hw,by omega,hb,?_⟩
  have:i=xs.length:=by omega
  subst this
  rw [drop_nil (Nat.le_refl _),drop_nil (by simp;omega)]
  simp [wv]
 | d+1,i,b,zs,hi,hb,hz,hw=>by
  have ha:=hx.getD i
  have hbb:=hy.getD i
  obtain ⟨a,ea⟩:∃ a,a=xs.getD i 0:=⟨_,rfl⟩
  obtain ⟨y,eb⟩:∃ y,y=ys.getD i 0:=⟨_,rfl⟩
  rw [← ea] at ha
  rw [← eb] at hbb
  have gx:(Wr xs)[Int.toNat (i:Int)]?=some [.u32 a]:=by rw [ea];exact F0 (by omega)
  have gy:i<ys.length→(Wr ys)[Int.toNat (i:Int)]?=some [.u32 y]:=fun h=>by rw [eb];exact F0 h
  have hap:∀ w,(Wr zs).take i++[[DV.u32 w]]=Wr (zs++[w]):=fun w=>by rw [Y9,← hz,List.take_length,y8j]
  have hlen:(i+1)*4≤140737488355328∧i+1≤140737488355328:=by omega
  have ey:(ys.take xs.length).getD i 0=y:=by rw [List.getD_eq_getElem?_getD,List.getElem?_take_of_lt (by omega),← List.getD_eq_getElem?_getD,eb]
  obtain ⟨dd,ed⟩:∃ dd,dd=a-b-y:=⟨_,rfl⟩
  have key:∀ b1 w,w=dd+1000000000*b1→0≤w∧w<1000000000→(b1=0∨b1=1) →
      (∀ {st:St},Lp E 0 G8 0 (J4 (Wr xs) (Wr ys) (i+1) b1 ((i+1:Nat):Int) (Wr (zs++[w]))) (.exit 0) st→Lp E 0 G8 0 (J4 (Wr xs) (Wr ys) i b i (Wr zs)) (.exit 0) st) →
      ∃ b' zs',Lp E 0 G8 0 (J4 (Wr xs) (Wr ys) i b i (Wr zs)) (.exit 0) (z8g zs'.length (Wr zs'))∧Wd zs'∧zs'.length=xs.length∧(b'=0∨b'=1)∧wv zs'+pw i*(0-wv (xs.drop i)+wv ((ys.take xs.length).drop i)+b)=wv zs+pw xs.length*b':=by
   intro b1 w hw1 hw0 hb1 st
   obtain ⟨b',zs',k1,k2,k3,k4,k5⟩:=k2a hx hy hxl d (i+1) b1 (zs++[w]) (by omega) hb1 (by simp [hz]) (hw.append (Wd.cons hw0.1 hw0.2 Wd.nil))
   refine ⟨b',zs',st k1,k2,k3,k4,?_⟩
   rw [z7z,hz,z2z] at k5
   rw [z7b xs i,z7b (ys.take xs.length) i,← ea,ey]
   rw [hw1,ed] at k5
   grind
  by_cases c2:i<ys.length
  · by_cases c3:dd<0
    · exact key 1 (dd+1000000000) (by omega) (by omega) (.inr rfl) fun k1=>k6r (i2:=a) (i3:=a) (i4:=a-b) (i5:=y) (i6:=y) (i7:=dd) (i8:=dd+1000000000) (i9:=dd+1000000000) (wi (by omega)) (wi (by omega)) (wi (by omega)) (wi (by omega)) (wi (by omega)) (w32 (by omega)) (hap _) rfl (wi (by omega)) (by rw [A8];omega) (by omega) gx (by rw [A8];omega) (gy c2) c3 hlen k1
    · exact key 0 dd (by omega) (by omega) (.inl rfl) fun k1=>k6s (i2:=a) (i3:=a) (i4:=a-b) (i5:=y) (i6:=y) (i7:=dd) (i8:=dd) (wi (by omega)) (wi (by omega)) (wi (by omega)) (wi (by omega)) (w32 (by omega)) (hap _) rfl (wi (by omega)) (by rw [A8];omega) (by omega) gx (by rw [A8];omega) (gy c2) c3 hlen k1
  · have y0:y=0:=by rw [eb];exact z5r (by omega)
    by_cases c3:dd<0
    · exact key 1 (dd+1000000000) (by omega) (by omega) (.inr rfl) fun k1=>k6t (i2:=a) (i3:=a) (i4:=dd) (i5:=dd+1000000000) (i6:=dd+1000000000) (wi (by omega)) (wi (by omega)) (wi (by omega)) (w32 (by omega)) (hap _) rfl (wi (by omega)) (by rw [A8];omega) (by omega) gx (by rw [A8];omega) c3 hlen k1
    · exact key 0 dd (by omega) (by omega) (.inl rfl) fun k1=>k6u (i2:=a) (i3:=a) (i4:=dd) (i5:=dd) (wi (by omega)) (wi (by omega)) (w32 (by omega)) (hap _) rfl (wi (by omega)) (by rw [A8];omega) (by omega) gx (by rw [A8];omega) c3 hlen k1
theorem q8m {m n:Nat} (h1:(words m).length<17592186044000) (hmn:n≤m):Fn E G8 [.c (.list (Wr (words m))),.c (.list (Wr (words n)))] (.c (.list (Wr (words (m-n))))):=by
 have hle:(words n).length≤(words m).length:=(V1 n).length_le (B3 n) (B3 m) (by rw [B2,B2];omega)
 obtain ⟨b,zs,k1,k2,k3,k4,k5⟩:=k2a (E:=E) (B3 m) (B3 n) h1 (words m).length 0 0 [] (by omega) (.inl rfl) rfl Wd.nil
 rw [List.drop_zero,List.drop_zero,List.take_of_length_le hle,B2,B2,x3o] at k5
 have h2:=z7y k2
 have h3:=z0f (words m).length
 have hv:=C6 k2
 rw [k3] at h2
 have hb:b=0:=by
  rcases k4 with h | h
  · exact h
  · subst h
    simp [wv] at k5
    omega
 subst hb
 exact j9c (y7l k2 (n:=m-n) (by simp [wv] at k5;omega)) k1 (y3t (Nat.le_refl _) (by omega))
theorem k2c (l:List UInt8) (hl:l.length<9223372036854775807):∀ d i:Nat,i+d=l.length →
    ((l.drop i).all y8m=true∧Lp E 0 F4 0 (O1 (B l) i) (.exit 0) (z4g (B l))) ∨
    ((l.drop i).all y8m=false∧Lp E 0 F4 0 (O1 (B l) i) .ret z8h)
 | 0,i,hi=>.inl ⟨by rw [List.drop_eq_nil_of_le (by omega)];rfl,k1d (by rw [D1];omega)⟩
 | d+1,i,hi=>by
  have hd:l.drop i=l.getD i 0::l.drop (i+1):=by
   rw [List.drop_eq_getElem_cons (by omega),List.getD_eq_getElem?_getD,List.getElem?_eq_getElem (by omega)];rfl
  have hlt:0≤(i:Int)∧(i:Int)<(B l).size:=by rw [D1];omega
  rw [hd,List.all_cons]
  by_cases c1:(l.getD i 0).toNat<48
  · rw [y8n (.inl c1)]
    exact .inr ⟨rfl,k1b (y5p l i) (by omega) hlt (by omega)⟩
  · by_cases c2:(l.getD i 0).toNat>57
    · rw [y8n (.inr c2)]
      exact .inr ⟨rfl,k1c (y5p l i) (by omega) hlt (by omega) (by omega)⟩
    · rw [x9i.2 (by omega),Bool.true_and]
      rcases k2c l hl d (i+1) (by omega) with ⟨h1,h2⟩ | ⟨h1,h2⟩
      · exact .inl ⟨h1,y8r (y5p l i) (wi (by omega)) (by omega) hlt (by omega) (by omega) h2⟩
      · exact .inr ⟨h1,y8r (y5p l i) (wi (by omega)) (by omega) hlt (by omega) (by omega) h2⟩
theorem x1n (l:List UInt8) (hl:l.length<9223372036854775807):Fn E F4 [.c (.str (B l))] (.c (.bool (natB l))):=by
 have hloop:=k2c (E:=E) l hl l.length 0 (by omega)
 rw [List.drop_zero] at hloop
 cases l with
 | nil =>
  rcases hloop with ⟨_,g2⟩ | ⟨g1,_⟩
  · exact j9l g2 (by rw [D1];decide) (by rw [D1];decide)
  · cases g1
 | cons c m =>
  rcases hloop with ⟨g1,g2⟩ | ⟨g1,g2⟩
  · by_cases h1:(c::m).length=1
    · have e:natB (c::m)=true:=by
       unfold natB
       rw [g1,decide_eq_true (show (c::m).length≤1 by omega)];rfl
      rw [e]
      exact j9i g2 (by rw [D1];omega)
    · have h2:(c::m).length>1:=by have:(c::m).length=m.length+1:=rfl;omega
      have h0:(((B (c::m)).data.toList.getD 0 0).toNat:Int)=(c.toNat:Int):=by rw [z9o];rfl
      have hlt:0≤(0:Int)∧(0:Int)<(B (c::m)).size:=by rw [D1];omega
      by_cases hc:c=48
      · have e:natB (c::m)=false:=by
         unfold natB
         rw [decide_eq_false (show ¬ (c::m).length≤1 by omega),hc];simp
        rw [e]
        exact j9k h0 g2 (by rw [D1];omega) (by rw [D1];omega) hlt (by rw [hc];rfl)
      · have hn:c.toNat≠48:=fun e=>hc (UInt8.toNat_inj.1 e)
        have e:natB (c::m)=true:=by
         unfold natB
         have:((c::m).head? == some 48)=false:=by simp [hc]
         rw [g1,this];simp
        rw [e]
        exact j9j h0 g2 (by rw [D1];omega) (by rw [D1];omega) hlt (by omega)
  · have e:natB (c::m)=false:=by unfold natB;rw [g1];simp
    rw [e]
    exact j9h g2
theorem k1z {l:List UInt8} (hd:Dg l) (hl:l.length<9223372036854775807) {w0:RW} {i:Nat} {e s:Nat} (he:e≤l.length) (hes:e≤s+9):∀ (d k:Nat),k+d=e→s≤k →
    Lp E 1 I7 1 (z7m (B l) i e (dval ((l.take k).drop s):Int) k w0) (.exit 2) (y2y (B l) i e w0 (dval ((l.take e).drop s):Int))
 | 0,k,hk,hs=>by
  have:k=e:=by omega
  subst this
  exact k0x (by omega)
 | d+1,k,hk,hs=>by
  have hg:l.getD k 0=l[k]:=by rw [List.getD_eq_getElem?_getD,List.getElem?_eq_getElem (by omega)];rfl
  have hc:=hd l[k] (List.getElem_mem _)
  have htk:(l.take (k+1)).drop s=(l.take k).drop s++[l[k]]:=by
   rw [List.take_succ_eq_append_getElem (by omega),List.drop_append_of_le_length (by simp;omega)]
  have hb:dval ((l.take k).drop s)<100000000:=by
   have h1:=k5g (Dg.drop (Dg.take hd k) s)
   have h2:(10:Nat) ^ ((l.take k).drop s).length≤10 ^ 8:=Nat.pow_le_pow_right (by decide) (by simp;omega)
   have h3:(10:Nat) ^ 8=100000000:=by decide
   omega
  have hv:dval ((l.take (k+1)).drop s)=10*dval ((l.take k).drop s)+(l[k].toNat-48):=by rw [htk,k8c]
  exact k6q (i4:=10*(dval ((l.take k).drop s):Int)) (i5:=(l[k].toNat:Int)) (i6:=(l[k].toNat:Int)-48) (i7:=(l[k].toNat:Int)-48) (i8:=(dval ((l.take (k+1)).drop s):Int)) (i9:=((k+1:Nat):Int))
   (w32 (by omega)) (by rw [y5p,hg]) (w8 (by omega)) (w32 (by omega)) (w32 (by omega)) (wi (by omega)) (by omega) (by rw [D1];omega) (k1z hd hl he hes d (k+1) (by omega) (by omega))
theorem k6c {l:List UInt8} (hd:Dg l) (hl:l.length<10000000000000):∀ (t i:Nat) (ws:List Int) (n:Int),n≤t→n≤l.length→-9<n→9*(i:Int)≤l.length+8→ws.length=i→(0<n→n+9*i=l.length)→Wd ws→wv ws+pw i*(dval (l.take n.toNat):Int)=dval l →
    ∃ ws',Lp E 0 I7 0 (z9c (B l) i n (Wr ws)) (.exit 0) (y5a ws'.length (Wr ws'))∧Wd ws'∧wv ws'=dval l∧ws'.length≤l.length+8
 | t,i,ws,n,ht,hnl,hn9,hi,hw,hni,hwd,hv=>by
  by_cases h0:n≤0
  · rw [show n.toNat=0 by omega,List.take_zero,show dval []=0 from rfl] at hv
    exact ⟨ws,by rw [hw];exact k3o (by omega),hwd,by simpa using hv,by omega⟩
  · cases t with
    | zero=>omega
    | succ t =>
     obtain ⟨e,he⟩:∃ e:Nat,n=e:=⟨n.toNat,by omega⟩
     subst he
     rw [Int.toNat_natCast] at hv
     obtain ⟨s,hs⟩:∃ s,s=e-9:=⟨_,rfl⟩
     obtain ⟨p,hp⟩:∃ p,p=(l.take e).drop s:=⟨_,rfl⟩
     have hlen:(l.take e).length=e:=by simp;omega
     have hpd:Dg p:=by rw [hp];exact Dg.drop (Dg.take hd _) _
     have hpl:p.length=e-s:=by rw [hp,List.length_drop,hlen]
     have hval:dval p<1000000000:=by
      have:=k5g hpd
      have h9:(10:Nat) ^ p.length≤10 ^ 9:=Nat.pow_le_pow_right (by decide) (by omega)
      rw [y4r] at h9
      omega
     have hsplit:l.take e=l.take s++p:=by
      rw [hp]
      have:=(List.take_append_drop s (l.take e)).symm
      rwa [List.take_take,Nat.min_eq_left (by omega)] at this
     have hvs:wv (ws++[(dval p:Int)])+pw (i+1)*(dval (l.take ((e:Int)-9).toNat):Int)=dval l:=by
      rw [show ((e:Int)-9).toNat=s by omega,z7z,hw,z2z]
      rw [hsplit,y4c] at hv
      by_cases h9:p.length=9
      · rw [h9,y4r] at hv
        have e2:((dval (l.take s)*1000000000+dval p:Nat):Int)=1000000000*(dval (l.take s):Int)+dval p:=by omega
        rw [e2] at hv
        grind
      · have hs0:s=0:=by omega
        rw [hs0,List.take_zero,show dval []=0 from rfl] at hv ⊢
        rw [show ((0*10 ^ p.length+dval p:Nat):Int)=(dval p:Int) by simp] at hv
        simp
        omega
     obtain ⟨ws',k1,k2,k3,k4⟩:=k6c hd hl t (i+1) (ws++[(dval p:Int)]) ((e:Int)-9) (by omega) (by omega) (by omega) (by omega) (by simp [hw]) (by omega) (hwd.append (Wd.cons (by omega) (by omega) Wd.nil)) hvs
     refine ⟨ws',?_,k2,k3,k4⟩
     have hin:=k1z (E:=E) hd (by omega) (w0:=Wr ws) (i:=i) (e:=e) (s:=s) (by omega) (by omega) (e-s) s (by omega) (Nat.le_refl _)
     rw [List.drop_eq_nil_of_le (by simp;omega),show dval []=0 from rfl,← hp] at hin
     exact k9g (i1:=(e:Int)-9) (i2:=(s:Int)) (i3:=(dval p:Int)) (r2:=Wr (ws++[(dval p:Int)])) (n2:=i+1) (wi (by omega)) (by split <;> omega) (by rw [Y9,← hw,List.take_length,y8j]) rfl (by omega) hin (by omega) k1
theorem w2v {l:List UInt8} (hd:Dg l) (hl:l.length<10000000000000):Fn E I7 [.c (.str (B l))] (.c (.list (Wr (words (dval l))))):=by
 obtain ⟨ws,k1,k2,k3,k4⟩:=k6c (E:=E) hd hl l.length 0 [] l.length (by omega) (by omega) (by omega) (by omega) rfl (fun _=>by omega) Wd.nil (by rw [Int.toNat_natCast,List.take_length,x3o];simp [wv])
 rw [← D1] at k1
 exact q5d (y7l k2 k3) k1 (y3t (Nat.le_refl _) (by omega))
theorem x7r {n K:Nat} (h:n<10 ^ K) (hK:K≤Lim):Fn E I7 [.c (.str (B (dec n)))] (.c (.list (Wr (words n)))):=by
 have h1:=k2k h
 rw [O6] at hK
 have:=w2v (E:=E) (y2q n) (by omega)
 rwa [z2s] at this
theorem x7u {xs ys:List Int} (hy:Wd ys) {N i:Nat} {x:Int} (hi:i<xs.length) (hxi:x=xs.getD i 0) (hx:0≤x∧x<1000000000) (hN:N<4611686018427387904) (hiN:i+ys.length≤N) {out0:List Int} :
    ∀ d k c out,k+d=ys.length→0≤c∧c<1000000000→Wd out→out.length=N→(∀ j,i+k≤j→out.getD j 0=out0.getD j 0) →
    wv out+pw (i+k)*c=wv out0+pw i*(x*wv (ys.take k)) →
    ∃ c' out',Lp E 1 F8 1 (z7o (Wr xs) (Wr ys) N i c k (Wr out)) (.exit 2) (y3a (Wr xs) (Wr ys) N i c' (Wr out')) ∧
     (0≤c'∧c'<1000000000)∧Wd out'∧out'.length=N∧(∀ j,i+ys.length≤j→out'.getD j 0=out0.getD j 0)∧wv out'+pw (i+ys.length)*c'=wv out0+pw i*(x*wv ys)
 | 0,k,c,out,hk,hc,hw,hl,hj,hv=>by
  have:k=ys.length:=by omega
  subst this
  rw [List.take_length] at hv
  exact ⟨c,out,k1a (by rw [A8];omega),hc,hw,hl,hj,hv⟩
 | d+1,k,c,out,hk,hc,hw,hl,hj,hv=>by
  have hyk:=hy.getD k
  obtain ⟨y,ey⟩:∃ y,y=ys.getD k 0:=⟨_,rfl⟩
  rw [← ey] at hyk
  have ho:=hw.getD (i+k)
  obtain ⟨w,ew⟩:∃ w,w=out.getD (i+k) 0:=⟨_,rfl⟩
  rw [← ew] at ho
  have hxy:=x9k hx hyk
  obtain ⟨p,ep⟩:∃ p,p=x*y:=⟨_,rfl⟩
  rw [← ep] at hxy
  obtain ⟨S,eS⟩:∃ S,S=c+(p+w):=⟨_,rfl⟩
  have hS:0≤S∧S≤999999999999999999:=by omega
  have hik:i+k<out.length:=by omega
  obtain ⟨c',out',k1,k2,k3,k4,k5,k6⟩:=x7u hy hi hxi hx hN hiN (out0:=out0) d (k+1) (S / 1000000000) (out.set (i+k) (S % 1000000000)) (by omega) (by omega) (hw.set _ (by omega) (by omega)) (by simpa using hl)
   (fun j h=>by rw [J0 (by omega)];exact hj j (by omega)) (by
    rw [z9n out (i+k) hik,← ew,Z2 ys k (by omega),← ey,← Nat.add_assoc,z2z,y0b]
    rw [y0b] at hv
    exact alg1 hv ep eS (Int.emod_add_mul_ediv S 1000000000))
  refine ⟨c',out',?_,k2,k3,k4,k5,k6⟩
  exact k6w (i4:=((i+k:Nat):Int)) (i5:=w) (i6:=w) (i7:=x) (i8:=x) (i9:=y) (i10:=y) (i11:=p) (i12:=w+p) (i13:=S) (i14:=S % 1000000000) (i15:=S % 1000000000) (r4:=Wr (out.set (i+k) (S % 1000000000))) (i16:=S / 1000000000) (i17:=((k+1:Nat):Int))
   (wi (by omega)) (wu (by omega)) (wu (by omega)) (wu (by omega)) (wu (by omega)) (wu (by omega)) (wu (by omega)) (tmd hS.1 rfl) (w32 (by omega)) (by rw [Int.toNat_natCast,z3w]) (wu ⟨tdv hS.1 rfl,by omega,by omega⟩) (wi (by omega))
   (by rw [A8];omega) (by omega) (by rw [ew];exact F0 hik) (by omega) (by rw [hxi];exact F0 (by omega)) (by omega) (by rw [ey];exact F0 (by omega)) k1
theorem x7v {xs ys:List Int} (hx:Wd xs) (hy:Wd ys) {N:Nat} (hN:N<4611686018427387904) (hl:N=xs.length+ys.length) :
    ∀ d i out,i+d=xs.length→Wd out→out.length=N→(∀ j,i+ys.length≤j→out.getD j 0=0)→wv out=wv (xs.take i)*wv ys →
    ∃ out',Lp E 1 F8 0 (z7n (Wr xs) (Wr ys) N i (Wr out)) (.exit 0) (y2z N (Wr out'))∧Wd out'∧out'.length=N∧wv out'=wv xs*wv ys
 | 0,i,out,hi,hw,ho,_,hv=>by
  have:i=xs.length:=by omega
  subst this
  rw [List.take_length] at hv
  exact ⟨out,k0z (by rw [A8];omega),hw,ho,hv⟩
 | d+1,i,out,hi,hw,ho,hj,hv=>by
  have hxi:=hx.getD i
  obtain ⟨x,ex⟩:∃ x,x=xs.getD i 0:=⟨_,rfl⟩
  rw [← ex] at hxi
  obtain ⟨c',out1,k1,k2,k3,k4,k5,k6⟩:=x7u (E:=E) hy (show i<xs.length by omega) ex hxi hN (by omega) (out0:=out) ys.length 0 0 out (by omega) (by omega) hw ho (fun _ _=>rfl) (by simp [wv])
  have hik:i+ys.length<out1.length:=by omega
  have h0:out1.getD (i+ys.length) 0=0:=by rw [k5 _ (Nat.le_refl _)];exact hj _ (Nat.le_refl _)
  obtain ⟨out',g1,g2,g3,g4⟩:=x7v hx hy hN hl d (i+1) (out1.set (i+ys.length) c') (by omega) (k3.set _ k2.1 k2.2) (by simpa using k4)
   (fun j h=>by rw [J0 (by omega),k5 j (by omega)];exact hj j (by omega)) (by
    rw [z9n out1 _ hik,h0,Z2 xs i (by omega),← ex,Int.sub_zero,k6,hv]
    grind)
  refine ⟨out',?_,g2,g3,g4⟩
  exact k6v (i1:=c') (r4:=Wr out1) (i2:=((i+ys.length:Nat):Int)) (i3:=c') (i4:=0) (r5:=Wr (out1.set (i+ys.length) c')) (i5:=((i+1:Nat):Int))
   (wi (by rw [A8];omega)) (w32 (by omega)) (by rw [Int.toNat_natCast,z3w]) (wi (by omega)) (by rw [A8];omega) k1 (by omega) (by rw [← h0];exact F0 hik) g1
theorem x1m {m n:Nat} (hl:(words m).length+(words n).length<35184372088000):Fn E F8 [.c (.list (Wr (words m))),.c (.list (Wr (words n)))] (.c (.list (Wr (words (m*n))))):=by
 by_cases hm:m=0
 · subst hm
   rw [Nat.zero_mul,O2]
   exact j9e rfl
 · by_cases hn:n=0
   · subst hn
     rw [Nat.mul_zero,O2]
     have:words m≠[]:=fun h=>hm (z4k.1 h)
     have:=z8d this
     exact j9f (by rw [A8];omega) rfl
   · obtain ⟨out,k1,k2,k3,k4⟩:=x7v (E:=E) (B3 m) (B3 n) (N:=(words m).length+(words n).length) (by omega) rfl (words m).length 0 (List.replicate ((words m).length+(words n).length) 0) (by omega) (Wd.replicate _) (by simp)
      (fun j _=>by rw [List.getD_eq_getElem?_getD,List.getElem?_replicate];split <;> rfl) (by rw [k2h];simp [wv])
     have p1:=z8d (fun h=>hm (z4k.1 h):words m≠[])
     have p2:=z8d (fun h=>hn (z4k.1 h):words n≠[])
     have ht:=y3t (E:=E) (ws:=out) (k:=(words m).length+(words n).length) (by omega) (by omega)
     have ha:=y7l k2 (n:=m*n) (by rw [k4,B2,B2,Int.natCast_mul])
     rw [k3] at ha
     exact j9g (i0:=(((words m).length+(words n).length:Nat):Int)) (n0:=(words m).length+(words n).length) (r2:=Wr (List.replicate ((words m).length+(words n).length) 0)) (r3:=Wr out) (wi (by rw [A8,A8];omega)) (Int.toNat_natCast _) (z4x _ _) ha (by rw [A8];omega) (by rw [A8];omega) (by omega) k1 ht
theorem k2b {xs:List Int} (hx:Wd xs) {N:Nat} (hN:xs.length=N) (hb:N<4611686018427387904) {w:Int} (hw:0<w∧w<1000000000):∀ k rest out,k≤N→0≤rest∧rest<w→Wd out→out.length=N →
    wv (out.drop k)*w+rest=wv (xs.drop k) →
    ∃ rest' out',Lp E 1 Y7 0 (z7p (Wr xs) w N rest ((k:Int)-1) (Wr out)) (.exit 0) (y3b N rest' (Wr out'))∧(0≤rest'∧rest'<w)∧Wd out'∧out'.length=N∧wv out'*w+rest'=wv xs
 | 0,rest,out,_,hr,ho,hl,hv=>by
  rw [List.drop_zero,List.drop_zero] at hv
  exact ⟨rest,out,k1e (by omega),hr,ho,hl,hv⟩
 | k+1,rest,out,hk,hr,ho,hl,hv=>by
  rw [show ((k+1:Nat):Int)-1=(k:Int) by omega]
  have hxk:=hx.getD k
  obtain ⟨x,ex⟩:∃ x,x=xs.getD k 0:=⟨_,rfl⟩
  rw [← ex] at hxk
  obtain ⟨S,eS⟩:∃ S,S=rest*1000000000+x:=⟨_,rfl⟩
  have hS:0≤S∧S<w*1000000000:=by omega
  have hq0:0≤S / w:=Int.ediv_nonneg hS.1 (by omega)
  have hq:S / w<1000000000:=Int.ediv_lt_of_lt_mul (by omega) (by rw [Int.mul_comm];exact hS.2)
  have hm0:=Int.emod_nonneg S (show w≠0 by omega)
  have hm1:=Int.emod_lt_of_pos S (show 0<w by omega)
  have hdm:=Int.emod_add_mul_ediv S w
  have hkl:k<out.length:=by omega
  have hd:(out.set k (S / w)).drop (k+1)=out.drop (k+1):=List.drop_set_of_lt (Nat.lt_succ_self k)
  obtain ⟨rest',out',k1,k2,k3,k4,k5⟩:=k2b hx hN hb hw k (S % w) (out.set k (S / w)) (by omega) ⟨hm0,hm1⟩ (ho.set _ hq0 hq) (by simpa using hl) (by
   rw [z7b _ k,z7b xs k,← ex,z8y hkl,hd,← hv]
   exact alg2 eS hdm)
  refine ⟨rest',out',?_,k2,k3,k4,k5⟩
  exact k6z (i4:=rest*1000000000) (i5:=x) (i6:=x) (i7:=S) (i8:=w) (i9:=S / w) (i10:=S / w) (i11:=out.getD k 0) (r3:=Wr (out.set k (S / w))) (i12:=S % w) (i13:=(k:Int)-1)
   (wu (by omega)) (wu (by omega)) (wu (by omega)) (wu (by omega)) (wu ⟨tdv hS.1 rfl,hq0,by omega⟩) (w32 (by omega)) (by rw [Int.toNat_natCast,z3w]) (tmd hS.1 rfl) (wi (by omega))
   (by omega) (by omega) (by rw [ex];exact F0 (by omega)) (by omega) (by omega) (F0 hkl) k1
theorem q8o {n w:Nat} (hw:0<w∧w<1000000000) (hl:(words n).length<35184372088000):Fn E Y7 [.c (.list (Wr (words n))),.c (.u32 w)] (.tup [.c (.list (Wr (words (n / w)))),.c (.u32 ((n % w:Nat):Int))]):=by
 obtain ⟨rest,out,k1,k2,k3,k4,k5⟩:=k2b (E:=E) (B3 n) (N:=(words n).length) rfl (by omega) (w:=w) (by omega) (words n).length 0 (List.replicate (words n).length 0) (Nat.le_refl _) (by omega) (Wd.replicate _) (by simp)
  (by rw [drop_nil (by simp),drop_nil (Nat.le_refl _)];simp [wv])
 rw [B2] at k5
 have h0:=C6 k3
 obtain ⟨q,hq⟩:∃ q:Nat,wv out=q:=⟨(wv out).toNat,by omega⟩
 obtain ⟨r,hr⟩:∃ r:Nat,rest=r:=⟨rest.toNat,by omega⟩
 rw [hq,hr] at k5
 subst hr
 have hn:n=q*w+r:=by
  have:((q*w+r:Nat):Int)=n:=by rw [Int.natCast_add,Int.natCast_mul];exact k5
  omega
 obtain ⟨e1,e2⟩:=y9e hn (by omega)
 rw [e1,e2]
 have ht:=y3t (E:=E) (ws:=out) (k:=(words n).length) (by omega) (by omega)
 have ha:=y7l k3 hq
 rw [k4] at ha
 exact j9m (n0:=(words n).length) (r1:=Wr (List.replicate (words n).length 0)) (i1:=((words n).length:Int)-1) (i2:=(r:Int)) (r2:=Wr out) (by rw [A8];rfl) (z4x _ _) (wi (by rw [A8];omega)) (w32 (by omega)) ha (by rw [A8];omega) k1 ht
theorem v9o {lu k j ln:Nat} {u v:List Int} (D:Dv u v lu k j) (hln:j+k<ln) (hls:ln<35184372088832) {g:Int} (hg:0≤g∧g<1000000000) :
    ∀ d i c b u',i+d=k→0≤c∧c<1000000000→b=0∨b=1→Wd u'→u'.length=lu→(∀ n,n<j∨j+i≤n→u'.getD n 0=u.getD n 0)→wv u'=wv u-pw j*(g*wv (v.take i))+pw j*pw i*(c+b) →
    ∃ c' b' u'',Lp E 1 D6 0 (M1 ln (Wr v) j g k b c i (Wr u')) (.exit 0) (z0k ln (Wr v) j g k b' c' (Wr u''))∧(0≤c'∧c'<1000000000)∧(b'=0∨b'=1)∧Wd u''∧u''.length=lu∧(∀ n,n<j∨j+k≤n→u''.getD n 0=u.getD n 0)∧wv u''=wv u-pw j*(g*wv v)+pw j*pw k*(c'+b')
 | 0,i,c,b,u',hi,hc,hb,hw,hl,hn,hv=>by
  have:i=k:=by omega
  subst this
  have:=D.elv
  rw [List.take_of_length_le (by omega)] at hv
  exact ⟨c,b,u',x8e (by omega),hc,hb,hw,hl,hn,hv⟩
 | d+1,i,c,b,u',hi,hc,hb,hw,hl,hn,hv=>by
  have hjk:=D.jk
  have hsm:=D.small
  have hlv:=D.elv
  have a0:=D.hv.getD i
  have b0:=hw.getD (j+i)
  have gk:(Wr v)[Int.toNat (i:Int)]?=some [.u32 (v.getD i 0)]:=F0 (by omega)
  have gu:(Wr u')[Int.toNat ((j+i:Nat):Int)]?=some [.u32 (u'.getD (j+i) 0)]:=F0 (by omega)
  have et:=Z2 v i (by omega)
  have es:=z9n u' (j+i) (by omega)
  obtain ⟨x,ex⟩:∃ x,x=v.getD i 0:=⟨_,rfl⟩
  obtain ⟨w,ew⟩:∃ w,w=u'.getD (j+i) 0:=⟨_,rfl⟩
  rw [← ex] at a0 gk et
  rw [← ew] at b0 gu es
  have hgx:0≤g*x∧g*x≤999999998000000001:=x9k hg a0
  obtain ⟨S,eS⟩:∃ S,S=g*x+c:=⟨_,rfl⟩
  have hS:0≤S∧S≤999999999000000000:=by omega
  obtain ⟨dd,ed⟩:∃ dd,dd=w-S % 1000000000-b:=⟨_,rfl⟩
  have key:∀ b' d',d'=dd+1000000000*b'→0≤d'∧d'<1000000000→(b'=0∨b'=1) →
      (∀ {st:St},Lp E 1 D6 0 (M1 ln (Wr v) j g k b' (S / 1000000000) ((i+1:Nat):Int) (Wr (u'.set (j+i) d'))) (.exit 0) st→Lp E 1 D6 0 (M1 ln (Wr v) j g k b c i (Wr u')) (.exit 0) st) →
      ∃ c' b' u'',Lp E 1 D6 0 (M1 ln (Wr v) j g k b c i (Wr u')) (.exit 0) (z0k ln (Wr v) j g k b' c' (Wr u''))∧(0≤c'∧c'<1000000000)∧(b'=0∨b'=1)∧Wd u''∧u''.length=lu∧(∀ n,n<j∨j+k≤n→u''.getD n 0=u.getD n 0)∧wv u''=wv u-pw j*(g*wv v)+pw j*pw k*(c'+b'):=by
   intro b' d' hd' hd0 hb' hstep
   obtain ⟨c2,b2,u2,k1,k2⟩:=v9o D hln hls hg d (i+1) (S / 1000000000) b' (u'.set (j+i) d') (by omega) (by omega) hb' (hw.set _ hd0.1 hd0.2) (by simpa using hl)
    (fun n h=>by rw [J0 (by omega)];exact hn n (by omega)) (by
     rw [es d',et,z2z,y0b]
     have:=v0g hv eS (Int.emod_add_mul_ediv S 1000000000) ed hd'
     rw [this];grind)
   exact ⟨c2,b2,u2,hstep k1,k2⟩
  by_cases c1:dd<0
  · refine key 1 (dd+1000000000) (by omega) (by omega) (.inr rfl) fun k1=>?_
    exact k3t (i8:=x) (i9:=x) (i10:=g*x) (i11:=S) (i12:=S / 1000000000) (i13:=((j+i:Nat):Int)) (i14:=w) (i15:=w) (i16:=S % 1000000000) (i17:=S % 1000000000) (i18:=w-S % 1000000000) (i19:=dd) (i20:=dd+1000000000) (i21:=dd+1000000000) (r3:=Wr (u'.set (j+i) (dd+1000000000))) (i22:=((i+1:Nat):Int))
     (wu (by omega)) (wu (by omega)) (wu (by omega)) (wu ⟨tdv hS.1 rfl,by omega,by omega⟩) (wi (by omega)) (wi (by omega)) (tmd hS.1 rfl) (wi (by omega)) (wi (by omega)) (wi (by omega)) (wi (by omega)) (w32 (by omega)) (by rw [Int.toNat_natCast,z3w]) (wi (by omega))
     (by omega) (by omega) gk (by omega) gu c1 k1
  · refine key 0 dd (by omega) (by omega) (.inl rfl) fun k1=>?_
    exact k3u (i8:=x) (i9:=x) (i10:=g*x) (i11:=S) (i12:=S / 1000000000) (i13:=((j+i:Nat):Int)) (i14:=w) (i15:=w) (i16:=S % 1000000000) (i17:=S % 1000000000) (i18:=w-S % 1000000000) (i19:=dd) (i20:=dd) (r4:=Wr (u'.set (j+i) dd)) (i23:=((i+1:Nat):Int))
     (wu (by omega)) (wu (by omega)) (wu (by omega)) (wu ⟨tdv hS.1 rfl,by omega,by omega⟩) (wi (by omega)) (wi (by omega)) (tmd hS.1 rfl) (wi (by omega)) (wi (by omega)) (wi (by omega)) (w32 (by omega)) (by rw [Int.toNat_natCast,z3w]) (wi (by omega))
     (by omega) (by omega) gk (by omega) gu c1 k1
theorem v9n {lu k j ln:Nat} {u v:List Int} (D:Dv u v lu k j) (hln:j+k<ln) (hls:ln<35184372088832) {g:Int} {u1:List Int} :
    ∀ d i up u',i+d=k→0≤up∧up≤1→Wd u'→u'.length=lu→(∀ n,n<j∨j+i≤n→u'.getD n 0=u1.getD n 0)→wv u'=wv u1+pw j*wv (v.take i)-pw j*pw i*up →
    ∃ up' u'',Lp E 1 D6 1 (z2l ln (Wr v) j g k up i (Wr u')) (.exit 2) (z6z ln j g k up' (Wr u''))∧(0≤up'∧up'≤1)∧Wd u''∧u''.length=lu∧(∀ n,n<j∨j+k≤n→u''.getD n 0=u1.getD n 0)∧wv u''=wv u1+pw j*wv v-pw j*pw k*up'
 | 0,i,up,u',hi,hc,hw,hl,hn,hv=>by
  have:i=k:=by omega
  subst this
  have:=D.elv
  rw [List.take_of_length_le (by omega)] at hv
  exact ⟨up,u',x8f (by omega),hc,hw,hl,hn,hv⟩
 | d+1,i,up,u',hi,hc,hw,hl,hn,hv=>by
  have hjk:=D.jk
  have hsm:=D.small
  have hlv:=D.elv
  have a0:=D.hv.getD i
  have b0:=hw.getD (j+i)
  have gk:(Wr v)[Int.toNat (i:Int)]?=some [.u32 (v.getD i 0)]:=F0 (by omega)
  have gu:(Wr u')[Int.toNat ((j+i:Nat):Int)]?=some [.u32 (u'.getD (j+i) 0)]:=F0 (by omega)
  have et:=Z2 v i (by omega)
  have es:=z9n u' (j+i) (by omega)
  obtain ⟨x,ex⟩:∃ x,x=v.getD i 0:=⟨_,rfl⟩
  obtain ⟨w,ew⟩:∃ w,w=u'.getD (j+i) 0:=⟨_,rfl⟩
  rw [← ex] at a0 gk et
  rw [← ew] at b0 gu es
  obtain ⟨S,eS⟩:∃ S,S=up+(w+x):=⟨_,rfl⟩
  have hS:0≤S∧S≤1999999999:=by omega
  obtain ⟨up2,u2,k1,k2⟩:=v9n (g:=g) D hln hls (u1:=u1) d (i+1) (S / 1000000000) (u'.set (j+i) (S % 1000000000)) (by omega) (by omega) (hw.set _ (by omega) (by omega)) (by simpa using hl)
   (fun n h=>by rw [J0 (by omega)];exact hn n (by omega)) (by
    rw [es,et,z2z,y0b]
    have:=q6t hv eS (Int.emod_add_mul_ediv S 1000000000)
    rw [this];grind)
  refine ⟨up2,u2,?_,k2⟩
  exact k3v (i6:=((j+i:Nat):Int)) (i7:=w) (i8:=x) (i9:=w+x) (i10:=S) (i11:=S % 1000000000) (r3:=Wr (u'.set (j+i) (S % 1000000000))) (i12:=S / 1000000000) (i13:=((i+1:Nat):Int))
   (wi (by omega)) (w32 (by omega)) (w32 (by omega)) (tmd hS.1 rfl) (by rw [Int.toNat_natCast,z3w]) (w32 ⟨tdv hS.1 rfl,by omega,by omega⟩) (wi (by omega))
   (by omega) (by omega) gu (by omega) gk k1
theorem j7j {xs ys:List Int} {n:Nat} (hl:xs.length=ys.length) (h:∀ i,n≤i→xs.getD i 0=ys.getD i 0):xs.drop n=ys.drop n:=by
 apply List.ext_getElem?
 intro i
 rw [List.getElem?_drop,List.getElem?_drop]
 rcases Nat.lt_or_ge (n+i) xs.length with h1 | h1
 · rw [getD_some h1,getD_some (by omega),h _ (by omega)]
 · rw [List.getElem?_eq_none h1,List.getElem?_eq_none (by omega)]
theorem v5w {lu k j ln:Nat} {u v:List Int} (D:Dv u v lu k j) (hln:j+k<ln) (hls:ln<35184372088832) {g:Int} (hg:0≤g∧g<1000000000) (hup:wv (u.drop j)<(g+1)*wv v) (hlo:(g-1)*wv v≤wv (u.drop j)) :
    ∃ u' q,Rn E D6 [.vec 0 ln,.c (.list (Wr v)),.c (.i64 j),.c (.u64 g)] [some (.vec A0 (Wr u))] (.c (.u32 q)) [some (.vec A0 (Wr u'))] ∧
     (0≤q∧q<1000000000)∧Wd u'∧u'.length=lu∧wv u'=wv u-pw j*(q*wv v)∧0≤wv (u'.drop j)∧wv (u'.drop j)<wv v:=by
 have h2:=D.two
 have hjk:=D.jk
 have hsm:=D.small
 have hlu:=D.elu
 have hlv:=D.elv
 have hV:=D.vpos
 have hVk:=D.vk
 have b0:=D.hu.getD (j+k)
 have hz:=D.zero
 obtain ⟨u0,e3⟩:∃ x,x=u.getD (j+k) 0:=⟨_,rfl⟩
 rw [← e3] at b0
 obtain ⟨c,b,us,s1,s2,s3,s4,s5,s6,s7⟩:=v9o (E:=E) D hln hls hg k 0 0 0 u (by omega) (by omega) (.inl rfl) D.hu D.elu (fun _ _=>rfl) (by simp [wv])
 have hsu:us.getD (j+k) 0=u0:=by rw [s6 _ (.inr (Nat.le_refl _)),← e3]
 have gs0:(Wr us)[Int.toNat ((j+k:Nat):Int)]?=some [.u32 u0]:=by rw [← hsu];exact F0 (by omega)
 obtain ⟨last,hlast⟩:∃ x,x=u0-c-b:=⟨_,rfl⟩
 have hset:=z9n us (j+k) (by omega)
 rw [hsu] at hset
 have sv:wv us=wv u-pw j*(g*wv v-pw k*(c+b)):=by rw [s7];grind
 have sd:=y4b (xs:=us) (ys:=u) (by omega) (j:=j) (by omega) (fun n hn=>s6 n (.inl hn)) sv
 have sk:=F9 (us.drop j) k (by simp;omega)
 have sz:wv (us.drop (j+k+1))=0:=by
  rw [j7j (ys:=u) (by omega) (fun i hi=>s6 i (.inr (by omega)))];exact hz
 rw [List.drop_drop,N8 us (j+k) (by omega),sz,hsu] at sk
 have sk0:=C6 ((s4.drop j).take k)
 have sk1:=(s4.drop j).val_take_lt k (by simp;omega)
 have hpk:=z0f k
 have hpj:=z0f j
 have hXV:(g+1)*wv v=g*wv v+wv v:=by grind
 have hwl:((Wr v).length:Int)=k:=by rw [A8,hlv]
 have s1':Lp E 1 D6 0 (M1 ln (Wr v) j g ((Wr v).length:Int) 0 0 0 (Wr u)) (.exit 0) (z0k ln (Wr v) j g ((Wr v).length:Int) b c (Wr us)):=by rw [hwl];exact s1
 by_cases c1:last<0
 · have hneg:wv (u.drop j)<g*wv v:=by
    have h5:pw k*last≤pw k*(-1):=Int.mul_le_mul_of_nonneg_left (by omega) (by omega)
    have h6:pw k*last=pw k*u0-pw k*(c+b):=by rw [hlast];grind
    simp at sk
    omega
   have hg1:1≤g:=by
    rcases Int.lt_or_le g 1 with h | h
    · have:g=0:=by omega
      subst this
      have:=C6 (D.hu.drop j)
      omega
    · exact h
   obtain ⟨m,hm⟩:∃ m,m=us.set (j+k) (last+1000000000):=⟨_,rfl⟩
   have hlb:-1000000000≤last:=by rcases s3 with h | h <;> omega
   have mw:Wd m:=by rw [hm];exact s4.set _ (by omega) (by omega)
   have ml:m.length=lu:=by rw [hm];simpa using s5
   have mv:wv m=wv us+pw (j+k)*(last+1000000000-u0):=by rw [hm,hset]
   have mj:m.getD (j+k) 0=last+1000000000:=by rw [hm];exact z8y (by omega) _
   obtain ⟨up,ua,t1,t2,t3,t4,t5,t6⟩:=v9n (E:=E) (g:=g) D hln hls (u1:=m) k 0 0 m (by omega) (by omega) mw ml (fun _ _=>rfl) (by simp [wv])
   have hau:ua.getD (j+k) 0=last+1000000000:=by rw [t5 _ (.inr (Nat.le_refl _)),mj]
   have ga0:(Wr ua)[Int.toNat ((j+k:Nat):Int)]?=some [.u32 (last+1000000000)]:=by rw [← hau];exact F0 (by omega)
   have hset2:=z9n ua (j+k) (by omega)
   rw [hau] at hset2
   have tv:wv ua=wv u-pw j*((g-1)*wv v-pw k*(last+1000000000-u0)-pw k*(c+b)+pw k*up):=by rw [t6,mv,s7,y0b];grind
   have td:=y4b (xs:=ua) (ys:=u) (by omega) (j:=j) (by omega) (fun n hn=>by rw [t5 n (.inl hn),hm,J0 (by omega)];exact s6 n (.inl hn)) tv
   have tk:=F9 (ua.drop j) k (by simp;omega)
   have tz:wv (ua.drop (j+k+1))=0:=by
    rw [j7j (ys:=us) (by omega) (fun i hi=>by rw [t5 i (.inr (by omega)),hm,J0 (by omega)])];exact sz
   rw [List.drop_drop,N8 ua (j+k) (by omega),tz,hau] at tk
   have tk0:=C6 ((t3.drop j).take k)
   have tk1:=(t3.drop j).val_take_lt k (by simp;omega)
   have hg1V:(g-1)*wv v=g*wv v-wv v:=by grind
   have hzero:last+up=0:=by
    have h5:pw k*(last+up)=pw k*last+pw k*up:=by grind
    have h6:pw k*(last+1000000000-u0)=pw k*last+pw k*1000000000-pw k*u0:=by grind
    have h7:pw k*last=pw k*u0-pw k*(c+b):=by rw [hlast];grind
    have h8:pw k*(last+1000000000)=pw k*last+pw k*1000000000:=by grind
    have h9:-pw k<pw k*(last+up)∧pw k*(last+up)<pw k:=by
     simp at tk
     omega
    rcases Int.lt_trichotomy (last+up) 0 with h | h | h
    · have:pw k*(last+up)≤pw k*(-1):=Int.mul_le_mul_of_nonneg_left (by omega) (by omega)
      omega
    · exact h
    · have:pw k*1≤pw k*(last+up):=Int.mul_le_mul_of_nonneg_left (by omega) (by omega)
      omega
   have hfin:wv (ua.set (j+k) 0)=wv u-pw j*((g-1)*wv v):=by
    rw [hset2,tv,y0b]
    have e1:u0=c+b+last:=by omega
    have e2:up=-last:=by omega
    rw [e1,e2];grind
   have hd:=y4b (xs:=ua.set (j+k) 0) (ys:=u) (by simp;omega) (j:=j) (by simp;omega) (fun n hn=>by rw [J0 (by omega),t5 n (.inl hn),hm,J0 (by omega)];exact s6 n (.inl hn)) hfin
   refine ⟨ua.set (j+k) 0,g-1,?_,by omega,t3.set _ (by omega) (by omega),by simpa using t4,hfin,by rw [hd];omega,by rw [hd];omega⟩
   have t1':Lp E 1 D6 1 (z2l ln (Wr v) j g ((Wr v).length:Int) 0 0 (Wr m)) (.exit 2) (z6z ln j g ((Wr v).length:Int) up (Wr ua)):=by rw [hwl];exact t1
   exact j6p (i2:=b) (i3:=c) (r2:=Wr us) (i4:=((j+k:Nat):Int)) (i5:=u0) (i6:=u0) (i7:=c) (i8:=u0-c) (i9:=last) (i10:=last+1000000000) (i12:=last+1000000000) (r4:=Wr m) (i13:=up) (r5:=Wr ua) (i14:=last+1000000000) (i15:=1000000000) (i16:=0) (r6:=Wr (ua.set (j+k) 0)) (i17:=g-1) (i18:=g-1)
    (wi (by rw [hwl];omega)) (wi (by omega)) (wi (by omega)) (wi (by omega)) (wi (by omega)) (wi (by omega)) (w32 (by omega)) (by rw [Int.toNat_natCast,z3w,hm]) (w32 (by omega)) (tmd (by omega) rfl) (by rw [Int.toNat_natCast,z3w]) (wu (by omega)) (w32 (by omega))
    s1' (by omega) gs0 (by omega) t1' ga0
 · have hfin:wv (us.set (j+k) last)=wv u-pw j*(g*wv v):=by
    rw [hset,sv,y0b,hlast];grind
   have hd:=y4b (xs:=us.set (j+k) last) (ys:=u) (by simp;omega) (j:=j) (by simp;omega) (fun n hn=>by rw [J0 (by omega)];exact s6 n (.inl hn)) hfin
   have hl9:last<1000000000:=by rcases s3 with h | h <;> omega
   refine ⟨us.set (j+k) last,g,?_,hg,s4.set _ (by omega) hl9,by simpa using s5,hfin,C6 ((s4.set (j+k) (show 0≤last by omega) hl9).drop j),by rw [hd];omega⟩
   exact j6o (i2:=b) (i3:=c) (r2:=Wr us) (i4:=((j+k:Nat):Int)) (i5:=u0) (i6:=u0) (i7:=c) (i8:=u0-c) (i9:=last) (i10:=last) (r3:=Wr (us.set (j+k) last)) (i11:=g)
    (wi (by rw [hwl];omega)) (wi (by omega)) (wi (by omega)) (wi (by omega)) (wi (by omega)) (w32 (by omega)) (by rw [Int.toNat_natCast,z3w]) (w32 (by omega)) s1' (by omega) gs0 (by omega)
theorem q8n {sc w2 w4:RW} {lq lu k j ln:Nat} {u v:List Int} (D:Dv u v lu k j) (hln:j+k<ln) (hls:ln<35184372088832) :
    ∀ (t:Nat) (g rest:Int),0≤g→g<t→g≤1000000001→0≤rest∧rest<2000000000→g*v.getD (k-1) 0+rest=u.getD (j+k) 0*1000000000+u.getD (j+k-1) 0→wv (u.drop j)<(g+1)*wv v→(g=1000000001→rest+v.getD (k-1) 0<1000000000)→(rest≥1000000000→g<1000000000) →
    ∃ g',Lp E 5 G1 1 (Z0 k sc (Wr v) ln lq j g rest w2 (Wr u) w4) (.exit 2) (z5y k sc (Wr v) ln lq j w2 (Wr u) w4 g')∧(0≤g'∧g'<1000000000)∧wv (u.drop j)<(g'+1)*wv v∧(g'-1)*wv v≤wv (u.drop j)
 | 0,g,rest,h0,ht,_,_,_,_,_,_=>by omega
 | t+1,g,rest,h0,ht,hg,hr,he,hX,hbig,hrg=>by
  have h2:=D.two
  have hjk:=D.jk
  have hsm:=D.small
  have hlu:=D.elu
  have hlv:=D.elv
  have a1:=D.hv.getD (k-1)
  have a2:=D.hv.getD (k-2)
  have b2:=D.hu.getD (j+k-2)
  have b1:=D.hu.getD (j+k-1)
  have b0:=D.hu.getD (j+k)
  have hnorm:=D.norm
  have eV:=x1t D.elv D.two
  have eX:=y8v (u:=u) (j:=j) (k:=k) D.two (by omega) D.zero
  have vl0:=C6 (D.hv.take (k-2))
  have vl1:=D.hv.val_take_lt (k-2) (by omega)
  have xl0:=C6 ((D.hu.drop j).take (k-2))
  have xl1:=(D.hu.drop j).val_take_lt (k-2) (by simp;omega)
  have hP:=z0f (k-2)
  have gk1:(Wr v)[Int.toNat ((k:Int)-1)]?=some [.u32 (v.getD (k-1) 0)]:=by
   rw [show Int.toNat ((k:Int)-1)=k-1 by omega];exact F0 (by omega)
  have gk2:(Wr v)[Int.toNat ((k:Int)-2)]?=some [.u32 (v.getD (k-2) 0)]:=by
   rw [show Int.toNat ((k:Int)-2)=k-2 by omega];exact F0 (by omega)
  have gu:(Wr u)[Int.toNat ((j:Int)+k-2)]?=some [.u32 (u.getD (j+k-2) 0)]:=by
   rw [show Int.toNat ((j:Int)+k-2)=j+k-2 by omega];exact F0 (by omega)
  obtain ⟨v1,e1⟩:∃ x,x=v.getD (k-1) 0:=⟨_,rfl⟩
  obtain ⟨v2,e2⟩:∃ x,x=v.getD (k-2) 0:=⟨_,rfl⟩
  obtain ⟨u2,e3⟩:∃ x,x=u.getD (j+k-2) 0:=⟨_,rfl⟩
  obtain ⟨top,e4⟩:∃ x,x=u.getD (j+k) 0*1000000000+u.getD (j+k-1) 0:=⟨_,rfl⟩
  rw [← e1] at a1 hnorm eV gk1 he hbig
  rw [← e2] at a2 eV gk2
  rw [← e3] at b2 eX gu
  rw [← e4] at eX he
  have hg2:0≤g*v2∧g*v2≤1000000001*999999999:=⟨Int.mul_nonneg h0 a2.1,Int.mul_le_mul hg (by omega) a2.1 (by decide)⟩
  by_cases c0:rest≥1000000000
  · have hgB:=hrg c0
    refine ⟨g,k3r (by omega),⟨h0,hgB⟩,hX,?_⟩
    refine x2m hP ⟨vl0,vl1⟩ xl0 eV eX he ⟨h0,hgB⟩ ?_ hnorm a2.1
    have h5:g*v2≤999999999*999999999:=Int.mul_le_mul (by omega) (by omega) a2.1 (by decide)
    omega
  · have down:1≤g→wv (u.drop j)<g*wv v→(g≤1000000000∨rest+v1<1000000000) →
        ∃ g',Lp E 5 G1 1 (Z0 k sc (Wr v) ln lq j (g-1) (rest+v1) w2 (Wr u) w4) (.exit 2) (z5y k sc (Wr v) ln lq j w2 (Wr u) w4 g')∧(0≤g'∧g'<1000000000)∧wv (u.drop j)<(g'+1)*wv v∧(g'-1)*wv v≤wv (u.drop j):=by
     intro hg1 hlt hb
     have hmul:(g-1)*v1+(rest+v1)=top:=by
      have:(g-1)*v1=g*v1-v1:=by grind
      omega
     refine q8n D hln hls t (g-1) (rest+v1) (by omega) (by omega) (by omega) (by omega) ?_ (by rw [show g-1+1=g by omega];exact hlt) (fun h=>by omega) (fun h=>by omega)
     rw [← e1,← e4];exact hmul
    by_cases c1:g≥1000000000
    · have hlt:wv (u.drop j)<g*wv v:=by
       have h6:=N8 u j (by omega)
       have h7:=D.hu.getD j
       have h8:=D.low
       have h9:1000000000*wv v≤g*wv v:=Int.mul_le_mul_of_nonneg_right c1 (by have:=D.vpos;omega)
       omega
      have hb:g≤1000000000∨rest+v1<1000000000:=by
       rcases Int.lt_or_le 1000000000 g with h | h
       · exact .inr (hbig (by omega))
       · exact .inl h
      obtain ⟨g',d3,d4⟩:=down (by omega) hlt hb
      exact ⟨g',k9i (i6:=(k:Int)-1) (i7:=v1) (i8:=v1) (wu (by omega)) (wi (by omega)) (wu (by omega)) (wu (by omega)) (by omega) c1 (by omega) gk1 d3,d4⟩
    · by_cases c3:g*v2>rest*1000000000+u2
      · have hlt:=q1g hP vl0 xl1 eV eX he h0 c3
        have hg1:1≤g:=by
         rcases Int.lt_or_le g 1 with h | h
         · have:g=0:=by omega
           subst this
           rw [Int.zero_mul] at c3
           omega
         · exact h
        obtain ⟨g',d3,d4⟩:=down hg1 hlt (.inl (by omega))
        exact ⟨g',k9j (i5:=(k:Int)-2) (i6:=v2) (i7:=v2) (i8:=g*v2) (i9:=rest*1000000000) (i10:=(j:Int)+k) (i11:=(j:Int)+k-2) (i12:=u2) (i13:=u2) (i14:=rest*1000000000+u2) (i16:=(k:Int)-1) (i17:=v1) (i18:=v1)
         (wi (by omega)) (wu (by omega)) (wu (by omega)) (wu (by omega)) (wi (by omega)) (wi (by omega)) (wu (by omega)) (wu (by omega)) (wu (by omega)) (wi (by omega)) (wu (by omega)) (wu (by omega)) (by omega) c1 (by omega) gk2 (by omega) gu c3 (by omega) gk1 d3,d4⟩
      · refine ⟨g,k3q (i5:=(k:Int)-2) (i6:=v2) (i7:=v2) (i8:=g*v2) (i9:=rest*1000000000) (i10:=(j:Int)+k) (i11:=(j:Int)+k-2) (i12:=u2) (i13:=u2) (i14:=rest*1000000000+u2)
            (wi (by omega)) (wu (by omega)) (wu (by omega)) (wu (by omega)) (wi (by omega)) (wi (by omega)) (wu (by omega)) (wu (by omega)) (by omega) c1 (by omega) gk2 (by omega) gu c3,⟨h0,by omega⟩,hX,?_⟩
        exact x2m hP ⟨vl0,vl1⟩ xl0 eV eX he ⟨h0,by omega⟩ (by omega) hnorm a2.1
theorem q7j {lu k j:Nat} {u v:List Int} (D:Dv u v lu k j) {top:Int} (et:top=u.getD (j+k) 0*1000000000+u.getD (j+k-1) 0) :
    0≤top∧0≤top / v.getD (k-1) 0∧top / v.getD (k-1) 0≤1000000001∧(0≤top % v.getD (k-1) 0∧top % v.getD (k-1) 0<v.getD (k-1) 0)∧top / v.getD (k-1) 0*v.getD (k-1) 0+top % v.getD (k-1) 0=top∧wv (u.drop j)<(top / v.getD (k-1) 0+1)*wv v∧(top / v.getD (k-1) 0=1000000001→top % v.getD (k-1) 0+v.getD (k-1) 0<1000000000):=by
 have h2:=D.two
 have hjk:=D.jk
 have hlu:=D.elu
 have hlv:=D.elv
 have hnorm:=D.norm
 have hV:=D.vpos
 have a1:=D.hv.getD (k-1)
 have b1:=D.hu.getD (j+k-1)
 have b0:=D.hu.getD (j+k)
 have hlow:=D.low
 have hz:=D.zero
 obtain ⟨v1,e1⟩:∃ x,x=v.getD (k-1) 0:=⟨_,rfl⟩
 obtain ⟨u0,e3⟩:∃ x,x=u.getD (j+k) 0:=⟨_,rfl⟩
 obtain ⟨u1',e4⟩:∃ x,x=u.getD (j+k-1) 0:=⟨_,rfl⟩
 have hX3:=y8v (u:=u) (j:=j) (k:=k) h2 (by omega) hz
 have hV2:=x1t hlv h2
 rw [← e3,← e4] at et hX3
 rw [← et] at hX3
 rw [← e1] at a1 hnorm hV2 ⊢
 rw [← e3] at b0
 rw [← e4] at b1
 have htop:0≤top:=by omega
 have hdm:=Int.emod_add_mul_ediv top v1
 have hr0:=Int.emod_nonneg top (show v1≠0 by omega)
 have hr1:=Int.emod_lt_of_pos top (show 0<v1 by omega)
 have hg0:0≤top / v1:=Int.ediv_nonneg htop (by omega)
 have hmul:top / v1*v1+top % v1=top:=by rw [Int.mul_comm];omega
 have a2:=D.hv.getD (k-2)
 have vl1:=D.hv.val_take_lt (k-2) (by omega)
 have xl0:=C6 ((D.hu.drop j).take (k-2))
 have hP:=z0f (k-2)
 have b2:=D.hu.getD (j+k-2)
 have hu0:u0≤v1:=by
  rcases Int.lt_or_le v1 u0 with h | h
  · exfalso
    have e5:=F9 (u.drop (j+1)) (k-1) (by simp;omega)
    rw [List.drop_drop,show j+1+(k-1)=j+k by omega,N8 u (j+k) (by omega),hz,← e3] at e5
    have h6:=C6 ((D.hu.drop (j+1)).take (k-1))
    have e7:=F9 v (k-1) (by omega)
    rw [N8 v (k-1) (by omega),← e1,show k-1+1=k by omega,List.drop_eq_nil_of_le (by omega),show wv []=0 from rfl] at e7
    have h8:=D.hv.val_take_lt (k-1) (by omega)
    have h9:pw (k-1)*(v1+1)≤pw (k-1)*u0:=Int.mul_le_mul_of_nonneg_left (by omega) (by have:=z0f (k-1);omega)
    rw [Int.mul_add,Int.mul_one] at h9
    simp at e5 e7
    omega
  · exact h
 refine ⟨htop,hg0,?_,⟨hr0,hr1⟩,hmul,?_,fun h=>by rw [h] at hmul;omega⟩
 · have:top / v1<1000000002:=Int.ediv_lt_of_lt_mul (by omega) (by omega)
   omega
 · have h5:top+1≤(top / v1+1)*v1:=by
    have:(top / v1+1)*v1=top / v1*v1+v1:=by grind
    omega
   have h6:=Int.mul_le_mul_of_nonneg_right h5 (show 0≤1000000000*pw (k-2) by omega)
   have h7:(top / v1+1)*(v1*(1000000000*pw (k-2)))≤(top / v1+1)*wv v:=by
    refine Int.mul_le_mul_of_nonneg_left ?_ (by omega)
    have h8:(v1*1000000000+v.getD (k-2) 0)*pw (k-2)=v1*(1000000000*pw (k-2))+v.getD (k-2) 0*pw (k-2):=by grind
    have h9:0≤v.getD (k-2) 0*pw (k-2):=Int.mul_nonneg a2.1 (by omega)
    have h10:=C6 (D.hv.take (k-2))
    omega
   have h8:(top / v1+1)*v1*(1000000000*pw (k-2))=(top / v1+1)*(v1*(1000000000*pw (k-2))):=by grind
   have h9:(top+1)*(1000000000*pw (k-2))=top*1000000000*pw (k-2)+1000000000*pw (k-2):=by grind
   have h10:(top*1000000000+u.getD (j+k-2) 0)*pw (k-2)=top*1000000000*pw (k-2)+u.getD (j+k-2) 0*pw (k-2):=by grind
   have h11:u.getD (j+k-2) 0*pw (k-2)≤999999999*pw (k-2):=Int.mul_le_mul_of_nonneg_right (by omega) (by omega)
   have h12:=(D.hu.drop j).val_take_lt (k-2) (by simp;omega)
   omega
theorem k6e {sc w2:RW} {lq lu k ln:Nat} {v:List Int} (hv:Wd v) (hlv:v.length=k)(h2:2≤k) (hn:1000000000≤2*v.getD (k-1) 0) (hsm:lu<35184372088832) (hlnu:ln≤lu) :
    ∀ j u q,Wd u→u.length=lu→Wd q→q.length=lq→j≤lq→(0<j→j-1+k<ln)→wv (u.drop j)<wv v →
    ∃ u' q',Lp E 5 G1 0 (z9d k sc (Wr v) ln lq ((j:Int)-1) w2 (Wr u) (Wr q)) (.exit 0) (y5b k sc ln lq w2 (Wr u') (Wr q'))∧Wd u'∧u'.length=lu∧Wd q'∧q'.length=lq∧wv u'<wv v∧wv u'+wv v*wv q'=wv u+wv v*(pw j*wv (q.drop j))
 | 0,u,q,hu,hlu,hq,hlq,_,_,hlow=>⟨u,q,k3p (by omega),hu,hlu,hq,hlq,by simpa using hlow,by simp [x3o]⟩
 | j+1,u,q,hu,hlu,hq,hlq,hj,hjk,hlow=>by
  have hjk':=hjk (by omega)
  have D:Dv u v lu k j:=⟨hu,hv,hlu,hlv,h2,hn,by omega,hsm,hlow⟩
  rw [show ((j+1:Nat):Int)-1=(j:Int) by omega]
  have a1:=hv.getD (k-1)
  have b1:=hu.getD (j+k-1)
  have b0:=hu.getD (j+k)
  obtain ⟨top,et⟩:∃ x,x=u.getD (j+k) 0*1000000000+u.getD (j+k-1) 0:=⟨_,rfl⟩
  obtain ⟨f1,f2,f3,f4,f5,f6,f7⟩:=q7j D et
  obtain ⟨g,k1,k2,k3,k4⟩:=q8n (E:=E) (sc:=sc) (w2:=w2) (w4:=Wr q) (lq:=lq) (ln:=ln) D (by omega) (by omega) 1000000002 _ _ f2 (by omega) f3 (by omega) (by rw [← et];exact f5) f6 f7 (by omega)
  obtain ⟨u1,qd,r1,r2,r3,r4,r5,r6,r7⟩:=v5w (E:=E) (ln:=ln) D (by omega) (by omega) k2 k3 k4
  obtain ⟨u',q',s1,s2,s3,s4,s5,s6,s7⟩:=k6e hv hlv h2 hn hsm hlnu j u1 (q.set j qd) r3 r4 (hq.set _ r2.1 r2.2) (by simpa using hlq) (by omega) (fun h=>by omega) r7
  refine ⟨u',q',?_,s2,s3,s4,s5,s6,?_⟩
  · have hred:=r1.at rfl rfl rfl rfl (objs:=[some .dead,some .dead,some (.vec A0 w2),some (.vec A0 (Wr u)),some (.vec A0 (Wr q))]) (l:=3) rfl
    exact k9h (i2:=((j+k:Nat):Int)) (i3:=u.getD (j+k) 0) (i4:=u.getD (j+k) 0) (i5:=u.getD (j+k) 0*1000000000) (i6:=((j+k-1:Nat):Int)) (i7:=u.getD (j+k-1) 0) (i8:=u.getD (j+k-1) 0) (i9:=top) (i10:=((k-1:Nat):Int)) (i11:=v.getD (k-1) 0) (i12:=v.getD (k-1) 0) (i13:=top / v.getD (k-1) 0) (i14:=top % v.getD (k-1) 0) (i15:=g) (r7:=Wr u1) (i16:=qd) (i17:=q.getD j 0) (r8:=Wr (q.set j qd)) (i18:=(j:Int)-1)
     (wi (by omega)) (wu (by omega)) (wu (by omega)) (wi (by omega)) (wu (by omega)) (wu (by omega)) (wi (by omega)) (wu (by omega)) (wu ⟨tdv f1 rfl,f2,by omega⟩) (tmd f1 rfl) (by rw [Int.toNat_natCast,z3w]) (wi (by omega))
     (by omega) (by omega) (F0 (by omega)) (by omega) (F0 (by omega)) (by omega) (F0 (by omega)) (by omega) k1 hred (by omega) (F0 (by omega)) s1
  · have hd:(q.set j qd).drop (j+1)=q.drop (j+1):=List.drop_set_of_lt (Nat.lt_succ_self j)
    rw [s7,r5,z7b (q.set j qd) j,z8y (by omega),hd,z2z]
    grind
theorem j1c (xs:List Int):∀ k,z0h (xs++List.replicate k 0) (xs.length+k)=z0h xs xs.length
 | 0=>by simp
 | k+1=>by
  have ih:=j1c xs k
  have h0:(xs++List.replicate (k+1) 0).getD (xs.length+k) 0=0:=by
   rw [List.getD_eq_getElem?_getD,List.getElem?_append_right (by omega),List.getElem?_replicate];split <;> rfl
  have hpre:∀ m,m≤xs.length+k→z0h (xs++List.replicate (k+1) 0) m=z0h (xs++List.replicate k 0) m:=by
   intro m hm
   induction m with
   | zero=>rfl
   | succ m ih =>
    have e:(xs++List.replicate (k+1) 0).getD m 0=(xs++List.replicate k 0).getD m 0:=by
     rw [List.getD_eq_getElem?_getD,List.getD_eq_getElem?_getD,List.replicate_succ',← List.append_assoc,List.getElem?_append_left (by simp;omega)]
    unfold z0h
    rw [e,ih (by omega)]
  show z0h (xs++List.replicate (k+1) 0) (xs.length+k+1)=_
  have step:z0h (xs++List.replicate (k+1) 0) (xs.length+k+1)=z0h (xs++List.replicate (k+1) 0) (xs.length+k):=by
   conv=>lhs;unfold z0h
   rw [if_pos h0]
  rw [step,hpre _ (Nat.le_refl _),ih]
theorem v0j {n:Nat}:z0h (words n) (words n).length=(words n).length:=by
 have h:=z0i (B3 n) (Nat.le_refl (words n).length)
 rw [List.take_length,B2,Int.toNat_natCast] at h
 have h2:=congrArg List.length h
 rw [List.length_take] at h2
 have:=k7w (words n) (words n).length
 omega
theorem q4y {m n:Nat} (hm0:m≠0) (hl:(words n).length<1099511627776):Fn E G1 [.c (.list (Wr (words n))),.c (.list (Wr (words m)))] (.tup [.c (.list (Wr (words (n / m)))),.c (.list (Wr (words (n % m))))]):=by
 have hc:=j6a (E:=E) (m:=n) (n:=m) (by omega)
 by_cases h1:n<m
 · rw [Nat.div_eq_of_lt h1,Nat.mod_eq_of_lt h1,O2]
   exact q5e hc (y3s.2 (by omega))
 · have hc':¬ cmpI n m<0:=fun h=>h1 (by have:=y3s.1 h;omega)
   have hmne:words m≠[]:=fun h=>hm0 (z4k.1 h)
   have hmp:=z8d hmne
   by_cases h3:(words m).length=1
   · have hm1:m<1000000000:=by
      have:=z7y (B3 m)
      rw [B2,h3,show pw 1=1000000000 by decide] at this
      omega
     have e:words m=[(m:Int)]:=by
      rcases x9w (n:=m) (by omega) with ⟨_,h⟩ | ⟨e,_,_⟩ | ⟨_,h⟩
      · exact absurd h hm0
      · exact e
      · omega
     have hs:=q8o (E:=E) (n:=n) (w:=m) ⟨by omega,hm1⟩ (by omega)
     have hr:=Nat.mod_lt n (show 0<m by omega)
     exact q5f (i1:=(m:Int)) hc hc' (by rw [A8,h3];rfl) (by rw [e];rfl) hs (x7s (by omega))
   · have hlm:(words m).length≤(words n).length:=(V1 m).length_le (B3 m) (B3 n) (by rw [B2,B2];omega)
     obtain ⟨k,hk⟩:∃ k,k=(words m).length:=⟨_,rfl⟩
     rw [← hk] at hlm h3 hmp
     have hk2:2≤k:=by omega
     have ht:=(B3 m).getD (k-1)
     obtain ⟨t,et⟩:∃ t,t=(words m).getD (k-1) 0:=⟨_,rfl⟩
     rw [← et] at ht
     obtain ⟨f,hf⟩:∃ f:Nat,(f:Int)=1000000000 / (t+1):=⟨(1000000000 / (t+1)).toNat,by have:0≤1000000000 / (t+1):=Int.ediv_nonneg (by decide) (by omega);omega⟩
     obtain ⟨f1,f2,lv,nv⟩:=j0l (n:=m) rfl hk.symm (by omega) (f:=f) (by rw [← et];exact hf)
     have hfl:(words f).length≤1:=z2n (by rw [show pw 1=1000000000 by decide];omega)
     have hfe:words f=[(f:Int)]:=by
      rcases x9w (n:=f) (by omega) with ⟨_,h⟩ | ⟨e,_,_⟩ | ⟨_,h⟩
      · omega
      · exact e
      · omega
     have hnf:n≤n*f:=by have:=Nat.mul_le_mul_left n f1;omega
     have hun:=(V1 n).length_le (B3 n) (B3 (n*f)) (by rw [B2,B2];omega)
     have hnp:(n:Int)<pw (words n).length:=by have:=z7y (B3 n);rwa [B2] at this
     have hun2:(words (n*f)).length≤(words n).length+1:=by
      refine z2n ?_
      rw [z2z,Int.natCast_mul,Int.mul_comm]
      have h5:(f:Int)*n≤1000000000*n:=Int.mul_le_mul_of_nonneg_right (by omega) (by omega)
      have h6:1000000000*(n:Int)<1000000000*pw (words n).length:=Int.mul_lt_mul_of_pos_left hnp (by decide)
      omega
     obtain ⟨L,hL⟩:∃ L,L=(words (n*f)).length:=⟨_,rfl⟩
     rw [← hL] at hun hun2
     have hu0:Wd (words (n*f)++[0,0]):=(B3 _).append (Wd.cons (by omega) (by omega) (Wd.cons (by omega) (by omega) Wd.nil))
     have hu0l:(words (n*f)++[0,0]).length=L+2:=by simp [hL]
     have hval0:wv (words (n*f)++[0,0])=((n*f:Nat):Int):=by rw [k4u,B2];simp [wv]
     have hvv:wv (words (m*f))=((m*f:Nat):Int):=B2 _
     have hlow:wv ((words (n*f)++[0,0]).drop ((words n).length+1-k))<wv (words (m*f)):=by
      have e5:=F9 (words (n*f)++[0,0]) ((words n).length+1-k) (by rw [hu0l];omega)
      have h6:=C6 (hu0.take ((words n).length+1-k))
      rw [hval0] at e5
      rw [hvv]
      have h7:pw (k-1)≤m:=by have:=(V1 m).val_ge (B3 m) hmne;rwa [B2,← hk] at this
      have h8:pw (words n).length=pw ((words n).length+1-k)*pw (k-1):=by rw [← y0b];congr 1;omega
      have h9:((n*f:Nat):Int)<pw ((words n).length+1-k)*((m*f:Nat):Int):=by
       rw [Int.natCast_mul,Int.natCast_mul]
       have h10:(n:Int)*f<pw (words n).length*f:=Int.mul_lt_mul_of_pos_right hnp (by omega)
       have h11:pw ((words n).length+1-k)*(pw (k-1)*f)≤pw ((words n).length+1-k)*((m:Int)*f) :=
        Int.mul_le_mul_of_nonneg_left (Int.mul_le_mul_of_nonneg_right h7 (by omega)) (by have:=z0f ((words n).length+1-k);omega)
       rw [h8,Int.mul_assoc] at h10
       omega
      have hp:=z0f ((words n).length+1-k)
      rcases Int.lt_or_le (wv ((words (n*f)++[0,0]).drop ((words n).length+1-k))) ((m*f:Nat):Int) with h | h
      · exact h
      · have:=Int.mul_le_mul_of_nonneg_left h (show 0≤pw ((words n).length+1-k) by omega)
        omega
     obtain ⟨u',q',r1,r2,r3,r4,r5,r6,r7⟩:=k6e (E:=E) (sc:=Wr (words f)) (w2:=[[.u32 0],[.u32 0]]) (lq:=(words n).length+1-k) (lu:=L+2) (ln:=(words n).length+1) (B3 (m*f)) lv hk2 nv (by omega) (by omega) ((words n).length+1-k) (words (n*f)++[0,0]) (List.replicate ((words n).length+1-k) 0) hu0 hu0l (Wd.replicate _) (by simp) (Nat.le_refl _) (fun _=>by omega) hlow
     rw [drop_nil (by simp),hval0,hvv,show wv []=0 from rfl] at r7
     rw [hvv] at r6
     have hq0:=C6 r4
     have hr0:=C6 r2
     obtain ⟨Q,hQ⟩:∃ Q:Nat,wv q'=Q:=⟨(wv q').toNat,by omega⟩
     obtain ⟨R,hR⟩:∃ R:Nat,wv u'=R:=⟨(wv u').toNat,by omega⟩
     rw [hQ,hR] at r7
     rw [hR] at r6
     have e1:n*f=Q*(m*f)+R:=by
      have:((n*f:Nat):Int)=((Q*(m*f)+R:Nat):Int):=by
       rw [Int.natCast_add,Int.natCast_mul Q]
       have:((Q:Int))*((m*f:Nat):Int)=((m*f:Nat):Int)*Q:=Int.mul_comm _ _
       simp at r7
       simp at this ⊢
       omega
      omega
     have hfR:f ∣ R:=by
      have h5:f ∣ Q*(m*f):=⟨Q*m,by rw [← Nat.mul_assoc,Nat.mul_comm]⟩
      exact (Nat.dvd_add_right h5).1 (by rw [← e1];exact ⟨n,Nat.mul_comm _ _⟩)
     obtain ⟨R',hR'⟩:=hfR
     have e2:n=Q*m+R':=by
      have:f*n=f*(Q*m+R'):=by
       rw [Nat.mul_add,← hR',Nat.mul_comm f n,e1,← Nat.mul_assoc,Nat.mul_comm f]
      exact Nat.eq_of_mul_eq_mul_left (by omega) this
     have e3:R'<m:=by
      have:f*R'<f*m:=by rw [← hR',Nat.mul_comm f m];omega
      exact Nat.lt_of_mul_lt_mul_left this
     obtain ⟨d1,d2⟩:=y9e e2 e3
     have hRf:R / f=R':=by rw [hR',Nat.mul_div_cancel_left _ (by omega)]
     have hvk:=z7y (B3 (m*f))
     rw [lv,hvv] at hvk
     have hul:wv (u'.take k)=R:=by
      have h5:=F9 u' k (by omega)
      have h6:=C6 (r2.take k)
      have h7:=C6 (r2.drop k)
      rcases Int.lt_or_le 0 (wv (u'.drop k)) with h | h
      · have h8:pw k*1≤pw k*wv (u'.drop k):=Int.mul_le_mul_of_nonneg_left (by omega) (by have:=z0f k;omega)
        omega
      · have:wv (u'.drop k)=0:=by omega
        rw [this,Int.mul_zero] at h5
        omega
     have t0:=(y3t (E:=E) (ws:=words (n*f)++[0,0]) (k:=L+2) (by omega) (by omega)).at (args:=[]) rfl rfl rfl rfl (objs:=[some .dead,some .dead,some (.vec A0 [[.u32 0],[.u32 0]]),some (.vec A0 (Wr (words (n*f)++[0,0])))]) (l:=3) rfl
     have ht0:z0h (words (n*f)++[0,0]) (L+2)=L:=by
      have:=j1c (words (n*f)) 2
      rw [← hL,show List.replicate 2 (0:Int)=[0,0] from rfl] at this
      rw [this,hL,v0j]
     rw [ht0] at t0
     have t1:=(y3t (E:=E) (ws:=u') (k:=k) (by omega) (by omega)).at (args:=[]) rfl rfl rfl rfl (objs:=[some .dead,some .dead,some (.vec A0 [[.u32 0],[.u32 0]]),some (.vec A0 (Wr u')),some (.vec A0 (Wr q'))]) (l:=3) rfl
     have t2:=(y3t (E:=E) (ws:=q') (k:=(words n).length+1-k) (by omega) (by omega)).at (args:=[]) rfl rfl rfl rfl (objs:=[some .dead,some .dead,some (.vec A0 [[.u32 0],[.u32 0]]),some (.fro (Wr u')),some (.vec A0 (Wr q'))]) (l:=4) rfl
     have w1:=z0i r2 (k:=k) (by omega)
     rw [hul,Int.toNat_natCast] at w1
     have w2:=z0i r4 (k:=(words n).length+1-k) (by omega)
     rw [← r5,List.take_length,hQ,r5,Int.toNat_natCast] at w2
     have hRl:(words R).length<35184372088000:=by
      have:=congrArg List.length w1
      rw [List.length_take] at this
      have:=k7w u' k
      omega
     have hby:=q8o (E:=E) (n:=R) (w:=f) ⟨by omega,by omega⟩ hRl
     rw [hRf,show words R=u'.take (z0h u' k) from w1.symm,← Y9] at hby
     rw [d1,d2]
     have hTm:=x1m (E:=E) (m:=m) (n:=f) (by omega)
     have hTn:=x1m (E:=E) (m:=n) (n:=f) (by omega)
     have hWl:((Wr (words m)).length:Int)=k:=by rw [A8,← hk]
     have hlq:(((words n).length+1-k:Nat):Int)=(words n).length+1-k:=by omega
     exact q5g (i1:=(k:Int)-1) (i3:=t) (i2:=t) (i4:=t+1) (i5:=(f:Int)) (i6:=(f:Int)) (r4:=Wr (words f)) (r5:=Wr (words (m*f))) (r6:=Wr (words (n*f))) (r7:=Wr (words (n*f))) (n0:=L) (r8:=Wr (words (n*f)++[0,0])) (n1:=L+2) (i7:=((words n).length:Int)+1) (n2:=L) (i8:=((words n).length:Int)+1) (n3:=(words n).length+1) (i9:=(((words n).length+1-k:Nat):Int)) (n4:=(words n).length+1-k) (r9:=Wr (List.replicate ((words n).length+1-k) 0)) (i10:=(((words n).length+1-k:Nat):Int)-1) (r10:=Wr u') (r11:=Wr q') (n5:=k) (n6:=z0h u' k) (i11:=(f:Int)) (n7:=z0h q' ((words n).length+1-k))
      (wi (by rw [hWl];omega)) (wi (by omega)) (wi (by omega)) (wi ⟨tdv (by omega) hf.symm,by omega,by omega⟩) (w32 (by omega)) rfl (by rw [A8,← hL,Nat.zero_add]) (by
       rw [Y9,hL,List.take_length]
       show Wr (words (n*f))++Wr [0,0]=_
       exact v4v _ _) rfl (wi (by rw [A8];omega)) (by split <;> omega) (by omega) (wi (by rw [hWl];omega)) (Int.toNat_natCast _) (z4x _ _) (wi (by omega)) (by rw [hWl,Int.toNat_natCast]) rfl (by rw [Y9,w2])
      hc hc' (by rw [hWl];omega) (by omega) (by rw [show Int.toNat ((k:Int)-1)=k-1 by omega,et];exact F0 (by omega)) (by omega) (x7s (by omega)) hTm hTn (v6o _) (by rw [A8];omega) (by omega) t0 (by omega) (by omega) (by rw [hWl];exact r1) (by rw [hWl];omega) t1 (by rw [hfe];rfl) hby t2
theorem k6d:∀ (t y x:Nat),y<t→Lp E 0 G0 1 (z5x x y) (.exit 2) (y1v (Nat.gcd x y:Nat))
 | 0,y,x,h=>by omega
 | t+1,y,x,h=>by
  by_cases h0:y=0
  · subst h0
    rw [Nat.gcd_zero_right]
    exact x8d rfl
  · have hm:=Nat.mod_lt x (show 0<y by omega)
    have e:Nat.gcd x y=Nat.gcd y (x % y):=(Nat.gcd_comm x y).trans ((Nat.gcd_rec y x).trans (Nat.gcd_comm _ _))
    rw [e]
    exact k3n (i3:=((x % y:Nat):Int)) (tmd (by omega) rfl) (by omega) (by omega) (k6d t (x % y) y (by omega))
theorem x7t {L:Nat} (hL:L<1099511627776):∀ (t n m:Nat),n<t→(words m).length≤L→(words n).length≤L →
    (Lp E 0 G0 0 (O4 (Wr (words m)) (Wr (words n))) .ret (y1t (Wr (words (Nat.gcd m n))))) ∨
    (Lp E 0 G0 0 (O4 (Wr (words m)) (Wr (words n))) (.exit 0) (y1u (Wr (words (Nat.gcd m n)))))
 | 0,n,m,h,_,_=>by omega
 | t+1,n,m,h,hm,hn=>by
  by_cases h0:n=0
  · subst h0
    rw [Nat.gcd_zero_right,O2]
    exact .inr (x8c (by simp [Wr]))
  · have hpos:((Wr (words n)).length:Int)>0:=by
     have:words n≠[]:=fun h=>h0 (z4k.1 h)
     have:=z8d this
     rw [A8];omega
    have hr:=Nat.mod_lt m (show 0<n by omega)
    have e:Nat.gcd m n=Nat.gcd n (m % n):=(Nat.gcd_comm m n).trans ((Nat.gcd_rec n m).trans (Nat.gcd_comm _ _))
    have hrl:(words (m % n)).length≤L:=Nat.le_trans ((V1 _).length_le (B3 _) (B3 n) (by rw [B2,B2];omega)) hn
    have hd:=q4y (E:=E) (m:=n) (n:=m) h0 (by omega)
    by_cases s1:(words m).length≤2
    · by_cases s2:(words n).length≤2
      · have hg:Nat.gcd m n≤n:=Nat.gcd_le_right m (by omega)
        have hn2:=q2s.1 s2
        exact .inl (x8b hpos (by rw [A8];omega) (by rw [A8];omega) (v3z s1) (v3z s2) (k6d (n+1) n m (by omega)) (w2x (by omega)))
      · rw [e]
        rcases x7t hL t (m % n) n (by omega) hn hrl with ih | ih
        · exact .inl (y7b hpos (by rw [A8];omega) (by rw [A8];omega) hd ih)
        · exact .inr (y7b hpos (by rw [A8];omega) (by rw [A8];omega) hd ih)
    · rw [e]
      rcases x7t hL t (m % n) n (by omega) hn hrl with ih | ih
      · exact .inl (y7c hpos (by rw [A8];omega) hd ih)
      · exact .inr (y7c hpos (by rw [A8];omega) hd ih)
theorem q1x {m n L:Nat} (hL:L<1099511627776) (hm:(words m).length≤L) (hn:(words n).length≤L):Fn E G0 [.c (.list (Wr (words m))),.c (.list (Wr (words n)))] (.c (.list (Wr (words (Nat.gcd m n))))):=by
 rcases x7t (E:=E) hL (n+1) n m (by omega) hm hn with h | h
 · exact j6k h
 · exact j6l h
def Br (l:List UInt8):RW:=l.map fun c=>[.u8 (c.toNat:Int)]
theorem q2u (l:List UInt8) (n:Nat):(Br l).take n=Br (l.take n):=by simp [Br,List.map_take]
theorem w1l (l:List UInt8) (c:UInt8):Br l++[[.u8 (c.toNat:Int)]]=Br (l++[c]):=by simp [Br]
theorem v6m (l:List UInt8) (n:Nat) (c:UInt8):(Br l).set n [.u8 (c.toNat:Int)]=Br (l.set n c):=by simp [Br,List.map_set]
theorem v0p {l:List UInt8} {i:Nat} {c:UInt8} (h:l[i]?=some c):(Br l)[i]?=some [.u8 (c.toNat:Int)]:=by simp [Br,h]
theorem w1k (l:List UInt8):∀ x∈Br l,x5t x:=by intro x hx;simp [Br] at hx;obtain ⟨_,_,rfl⟩:=hx;trivial
theorem w1m (l:List UInt8):ByteArray.mk (((Br l).map x2e).toArray)=B l:=by
 have:(Br l).map x2e=l:=by
  unfold Br
  rw [List.map_map]
  conv=>rhs;rw [← List.map_id l]
  refine List.map_congr_left fun c _=>?_
  show UInt8.ofNat (Int.toNat (c.toNat:Int))=c
  rw [Int.toNat_natCast]
  exact UInt8.ofNat_toNat
 rw [this];rfl
def rdig (m:Nat):List UInt8:=if m=0 then [] else (dec m).reverse
theorem v5y {m:Nat} (h:m≠0):rdig m=UInt8.ofNat (48+m % 10)::rdig (m / 10):=by
 unfold rdig
 rw [if_neg h]
 by_cases h1:m<10
 · rw [y0m h1,if_pos (by omega),Nat.mod_eq_of_lt h1];rfl
 · rw [x8z (by omega),if_neg (by omega),List.reverse_append];rfl
theorem q1y {x0:RW} {i:Nat} {last:Bool} (hlast:if last then (i:Int)+1=x0.length else (i:Int)+1<x0.length) (hx:x0.length<4611686018427387904) {H T:Nat} (hH:if last then H=0 else 0<H) (hT:T<35184372088832) :
    ∀ (d k w:Nat) (out:List UInt8),k+d=9→w<10 ^ d→out.length+(rdig (w+10 ^ d*H)).length=T →
    ∃ out',Lp E 1 G9 1 (z3a x0 out.length i w k (Br out)) (.exit 2) (y1w x0 i out'.length (Br out'))∧out'++rdig H=out++rdig (w+10 ^ d*H)
 | 0,k,w,out,hk,hw,_=>by
  have:w=0:=by simpa using hw
  subst this
  exact ⟨out,k6y (by omega),by simp⟩
 | d+1,k,w,out,hk,hw,hT'=>by
  obtain ⟨m,em⟩:∃ m,m=w+10 ^ (d+1)*H:=⟨_,rfl⟩
  rw [← em] at hT' ⊢
  have e10:10 ^ (d+1)*H=10*(10 ^ d*H):=by rw [Nat.pow_succ];grind
  by_cases hstop:m=0
  · -- nothing is left
    have hw0:w=0:=by omega
    have hlt:last=true:=by
     cases last with
     | true=>rfl
     | false =>
      simp only [Bool.false_eq_true,if_false] at hH
      have:0<10 ^ (d+1)*H:=Nat.mul_pos (Nat.pow_pos (by decide)) hH
      omega
    subst hlt
    simp only [if_true] at hlast hH
    refine ⟨out,k6x (i3:=(i:Int)+1) (wi (by omega)) (by omega) (by omega) (by omega),?_⟩
    rw [hH,hstop]
  · have hrs:=v5y hstop
    have hm10:m % 10=w % 10:=by omega
    have hmd:m / 10=w / 10+10 ^ d*H:=by omega
    rw [hm10,hmd] at hrs
    have hlen:out.length+1≤T:=by rw [hrs] at hT';simp at hT';omega
    obtain ⟨out',k1,k2⟩:=q1y hlast hx hH hT d (k+1) (w / 10) (out++[UInt8.ofNat (48+w % 10)]) (by omega) (by rw [Nat.pow_succ] at hw;omega) (by rw [hrs] at hT';simp at hT' ⊢;omega)
    refine ⟨out',?_,by rw [k2,hrs];simp⟩
    have hdt:(UInt8.ofNat (48+w % 10)).toNat=48+w % 10:=y4a _ (by omega)
    have hbr:((Br out).take out.length)++[[DV.u8 ((48:Int)+((w % 10:Nat):Int))]]=Br (out++[UInt8.ofNat (48+w % 10)]):=by
     rw [q2u,List.take_length,← w1l,hdt]
     have:((48+w % 10:Nat):Int)=48+((w % 10:Nat):Int):=by omega
     rw [this]
    have hwb:w<1000000000:=by
     have:(10:Nat) ^ (d+1)≤10 ^ 9:=Nat.pow_le_pow_right (by decide) (by omega)
     rw [y4r] at this
     omega
    rw [show (out++[UInt8.ofNat (48+w % 10)]).length=out.length+1 by simp] at k1
    have hcap:(out.length+1)*1≤140737488355328∧out.length+1≤140737488355328:=by omega
    cases last with
    | true =>
     simp only [if_true] at hlast hH
     have hwp:w≠0:=by rw [hH] at em;simp at em;omega
     exact j2e (i3:=(i:Int)+1) (i4:=((w % 10:Nat):Int)) (i5:=48+((w % 10:Nat):Int)) (i6:=48+((w % 10:Nat):Int)) (i7:=((w / 10:Nat):Int)) (i8:=((k+1:Nat):Int)) (wi (by omega)) (tmd (by omega) (by omega)) (w32 (by omega)) (w8 (by omega)) hbr rfl (w32 ⟨tdv (by omega) (by omega),by omega,by omega⟩) (wi (by omega)) (by omega) (by omega) (by omega) hcap k1
    | false =>
     simp only [Bool.false_eq_true,if_false] at hlast
     exact j2d (i3:=(i:Int)+1) (i4:=((w % 10:Nat):Int)) (i5:=48+((w % 10:Nat):Int)) (i6:=48+((w % 10:Nat):Int)) (i7:=((w / 10:Nat):Int)) (i8:=((k+1:Nat):Int)) (wi (by omega)) (tmd (by omega) (by omega)) (w32 (by omega)) (w8 (by omega)) hbr rfl (w32 ⟨tdv (by omega) (by omega),by omega,by omega⟩) (wi (by omega)) (by omega) (by omega) hcap k1
theorem j7x {n i:Nat} (hi:i<(words n).length):∃ H:Nat,wv ((words n).drop (i+1))=H∧(i+1<(words n).length→0<H)∧(i+1=(words n).length→H=0):=by
 have h0:=C6 ((B3 n).drop (i+1))
 refine ⟨(wv ((words n).drop (i+1))).toNat,by omega,fun h=>?_,fun h=>?_⟩
 · have ht:Gb.Tr ((words n).drop (i+1)):=by
    have:=V1 n
    unfold Gb.Tr at this ⊢
    rw [List.getLast?_drop,if_neg (by omega)]
    exact this
   have hp:=ht.val_pos ((B3 n).drop (i+1)) (by intro e;have:=congrArg List.length e;simp at this;omega)
   omega
 · rw [List.drop_eq_nil_of_le (by omega)];rfl
theorem j6b {n T:Nat} (hT:T<35184372088832) (hl:(words n).length<4611686018427387904):∀ (d i m:Nat) (out:List UInt8),i+d=(words n).length→wv ((words n).drop i)=m→out.length+(rdig m).length=T →
    ∃ out',Lp E 0 G9 0 (y4j (Wr (words n)) out.length i (Br out)) (.exit 0) (y9t out'.length (Br out'))∧out'=out++rdig m
 | 0,i,m,out,hi,hm,hT'=>by
  rw [List.drop_eq_nil_of_le (by omega)] at hm
  have:m=0:=by simp [wv] at hm;omega
  subst this
  exact ⟨out,k9o (by rw [A8];omega),by simp [rdig]⟩
 | d+1,i,m,out,hi,hm,hT'=>by
  obtain ⟨H,hH,hpos,hz⟩:=j7x (n:=n) (i:=i) (by omega)
  have hw:=(B3 n).getD i
  obtain ⟨w,ew⟩:∃ w:Nat,(words n).getD i 0=w:=⟨((words n).getD i 0).toNat,by omega⟩
  rw [ew] at hw
  rw [z7b,ew,hH] at hm
  have em:m=w+10 ^ 9*H:=by rw [y4r];omega
  have hcl:(if decide (i+1=(words n).length) then (i:Int)+1=(Wr (words n)).length else (i:Int)+1<(Wr (words n)).length):=by
   rw [A8];split <;> rename_i h <;> simp at h <;> omega
  have hch:(if decide (i+1=(words n).length) then H=0 else 0<H):=by
   split <;> rename_i h <;> simp at h
   · exact hz h
   · exact hpos (by omega)
  obtain ⟨out1,k1,k2⟩:=q1y (E:=E) (x0:=Wr (words n)) (i:=i) hcl (by rw [A8];omega) hch hT 9 0 w out (by omega) (by rw [y4r];omega) (by rw [← em];exact hT')
  rw [← em] at k2
  have hl1:out1.length+(rdig H).length=T:=by
   have:=congrArg List.length k2
   simp at this
   omega
  obtain ⟨out2,g1,g2⟩:=j6b hT hl d (i+1) H out1 (by omega) hH hl1
  refine ⟨out2,?_,by rw [g2,k2]⟩
  exact j6m (i1:=(w:Int)) (i2:=((i+1:Nat):Int)) (wi (by omega)) (by rw [A8];omega) (by omega) (by rw [← ew];exact F0 (by omega)) k1 g1
theorem q9u {o:List UInt8} {L:Nat} (hL:o.length=L) (hb:L<35184372088832):∀ (t i:Nat) (cur:List UInt8),L≤t+2*i→2*i≤L+1→cur.length=L →
    (∀ j,j<L→cur[j]?=if j<i∨L-1-i<j then o[L-1-j]? else o[j]?) →
    ∃ cur',Lp E 1 G9 2 (y4k L i ((L:Int)-1-i) (Br cur)) (.exit 4) (y9u L (Br cur'))∧cur'=o.reverse
 | t,i,cur,ht,hi,hc,hinv=>by
  by_cases hend:(i:Int)<(L:Int)-1-i
  · cases t with
    | zero=>omega
    | succ t =>
     have hk:L-1-i<L:=by omega
     have e1:(L:Int)-1-i=((L-1-i:Nat):Int):=by omega
     obtain ⟨a,ha⟩:∃ a,cur[i]?=some a:=⟨cur[i],List.getElem?_eq_getElem (by omega)⟩
     obtain ⟨b,hb'⟩:∃ b,cur[L-1-i]?=some b:=⟨cur[L-1-i],List.getElem?_eq_getElem (by omega)⟩
     have hoa:o[i]?=some a:=by
      have:=hinv i (by omega)
      rw [ha,if_neg (by omega)] at this
      exact this.symm
     have hob:o[L-1-i]?=some b:=by
      have:=hinv (L-1-i) hk
      rw [hb',if_neg (by omega)] at this
      exact this.symm
     obtain ⟨cur',k1,k2⟩:=q9u hL hb t (i+1) ((cur.set i b).set (L-1-i) a) (by omega) (by omega) (by simpa using hc) (fun j hj=>by
      rw [List.getElem?_set,List.getElem?_set]
      by_cases c1:L-1-i=j
      · subst c1
        rw [if_pos rfl,if_pos (by simp;omega),if_pos (by omega),show L-1-(L-1-i)=i by omega]
        exact hoa.symm
      · rw [if_neg c1]
        by_cases c2:i=j
        · subst c2
          rw [if_pos rfl,if_pos (by omega),if_pos (by omega)]
          exact hob.symm
        · rw [if_neg c2,hinv j hj]
          by_cases c3:j<i∨L-1-i<j
          · rw [if_pos c3,if_pos (by omega)]
          · rw [if_neg c3,if_neg (by omega)])
     refine ⟨cur',?_,k2⟩
     have g1:(Br cur)[Int.toNat (i:Int)]?=some [.u8 (a.toNat:Int)]:=by rw [Int.toNat_natCast];exact v0p ha
     have g2:(Br cur)[Int.toNat ((L:Int)-1-i)]?=some [.u8 (b.toNat:Int)]:=by rw [e1,Int.toNat_natCast];exact v0p hb'
     obtain ⟨c,hcc⟩:∃ c,(cur.set i b)[L-1-i]?=some c:=⟨(cur.set i b)[L-1-i]'(by simp;omega),List.getElem?_eq_getElem _⟩
     exact j6n (i2:=(b.toNat:Int)) (i3:=(a.toNat:Int)) (r2:=Br (cur.set i b)) (i4:=(c.toNat:Int)) (r3:=Br ((cur.set i b).set (L-1-i) a)) (i5:=((i+1:Nat):Int)) (i6:=(L:Int)-1-((i+1:Nat):Int))
      (by rw [Int.toNat_natCast,v6m]) (by rw [e1,Int.toNat_natCast,v6m]) (wi (by omega)) (wi (by omega)) (by omega) (by omega) g2 (by omega) g1 (by rw [e1,Int.toNat_natCast];exact v0p hcc) k1
  · refine ⟨cur,k9p (by omega),?_⟩
    apply List.ext_getElem?
    intro j
    rcases Nat.lt_or_ge j L with hj | hj
    · rw [hinv j hj,List.getElem?_reverse (by omega),hL]
      by_cases c:j<i∨L-1-i<j
      · rw [if_pos c]
      · rw [if_neg c]
        have:L-1-j=j:=by omega
        rw [this]
    · rw [List.getElem?_eq_none (by omega),List.getElem?_eq_none (by simp;omega)]
theorem r1_To {n K:Nat} (h:n<10 ^ K) (hK:K≤Lim+Lim):Fn E G9 [.c (.list (Wr (words n)))] (.c (.str (B (dec n)))):=by
 have h1:=k2k h
 have h2:=z6g h
 rw [O6] at hK
 by_cases h0:n=0
 · subst h0
   rw [O2,z3y]
   exact v1w rfl
 · have hne:words n≠[]:=fun h=>h0 (z4k.1 h)
   have hp:=z8d hne
   have hr:rdig n=(dec n).reverse:=by unfold rdig;rw [if_neg h0]
   obtain ⟨out,k1,k2⟩:=j6b (E:=E) (n:=n) (T:=(dec n).length) (by omega) (by omega) (words n).length 0 n [] (by omega) (by rw [List.drop_zero,B2]) (by rw [hr];simp)
   rw [List.nil_append,hr] at k2
   have hol:out.length=(dec n).length:=by rw [k2];simp
   obtain ⟨cur,g1,g2⟩:=q9u (E:=E) (o:=out) (L:=out.length) rfl (by omega) out.length 0 out (by omega) (by omega) rfl (fun j hj=>by rw [if_neg (by omega)])
   rw [show (out.length:Int)-1-((0:Nat):Int)=(out.length:Int)-1 by omega] at g1
   have hcur:cur=dec n:=by rw [g2,k2,List.reverse_reverse]
   refine v1x (n0:=out.length) (r1:=Br out) (i0:=(out.length:Int)-1) (r2:=Br cur) (wi (by omega)) ?_ (by rw [A8];omega) k1 g1 ?_
   · rw [q2u,List.take_of_length_le (by rw [hcur];omega),hcur,w1m]
   · rw [q2u];exact w1k _
def Zr (z:Int):List DV:=[.bool (decide (z<0)),.list (Wr (words z.natAbs))]
theorem Zr_nat (n:Nat):Zr (n:Int)=[.bool false,.list (Wr (words n))]:=by unfold Zr;rw [decide_eq_false (by omega),Int.natAbs_natCast]
theorem q2v {n:Nat}:((Wr (words n)).length:Int)>0↔n≠0:=by
 rw [A8]
 constructor
 · rintro h rfl;rw [O2] at h;simp at h
 · intro h
   have:=z8d (fun e=>h (z4k.1 e):words n≠[])
   omega
theorem y3u (neg:Bool) (n:Nat):Fn E I8 [.c (.bool neg),.c (.list (Wr (words n)))] (.agg (Zr (sgn neg n))):=by
 cases neg with
 | false =>
  have:Zr (sgn false n)=[.bool false,.list (Wr (words n))]:=by unfold sgn;simp [Zr_nat]
  rw [this];exact q5n
 | true =>
  by_cases h:n=0
  · subst h
    have:Zr (sgn true 0)=[.bool false,.list (Wr (words 0))]:=by unfold Zr sgn;simp
    rw [this];exact q5m (fun x=>q2v.1 x rfl)
  · have:Zr (sgn true n)=[.bool true,.list (Wr (words n))]:=by
     unfold Zr sgn
     simp only [if_true,Int.natAbs_neg,Int.natAbs_natCast]
     rw [decide_eq_true (by omega)]
    rw [this];exact q5l (q2v.2 h)
theorem w3j (z:Int):sgn (!decide (z<0)) z.natAbs=-z:=by unfold sgn;split <;> rename_i h <;> simp at h <;> omega
theorem w3i (a b:Int):sgn (!(decide (a<0) == decide (b<0))) (a.natAbs*b.natAbs)=a*b:=by
 unfold sgn
 have ea:(a.natAbs:Int)=if a<0 then -a else a:=by split <;> omega
 have eb:(b.natAbs:Int)=if b<0 then -b else b:=by split <;> omega
 rw [Int.natCast_mul,ea,eb]
 by_cases c:a<0 <;> by_cases d:b<0 <;> simp [c,d] <;> grind
theorem v0b (a:Int) (b:Nat):sgn (decide (a<0)) (a.natAbs*b)=a*b:=by
 unfold sgn
 have ea:(a.natAbs:Int)=if a<0 then -a else a:=by split <;> omega
 rw [Int.natCast_mul,ea]
 by_cases c:a<0 <;> simp [c] <;> grind
theorem q8p (z:Int):Fn E y2p [.agg (Zr z)] (.agg (Zr (-z))):=by
 have:=y3u (E:=E) (!decide (z<0)) z.natAbs
 rw [w3j] at this
 exact k9s this
theorem wl {n K:Nat} (h:n<10 ^ K):(words n).length≤K:=z6g h
theorem v9q {a b:Int} {K L:Nat} (ha:a.natAbs<10 ^ K) (hb:b.natAbs<10 ^ L) (h:K+L≤4*Lim):Fn E y9c [.agg (Zr a),.agg (Zr b)] (.agg (Zr (a*b))):=by
 rw [O6] at h
 have h1:=wl ha
 have h2:=wl hb
 have hm:=y3u (E:=E) (!(decide (a<0) == decide (b<0))) (a.natAbs*b.natAbs)
 rw [w3i] at hm
 exact j9p rfl (x1m (by omega)) hm
theorem v4a {a b:Int} {K L:Nat} (ha:a.natAbs<10 ^ K) (hb:b.natAbs<10 ^ L) (hK:K≤4*Lim) (hL:L≤4*Lim):Fn E z8b [.agg (Zr a),.agg (Zr b)] (.agg (Zr (a+b))):=by
 rw [O6] at hK hL
 have h1:=wl ha
 have h2:=wl hb
 by_cases hs:decide (a<0)=decide (b<0)
 · have hw:=y3u (E:=E) (decide (a<0)) (a.natAbs+b.natAbs)
   have e:sgn (decide (a<0)) (a.natAbs+b.natAbs)=a+b:=by
    unfold sgn
    rw [decide_eq_decide] at hs
    by_cases c:a<0
    · have:=hs.1 c;rw [decide_eq_true c,if_pos rfl];omega
    · have:¬ b<0:=fun x=>c (hs.2 x)
      rw [decide_eq_false c,if_neg (by simp)];omega
   rw [e] at hw
   exact q5o hs (w2w (by omega) (by omega)) hw
 · have hc:=j6a (E:=E) (m:=a.natAbs) (n:=b.natAbs) (by omega)
   have hs':¬ (a<0↔b<0):=fun h=>hs (decide_eq_decide.2 h)
   by_cases c:a.natAbs<b.natAbs
   · have hw:=y3u (E:=E) (decide (b<0)) (b.natAbs-a.natAbs)
     have e:sgn (decide (b<0)) (b.natAbs-a.natAbs)=a+b:=by
      unfold sgn
      by_cases d:b<0
      · have:¬ a<0:=fun x=>hs' ⟨fun _=>d,fun _=>x⟩
        rw [decide_eq_true d,if_pos rfl];omega
      · have:a<0:=Classical.byContradiction fun x=>hs' ⟨fun y=>absurd y x,fun y=>absurd y d⟩
        rw [decide_eq_false d,if_neg (by simp)];omega
     rw [e] at hw
     exact q5q hs hc (by have:=(y3s (a:=(a.natAbs:Int)) (b:=b.natAbs)).2 (by omega);omega) (q8m (by omega) (by omega)) hw
   · have hw:=y3u (E:=E) (decide (a<0)) (a.natAbs-b.natAbs)
     have e:sgn (decide (a<0)) (a.natAbs-b.natAbs)=a+b:=by
      unfold sgn
      by_cases d:a<0
      · have:¬ b<0:=fun x=>hs' ⟨fun _=>x,fun _=>d⟩
        rw [decide_eq_true d,if_pos rfl];omega
      · have:b<0:=Classical.byContradiction fun x=>hs' ⟨fun y=>absurd y d,fun y=>absurd y x⟩
        rw [decide_eq_false d,if_neg (by simp)];omega
     rw [e] at hw
     refine q5p hs hc ?_ (q8m (by omega) (by omega)) hw
     have:¬ cmpI (a.natAbs:Int) b.natAbs<0:=fun x=>by have:=y3s.1 x;omega
     omega
theorem q1z (z:Int):Fn E z3v [.agg (Zr z)] (.c (.i64 (cmpI z 0))):=by
 rcases Int.lt_trichotomy z 0 with c | c | c
 · have:Zr z=[.bool true,.list (Wr (words z.natAbs))]:=by unfold Zr;rw [decide_eq_true c]
   have e:cmpI z 0=-1:=by unfold cmpI;rw [if_pos c]
   rw [this,e];exact j6q
 · subst c
   have e:cmpI 0 0=0:=rfl
   rw [e];exact j6s (fun h=>q2v.1 h rfl)
 · have:Zr z=[.bool false,.list (Wr (words z.natAbs))]:=by unfold Zr;rw [decide_eq_false (by omega)]
   have e:cmpI z 0=1:=by unfold cmpI;rw [if_neg (by omega),if_pos (by omega)]
   rw [this,e];exact j6r (q2v.2 (by omega))
theorem v9p {z:Int} (h:z.natAbs<4294967296):Fn E y3r [.c (.i64 z)] (.agg (Zr z)):=by
 have hs:=x7s (E:=E) h
 by_cases c:z<0
 · have hm:=y3u (E:=E) true z.natAbs
   rw [show sgn true z.natAbs=z by unfold sgn;simp;omega] at hm
   exact j9n (i1:=z.natAbs) (i2:=z.natAbs) (wi (by omega)) (w32 (by omega)) c hs hm
 · have hm:=y3u (E:=E) false z.natAbs
   rw [show sgn false z.natAbs=z by unfold sgn;simp;omega] at hm
   exact j9o (i1:=z.natAbs) (w32 (by omega)) c hs hm
theorem q7l (c:UInt8) (m:List UInt8):(((B (c::m)).data.toList.getD 0 0).toNat:Int)=(c.toNat:Int):=by rw [z9o];rfl
theorem q8q (l:List UInt8) (hl:l.length<9223372036854775807):Fn E Y8 [.c (.str (B l))] (.c (.bool (intB l))):=by
 unfold intB
 match l,hl with
 | [],hl=>exact k2d (by rw [D1];decide) (x1n [] hl)
 | [c],hl =>
  have h0:=k2d (s0:=B [c]) (by rw [D1];simp) (x1n (E:=E) [c] hl)
  rw [q8k]
  by_cases hc:c=45
  · subst hc;exact h0
  · rw [beq_eq_false_iff_ne.2 hc];exact h0
 | c::d::m,hl =>
  rw [q8k]
  simp only [List.length_cons] at hl
  by_cases hc:c=45
  · subst hc
    simp only [beq_self_eq_true,if_true,List.drop_succ_cons,List.drop_zero]
    by_cases h48:d::m=[48]
    · rw [h48]
      exact j9r (q7l _ _) (by rw [D1];decide) (by rw [D1];decide) (by decide) rfl
    · rw [beq_eq_false_iff_ne.2 h48,Bool.not_false,Bool.and_true]
      refine j9q (s1:=B (d::m)) (q7l _ _) ?_ (by rw [D1];simp;omega) (by rw [D1];simp;omega) (by decide) (fun e=>h48 ?_) (by rw [D1];simp;omega) (x1n (d::m) (by simp;omega))
      · rw [D1,Int.toNat_natCast,y6c,List.take_length];rfl
      · have:=y0i (l:=45::d::m) (m:=[45,48]) e
        exact (List.cons.inj this).2
  · rw [beq_eq_false_iff_ne.2 hc]
    exact j9s (q7l _ _) (by rw [D1];simp;omega) (by rw [D1];simp;omega) (fun e=>hc (UInt8.toNat_inj.1 (by simpa using Int.ofNat.inj e))) (x1n (c::d::m) (by simp;omega))
theorem v4b {z:Int} {K:Nat} (hz:z.natAbs<10 ^ K) (hK:K≤Lim):Fn E y0y [.c (.str (B (decZ z)))] (.agg (Zr z)):=by
 have hf:=x7r (E:=E) hz hK
 by_cases c:z<0
 · have:Zr z=[.bool true,.list (Wr (words z.natAbs))]:=by unfold Zr;rw [decide_eq_true c]
   rw [this,z1u c]
   refine q5r (s1:=B (dec z.natAbs)) (q7l _ _) ?_ (by rw [D1];simp) (by decide) (by rw [D1];simp;omega) hf
   rw [D1,Int.toNat_natCast,y6c,List.take_length];rfl
 · have:Zr z=[.bool false,.list (Wr (words z.natAbs))]:=by unfold Zr;rw [decide_eq_false c]
   rw [this,M5 (by omega)]
   cases hd:dec z.natAbs with
   | nil=>exact absurd hd (x6c _)
   | cons d m =>
    rw [hd] at hf
    refine q5s (q7l _ _) (by rw [D1];simp) (fun e=>?_) hf
    have:=y2q z.natAbs d (by rw [hd];simp)
    omega
theorem r2_To {z:Int} {K:Nat} (hz:z.natAbs<10 ^ K) (hK:K≤Lim+Lim):Fn E y6o [.agg (Zr z)] (.c (.str (B (decZ z)))):=by
 have ht:=r1_To (E:=E) hz hK
 have h1:=k2k hz
 rw [O6] at hK
 by_cases c:z<0
 · have:Zr z=[.bool true,.list (Wr (words z.natAbs))]:=by unfold Zr;rw [decide_eq_true c]
   rw [this,z1u c]
   exact v1y (by rw [B45,y6l];rfl) ht (by rw [B45,D1,D1];simp;omega)
 · have:Zr z=[.bool false,.list (Wr (words z.natAbs))]:=by unfold Zr;rw [decide_eq_false c]
   rw [this,M5 (by omega)]
   exact v1z ht
def Qr (q:Rat):List DV:=[.bool (decide (q.num<0)),.list (Wr (words q.num.natAbs)),.list (Wr (words q.den))]
theorem v6p (n:Nat):(n:Int).natAbs=n:=Int.natAbs_natCast n
theorem q2t:words 1=[1]:=by rw [y6k (by decide)];rw [show 1 / 1000000000=0 from rfl,O2];rfl
theorem w3h (z:Int) {g:Nat} (hg:g≠0) (hd:(g:Int) ∣ z):sgn (decide (z<0)) (z.natAbs / g)=z / (g:Int):=by
 obtain ⟨k,rfl⟩:=hd
 rw [Int.mul_ediv_cancel_left _ (by omega),Int.natAbs_mul,v6p,Nat.mul_div_cancel_left _ (by omega)]
 unfold sgn
 have hs:(g:Int)*k<0↔k<0:=by
  constructor
  · intro h
    refine Classical.byContradiction fun c=>?_
    have:=Int.mul_nonneg (show 0≤(g:Int) by omega) (show 0≤k by omega)
    omega
  · intro h;exact Int.mul_neg_of_pos_of_neg (by omega) h
 by_cases c:k<0
 · rw [decide_eq_true (hs.2 c),if_pos rfl];omega
 · rw [decide_eq_false (fun x=>c (hs.1 x)),if_neg (by simp)];omega
theorem k9c {z:Int} {d K L:Nat} (hz:z.natAbs<10 ^ K) (hd:d<10 ^ L) (hK:K≤4*Lim) (hL:L≤4*Lim)(h0:d≠0):Fn E z1s [.agg (Zr z),.c (.list (Wr (words d)))] (.agg (Qr (mkRat z d))):=by
 have w1:=wl hz
 have w2:=wl hd
 rw [O6] at hK hL
 have hc:=q1x (E:=E) (m:=z.natAbs) (n:=d) (L:=max K L) (by omega) (by omega) (by omega)
 have e:Qr (mkRat z d)=[.bool (decide (z / (Nat.gcd z.natAbs d:Nat)<0)),.list (Wr (words (z / (Nat.gcd z.natAbs d:Nat)).natAbs)),.list (Wr (words (d / Nat.gcd z.natAbs d)))]:=by
  unfold Qr;rw [q1t h0,q1s h0]
 have hg:Nat.gcd z.natAbs d≠0:=v1e h0
 have hdv:((Nat.gcd z.natAbs d:Nat):Int) ∣ z:=by
  have:=Int.gcd_dvd_left z d
  exact this
 rw [e]
 generalize Nat.gcd z.natAbs d=g at *
 have hm:=y3u (E:=E) (decide (z<0)) (z.natAbs / g)
 rw [w3h z hg hdv] at hm
 have o1:=q4y (E:=E) (m:=g) (n:=z.natAbs) hg (by omega)
 have o2:=q4y (E:=E) (m:=g) (n:=d) hg (by omega)
 by_cases h1:g=1
 · subst h1
   rw [show ((1:Nat):Int)=1 from rfl,Int.ediv_one,Nat.div_one]
   exact j6t (i0:=1) hc (by rw [q2t];rfl) (by rw [q2t];rfl) rfl
 · by_cases hl:((Wr (words g)).length:Int)=1
   · rw [A8] at hl
     obtain ⟨w,hw⟩:∃ w,words g=[w]:=by
      cases hx:words g with
      | nil=>rw [hx] at hl;simp at hl
      | cons w m =>
       rw [hx] at hl
       cases m with
       | nil=>exact ⟨w,rfl⟩
       | cons=>simp at hl;omega
     refine j6u (i0:=w) hc (by rw [A8];exact hl) (by rw [hw];rfl) (fun e=>h1 ?_) o1 o2 hm
     have:=B2 g
     rw [hw,e] at this
     have hv:wv [(1:Int)]=1:=by decide
     omega
   · exact j6v hc hl o1 o2 hm
theorem x7w {z:Int} (h:z.natAbs<4294967296):Fn E I0 [.c (.i64 z)] (.agg (Qr (z:Rat))):=by
 have e:Qr (z:Rat)=[.bool (decide (z<0)),.list (Wr (words z.natAbs)),.list (Wr (words 1))]:=by unfold Qr;rw [Rat.num_intCast,Rat.den_intCast]
 rw [e]
 exact q9a (v9p h) (x7s (n:=1) (by decide))
theorem v9s (q:Rat):Fn E y3y [.agg (Qr q)] (.agg (Qr (-q))):=by
 have e:Qr (-q)=[.bool (decide (-q.num<0)),.list (Wr (words (-q.num).natAbs)),.list (Wr (words q.den))]:=by unfold Qr;rw [Rat.neg_num,Rat.neg_den]
 rw [e]
 exact q9d (q8p q.num)
theorem x7x {x y:Rat} {K L:Nat} (hx:Sz x K) (hy:Sz y L) (h:K+L≤4*Lim):Fn E K2 [.agg (Qr x),.agg (Qr y)] (.agg (Qr (x*y))):=by
 rw [Rat.mul_def']
 have w1:=wl hx.2
 have w2:=wl hy.2
 have hl:Lim=1000000000:=rfl
 exact q9c (v9q hx.1 hy.1 h) (x1m (by omega)) (k9c (z1t hx.1 hy.1) (z1w hx.2 hy.2) (by omega) (by omega) (Nat.mul_ne_zero x.den_nz y.den_nz))
theorem q8r {x y:Rat} {K L:Nat} (hx:Sz x K) (hy:Sz y L) (h:K+L≤4*Lim):Fn E F8 [.c (.list (Wr (words x.num.natAbs))),.c (.list (Wr (words y.den)))] (.c (.list (Wr (words (x.num.natAbs*y.den)))))∧Fn E I8 [.c (.bool (decide (x.num<0))),.c (.list (Wr (words (x.num.natAbs*y.den))))] (.agg (Zr (x.num*y.den))):=by
 have w1:=wl hx.1
 have w2:=wl hy.2
 have hl:Lim=1000000000:=rfl
 have hm:=y3u (E:=E) (decide (x.num<0)) (x.num.natAbs*y.den)
 rw [v0b] at hm
 exact ⟨x1m (by omega),hm⟩
theorem q6x {m n:Nat}:cmpI m n=0↔m=n:=by rw [y6d];omega
theorem v1t {x y:Rat} {K L:Nat} (hx:Sz x K) (hy:Sz y L) (h:K+L+1≤4*Lim):Fn E z4p [.agg (Qr x),.agg (Qr y)] (.agg (Qr (x+y))):=by
 have w1:=wl hx.2
 have w2:=wl hy.2
 have hl:Lim=1000000000:=rfl
 have hc:=j6a (E:=E) (m:=x.den) (n:=y.den) (by omega)
 by_cases c:x.den=y.den
 · have hp:=v4a (E:=E) hx.1 hy.1 (by omega) (by omega)
   have e:x+y=mkRat (x.num+y.num) x.den:=by
    rw [Rat.add_def',← c,← Int.add_mul]
    have:=Rat.mkRat_mul_right (n:=x.num+y.num) (d:=x.den) (a:=x.den) x.den_nz
    exact this
   rw [e]
   exact q8y hc (q6x.2 c) hp (k9c (x2b (z0e hx.1 (show K≤max K L by omega)) (z0e hy.1 (show L≤max K L by omega))) hx.2 (by omega) (by omega) x.den_nz)
 · rw [Rat.add_def']
   obtain ⟨t1,m1⟩:=q8r (E:=E) hx hy (by omega)
   obtain ⟨t2,m2⟩:=q8r (E:=E) hy hx (by omega)
   have a1:=z1t (b:=(y.den:Int)) hx.1 (show (y.den:Int).natAbs<10 ^ L from hy.2)
   have a2:=z1t (b:=(x.den:Int)) hy.1 (show (x.den:Int).natAbs<10 ^ K from hx.2)
   exact q8z hc (fun e=>c (q6x.1 e)) t1 m1 t2 m2 (v4a a1 a2 (by omega) (by omega)) (x1m (by omega)) (k9c (x2b a1 (by rw [Nat.add_comm K L];exact a2)) (z1w hx.2 hy.2) (by omega) (by omega) (Nat.mul_ne_zero x.den_nz y.den_nz))
theorem v1u {x y:Rat} {K L:Nat} (hx:Sz x K) (hy:Sz y L) (h:K+L+1≤4*Lim):Fn E z4q [.agg (Qr x),.agg (Qr y)] (.agg (Qr (x-y))):=by
 rw [Rat.sub_eq_add_neg]
 exact q9e (v9s y) (v1t hx hy.neg h)
theorem v9r {x:Rat} (h:x≠0):Fn E y0j [.agg (Qr x)] (.agg (Qr x⁻¹)):=by
 have hn:x.num≠0:=fun e=>h (Rat.num_eq_zero.1 e)
 have hd:=Nat.pos_of_ne_zero x.den_nz
 have hm:=y3u (E:=E) (decide (x.num<0)) x.den
 have e1:sgn (decide (x.num<0)) x.den=x.num.sign*x.den:=by
  unfold sgn
  by_cases c:x.num<0
  · rw [decide_eq_true c,if_pos rfl,Int.sign_eq_neg_one_of_neg c];omega
  · rw [decide_eq_false c,if_neg (by simp),Int.sign_eq_one_of_pos (by omega)];omega
 rw [e1] at hm
 have e:Qr x⁻¹=[.bool (decide (x.num.sign*x.den<0)),.list (Wr (words (x.num.sign*x.den).natAbs)),.list (Wr (words x.num.natAbs))]:=by
  unfold Qr;rw [Rat.num_inv,Rat.den_inv,if_neg hn]
 rw [e]
 exact q9b hm
theorem x9m (x:Rat):Fn E y0z [.agg (Qr x)] (.c (.i64 (cmpI x.num 0))):=q5z (q1z x.num)
theorem r3_To {q:Rat} {K:Nat} (h:Sz q K) (hK:K≤Lim+Lim):Fn E z9q [.agg (Qr q)] (.c (.str (B (decQ q)))):=by
 have h1:=x8y h.1
 have h2:=q3a h
 have t1:=r2_To (E:=E) h.1 hK
 have t2:=r1_To (E:=E) h.2 hK
 rw [O6] at hK
 by_cases hd:q.den=1
 · rw [z3x hd]
   exact v2b t1 t2 (by rw [hd,y1c];rfl)
 · rw [z1l hd]
   exact v2a (s2:=B (47::dec q.den)) (by rw [B47,y6l];rfl) (by rw [y6l]) t1 t2 (fun e=>hd (by rw [B49] at e;exact y2r.1 (y0i e))) (by rw [B47,D1,D1];simp;omega) (by rw [D1,D1];simp;omega)
theorem k8h {l:List UInt8} {i:Nat} {c:UInt8} (h:l[i]?=some c):(((B l).data.toList.getD (Int.toNat (i:Int)) 0).toNat:Int)=(c.toNat:Int):=by
 rw [z9o,Int.toNat_natCast,List.getD_eq_getElem?_getD,h];rfl
theorem v0f {l:List UInt8} (h:(47:UInt8) ∉ l) (hl:l.length<9223372036854775807):∀ d i,i+d=l.length→Lp E 0 N4 0 (z0g (B l) (i:Nat)) (.exit 0) (y3d (B l))
 | 0,i,hi=>k1g (by rw [D1];omega)
 | d+1,i,hi=>by
  obtain ⟨c,hc⟩:∃ c,l[i]?=some c:=⟨l[i]'(by omega),List.getElem?_eq_getElem _⟩
  refine y8s (i2:=((i+1:Nat):Int)) (k8h hc) (wi (by omega)) (by rw [D1];omega) (by rw [D1];omega) (fun e=>h ?_) (v0f h hl d (i+1) (by omega))
  have:c=47:=UInt8.toNat_inj.1 (by simpa using Int.ofNat.inj e)
  subst this
  exact List.mem_of_getElem? hc
theorem q2i {p r:List UInt8} (h:(47:UInt8) ∉ p) (hl:(p++47::r).length<9223372036854775807):∀ d i,i+d=p.length→Lp E 0 N4 0 (z0g (B (p++47::r)) (i:Nat)) .ret (y3c (B p) (B r))
 | 0,i,hi=>by
  simp only [List.length_append,List.length_cons] at hl
  have hc:(p++47::r)[i]?=some 47:=by rw [List.getElem?_append_right (by omega),show i-p.length=0 by omega];rfl
  refine k1f (i3:=((i+1:Nat):Int)) (k8h hc) ?_ (wi (by omega)) ?_ (by rw [D1];simp;omega) (by rw [D1];simp;omega) (by decide) (by rw [D1];simp;omega) (by rw [D1];simp;omega)
  · rw [y6c,Int.toNat_natCast,List.drop_zero,show i=p.length by omega,List.take_left]
  · rw [y6c,D1,Int.toNat_natCast,Int.toNat_natCast,List.take_length,show i+1=p.length+1 by omega,List.drop_append,List.drop_eq_nil_of_le (by omega)]
    rw [show p.length+1-p.length=1 by omega];rfl
 | d+1,i,hi=>by
  have hl':=hl
  simp only [List.length_append,List.length_cons] at hl'
  obtain ⟨c,hc⟩:∃ c,p[i]?=some c:=⟨p[i]'(by omega),List.getElem?_eq_getElem _⟩
  have hc':(p++47::r)[i]?=some c:=by rw [List.getElem?_append_left (by omega)];exact hc
  refine y8s (i2:=((i+1:Nat):Int)) (k8h hc') (wi (by omega)) (by rw [D1];simp;omega) (by rw [D1];simp;omega) (fun e=>h ?_) (q2i h hl d (i+1) (by omega))
  have:c=47:=UInt8.toNat_inj.1 (by simpa using Int.ofNat.inj e)
  subst this
  exact List.mem_of_getElem? hc
theorem x8x (n:Nat):(cmpI n 1>0↔1<n)∧(cmpI n 1=0↔n=1):=by
 constructor
 · rw [v3a];omega
 · rw [y6d];omega
theorem v4c {l:List UInt8} (hl:l.length≤Lim):Fn E V6 [.c (.str (B l))] (.tup [.agg (Qr ((rd l).getD 0)),.c (.bool (rd l).isSome)]):=by
 have hl':=hl
 rw [O6] at hl'
 have hz:=x7w (E:=E) (z:=0) (by decide)
 rw [show ((0:Int):Rat)=0 from rfl] at hz
 have h1:=x7s (E:=E) (n:=1) (by decide)
 by_cases hs:(47:UInt8)∈l
 · obtain ⟨p,r,rfl,hp⟩:=x6g l hs
   have hll:=hl
   simp only [List.length_append,List.length_cons] at hl hl'
   have hc:=j9t (q2i (E:=E) (p:=p) (r:=r) hp (by simp;omega) p.length 0 (by omega))
   have hv:=q8q (E:=E) p (by omega)
   have hnv:=x1n (E:=E) r (by omega)
   have none_of:(∀ q,p++47::r≠decQ q)→rd (p++47::r)=none:=fun hq=>by
    cases e:rd (p++47::r) with
    | none=>rfl
    | some q=>exact absurd (j3c e) (hq q)
   have shape:∀ q,p++47::r=decQ q→p=decZ q.num∧r=dec q.den∧q.den≠1:=by
    intro q e
    by_cases hd:q.den=1
    · rw [z3x hd] at e
      exact absurd (show (47:UInt8)∈decZ q.num by rw [← e];simp) (X2 _)
    · rw [z1l hd] at e
      have:=v3d e hp (X2 _)
      exact ⟨this.1,this.2,hd⟩
   cases hi:intB p with
   | false =>
    rw [none_of (fun q e=>by rw [(shape q e).1,x9h] at hi;cases hi)]
    rw [hi] at hv
    exact k7a hc hv hz
   | true =>
    rw [hi] at hv
    cases hn:natB r with
    | false =>
     rw [none_of (fun q e=>by rw [(shape q e).2.1,j5t] at hn;cases hn)]
     rw [hn] at hnv
     exact q5y hc hv hnv hz
    | true =>
     rw [hn] at hnv
     obtain ⟨z,rfl⟩:=(x6k.1 hi).eq_decZ
     obtain ⟨n,rfl⟩:∃ n,r=dec n:=⟨_,(x0w.1 hn).eq_dec⟩
     have hzl:z.natAbs<10 ^ (decZ z).length:=z0e (z1i _) (x6b z)
     have hnl:=z1i n
     have r1:=v4b (E:=E) hzl (by omega)
     have r2:=x7r (E:=E) hnl (by omega)
     have w1:=wl hzl
     have w2:=wl hnl
     have c1:=j6a (E:=E) (m:=n) (n:=1) (by omega)
     have sg:=q1z (E:=E) z
     have uq:∀ q,decZ z++47::dec n=decQ q→z=q.num∧n=q.den∧q.den≠1:=fun q e=>⟨x0a (shape q e).1,x9a (shape q e).2.1,(shape q e).2.2⟩
     by_cases hn1:1<n
     · by_cases hz0:z=0
       · rw [none_of (fun q e=>by
          obtain ⟨e1,e2,e3⟩:=uq q e
          have hr:=q.reduced
          rw [← e1,hz0] at hr
          simp at hr
          exact e3 hr)]
         exact q5v hc hv hnv r1 r2 h1 c1 ((x8x n).1.2 hn1) sg (by rw [y6d];exact hz0) hz
       · have g:=q1x (E:=E) (m:=z.natAbs) (n:=n) (L:=max (decZ z).length (dec n).length) (by omega) (by omega) (by omega)
         have hgl:Nat.gcd z.natAbs n<10 ^ (dec n).length:=Nat.lt_of_le_of_lt (Nat.gcd_le_right _ (by omega)) hnl
         have c2:=j6a (E:=E) (m:=Nat.gcd z.natAbs n) (n:=1) (by have:=wl hgl;omega)
         by_cases hg1:Nat.gcd z.natAbs n=1
         · obtain ⟨q,e1,e2,e3⟩:=v3e z n hn1 hg1
           rw [← e3,x9n,e3]
           have eq:Qr q=[.bool (decide (z<0)),.list (Wr (words z.natAbs)),.list (Wr (words n))]:=by unfold Qr;rw [e1,e2]
           show Fn E V6 _ (.tup [.agg (Qr q),.c (.bool true)])
           rw [eq]
           exact q5t hc hv hnv r1 r2 h1 c1 ((x8x n).1.2 hn1) sg (by rw [y6d];exact hz0) g c2 ((x8x _).2.2 hg1)
         · rw [none_of (fun q e=>by
            obtain ⟨e1,e2,e3⟩:=uq q e
            have hr:=q.reduced
            rw [← e1,← e2] at hr
            exact hg1 hr)]
           exact q5u hc hv hnv r1 r2 h1 c1 ((x8x n).1.2 hn1) sg (by rw [y6d];exact hz0) g c2 (fun e=>hg1 ((x8x _).2.1 e)) hz
     · rw [none_of (fun q e=>by
        obtain ⟨e1,e2,e3⟩:=uq q e
        have:=q.den_nz
        omega)]
       exact q5w hc hv hnv r1 r2 h1 c1 (fun e=>hn1 ((x8x n).1.1 e)) hz
 · have hc:=j9u (v0f (E:=E) hs (by omega) l.length 0 (by omega))
   have hv:=q8q (E:=E) l (by omega)
   have hnv:=x1n (E:=E) [49] (by decide)
   rw [show natB [49]=true from by decide] at hnv
   cases hi:intB l with
   | false =>
    have:rd l=none:=by
     cases e:rd l with
     | none=>rfl
     | some q =>
      have e2:=j3c e
      by_cases hd:q.den=1
      · rw [z3x hd] at e2;rw [e2,x9h] at hi;cases hi
      · rw [z1l hd] at e2;exact absurd (by rw [e2];simp) hs
    rw [this]
    rw [hi] at hv
    exact k7a hc hv hz
   | true =>
    obtain ⟨z,rfl⟩:=(x6k.1 hi).eq_decZ
    rw [hi] at hv
    have hzl:z.natAbs<10 ^ (decZ z).length:=z0e (z1i _) (x6b z)
    have r2:=x7r (E:=E) (n:=1) (K:=1) (by decide) (by rw [O6];omega)
    rw [y1c] at r2
    have e:rd (decZ z)=some (z:Rat):=by rw [← x2h,x9n]
    rw [e]
    have eq:Qr ((some (z:Rat)).getD 0)=[.bool (decide (z<0)),.list (Wr (words z.natAbs)),.list (Wr (words 1))]:=by
     show Qr (z:Rat)=_
     unfold Qr;rw [Rat.num_intCast,Rat.den_intCast]
    rw [eq]
    exact q5x hc hv hnv (v4b hzl (by omega)) r2
end Gev
namespace Gev
open Go
variable {E:Env}
theorem k5v {α:Type} {l:List α} {i:Nat} (h:i<l.length):∃ c,l[i]?=some c:=⟨l[i],List.getElem?_eq_getElem h⟩
theorem z6m {α:Type} {l:List α} {i:Nat} {a:α} (h:l[i]?=some a):i<l.length:=(List.getElem?_eq_some_iff.1 h).1
theorem v8a {α:Type} {l:List α} {i:Nat} {c:α} (h:l[i]?=some c):l.drop i=c::l.drop (i+1):=by
 obtain ⟨h1,h2⟩:=List.getElem?_eq_some_iff.1 h
 rw [← h2];exact List.drop_eq_getElem_cons h1
theorem z6j {α:Type} {n F k:Nat} {l:List α} (bad:Nat→α→Bool) (st:Nat→St) {oe:Out} {fin:St} (Left:Nat→α→Out→St→Prop)
    (hend:Lp E n F k (st l.length) oe fin) (hstep:∀ i a,l[i]?=some a→bad i a=false→∀ o s,Lp E n F k (st (i+1)) o s→Lp E n F k (st i) o s)
    (hout:∀ i a,l[i]?=some a→bad i a=true→∃ o s,Left i a o s∧Lp E n F k (st i) o s):∀ d i:Nat,i+d=l.length →
    ((∀ j a,i≤j→l[j]?=some a→bad j a=false)∧Lp E n F k (st i) oe fin) ∨
    (∃ j a o s,i≤j∧l[j]?=some a∧bad j a=true∧(∀ j' a',i≤j'→j'<j→l[j']?=some a'→bad j' a'=false)∧Left j a o s∧Lp E n F k (st i) o s)
 | 0,i,hi=>by
  have:i=l.length:=by omega
  subst this
  exact .inl ⟨fun j a hj h=>by have:=(List.getElem?_eq_some_iff.1 h).1;omega,hend⟩
 | d+1,i,hi=>by
  obtain ⟨a,ha⟩:=k5v (l:=l) (i:=i) (by omega)
  cases hb:bad i a with
  | true =>
   obtain ⟨o,s,h1,h2⟩:=hout i a ha hb
   exact .inr ⟨i,a,o,s,Nat.le_refl _,ha,hb,fun j' a' h1 h2=>by omega,h1,h2⟩
  | false =>
   rcases z6j bad st Left hend hstep hout d (i+1) (by omega) with ⟨h1,h2⟩ | ⟨j,b,o,s,h1,h2,h3,h4,h5,h6⟩
   · refine .inl ⟨fun j b hj h=>?_,hstep i a ha hb _ _ h2⟩
     by_cases e:j=i
     · subst e;rw [ha] at h;cases h;exact hb
     · exact h1 j b (by omega) h
   · refine .inr ⟨j,b,o,s,by omega,h2,h3,fun j' a' g1 g2 g3=>?_,h5,hstep i a ha hb _ _ h6⟩
     by_cases e:j'=i
     · subst e;rw [ha] at g3;cases g3;exact hb
     · exact h4 j' a' (by omega) g2 g3
end Gev
namespace Gev
open Go
variable {P:Program} {D:Tab} {B0:Nat} {Gd:World→Prop}
def inBs (n:Nat) (sm:Objs):Bool:=sm.all fun o=>match o with | some o=>o.inB n | none=>true
theorem v3k {n:Nat} {sm:Objs} (h:inBs n sm=true) (i:Nat) (o:Ob) (hi:lk sm i=some o):o.inB n=true:=by
 have hil:=X9 hi
 have e:sm[i]?=some (some o):=by
  unfold lk at hi
  rw [List.getD_eq_getElem?_getD,List.getElem?_eq_getElem hil] at hi
  rw [List.getElem?_eq_getElem hil];exact congrArg some hi
 unfold inBs at h
 rw [List.all_eq_true] at h
 exact h _ (List.mem_of_getElem? e)
theorem RunOk.put {f:Nat} {args:List AV} {sm sm':Objs} {r:AV} (h:RunOk P D B0 Gd f args sm r sm') (ls:List Nat) (hn:ls.Nodup) (hlen:ls.length=sm.length) (hlen':sm'.length=sm.length) {big big':Objs}
    (hs:∀ i,i<sm.length→lk big (ls.getD i 0)=(lk sm i).map (Ob.ren fun i=>ls.getD i 0)) (hs':∀ i,i<sm.length→lk big' (ls.getD i 0)=(lk sm' i).map (Ob.ren fun i=>ls.getD i 0)) (hrest:∀ l,(∀ i,i<sm.length→ls.getD i 0≠l)→lk big' l=lk big l)
    (hp:inBs sm.length sm=true) (hp':inBs sm.length sm'=true) (ha:args.all (AV.inB sm.length)=true) (hr:r.inB sm.length=true) :
    RunOk P D B0 Gd f (args.map (AV.ren fun i=>ls.getD i 0)) big (r.ren fun i=>ls.getD i 0) big':=by
 refine h.frameG (fun i=>ls.getD i 0) big big' (fun i j hi hj e=>?_) (Nat.le_of_eq hlen'.symm) hs (fun i h1 h2=>by omega) (by rw [hlen'];exact hs') (by rw [hlen'];exact hrest) (v3k hp) (by rw [hlen'];exact v3k hp') (fun a hx=>by simp only [List.all_eq_true] at ha;exact ha a hx) (by rw [hlen'];exact hr)
 have e2:ls.getD i 0=ls.getD j 0:=e
 simp only [List.getD_eq_getElem?_getD] at e2
 rw [List.getElem?_eq_getElem (by omega),List.getElem?_eq_getElem (by omega)] at e2
 have e':ls[i]?=ls[j]?:=by
  rw [List.getElem?_eq_getElem (by omega),List.getElem?_eq_getElem (by omega)]
  exact congrArg some e2
 exact (List.getElem?_inj (by omega) hn).1 e'
end Gev
namespace Gb
abbrev Mx:=Nat→Nat→Rat
def sm:Nat→(Nat→Rat)→Rat
 | 0,_=>0
 | n+1,f=>sm n f+f n
theorem N2 {n:Nat} {f g:Nat→Rat} (h:∀ k,k<n→f k=g k):sm n f=sm n g:=by
 induction n with
 | zero=>rfl
 | succ n ih=>rw [sm,sm,ih (fun k hk=>h k (by omega)),h n (by omega)]
theorem q6n (n:Nat) (f g:Nat→Rat):sm n (fun k=>f k+g k)=sm n f+sm n g:=by
 induction n with
 | zero=>simp only [sm];grind
 | succ n ih=>simp only [sm,ih];grind
theorem v2g (n:Nat) (f g:Nat→Rat):sm n (fun k=>f k-g k)=sm n f-sm n g:=by
 induction n with
 | zero=>simp only [sm];grind
 | succ n ih=>simp only [sm,ih];grind
theorem y7k (n:Nat) (c:Rat) (f:Nat→Rat):sm n (fun k=>c*f k)=c*sm n f:=by
 induction n with
 | zero=>simp only [sm];grind
 | succ n ih=>simp only [sm,ih];grind
theorem x9s (n:Nat) (c:Rat) (f:Nat→Rat):sm n (fun k=>f k*c)=sm n f*c:=by
 induction n with
 | zero=>simp only [sm];grind
 | succ n ih=>simp only [sm,ih];grind
theorem y8u {n:Nat} {f:Nat→Rat} (h:∀ k,k<n→f k=0):sm n f=0:=by
 induction n with
 | zero=>rfl
 | succ n ih=>rw [sm,ih (fun k hk=>h k (by omega)),h n (by omega)];grind
theorem x9r (m n:Nat) (f:Nat→Nat→Rat):sm m (fun i=>sm n (fun j=>f i j))=sm n (fun j=>sm m (fun i=>f i j)):=by
 induction m with
 | zero=>exact (y8u fun _ _=>rfl).symm
 | succ m ih=>simp only [sm,ih,q6n]
theorem q6o {n r:Nat} {f:Nat→Rat} (hr:r<n) (h:∀ k,k<n→k≠r→f k=0):sm n f=f r:=by
 induction n with
 | zero=>omega
 | succ n ih =>
  rw [sm]
  by_cases e:r=n
  · subst e
    rw [y8u (fun k hk=>h k (by omega) (by omega))];grind
  · rw [ih (by omega) (fun k hk=>h k (by omega)),h n (by omega) (by omega)];grind
theorem w0v {n k:Nat} {f:Nat→Rat} (hk:k≤n) (h:∀ i,k≤i→i<n→f i=0):sm n f=sm k f:=by
 induction n with
 | zero=>rw [show k=0 by omega]
 | succ n ih =>
  by_cases e:k=n+1
  · rw [e]
  · rw [sm,ih (by omega) (fun i h1 h2=>h i h1 (by omega)),h n (by omega) (by omega)];grind
theorem q2j (x:Rat):0≤x*x:=by
 rcases Rat.le_total (a:=0) (b:=x) with h | h
 · exact Rat.mul_nonneg h h
 · have:0≤(-x)*(-x):=Rat.mul_nonneg (by grind) (by grind)
   grind
theorem k7s (n:Nat) (f:Nat→Rat):0≤sm n (fun k=>f k*f k):=by
 induction n with
 | zero=>exact Rat.le_refl
 | succ n ih=>rw [sm];have:=q2j (f n);grind
theorem v2f {n:Nat} {f:Nat→Rat} (h:sm n (fun k=>f k*f k)=0):∀ k,k<n→f k=0:=by
 induction n with
 | zero=>intro k hk;omega
 | succ n ih =>
  rw [sm] at h
  have h1:=k7s n f
  have h2:=q2j (f n)
  intro k hk
  by_cases e:k=n
  · subst e
    have:f k*f k=0:=by grind
    rcases Rat.mul_eq_zero.1 this with h | h <;> exact h
  · exact ih (by grind) k (by omega)
def mm (k:Nat) (f g:Mx):Mx:=fun i j=>sm k fun l=>f i l*g l j
def dl:Mx:=fun i j=>if i=j then 1 else 0
theorem q7y (k l:Nat) (f g h:Mx):mm l (mm k f g) h=mm k f (mm l g h):=by
 funext i j
 simp only [mm]
 rw [show (fun b=>sm k (fun a=>f i a*g a b)*h b j)=fun b=>sm k (fun a=>f i a*g a b*h b j) from funext fun b=>(x9s k _ _).symm,x9r]
 refine N2 fun a _=>?_
 rw [← y7k]
 exact N2 fun b _=>by grind
theorem v1j {n i j:Nat} {f:Mx} (hj:j<n):mm n f dl i j=f i j:=by
 simp only [mm]
 rw [q6o hj (fun k _ h=>by simp only [dl,if_neg h];grind)]
 simp only [dl,if_pos];grind
theorem one_mm {n i j:Nat} {f:Mx} (hi:i<n):mm n dl f i j=f i j:=by
 simp only [mm]
 rw [q6o hi (fun k _ h=>by simp only [dl,if_neg (Ne.symm h)];grind)]
 simp only [dl,if_pos];grind
theorem z9b {k i j:Nat} {f f' g g':Mx} (h1:∀ l,l<k→f i l=f' i l)(h2:∀ l,l<k→g l j=g' l j):mm k f g i j=mm k f' g' i j :=
 N2 fun l hl=>by rw [h1 l hl,h2 l hl]
def tp (f:Mx):Mx:=fun i j=>f j i
theorem tp_mm (k:Nat) (f g:Mx):tp (mm k f g)=mm k (tp g) (tp f):=by
 funext i j
 exact N2 fun l _=>Rat.mul_comm _ _
def d3 (a b c d e f g h i:Rat):Rat:=a*(e*i-f*h)-b*(d*i-f*g)+c*(d*h-e*g)
def dt:Nat→Mx→Rat
 | 0,_=>1
 | 1,f=>f 0 0
 | 2,f=>f 0 0*f 1 1-f 0 1*f 1 0
 | 3,f=>d3 (f 0 0) (f 0 1) (f 0 2) (f 1 0) (f 1 1) (f 1 2) (f 2 0) (f 2 1) (f 2 2)
 | 4,f=>f 0 0*d3 (f 1 1) (f 1 2) (f 1 3) (f 2 1) (f 2 2) (f 2 3) (f 3 1) (f 3 2) (f 3 3)
     - f 0 1*d3 (f 1 0) (f 1 2) (f 1 3) (f 2 0) (f 2 2) (f 2 3) (f 3 0) (f 3 2) (f 3 3)
     + f 0 2*d3 (f 1 0) (f 1 1) (f 1 3) (f 2 0) (f 2 1) (f 2 3) (f 3 0) (f 3 1) (f 3 3)
     - f 0 3*d3 (f 1 0) (f 1 1) (f 1 2) (f 2 0) (f 2 1) (f 2 2) (f 3 0) (f 3 1) (f 3 2)
 | _,_=>0
theorem y6t {n:Nat} (hn:n≤4) {f g:Mx} (h:∀ i j,i<n→j<n→f i j=g i j):dt n f=dt n g:=by
 rcases n with _ | _ | _ | _ | _ | n
 · rfl
 all_goals first | omega | skip
 all_goals simp only [dt]
 · rw [h 0 0 (by omega) (by omega)]
 · rw [h 0 0 (by omega) (by omega),h 0 1 (by omega) (by omega),h 1 0 (by omega) (by omega),h 1 1 (by omega) (by omega)]
 · rw [h 0 0 (by omega) (by omega),h 0 1 (by omega) (by omega),h 0 2 (by omega) (by omega),h 1 0 (by omega) (by omega),h 1 1 (by omega) (by omega),h 1 2 (by omega) (by omega),h 2 0 (by omega) (by omega),h 2 1 (by omega) (by omega),h 2 2 (by omega) (by omega)]
 · rw [h 0 0 (by omega) (by omega),h 0 1 (by omega) (by omega),h 0 2 (by omega) (by omega),h 0 3 (by omega) (by omega),h 1 0 (by omega) (by omega),h 1 1 (by omega) (by omega),h 1 2 (by omega) (by omega),h 1 3 (by omega) (by omega),h 2 0 (by omega) (by omega),h 2 1 (by omega) (by omega),h 2 2 (by omega) (by omega),h 2 3 (by omega) (by omega),h 3 0 (by omega) (by omega),h 3 1 (by omega) (by omega),h 3 2 (by omega) (by omega),h 3 3 (by omega) (by omega)]
theorem v7d {n:Nat} (hn:n≤4):dt n dl=1:=by
 rcases n with _ | _ | _ | _ | _ | n
 all_goals first | omega | (simp [dt,d3,dl] <;> grind)
theorem dt_tp {n:Nat} (hn:n≤4) (f:Mx):dt n (tp f)=dt n f:=by
 rcases n with _ | _ | _ | _ | _ | n
 all_goals first | omega | skip
 all_goals simp only [dt,tp,d3]
 all_goals grind
theorem dt_sub {n r:Nat} (hn:n≤4) (hr:r<n) (f:Mx) (l h:Nat→Rat):dt n (fun i j=>if i=r then h j else f i j-l i*h j)=dt n (fun i j=>if i=r then h j else f i j):=by
 rcases n with _ | _ | _ | _ | _ | n
 all_goals first | omega | skip
 all_goals (rcases r with _ | _ | _ | _ | r)
 all_goals first | omega | skip
 all_goals simp [dt,d3]
 all_goals grind
theorem q7d {n r:Nat} (hn:n≤4) (hr:r<n) (f:Mx) (x:Rat) (h:Nat→Rat):dt n (fun i j=>if i=r then x*h j else f i j)=x*dt n (fun i j=>if i=r then h j else f i j):=by
 rcases n with _ | _ | _ | _ | _ | n
 all_goals first | omega | skip
 all_goals (rcases r with _ | _ | _ | _ | r)
 all_goals first | omega | skip
 all_goals simp [dt,d3]
 all_goals grind
def sg (f:Mx) (p r:Nat):Mx:=fun i=>f (if i=p then r else if i=r then p else i)
theorem w2d {n p r:Nat} (hn:n≤4) (hr:r<p) (hp:p<n) (f:Mx):dt n (sg f p r)=-dt n f:=by
 rcases n with _ | _ | _ | _ | _ | n
 all_goals first | omega | skip
 all_goals (rcases p with _ | _ | _ | _ | p)
 all_goals first | omega | skip
 all_goals (rcases r with _ | _ | _ | _ | r)
 all_goals first | omega | skip
 all_goals simp [dt,d3,sg]
 all_goals grind
theorem v3i {n r:Nat} (hn:n≤4) (hr:r<n) {f:Mx} (h:∀ j,j<n→f r j=0):dt n f=0:=by
 rw [y6t hn (g:=fun i j=>if i=r then 0*(fun _=>(0:Rat)) j else f i j) (fun i j _ hj=>by
  by_cases e:i=r
  · subst e;rw [h j hj];simp
  · simp [e]),q7d hn hr f 0 (fun _=>0)]
 grind
def pv (f:Mx) (c:Nat):Nat→Nat→Nat
 | 0,p=>p
 | k+1,p=>if f p c=0 then pv f c k (p+1) else p
theorem v3w (f:Mx) (c:Nat):∀ k p,p≤pv f c k p∧pv f c k p≤p+k
 | 0,p=>by simp [pv]
 | k+1,p=>by
  have:=v3w f c k (p+1)
  unfold pv;split <;> omega
theorem v3y (f:Mx) (c:Nat):∀ k p q,p≤q→q<pv f c k p→f q c=0
 | 0,p,q,h1,h2=>by simp [pv] at h2;omega
 | k+1,p,q,h1,h2=>by
  unfold pv at h2
  split at h2
  · rename_i h
    by_cases e:q=p
    · rw [e];exact h
    · exact v3y f c k (p+1) q (by omega) h2
  · omega
theorem v3x (f:Mx) (c:Nat):∀ k p,pv f c k p<p+k→f (pv f c k p) c≠0
 | 0,p,h=>by simp [pv] at h
 | k+1,p,h=>by
  unfold pv at h ⊢
  by_cases e:f p c=0
  · rw [if_pos e] at h ⊢;exact v3x f c k (p+1) (by omega)
  · rw [if_neg e];exact e
def st (g:Mx) (r c:Nat):Mx:=fun i j=>if i=r then g r j / g r c else g i j-g i c*(g r j / g r c)
abbrev El:=Mx × Nat × Rat
def e1 (m c:Nat) (s:El):El :=
 if pv s.1 c (m-s.2.1) s.2.1<m then
  (st (sg s.1 (pv s.1 c (m-s.2.1) s.2.1) s.2.1) s.2.1 c,s.2.1+1,
   (if pv s.1 c (m-s.2.1) s.2.1=s.2.1 then s.2.2 else -s.2.2)*sg s.1 (pv s.1 c (m-s.2.1) s.2.1) s.2.1 s.2.1 c)
 else s
def el (m:Nat):Nat→El→El
 | 0,s=>s
 | k+1,s=>e1 m k (el m k s)
theorem v7k {m:Nat} {P:Nat→El→Prop} {s:El} (h0:P 0 s) (hs:∀ c s,P c s→P (c+1) (e1 m c s)):∀ k,P k (el m k s)
 | 0=>h0
 | k+1=>hs k _ (v7k h0 hs k)
theorem k5h (m c:Nat) (f:Mx) (r:Nat) (d:Rat) (hr:r≤m) :
    (e1 m c (f,r,d)=(f,r,d)∧∀ q,r≤q→q<m→f q c=0) ∨
    ∃ p,r≤p∧p<m∧f p c≠0∧e1 m c (f,r,d)=(st (sg f p r) r c,r+1,(if p=r then d else -d)*sg f p r r c):=by
 have h:=v3w f c (m-r) r
 by_cases hp:pv f c (m-r) r<m
 · refine .inr ⟨_,h.1,hp,v3x f c _ _ (by omega),?_⟩
   simp only [e1];rw [if_pos hp]
 · refine .inl ⟨by simp only [e1];rw [if_neg hp],fun q h1 h2=>v3y f c (m-r) r q h1 (by omega)⟩
theorem w0t {p r i:Nat} {f:Mx} (h:i≠p) (k:i≠r):sg f p r i=f i:=by simp only [sg,if_neg h,if_neg k]
theorem sg_r {p r:Nat} {f:Mx}:sg f p r r=f p:=by
 simp only [sg];split
 · rename_i h;rw [h]
 · simp
theorem sg_p {p r:Nat} {f:Mx}:sg f p r p=f r:=by simp only [sg,if_pos]
theorem w0u {p r i j:Nat} {f:Mx} (h:r≤i) (hp:r≤p) {m:Nat} (hi:i<m) (hpm:p<m) (hz:∀ i,r≤i→i<m→f i j=0):sg f p r i j=0:=by
 simp only [sg];split
 · exact hz r (by omega) (by omega)
 · split
   · exact hz p hp hpm
   · exact hz i h hi
structure Red (m c:Nat) (f:Mx) (r:Nat) (q:Nat→Nat):Prop where
 rm:r≤m
 rc:r≤c
 lt:∀ i,i<r→q i<c
 one:∀ i,i<r→∀ k,k<m→f k (q i)=dl k i
 low:∀ i,r≤i→i<m→∀ j,j<c→f i j=0
 full:r=c→∀ i,i<r→q i=i
theorem ddiv {x:Rat} (h:x≠0):x / x=1:=by rw [Rat.div_def];exact Rat.mul_inv_cancel _ h
theorem x3s (m:Nat) (f:Mx) (k:Nat):∃ q,Red m k (el m k (f,0,1)).1 (el m k (f,0,1)).2.1 q:=by
 refine v7k (P:=fun c s=>∃ q,Red m c s.1 s.2.1 q) ⟨fun _=>0,by constructor <;> intros <;> simp at*<;> omega⟩ (fun c s h=>?_) k
 obtain ⟨f,r,d⟩:=s
 obtain ⟨q,h⟩:=h
 change Red m c f r q at h
 have rm:=h.rm
 have rc:=h.rc
 rcases k5h m c f r d rm with ⟨e,hz⟩ | ⟨p,h1,h2,h3,e⟩
 · rw [e]
   refine ⟨q,⟨rm,Nat.le_succ_of_le rc,fun i hi=>by have:=h.lt i hi;omega,h.one,fun i h1 h2 j hj=>?_,fun e=>by change r=c+1 at e;omega⟩⟩
   by_cases ej:j=c
   · subst ej;exact hz i h1 h2
   · exact h.low i h1 h2 j (by omega)
 · rw [e]
   have hg0:sg f p r r c≠0:=by rw [sg_r];exact h3
   have hcol:∀ k,st (sg f p r) r c k c=dl k r:=by
    intro k
    simp only [st,dl]
    split
    · exact ddiv hg0
    · rw [ddiv hg0];grind
   have hold:∀ i,i<r→∀ k,k<m→st (sg f p r) r c k (q i)=dl k i:=by
    intro i hi k hk
    have e0:sg f p r r (q i)=0:=by
     rw [sg_r,h.one i hi p h2];simp only [dl];rw [if_neg (by omega)]
    simp only [st]
    split
    · rename_i ek;rw [e0,ek];simp only [dl];rw [if_neg (by omega),Rat.div_def];grind
    · rename_i ek
      rw [e0]
      have:sg f p r k (q i)=dl k i:=by
       by_cases ep:k=p
       · rw [ep,sg_p,h.one i hi r (by omega)];simp only [dl];rw [if_neg (by omega),if_neg (by omega)]
       · rw [w0t ep ek];exact h.one i hi k hk
      rw [this,Rat.div_def];grind
   refine ⟨fun i=>if i=r then c else q i,⟨by simp only;omega,by simp only;omega,fun i hi=>?_,fun i hi k hk=>?_,fun i h1' h2' j hj=>?_,fun e i hi=>?_⟩⟩
   · simp only at hi ⊢;split
     · omega
     · have:=h.lt i (by omega);omega
   · simp only at hi ⊢
     by_cases ei:i=r
     · rw [if_pos ei,ei];exact hcol k
     · rw [if_neg ei];exact hold i (by omega) k hk
   · simp only at h1' ⊢
     by_cases ej:j=c
     · rw [ej,hcol];simp only [dl];rw [if_neg (by omega)]
     · have z1:=w0u (f:=f) (p:=p) (j:=j) (show r≤i by omega) h1 h2' h2 (fun i a b=>h.low i a b j (by omega))
       have z2:=w0u (f:=f) (p:=p) (j:=j) (show r≤r by omega) h1 (show r<m by omega) h2 (fun i a b=>h.low i a b j (by omega))
       simp only [st];rw [if_neg (by omega),z1,z2,Rat.div_def];grind
   · simp only at e hi ⊢
     by_cases ei:i=r
     · rw [if_pos ei];omega
     · rw [if_neg ei];exact h.full (by omega) i (by omega)
def Lr (m:Nat) (f:Mx) (v:Nat→Rat):Prop:=∃ e:Nat→Rat,∀ j,v j=sm m fun k=>e k*f k j
theorem Lr.row {m i:Nat} {f:Mx} (h:i<m):Lr m f (f i) :=
 ⟨dl i,fun j=>by rw [q6o h (fun k _ hk=>by simp only [dl];rw [if_neg (Ne.symm hk)];grind)];simp only [dl,if_pos];grind⟩
theorem Lr.mul {m:Nat} {f:Mx} {v:Nat→Rat} (c:Rat):Lr m f v→Lr m f (fun j=>c*v j)
 | ⟨e,h⟩=>⟨fun k=>c*e k,fun j=>by simp only;rw [h j,← y7k];exact N2 fun k _=>by grind⟩
theorem Lr.sub {m:Nat} {f:Mx} {v w:Nat→Rat}:Lr m f v→Lr m f w→Lr m f (fun j=>v j-w j)
 | ⟨e,h⟩,⟨e',h'⟩=>⟨fun k=>e k-e' k,fun j=>by simp only;rw [h j,h' j,← v2g];exact N2 fun k _=>by grind⟩
theorem Lr.cong {m:Nat} {f:Mx} {v w:Nat→Rat} (h:Lr m f v) (e:∀ j,w j=v j):Lr m f w:=by
 rw [show w=v from funext e];exact h
theorem Lr.mat {m:Nat} {f g:Mx} (k:∀ i,i<m→Lr m f (g i)):∃ E:Mx,∀ i,i<m→∀ j,g i j=mm m E f i j:=by
 have h:∀ i,∃ e:Nat→Rat,i<m→∀ j,g i j=sm m fun k=>e k*f k j:=fun i=>by
  by_cases hi:i<m
  · obtain ⟨e,he⟩:=k i hi
    exact ⟨e,fun _=>he⟩
  · exact ⟨fun _=>0,fun h=>absurd h hi⟩
 exact ⟨fun i=>(h i).choose,fun i hi j=>(h i).choose_spec hi j⟩
theorem Lr.trans {m:Nat} {f g:Mx} {v:Nat→Rat} (h:Lr m g v) (k:∀ i,i<m→Lr m f (g i)):Lr m f v:=by
 obtain ⟨e,h⟩:=h
 obtain ⟨E,hE⟩:=Lr.mat k
 refine ⟨fun b=>sm m fun a=>e a*E a b,fun j=>?_⟩
 rw [h j]
 rw [N2 (g:=fun a=>sm m fun b=>e a*E a b*f b j) (fun a ha=>by rw [hE a ha j];simp only [mm];rw [← y7k];exact N2 fun b _=>by grind),x9r]
 exact N2 fun b _=>x9s m _ _
theorem lr_e1 {m c:Nat} {f:Mx} {r:Nat} {d:Rat} (hr:r≤m):(∀ i,i<m→Lr m f ((e1 m c (f,r,d)).1 i))∧∀ i,i<m→Lr m (e1 m c (f,r,d)).1 (f i):=by
 rcases k5h m c f r d hr with ⟨e,hz⟩ | ⟨p,h1,h2,h3,e⟩
 · rw [e];exact ⟨fun i hi=>Lr.row hi,fun i hi=>Lr.row hi⟩
 · rw [e]
   have hg0:sg f p r r c≠0:=by rw [sg_r];exact h3
   have hrm:r<m:=by omega
   have hsg:∀ i,i<m→Lr m f (sg f p r i):=by
    intro i hi
    by_cases ep:i=p
    · rw [ep,sg_p];exact Lr.row hrm
    · by_cases er:i=r
      · rw [er,sg_r];exact Lr.row h2
      · rw [w0t ep er];exact Lr.row hi
   refine ⟨fun i hi=>?_,fun i hi=>?_⟩
   · by_cases er:i=r
     · refine ((hsg r hrm).mul (1 / sg f p r r c)).cong fun j=>?_
       simp only [st,if_pos er,Rat.div_def];grind
     · refine ((hsg i hi).sub ((hsg r hrm).mul (sg f p r i c / sg f p r r c))).cong fun j=>?_
       simp only [st,if_neg er,Rat.div_def];grind
   · have hback:∀ i,i<m→Lr m (st (sg f p r) r c) (sg f p r i):=by
      have hR:Lr m (st (sg f p r) r c) (fun j=>sg f p r r j / sg f p r r c):=(Lr.row (f:=st (sg f p r) r c) hrm).cong fun j=>by simp [st]
      intro i hi
      by_cases er:i=r
      · refine (hR.mul (sg f p r r c)).cong fun j=>?_
        rw [er,Rat.div_def];grind
      · refine ((Lr.row (f:=st (sg f p r) r c) hi).sub (hR.mul (-sg f p r i c))).cong fun j=>?_
        simp only [st,if_neg er];grind
     by_cases ep:i=p
     · rw [ep];exact (hback r hrm).cong fun j=>by rw [sg_r]
     · by_cases er:i=r
       · rw [er];exact (hback p h2).cong fun j=>by rw [sg_p]
       · exact (hback i hi).cong fun j=>by rw [w0t ep er]
def s0 (f:Mx):El:=(f,0,1)
def rk (m w:Nat) (f:Mx):Nat:=(el m w (s0 f)).2.1
def dtE (n:Nat) (f:Mx):Rat:=if rk n n f<n then 0 else (el n n (s0 f)).2.2
theorem x2j (m k:Nat) (s:El):el m (k+1) s=e1 m k (el m k s):=rfl
theorem j7d (m w:Nat) (f:Mx):rk m w f≤m∧rk m w f≤w:=by
 obtain ⟨q,h⟩:=x3s m f w
 exact ⟨h.rm,h.rc⟩
theorem lr_el (m:Nat) (f:Mx) (k:Nat):(∀ i,i<m→Lr m f ((el m k (s0 f)).1 i))∧∀ i,i<m→Lr m (el m k (s0 f)).1 (f i):=by
 induction k with
 | zero=>exact ⟨fun i hi=>Lr.row hi,fun i hi=>Lr.row hi⟩
 | succ k ih =>
  obtain ⟨q,hq⟩:=x3s m f k
  rw [x2j]
  revert ih hq
  rw [show el m k (f,0,1)=el m k (s0 f) from rfl]
  generalize el m k (s0 f)=s
  obtain ⟨g,r,d⟩:=s
  intro ih hq
  have h:=lr_e1 (c:=k) (f:=g) (d:=d) hq.rm
  exact ⟨fun i hi=>(h.1 i hi).trans ih.1,fun i hi=>(ih.2 i hi).trans h.2⟩
theorem q3j (m:Nat) (f:Mx) (k:Nat):(∃ E:Mx,∀ i,i<m→∀ j,(el m k (s0 f)).1 i j=mm m E f i j)∧∃ F:Mx,∀ i,i<m→∀ j,f i j=mm m F (el m k (s0 f)).1 i j :=
 ⟨Lr.mat (lr_el m f k).1,Lr.mat (lr_el m f k).2⟩
theorem mm_st {n r c i j:Nat} {g B:Mx}:mm n (st g r c) B i j=if i=r then (1 / g r c)*mm n g B r j else mm n g B i j-g i c*((1 / g r c)*mm n g B r j):=by
 have e:∀ l,g r l / g r c=(1 / g r c)*g r l:=fun l=>by rw [Rat.div_def,Rat.div_def];grind
 simp only [mm,st]
 split
 · rw [← y7k];exact N2 fun l _=>by rw [e];grind
 · rw [← y7k,← y7k,← v2g];exact N2 fun l _=>by rw [e];grind
theorem dt_st {n r c:Nat} (hn:n≤4) (hr:r<n) {g:Mx} (h:g r c≠0) (B:Mx):dt n (mm n g B)=g r c*dt n (mm n (st g r c) B):=by
 rw [y6t hn (f:=mm n (st g r c) B) (fun i j _ _=>mm_st),dt_sub hn hr (mm n g B) (fun i=>g i c) (fun j=>(1 / g r c)*mm n g B r j),q7d hn hr,y6t hn (f:=fun i j=>if i=r then mm n g B r j else mm n g B i j) (g:=mm n g B) (fun i j _ _=>by
  by_cases e:i=r
  · rw [if_pos e,e]
  · rw [if_neg e]),Rat.div_def]
 have:=Rat.mul_inv_cancel _ h
 grind
theorem dt_el {n:Nat} (hn:n≤4) (f:Mx) (k:Nat):(el n k (s0 f)).2.2≠0∧∀ B,dt n (mm n f B)=(el n k (s0 f)).2.2*dt n (mm n (el n k (s0 f)).1 B):=by
 induction k with
 | zero=>exact ⟨by simp [el,s0],fun B=>by simp only [el,s0];grind⟩
 | succ k ih =>
  obtain ⟨q,hq⟩:=x3s n f k
  rw [x2j]
  revert ih hq
  rw [show el n k (f,0,1)=el n k (s0 f) from rfl]
  generalize el n k (s0 f)=s
  obtain ⟨g,r,d⟩:=s
  intro ih hq
  rcases k5h n k g r d hq.rm with ⟨e,hz⟩ | ⟨p,h1,h2,h3,e⟩
  · rw [e];exact ih
  · rw [e]
    have hg0:sg g p r r k≠0:=by rw [sg_r];exact h3
    have hr:r<n:=by omega
    have hd:d≠0:=ih.1
    have hd':(if p=r then d else -d)≠0:=by split <;> grind
    refine ⟨fun h0=>?_,fun B=>?_⟩
    · rcases Rat.mul_eq_zero.1 h0 with h | h
      · exact hd' h
      · exact hg0 h
    · have k1:=ih.2 B
      have k2:=dt_st hn hr hg0 B
      simp only at k1
      have k3:d*dt n (mm n g B)=(if p=r then d else -d)*dt n (mm n (sg g p r) B):=by
       by_cases ep:p=r
       · rw [if_pos ep]
         have:sg g p r=g:=by
          funext i;simp only [sg,ep];split <;> simp_all
         rw [this]
       · rw [if_neg ep,show mm n (sg g p r) B=sg (mm n g B) p r from rfl,w2d hn (by omega) h2];grind
      rw [k1,k3,k2]
      simp only;grind
theorem q3i {m n:Nat} {f:Mx} (h:rk m n f=n) {i j:Nat} (hi:i<m) (hj:j<n):(el m n (s0 f)).1 i j=dl i j:=by
 obtain ⟨q,hq⟩:=x3s m f n
 have hr:(el m n (f,0,1)).2.1=n:=h
 have h2:=hq.one j (by rw [hr];exact hj) i hi
 rw [hq.full hr j (by rw [hr];exact hj)] at h2
 exact h2
theorem v7l {m n:Nat} {f:Mx} {i j:Nat} (h:rk m n f≤i) (hi:i<m) (hj:j<n):(el m n (s0 f)).1 i j=0:=by
 obtain ⟨q,hq⟩:=x3s m f n
 exact hq.low i h hi j hj
theorem q7c {n:Nat} (hn:n≤4) (f B:Mx):dt n (mm n f B)=dtE n f*dt n B:=by
 have h:=(dt_el hn f n).2 B
 have hl:=(j7d n n f).1
 unfold dtE
 by_cases e:rk n n f<n
 · rw [if_pos e,h,v3i hn (r:=n-1) (by omega) (fun j hj=>by
    simp only [mm];exact y8u fun l hl=>by rw [v7l (by omega) (by omega) hl];grind)]
   grind
 · rw [if_neg e,h]
   congr 1
   exact y6t hn fun i j hi hj=>by
    rw [z9b (f':=dl) (g':=B) (fun l hl=>q3i (by omega) hi hl) (fun _ _=>rfl),one_mm hi]
theorem x6d {n:Nat} (hn:n≤4) (f:Mx):dtE n f=dt n f:=by
 have h:=q7c hn f dl
 rw [v7d hn,y6t hn (g:=f) (fun i j _ hj=>v1j hj)] at h
 rw [h];grind
theorem dt_mm {n:Nat} (hn:n≤4) (f B:Mx):dt n (mm n f B)=dt n f*dt n B:=by rw [q7c hn,x6d hn]
theorem dtE_mm {n:Nat} (hn:n≤4) (f g:Mx):dtE n (mm n f g)=dtE n f*dtE n g:=by rw [x6d hn,x6d hn,x6d hn,dt_mm hn]
theorem dtE_tp {n:Nat} (hn:n≤4) (f:Mx):dtE n (tp f)=dtE n f:=by rw [x6d hn,x6d hn,dt_tp hn]
theorem q7b {n:Nat} (hn:n≤4) (f:Mx):dtE n f=0↔rk n n f<n:=by
 unfold dtE
 by_cases h:rk n n f<n
 · rw [if_pos h];exact ⟨fun _=>h,fun _=>rfl⟩
 · rw [if_neg h];exact ⟨fun e=>absurd e (dt_el hn f n).1,fun e=>absurd e h⟩
theorem q6k (m w:Nat) (f:Mx):∃ X Y:Mx,∀ i,i<m→∀ j,j<w→f i j=mm (rk m w f) X Y i j:=by
 obtain ⟨F,hF⟩:=(q3j m f w).2
 refine ⟨F,(el m w (s0 f)).1,fun i hi j hj=>?_⟩
 rw [hF i hi j]
 exact w0v (j7d m w f).1 fun l h1 h2=>by rw [v7l h1 h2 hj];grind
theorem j7c {m w k:Nat} {f X Y:Mx} (h4:m≤4∨w≤4) (h:∀ i,i<m→∀ j,j<w→f i j=mm k X Y i j):rk m w f≤k:=by
 have hle:=j7d m w f
 by_cases hk:rk m w f≤k
 · exact hk
 · exfalso
   obtain ⟨q,hq⟩:=x3s m f w
   obtain ⟨E,hE⟩:=(q3j m f w).1
   have hr4:rk m w f≤4:=by omega
   have hq1:=hq.one
   have hq2:=hq.lt
   change ∀ i,i<rk m w f→∀ k,k<m→(el m w (s0 f)).1 k (q i)=dl k i at hq1
   change ∀ i,i<rk m w f→q i<w at hq2
   revert hq1 hq2 hle hk hr4
   generalize rk m w f=r
   intro hle hk hr4 hq1 hq2
   have e:∀ i j,i<r→j<r→dl i j=mm r (fun i l=>if l<k then mm m E X i l else 0) (fun l j=>Y l (q j)) i j:=by
    intro i j hi hj
    rw [← hq1 j hj i (by omega),hE i (by omega),show mm r (fun i l=>if l<k then mm m E X i l else 0) (fun l j=>Y l (q j)) i j=mm k (mm m E X) (fun l j=>Y l (q j)) i j from ?_]
    · rw [q7y]
      exact z9b (fun _ _=>rfl) fun l hl=>h l hl (q j) (hq2 j hj)
    · simp only [mm]
      rw [w0v (n:=r) (k:=k) (by omega) (fun l h1 h2=>by rw [if_neg (by omega)];grind)]
      exact N2 fun l hl=>by rw [if_pos hl]
   have e1:=y6t hr4 e
   rw [v7d hr4,dt_mm hr4,← dt_tp hr4,v3i hr4 (f:=tp _) (r:=r-1) (by omega) (fun j _=>by simp only [tp];rw [if_neg (by omega)])] at e1
   grind
theorem q9x {m w:Nat} (h:m≤4∨w≤4) (f:Mx):rk w m (tp f)≤rk m w f:=by
 obtain ⟨X,Y,hx⟩:=q6k m w f
 exact j7c (X:=tp Y) (Y:=tp X) (by omega) fun i hi j hj=>by
  rw [← tp_mm];exact hx j hj i hi
theorem rk_tp {m w:Nat} (h:m≤4∨w≤4) (f:Mx):rk w m (tp f)=rk m w f :=
 Nat.le_antisymm (q9x h f) (q9x (f:=tp f) (by omega))
theorem rk_mm {m k w:Nat} (h:m≤4∨w≤4) (f g:Mx):rk m w (mm k f g)≤rk m k f:=by
 obtain ⟨X,Y,hx⟩:=q6k m k f
 exact j7c (X:=X) (Y:=mm k Y g) h fun i hi j hj=>by
  rw [← q7y];exact z9b (fun l hl=>hx i hi l hl) fun _ _=>rfl
def aug (n:Nat) (A B:Mx):Mx:=fun i j=>if j<n then A i j else B i (j-n)
def sol (n:Nat) (A B:Mx):Mx:=fun i j=>(el n n (s0 (aug n A B))).1 i (n+j)
theorem j3m {n i j:Nat} {A B:Mx} (h:j<n):aug n A B i j=A i j:=by simp only [aug,if_pos h]
theorem q6w {n i j:Nat} {A B:Mx}:aug n A B i (n+j)=B i j:=by simp only [aug];rw [if_neg (by omega),Nat.add_sub_cancel_left]
theorem q2h {n:Nat} {A B:Mx} (h:rk n n (aug n A B)=n) {i j:Nat} (hi:i<n):mm n A (sol n A B) i j=B i j:=by
 obtain ⟨F,hF⟩:=(q3j n (aug n A B) n).2
 rw [← q6w (n:=n) (A:=A) (B:=B) (i:=i) (j:=j),hF i hi]
 refine N2 fun l hl=>?_
 have e:=hF i hi l
 rw [j3m hl,z9b (f':=F) (g':=dl) (fun _ _=>rfl) (fun a ha=>q3i h ha hl),v1j hl] at e
 rw [e];rfl
theorem v0e {n:Nat} {A B:Mx} (h:rk n n (aug n A B)=n):∃ E:Mx,(∀ i,i<n→∀ j,j<n→mm n E A i j=dl i j)∧∀ i,i<n→∀ j,sol n A B i j=mm n E B i j:=by
 obtain ⟨E,hE⟩:=(q3j n (aug n A B) n).1
 refine ⟨E,fun i hi j hj=>?_,fun i hi j=>?_⟩
 · rw [← q3i h hi hj,hE i hi]
   exact z9b (fun _ _=>rfl) fun l _=>(j3m hj).symm
 · simp only [sol];rw [hE i hi]
   exact N2 fun l _=>by rw [q6w]
theorem v9m {f:Mx} {σ:Nat→Nat} {c:Nat} (h:σ c=c):∀ k p,pv (fun i j=>f i (σ j)) c k p=pv f c k p
 | 0,p=>rfl
 | k+1,p=>by simp only [pv,h,v9m h k]
theorem e1_sel {m c:Nat} {f:Mx} {r:Nat} {d:Rat} {σ:Nat→Nat} (h:σ c=c):e1 m c (fun i j=>f i (σ j),r,d)=(fun i j=>(e1 m c (f,r,d)).1 i (σ j),(e1 m c (f,r,d)).2):=by
 simp only [e1,v9m h]
 split
 · refine Prod.ext (funext fun i=>funext fun j=>?_) (Prod.ext rfl ?_)
   · simp only [st,sg,h]
   · simp only [sg,h]
 · rfl
theorem q3k {m:Nat} {f:Mx} {σ:Nat→Nat}:∀ k,(∀ c,c<k→σ c=c)→el m k (s0 fun i j=>f i (σ j))=(fun i j=>(el m k (s0 f)).1 i (σ j),(el m k (s0 f)).2)
 | 0,_=>rfl
 | k+1,h=>by
  rw [x2j,q3k k (fun c hc=>h c (by omega)),x2j]
  exact e1_sel (h k (by omega))
theorem y0s {n:Nat} {A B:Mx}:rk n n (aug n A B)=rk n n A:=by
 have k:∀ C:Mx,rk n n (fun i j=>C i (if j<n then j else 0))=rk n n C:=fun C=>by
  unfold rk;rw [q3k (σ:=fun j=>if j<n then j else 0) n (fun c hc=>if_pos hc)]
 rw [← k,← k A]
 by_cases h0:n=0
 · subst h0;rfl
 · congr 1;funext i j
   split
   · rename_i h;rw [j3m h]
   · rw [j3m (by omega)]
theorem w3l {n k i:Nat} {A B:Mx} (v:Nat→Rat) (h:∀ i,B i k=v i):sol n A B i k=sol n A (fun i _=>v i) i 0:=by
 simp only [sol]
 have e:=q3k (m:=n) (f:=aug n A B) (σ:=fun j=>if j<n then j else n+k) n (fun c hc=>if_pos hc)
 have e2:=q3k (m:=n) (f:=aug n A (fun i _=>v i)) (σ:=fun j=>if j<n then j else n) n (fun c hc=>if_pos hc)
 have e3:(fun i j=>aug n A B i (if j<n then j else n+k))=fun i j=>aug n A (fun i _=>v i) i (if j<n then j else n):=by
  funext i j
  split
  · rename_i h;rw [j3m h,j3m h]
  · have:=q6w (n:=n) (A:=A) (B:=fun i _=>v i) (i:=i) (j:=0)
    rw [q6w,h];exact this.symm
 rw [e3] at e
 have e4:=congrArg (fun s:El=>s.1 i n) (e.symm.trans e2)
 simpa using e4
theorem Sz.negif {x:Rat} {K:Nat} {p:Prop} [Decidable p] (h:Sz x K):Sz (if p then x else -x) K:=by
 split
 · exact h
 · exact h.neg
theorem sz_st {m w r c K:Nat} {g:Mx} (hr:r<m) (hc:c<w) (h:∀ i,i<m→∀ j,j<w→Sz (g i j) K):∀ i,i<m→∀ j,j<w→Sz (st g r c i j) (K*5):=by
 intro i hi j hj
 have h1:=(h r hr j hj).div (h r hr c hc)
 have h0:=h1.pos
 simp only [st]
 split
 · exact h1.mono (by omega)
 · exact ((h i hi j hj).sub ((h i hi c hc).mul h1)).mono (by omega)
theorem w0z {m w p r K:Nat} {f:Mx} (hp:p<m) (hr:r<m) (h:∀ i,i<m→∀ j,j<w→Sz (f i j) K):∀ i,i<m→∀ j,j<w→Sz (sg f p r i j) K:=by
 intro i hi j hj
 simp only [sg]
 split
 · exact h r hr j hj
 · split
   · exact h p hp j hj
   · exact h i hi j hj
theorem v0h {m w K:Nat} {f:Mx} (hK:1≤K) (h:∀ i,i<m→∀ j,j<w→Sz (f i j) K):∀ k,k≤w→(∀ i,i<m→∀ j,j<w→Sz ((el m k (s0 f)).1 i j) (K*5 ^ k))∧Sz (el m k (s0 f)).2.2 (K*5 ^ k)
 | 0,_=>⟨fun i hi j hj=>by simpa [el,s0] using h i hi j hj,by simpa [el,s0] using Sz.one.mono hK⟩
 | k+1,hk=>by
  have ih:=v0h hK h k (by omega)
  obtain ⟨q,hq⟩:=x3s m f k
  rw [x2j]
  revert ih hq
  rw [show el m k (f,0,1)=el m k (s0 f) from rfl]
  generalize el m k (s0 f)=s
  obtain ⟨g,r,d⟩:=s
  intro ih hq
  have e5:K*5 ^ (k+1)=K*5 ^ k*5:=by rw [Nat.pow_succ,Nat.mul_assoc]
  rw [e5]
  rcases k5h m k g r d hq.rm with ⟨e,hz⟩ | ⟨p,h1,h2,h3,e⟩
  · rw [e]
    exact ⟨fun i hi j hj=>(ih.1 i hi j hj).mono (by omega),ih.2.mono (by omega)⟩
  · rw [e]
    have z1:=w0z h2 (show r<m by omega) ih.1
    have z2:=sz_st (show r<m by omega) (show k<w by omega) z1
    have z3:=(Sz.negif (p:=p=r) ih.2).mul (z1 r (by omega) k (by omega))
    exact ⟨z2,z3.mono (by omega)⟩
theorem z6f {K:Nat}:∀ (n:Nat) (f:Nat→Rat),(∀ k,k<n→Sz (f k) K)→Sz (sm n f) ((K+1)*n+1)
 | 0,_,_=>Sz.zero.mono (by omega)
 | n+1,f,h=>((z6f n f fun k hk=>h k (by omega)).add (h n (by omega))).mono (by rw [Nat.mul_add];omega)
end Gb
namespace Gev
open Go Gb
variable {E:Env}
theorem A9 {α:Type} {l:List α} {i:Nat} {x:Option α} (h:l[i]?=x):l[(Int.toNat (i:Nat))]?=x:=by rw [Int.toNat_natCast];exact h
theorem z0j:1000000000≤Lim:=by rw [O6];omega
def tx (q:Rat):List DV:=[.str (B (decQ q))]
def rw' (c:Rat→List DV) (w:Nat) (v:Nat→Rat):RW:=(List.range w).map fun j=>c (v j)
def mx (c:Rat→List DV) (m w:Nat) (f:Mx):List (RW):=(List.range m).map fun i=>rw' c w (f i)
def rl (l:List (RW)):RW:=l.map fun x=>[DV.list x]
section
variable {c:Rat→List DV} {m w:Nat} {f g:Mx} {v u:Nat→Rat}
theorem B9:(rw' c w v).length=w:=by simp [rw']
theorem z8r:(mx c m w f).length=m:=by simp [mx]
theorem w0m {l:List (RW)}:(rl l).length=l.length:=by simp [rl]
theorem z6u {j:Nat} (h:j<w):(rw' c w v)[j]?=some (c (v j)):=by simp [rw',h]
theorem H1 {i:Nat} (h:i<m):(mx c m w f)[i]?=some (rw' c w (f i)):=by simp [mx,h]
theorem w0l {l:List (RW)} {i:Nat} {x:RW} (h:l[i]?=some x):(rl l)[i]?=some [.list x]:=by simp [rl,h]
theorem k4p {i:Nat} (h:i<m):(rl (mx c m w f))[i]?=some [.list (rw' c w (f i))]:=w0l (H1 h)
theorem X3 {k:Nat} (h:w≤k):(rw' c w v).take k=rw' c w v:=List.take_of_length_le (by rw [B9];exact h)
theorem x8r (h:∀ j,j<w→v j=u j):rw' c w v=rw' c w u:=by
 unfold rw';exact List.map_congr_left fun j hj=>by rw [h j (by simpa using hj)]
theorem J2 (h:∀ i,i<m→∀ j,j<w→f i j=g i j):mx c m w f=mx c m w g:=by
 unfold mx;exact List.map_congr_left fun i hi=>x8r (h i (by simpa using hi))
theorem z8f {α:Type} (n k:Nat) (h:Nat→α) (x:α):List.set ((List.range n).map h) k x=(List.range n).map fun j=>if j=k then x else h j:=by
 apply List.ext_getElem?
 intro j
 rw [List.getElem?_set]
 by_cases e:k=j
 · subst e
   by_cases hk:k<n
   · simp [hk]
   · simp [hk]
 · rw [if_neg e]
   by_cases hj:j<n
   · simp [hj,Ne.symm e]
   · simp [hj]
theorem rw_set {k:Nat} {x:Rat}:List.set (rw' c w v) k (c x)=rw' c w (fun j=>if j=k then x else v j):=by
 unfold rw';rw [z8f]
 exact List.map_congr_left fun j _=>by by_cases h:j=k <;> simp [h]
theorem mx_set {k:Nat}:List.set (mx c m w f) k (rw' c w v)=mx c m w (fun i j=>if i=k then v j else f i j):=by
 unfold mx;rw [z8f]
 exact List.map_congr_left fun i _=>by by_cases h:i=k <;> simp [h]
theorem z2x {k n:Nat} (h:w≤n) (e:∀ i,i<m→∀ j,j<w→g i j=if i=k then v j else f i j):List.set (mx c m w f) (Int.toNat (k:Nat)) ((rw' c w v).take n)=mx c m w g:=by
 rw [Int.toNat_natCast,X3 h,mx_set]
 exact J2 fun i hi j hj=>(e i hi j hj).symm
theorem y5z {k:Nat} {x:Rat} (e:∀ j,j<w→u j=if j=k then x else v j):List.set (rw' c w v) (Int.toNat (k:Nat)) (c x)=rw' c w u:=by
 rw [Int.toNat_natCast,rw_set]
 exact x8r fun j hj=>(e j hj).symm
theorem I4 {k n:Nat} (h:w≤n):List.set (mx c m w f) (Int.toNat (k:Nat)) ((rw' c w (f k)).take n)=mx c m w f :=
 z2x h fun i _ j _=>by split <;> simp_all
theorem x9p:rw' c w v++[c (v w)]=rw' c (w+1) v:=by
 unfold rw';rw [List.range_succ,List.map_append];rfl
theorem j2z:mx c m w f++[rw' c w (f m)]=mx c (m+1) w f:=by
 unfold mx;rw [List.range_succ,List.map_append];rfl
end
theorem q6l {w:Nat} {v:Nat→Rat}:∀ y∈rw' tx w v,y.length=1:=fun y hy=>by
 unfold rw' at hy
 obtain ⟨p,_,rfl⟩:=List.mem_map.1 hy;rfl
theorem Bq0:B (decQ 0)=⟨#[48]⟩:=by rw [y9z];rfl
theorem y4s {q:Rat}:B (decQ q)=⟨#[48]⟩↔q=0:=⟨fun h=>k5d (y0i (h.trans Bq0.symm)),fun h=>by rw [h,Bq0]⟩
theorem k5e:decQ 1=[49]:=by
 have:=x2h 1
 rw [show ((1:Int):Rat)=1 from rfl] at this
 rw [this,M5 (by decide)];exact y1c
theorem v2t:B (decQ 1)=⟨#[49]⟩:=by rw [k5e];rfl
end Gev
namespace Gev
open Go Gb
variable {E:Env}
attribute [local irreducible] Sz
theorem v3o (hlib:Lib E) {x y:Rat} {K L:Nat} (hx:Sz x K) (hy:Sz y L) (h:K+L+1≤Lim):Fn E z8a [.s (B (decQ x)),.s (B (decQ y))] (.s (B (decQ (x-y)))):=q4n (y4z hlib hx hy h)
theorem m_add (hlib:Lib E) {x y:Rat} {K L:Nat} (hx:Sz x K) (hy:Sz y L) (h:K+L+1≤Lim):Fn E y5n [.s (B (decQ x)),.s (B (decQ y))] (.s (B (decQ (x+y)))):=q4j (z5v hlib hx hy h)
theorem q1r (hlib:Lib E) {x y:Rat} {K L:Nat} (hx:Sz x K) (hy:Sz y L) (h:K+L≤Lim):Fn E z2q [.s (B (decQ x)),.s (B (decQ y))] (.s (B (decQ (x*y)))):=q4m (z5w hlib hx hy h)
theorem m_div (hlib:Lib E) {x y:Rat} {K L:Nat} (hx:Sz x K) (hy:Sz y L) (h:K+L≤Lim)(h0:y≠0):Fn E y5o [.s (B (decQ x)),.s (B (decQ y))] (.s (B (decQ (x / y)))):=q4k (j1r hlib hx hy h h0)
def g2 (f:Mx) (r:Nat) (x:Rat) (j:Nat):Mx:=fun i l=>if i=r then (if l<j then f r l / x else f r l) else f i l
def g4 (f:Mx) (r i:Nat) (y:Rat) (j:Nat):Mx:=fun a l=>if a=i then (if l<j then f i l-y*f r l else f i l) else f a l
def g3 (f:Mx) (r c i:Nat):Mx:=fun a l=>if a<i then (if a=r then f r l else f a l-f a c*f r l) else f a l
theorem g2_r {f:Mx} {r:Nat} {x:Rat} {j:Nat}:g2 f r x j r j=f r j:=by simp [g2]
theorem q3m {f:Mx} {r:Nat} {x:Rat} {j i l:Nat}:g2 f r x (j+1) i l=if i=r then (if l=j then f r j / x else g2 f r x j r l) else g2 f r x j i l:=by
 simp only [g2]
 by_cases h1:i=r
 · simp only [h1,if_true]
   by_cases h2:l=j
   · subst h2;simp
   · rw [if_neg h2]
     by_cases h3:l<j
     · rw [if_pos h3,if_pos (by omega)]
     · rw [if_neg h3,if_neg (by omega)]
 · simp only [h1,if_false]
theorem j2s {f:Mx} {r:Nat} {x:Rat} {i l:Nat}:g2 f r x 0 i l=f i l:=by
 simp only [g2];by_cases h:i=r <;> simp [h]
theorem y9g {f:Mx} {r:Nat} {x:Rat} {w i l:Nat} (h:l<w):g2 f r x w i l=if i=r then f r l / x else f i l:=by
 simp only [g2,h,if_true]
theorem g4_i {f:Mx} {r i:Nat} {y:Rat} {j:Nat}:g4 f r i y j i j=f i j:=by simp [g4]
theorem g4_r {f:Mx} {r i l:Nat} {y:Rat} {j:Nat} (h:r≠i):g4 f r i y j r l=f r l:=by simp [g4,h]
theorem q3o {f:Mx} {r i:Nat} {y:Rat} {j a l:Nat}:g4 f r i y (j+1) a l=if a=i then (if l=j then f i j-y*f r j else g4 f r i y j i l) else g4 f r i y j a l:=by
 simp only [g4]
 by_cases h1:a=i
 · simp only [h1,if_true]
   by_cases h2:l=j
   · subst h2;simp
   · rw [if_neg h2]
     by_cases h3:l<j
     · rw [if_pos h3,if_pos (by omega)]
     · rw [if_neg h3,if_neg (by omega)]
 · simp only [h1,if_false]
theorem j2v {f:Mx} {r i:Nat} {y:Rat} {a l:Nat}:g4 f r i y 0 a l=f a l:=by
 simp only [g4];by_cases h:a=i <;> simp [h]
theorem j4h {f:Mx} {r c i a l:Nat} (h:a<i):g3 f r c i a l=if a=r then f r l else f a l-f a c*f r l:=by simp only [g3,if_pos h]
theorem j4g {f:Mx} {r c i a l:Nat} (h:¬ a<i):g3 f r c i a l=f a l:=by simp only [g3,if_neg h]
theorem g3_i {f:Mx} {r c i l:Nat}:g3 f r c i i l=f i l:=j4g (by omega)
theorem g3_r {f:Mx} {r c i l:Nat}:g3 f r c i r l=f r l:=by
 by_cases h:r<i
 · rw [j4h h,if_pos rfl]
 · exact j4g h
theorem j2u {f:Mx} {r c a l:Nat}:g3 f r c 0 a l=f a l:=j4g (by omega)
theorem j2t {f:Mx} {r c i w a l:Nat} (h:i≠r) (hl:l<w):g4 (g3 f r c i) r i (f i c) w a l=g3 f r c (i+1) a l:=by
 simp only [g4,hl,if_true,g3_r,g3_i]
 by_cases h1:a=i
 · rw [if_pos h1,h1,j4h (by omega),if_neg h]
 · rw [if_neg h1]
   by_cases h2:a<i
   · rw [j4h h2,j4h (by omega)]
   · rw [j4g h2,j4g (by omega)]
theorem y8l {f:Mx} {r c i a l:Nat} (h:i=r∨f i c=0):g3 f r c (i+1) a l=g3 f r c i a l:=by
 by_cases h1:a=i
 · rw [h1,j4h (by omega),g3_i]
   by_cases h2:i=r
   · rw [if_pos h2,h2]
   · rw [if_neg h2]
     rcases h with h | h
     · exact absurd h h2
     · rw [h];grind
 · by_cases h2:a<i
   · rw [j4h h2,j4h (by omega)]
   · rw [j4g h2,j4g (by omega)]
theorem q3n {f:Mx} {r c m w i l:Nat} {x:Rat} (hx:f r c=x) (hc:c<w) (hi:i<m) (hl:l<w):g3 (g2 f r x w) r c m i l=st f r c i l:=by
 simp only [g3,hi,if_true,y9g hl,y9g hc,st,hx]
 by_cases h:i=r
 · simp [h]
 · simp [h]
theorem el_L1 {m w r c:Nat} {s:BA} {n ci:Int} {f:Mx} (hc:c<w) (hm:m≤1000):∀ k p,p+k=m →
    (pv f c k p<m→Lp E 1 A1 1 (K8 m (r:Nat) s (c:Nat) (p:Nat) n ci (mx tx m w f)) (.exit 2) (z2g m (r:Nat) s (c:Nat) n ci (pv f c k p:Nat) (mx tx m w f))) ∧
    (¬ pv f c k p<m→Lp E 1 A1 1 (K8 m (r:Nat) s (c:Nat) (p:Nat) n ci (mx tx m w f)) (.exit 1) (z6o m (r:Nat) s n ci (mx tx m w f)))
 | 0,p,h=>⟨fun hp=>by simp [pv] at hp;omega,fun _=>y9j (by omega)⟩
 | k+1,p,h=>by
  have g:=H1 (f:=f) (c:=tx) (w:=w) (show p<m by omega)
  have gc:(rw' tx w (f p))[c]?=some [.str (B (decQ (f p c)))]:=z6u hc
  by_cases e:f p c=0
  · have ep:pv f c (k+1) p=pv f c k (p+1):=by simp [pv,e]
    obtain ⟨a,b⟩:=el_L1 (r:=r) (s:=s) (n:=n) (ci:=ci) hc hm k (p+1) (by omega)
    rw [ep]
    exact ⟨fun hp=>y1l (by omega) (A9 g) ⟨by omega,by omega⟩ ⟨by omega,by omega⟩ (A9 gc) (y4s.2 e) B9 (I4 (Nat.le_refl _)) (wi (by omega)) (a hp),
     fun hp=>y1l (by omega) (A9 g) ⟨by omega,by omega⟩ ⟨by omega,by omega⟩ (A9 gc) (y4s.2 e) B9 (I4 (Nat.le_refl _)) (wi (by omega)) (b hp)⟩
  · have ep:pv f c (k+1) p=p:=by simp [pv,e]
    rw [ep]
    exact ⟨fun _=>y9k (by omega) (A9 g) ⟨by omega,by omega⟩ ⟨by omega,by omega⟩ (A9 gc) (fun x=>e (y4s.1 x)) B9 (I4 (Nat.le_refl _)),fun hp=>by omega⟩
theorem el_L2 (hlib:Lib E) {m w r c K:Nat} {s:BA} {x:Rat} {n ci:Int} {f:Mx} (hr:r<m) (hm:m≤1000) (hw:w≤1000) (hf:∀ j,j<w→Sz (f r j) K) (hx:Sz x K)(h0:x≠0) (hK:K+K≤Lim):∀ d j,j+d=w →
    Lp E 5 A1 2 (z0t m (r:Nat) s (c:Nat) (B (decQ x)) n ci (w:Nat) (j:Nat) (mx tx m w (g2 f r x j))) (.exit 4) (z6p m (r:Nat) s (c:Nat) n ci (mx tx m w (g2 f r x w)))
 | 0,j,h=>by
  have hj:j=w:=by omega
  subst hj
  exact y9l (by omega)
 | d+1,j,h=>by
  have hj:j<w:=by omega
  have gj:(rw' tx w (g2 f r x j r))[j]?=some [.str (B (decQ (f r j)))]:=by rw [z6u hj,g2_r];rfl
  exact x3b (by omega) (A9 (H1 hr)) ⟨by omega,by omega⟩ ⟨by omega,by omega⟩ (A9 gj) (m_div hlib (hf j hj) hx hK h0) B9 (y5z (c:=tx) (u:=fun l=>if l=j then f r j / x else g2 f r x j r l) (fun _ _=>rfl)) (z2x (g:=g2 f r x (j+1)) (Nat.le_refl _) (fun i _ l _=>q3m)) (wi (by omega)) (el_L2 hlib hr hm hw hf hx h0 hK d (j+1) (by omega))
theorem el_L4 (hlib:Lib E) {m w r c i K L:Nat} {s:BA} {y:Rat} {n ci:Int} {f:Mx} (hr:r<m) (hi:i<m) (hne:r≠i) (hm:m≤1000) (hw:w≤1000) (hf:∀ j,j<w→Sz (f i j) K) (hg:∀ j,j<w→Sz (f r j) L) (hy:Sz y K) (hK:K+(K+L)+1≤Lim):∀ d j,j+d=w →
    Lp E 7 A1 4 (z0u m (r:Nat) s (c:Nat) (i:Nat) (B (decQ y)) n ci (m:Nat) (i:Nat) (w:Nat) (j:Nat) (mx tx m w (g4 f r i y j))) (.exit 8) (z6r m (r:Nat) s (c:Nat) n ci (m:Nat) (i:Nat) (mx tx m w (g4 f r i y w)))
 | 0,j,h=>by
  have hj:j=w:=by omega
  subst hj
  exact y9n (by omega)
 | d+1,j,h=>by
  have hj:j<w:=by omega
  have gi:(rw' tx w (g4 f r i y j i))[j]?=some [.str (B (decQ (f i j)))]:=by rw [z6u hj,g4_i];rfl
  have gr:(rw' tx w (g4 f r i y j r))[j]?=some [.str (B (decQ (f r j)))]:=by rw [z6u hj,g4_r hne];rfl
  exact x3f (by omega) (A9 (H1 hi)) (A9 (H1 hr)) (by omega) ⟨by omega,by omega⟩ ⟨by omega,by omega⟩ (A9 gi) ⟨by omega,by omega⟩ ⟨by omega,by omega⟩ (A9 gr) (q1r hlib hy (hg j hj) (by omega)) (v3o hlib (hf j hj) (hy.mul (hg j hj)) hK) B9 B9 (y5z (c:=tx) (u:=fun l=>if l=j then f i j-y*f r j else g4 f r i y j i l) (fun _ _=>rfl)) (z2x (g:=g4 f r i y (j+1)) (Nat.le_refl _) (fun a _ l _=>q3o)) (z2x (g:=g4 f r i y (j+1)) (Nat.le_refl _) (fun a _ l _=>by
   by_cases e:a=r
   · rw [if_pos e,e,g4_r hne,g4_r hne]
   · rw [if_neg e])) (wi (by omega)) (el_L4 hlib hr hi hne hm hw hf hg hy hK d (j+1) (by omega))
theorem el_L3 (hlib:Lib E) {m w r c K L:Nat} {s:BA} {n ci:Int} {f:Mx} (hr:r<m) (hc:c<w) (hm:m≤1000) (hw:w≤1000) (hf:∀ i,i<m→∀ j,j<w→i≠r→Sz (f i j) K) (hg:∀ j,j<w→Sz (f r j) L) (hK:K+(K+L)+1≤Lim):∀ d i,i+d=m →
    Lp E 5 A1 3 (K9 m (r:Nat) s (c:Nat) n ci (m:Nat) (i:Nat) (mx tx m w (g3 f r c i))) (.exit 6) (z6q m (r:Nat) s n ci (mx tx m w (g3 f r c m)))
 | 0,i,h=>by
  have hi:i=m:=by omega
  subst hi
  exact y9m (by omega)
 | d+1,i,h=>by
  have hi:i<m:=by omega
  have ih:=el_L3 hlib (s:=s) (n:=n) (ci:=ci) hr hc hm hw hf hg hK d (i+1) (by omega)
  have gi:(rw' tx w (g3 f r c i i))[c]?=some [.str (B (decQ (f i c)))]:=by rw [z6u hc,g3_i];rfl
  by_cases e1:i=r
  · rw [J2 (f:=g3 f r c (i+1)) (g:=g3 f r c i) (fun a _ l _=>y8l (.inl e1))] at ih
    exact x3e (by omega) (A9 (H1 hi)) ⟨by omega,by omega⟩ ⟨by omega,by omega⟩ (A9 gi) (by omega) B9 (I4 (Nat.le_refl _)) (wi (by omega)) ih
  by_cases e2:f i c=0
  · rw [J2 (f:=g3 f r c (i+1)) (g:=g3 f r c i) (fun a _ l _=>y8l (.inr e2))] at ih
    exact x3d (by omega) (A9 (H1 hi)) ⟨by omega,by omega⟩ ⟨by omega,by omega⟩ (A9 gi) (by omega) (y4s.2 e2) B9 (I4 (Nat.le_refl _)) (wi (by omega)) ih
  · have h4:=el_L4 hlib (c:=c) (s:=s) (n:=n) (ci:=ci) (f:=g3 f r c i) (y:=f i c) hr hi (Ne.symm e1) hm hw (fun j hj=>by rw [g3_i];exact hf i hi j hj e1) (fun j hj=>by rw [g3_r];exact hg j hj) (hf i hi c hc e1) hK w 0 (by omega)
    rw [J2 (f:=g4 (g3 f r c i) r i (f i c) 0) (g:=g3 f r c i) (fun a _ l _=>j2v),J2 (f:=g4 (g3 f r c i) r i (f i c) w) (g:=g3 f r c (i+1)) (fun a _ l hl=>j2t e1 hl)] at h4
    exact x3c (by omega) (A9 (H1 hi)) ⟨by omega,by omega⟩ ⟨by omega,by omega⟩ (A9 gi) (by omega) (fun x=>e2 (y4s.1 x)) (A9 (H1 hi)) h4 B9 (I4 (Nat.le_refl _)) B9 (I4 (Nat.le_refl _)) (wi (by omega)) ih
theorem v7h (hlib:Lib E) {m w r c K:Nat} {s:BA} {x:Rat} {n ci:Int} {f:Mx} (hr:r<m) (hm:m≤1000) (hw:w≤1000) (hf:∀ j,j<w→Sz (f r j) K) (hx:Sz x K)(h0:x≠0) (hK:K+K≤Lim):∀ d j,j+d=w →
    Lp E 3 A1 2 (z0a m (r:Nat) s (c:Nat) (B (decQ x)) n ci (w:Nat) (j:Nat) (mx tx m w (g2 f r x j))) (.exit 4) (z5e m (r:Nat) s (c:Nat) n ci (mx tx m w (g2 f r x w)))
 | 0,j,h=>by
  have hj:j=w:=by omega
  subst hj
  exact y7t (by omega)
 | d+1,j,h=>by
  have hj:j<w:=by omega
  have gj:(rw' tx w (g2 f r x j r))[j]?=some [.str (B (decQ (f r j)))]:=by rw [z6u hj,g2_r];rfl
  exact x0r (by omega) (A9 (H1 hr)) ⟨by omega,by omega⟩ ⟨by omega,by omega⟩ (A9 gj) (m_div hlib (hf j hj) hx hK h0) B9 (y5z (c:=tx) (u:=fun l=>if l=j then f r j / x else g2 f r x j r l) (fun _ _=>rfl)) (z2x (g:=g2 f r x (j+1)) (Nat.le_refl _) (fun i _ l _=>q3m)) (wi (by omega)) (v7h hlib hr hm hw hf hx h0 hK d (j+1) (by omega))
theorem v7j (hlib:Lib E) {m w r c i K L:Nat} {s:BA} {y:Rat} {n ci:Int} {f:Mx} (hr:r<m) (hi:i<m) (hne:r≠i) (hm:m≤1000) (hw:w≤1000) (hf:∀ j,j<w→Sz (f i j) K) (hg:∀ j,j<w→Sz (f r j) L) (hy:Sz y K) (hK:K+(K+L)+1≤Lim):∀ d j,j+d=w →
    Lp E 5 A1 4 (z0b m (r:Nat) s (c:Nat) (i:Nat) (B (decQ y)) n ci (m:Nat) (i:Nat) (w:Nat) (j:Nat) (mx tx m w (g4 f r i y j))) (.exit 8) (z5g m (r:Nat) s (c:Nat) n ci (m:Nat) (i:Nat) (mx tx m w (g4 f r i y w)))
 | 0,j,h=>by
  have hj:j=w:=by omega
  subst hj
  exact y7v (by omega)
 | d+1,j,h=>by
  have hj:j<w:=by omega
  have gi:(rw' tx w (g4 f r i y j i))[j]?=some [.str (B (decQ (f i j)))]:=by rw [z6u hj,g4_i];rfl
  have gr:(rw' tx w (g4 f r i y j r))[j]?=some [.str (B (decQ (f r j)))]:=by rw [z6u hj,g4_r hne];rfl
  exact x0v (by omega) (A9 (H1 hi)) (A9 (H1 hr)) (by omega) ⟨by omega,by omega⟩ ⟨by omega,by omega⟩ (A9 gi) ⟨by omega,by omega⟩ ⟨by omega,by omega⟩ (A9 gr) (q1r hlib hy (hg j hj) (by omega)) (v3o hlib (hf j hj) (hy.mul (hg j hj)) hK) B9 B9 (y5z (c:=tx) (u:=fun l=>if l=j then f i j-y*f r j else g4 f r i y j i l) (fun _ _=>rfl)) (z2x (g:=g4 f r i y (j+1)) (Nat.le_refl _) (fun a _ l _=>q3o)) (z2x (g:=g4 f r i y (j+1)) (Nat.le_refl _) (fun a _ l _=>by
   by_cases e:a=r
   · rw [if_pos e,e,g4_r hne,g4_r hne]
   · rw [if_neg e])) (wi (by omega)) (v7j hlib hr hi hne hm hw hf hg hy hK d (j+1) (by omega))
theorem v7i (hlib:Lib E) {m w r c K L:Nat} {s:BA} {n ci:Int} {f:Mx} (hr:r<m) (hc:c<w) (hm:m≤1000) (hw:w≤1000) (hf:∀ i,i<m→∀ j,j<w→i≠r→Sz (f i j) K) (hg:∀ j,j<w→Sz (f r j) L) (hK:K+(K+L)+1≤Lim):∀ d i,i+d=m →
    Lp E 3 A1 3 (J1 m (r:Nat) s (c:Nat) n ci (m:Nat) (i:Nat) (mx tx m w (g3 f r c i))) (.exit 6) (z5f m (r:Nat) s n ci (mx tx m w (g3 f r c m)))
 | 0,i,h=>by
  have hi:i=m:=by omega
  subst hi
  exact y7u (by omega)
 | d+1,i,h=>by
  have hi:i<m:=by omega
  have ih:=v7i hlib (s:=s) (n:=n) (ci:=ci) hr hc hm hw hf hg hK d (i+1) (by omega)
  have gi:(rw' tx w (g3 f r c i i))[c]?=some [.str (B (decQ (f i c)))]:=by rw [z6u hc,g3_i];rfl
  by_cases e1:i=r
  · rw [J2 (f:=g3 f r c (i+1)) (g:=g3 f r c i) (fun a _ l _=>y8l (.inl e1))] at ih
    exact x0u (by omega) (A9 (H1 hi)) ⟨by omega,by omega⟩ ⟨by omega,by omega⟩ (A9 gi) (by omega) B9 (I4 (Nat.le_refl _)) (wi (by omega)) ih
  by_cases e2:f i c=0
  · rw [J2 (f:=g3 f r c (i+1)) (g:=g3 f r c i) (fun a _ l _=>y8l (.inr e2))] at ih
    exact x0t (by omega) (A9 (H1 hi)) ⟨by omega,by omega⟩ ⟨by omega,by omega⟩ (A9 gi) (by omega) (y4s.2 e2) B9 (I4 (Nat.le_refl _)) (wi (by omega)) ih
  · have h4:=v7j hlib (c:=c) (s:=s) (n:=n) (ci:=ci) (f:=g3 f r c i) (y:=f i c) hr hi (Ne.symm e1) hm hw (fun j hj=>by rw [g3_i];exact hf i hi j hj e1) (fun j hj=>by rw [g3_r];exact hg j hj) (hf i hi c hc e1) hK w 0 (by omega)
    rw [J2 (f:=g4 (g3 f r c i) r i (f i c) 0) (g:=g3 f r c i) (fun a _ l _=>j2v),J2 (f:=g4 (g3 f r c i) r i (f i c) w) (g:=g3 f r c (i+1)) (fun a _ l hl=>j2t e1 hl)] at h4
    exact x0s (by omega) (A9 (H1 hi)) ⟨by omega,by omega⟩ ⟨by omega,by omega⟩ (A9 gi) (by omega) (fun x=>e2 (y4s.1 x)) (A9 (H1 hi)) h4 B9 (I4 (Nat.le_refl _)) B9 (I4 (Nat.le_refl _)) (wi (by omega)) ih
theorem j3f {f:Mx} {p r a l:Nat}:sg f p r a l=if a=p then f r l else if a=r then f p l else f a l:=by
 simp only [sg];split
 · rfl
 · split <;> rfl
theorem el_L0 (hlib:Lib E) {m w n K:Nat} {f:Mx} (hn:n≤w) (hm:m≤1000) (hw:w≤1000) (hK1:1≤K) (hf:∀ i,i<m→∀ j,j<w→Sz (f i j) K) (hK:K*5 ^ n≤Lim):∀ k c,c+k=n →
    Lp E 1 A1 0 (K7 m ((el m c (s0 f)).2.1:Nat) (B (decQ (el m c (s0 f)).2.2)) (n:Nat) (c:Nat) (mx tx m w (el m c (s0 f)).1)) (.exit 0) (z6n ((el m n (s0 f)).2.1:Nat) (B (decQ (el m n (s0 f)).2.2)) (mx tx m w (el m n (s0 f)).1))
 | 0,c,h=>by
  have hc:c=n:=by omega
  subst hc
  exact y9i (by omega)
 | k+1,c,h=>by
  have ih:=el_L0 hlib hn hm hw hK1 hf hK k (c+1) (by omega)
  have z:=v0h hK1 hf c (by omega)
  have hK5:K*5 ^ c*5≤Lim:=by
   rw [Nat.mul_assoc,← Nat.pow_succ]
   exact Nat.le_trans (Nat.mul_le_mul_left _ (Nat.pow_le_pow_right (by omega) (by omega))) hK
  have hb1:1≤K*5 ^ c:=Nat.mul_pos hK1 (Nat.pow_pos (by omega))
  obtain ⟨q,hq⟩:=x3s m f c
  have hrm:=hq.rm
  rw [x2j] at ih
  change (el m c (s0 f)).2.1≤m at hrm
  revert ih z hrm
  generalize el m c (s0 f)=s
  generalize K*5 ^ c=Kc at hK5 hb1
  generalize el m n (s0 f)=sn
  obtain ⟨g,r,d⟩:=s
  intro ih z hrm
  simp only at ih z hrm ⊢
  obtain ⟨l1,l2⟩:=el_L1 (E:=E) (m:=m) (w:=w) (r:=r) (c:=c) (s:=B (decQ d)) (n:=(n:Nat)) (ci:=(c:Nat)) (f:=g) (by omega) hm (m-r) r (by omega)
  by_cases hp:pv g c (m-r) r<m
  · simp only [e1,if_pos hp] at ih
    have hp1:=(v3w g c (m-r) r).1
    have hp2:=v3x g c (m-r) r (by omega)
    replace l1:=l1 hp
    generalize pv g c (m-r) r=p at ih l1 hp hp1 hp2
    have hr:r<m:=by omega
    have hcw:c<w:=by omega
    have zG:=w0z hp hr z.1
    have hG0:sg g p r r c≠0:=by rw [sg_r];exact hp2
    have gP:(rw' tx w (sg g p r r))[c]?=some [.str (B (decQ (sg g p r r c)))]:=z6u hcw
    by_cases epr:p=r
    · have eG:sg g p r=g:=by funext i l;rw [j3f,epr];split <;> simp_all
      rw [if_pos epr,eG] at ih
      rw [eG] at zG hG0 gP
      have a2:=v7h hlib (c:=c) (s:=B (decQ (d*g r c))) (n:=(n:Nat)) (ci:=(c:Nat)) (f:=g) (x:=g r c) hr hm hw (zG r hr) (zG r hr c hcw) hG0 (by omega) w 0 (by omega)
      have a3:=v7i hlib (c:=c) (s:=B (decQ (d*g r c))) (n:=(n:Nat)) (ci:=(c:Nat)) (f:=g2 g r (g r c) w) (K:=Kc) (L:=Kc+Kc) hr hcw hm hw (fun i hi j hj hne=>by rw [y9g hj,if_neg hne];exact zG i hi j hj) (fun j hj=>by rw [y9g hj,if_pos rfl];exact (zG r hr j hj).div (zG r hr c hcw)) (by omega) m 0 (by omega)
      rw [J2 (f:=g2 g r (g r c) 0) (g:=g) (fun a _ l _=>j2s)] at a2
      rw [J2 (f:=g3 (g2 g r (g r c) w) r c 0) (g:=g2 g r (g r c) w) (fun a _ l _=>j2u),J2 (f:=g3 (g2 g r (g r c) w) r c m) (g:=st g r c) (fun a ha l hl=>q3n rfl hcw ha hl)] at a3
      exact x3a (by omega) l1 (by omega) (A9 (H1 hr)) ⟨by omega,by omega⟩ ⟨by omega,by omega⟩ (A9 gP) (q1r hlib z.2 (zG r hr c hcw) (by omega)) (A9 (H1 hr)) a2 a3 B9 (I4 (Nat.le_refl _)) B9 (I4 (Nat.le_refl _)) (wi (by omega)) (wi (by omega)) ih
    · rw [if_neg epr] at ih
      have hneg:(0:Rat)-d=-d:=by grind
      have a2:=el_L2 hlib (c:=c) (s:=B (decQ (-d*sg g p r r c))) (n:=(n:Nat)) (ci:=(c:Nat)) (f:=sg g p r) (x:=sg g p r r c) hr hm hw (zG r hr) (zG r hr c hcw) hG0 (by omega) w 0 (by omega)
      have a3:=el_L3 hlib (c:=c) (s:=B (decQ (-d*sg g p r r c))) (n:=(n:Nat)) (ci:=(c:Nat)) (f:=g2 (sg g p r) r (sg g p r r c) w) (K:=Kc) (L:=Kc+Kc) hr hcw hm hw (fun i hi j hj hne=>by rw [y9g hj,if_neg hne];exact zG i hi j hj) (fun j hj=>by rw [y9g hj,if_pos rfl];exact (zG r hr j hj).div (zG r hr c hcw)) (by omega) m 0 (by omega)
      rw [J2 (f:=g2 (sg g p r) r (sg g p r r c) 0) (g:=sg g p r) (fun a _ l _=>j2s)] at a2
      rw [J2 (f:=g3 (g2 (sg g p r) r (sg g p r r c) w) r c 0) (g:=g2 (sg g p r) r (sg g p r r c) w) (fun a _ l _=>j2u),J2 (f:=g3 (g2 (sg g p r) r (sg g p r r c) w) r c m) (g:=st (sg g p r) r c) (fun a ha l hl=>q3n rfl hcw ha hl)] at a3
      have hs:=v3o hlib (x:=0) (y:=d) (Sz.zero.mono hb1) z.2 (by omega)
      rw [hneg,Bq0] at hs
      exact x2z (by omega) l1 (by omega) (A9 (H1 hr)) (A9 (H1 hp)) (by omega) ⟨by omega,by omega⟩ ⟨by omega,by omega⟩ hs (A9 (H1 (f:=sg g p r) hr)) ⟨by omega,by omega⟩ (A9 gP) (q1r hlib z.2.neg (zG r hr c hcw) (by omega)) (A9 (H1 (f:=sg g p r) hr)) a2 a3 B9 B9 (z2x (g:=fun a l=>if a=r then g p l else g a l) (Nat.le_refl _) (fun _ _ _ _=>rfl)) (z2x (g:=sg g p r) (Nat.le_refl _) (fun a _ l _=>j3f)) B9 (I4 (Nat.le_refl _)) B9 (I4 (Nat.le_refl _)) (wi (by omega)) (wi (by omega)) ih
  · simp only [e1,if_neg hp] at ih
    exact x2y (by omega) (l2 hp) (wi (by omega)) ih
theorem x2k (hlib:Lib E) {m w n K:Nat} {f:Mx} (hn:n≤w) (hm:m≤1000) (hw:w≤1000) (hK1:1≤K) (hf:∀ i,i<m→∀ j,j<w→Sz (f i j) K) (hK:K*5 ^ n≤Lim) :
    Rn E A1 [.vec 0 m,.i (n:Nat)] [some (.mat A7 (mx tx m w f) [])] (.tup [.i ((el m n (s0 f)).2.1:Nat),.s (B (decQ (el m n (s0 f)).2.2))]) [some (.mat A7 (mx tx m w (el m n (s0 f)).1) [])]:=by
 have h:=el_L0 hlib hn hm hw hK1 hf hK n 0 (by omega)
 rw [show (el m 0 (s0 f))=s0 f from rfl] at h
 simp only [s0,v2t] at h
 exact k2y h
def qb (q:Rat):Bool:=decide (q.num<0)
def qn (q:Rat):RW:=Wr (words q.num.natAbs)
def qd (q:Rat):RW:=Wr (words q.den)
theorem z4f {w j:Nat} {v:Nat→Rat} {x:Rat} (h:j<w) (e:v j=x):(rw' Qr w v)[(Int.toNat (j:Nat))]?=some [.bool (qb x),.list (qn x),.list (qd x)]:=by
 rw [Int.toNat_natCast,z6u h,e];rfl
theorem y6i {x:Rat}:cmpI x.num 0=0↔x=0:=by rw [y6d,Rat.num_eq_zero]
theorem rd_L1 {m w r c:Nat} {n:Int} {f:Mx} {b0 b1:Bool} {r0 r1:RW} (hc:c<w) (hm:m≤1000):∀ k p,p+k=m →
    Lp E 3 A5 1 (z2m m n (r:Nat) (c:Nat) (p:Nat) (mx Qr m w f) b0 b1 r0 r1) (.exit 2) (z7a m n (r:Nat) (c:Nat) b0 b1 r0 r1 (pv f c k p:Nat) (mx Qr m w f))
 | 0,p,h=>x8j (by omega)
 | k+1,p,h=>by
  have hp:p<m:=by omega
  by_cases e:f p c=0
  · have ep:pv f c (k+1) p=pv f c k (p+1):=by simp [pv,e]
    rw [ep]
    exact k4d (A9 (H1 hp)) (by omega) ⟨by omega,by omega⟩ ⟨by omega,by omega⟩ (z4f hc rfl) (x9m _) (y6i.2 e) B9 (I4 (Nat.le_refl _)) (wi (by omega)) (rd_L1 hc hm k (p+1) (by omega))
  · have ep:pv f c (k+1) p=p:=by simp [pv,e]
    rw [ep]
    exact x8i (A9 (H1 hp)) (by omega) ⟨by omega,by omega⟩ ⟨by omega,by omega⟩ (z4f hc rfl) (x9m _) (fun x=>e (y6i.1 x)) B9 (I4 (Nat.le_refl _))
theorem rd_L2 {m w r c K:Nat} {x:Rat} {n:Int} {f:Mx} {b0 b1:Bool} {r0 r1:RW} (hr:r<m) (hm:m≤1000) (hw:w≤1000) (hf:∀ j,j<w→Sz (f r j) K) (hx:Sz x K) (hK:K+K≤Lim):∀ d j,j+d=w →
    Lp E 8 A5 2 (z5z m n (r:Nat) (c:Nat) (j:Nat) (mx Qr m w (g2 f r x j)) b0 b1 r0 r1 (qb x⁻¹) (qn x⁻¹) (qd x⁻¹)) (.exit 4) (y2a m n (r:Nat) (c:Nat) b0 b1 r0 r1 (qb x⁻¹) (qn x⁻¹) (qd x⁻¹) (mx Qr m w (g2 f r x w)))
 | 0,j,h=>by
  have hj:j=w:=by omega
  subst hj
  exact x8k (A9 (H1 hr)) ⟨by omega,by omega⟩ (by omega) B9 (I4 (Nat.le_refl _))
 | d+1,j,h=>by
  have hj:j<w:=by omega
  have hmul:Fn E K2 [.agg (Qr (f r j)),.agg (Qr x⁻¹)] (.agg (Qr (f r j / x))):=by
   rw [Rat.div_def];exact x7x (hf j hj) hx.inv (by omega)
  exact k4e (A9 (H1 hr)) ⟨by omega,by omega⟩ (by omega) (A9 (H1 hr)) ⟨by omega,by omega⟩ (z4f hj g2_r) hmul B9 (I4 (Nat.le_refl _)) B9 (y5z (c:=Qr) (u:=fun l=>if l=j then f r j / x else g2 f r x j r l) (fun _ _=>rfl)) (z2x (g:=g2 f r x (j+1)) (Nat.le_refl _) (fun i _ l _=>q3m)) (wi (by omega)) (rd_L2 hr hm hw hf hx hK d (j+1) (by omega))
theorem rd_L4 {m w r c i K L:Nat} {y x:Rat} {n:Int} {f:Mx} {b0 b1:Bool} {r0 r1:RW} (hr:r<m) (hi:i<m) (hne:r≠i) (hm:m≤1000) (hw:w≤1000) (hf:∀ j,j<w→Sz (f i j) K) (hg:∀ j,j<w→Sz (f r j) L) (hy:Sz y K) (hK:K+(K+L)+1≤Lim):∀ d j,j+d=w →
    Lp E 10 A5 4 (z6a m n (r:Nat) (c:Nat) (i:Nat) (j:Nat) (mx Qr m w (g4 f r i y j)) b0 b1 r0 r1 (qb x) (qn x) (qd x) (qb y) (qn y) (qd y)) (.exit 8) (y2c m n (r:Nat) (c:Nat) (i:Nat) b0 b1 r0 r1 (qb x) (qn x) (qd x) (qb y) (qn y) (qd y) (mx Qr m w (g4 f r i y w)))
 | 0,j,h=>by
  have hj:j=w:=by omega
  subst hj
  exact x8m (A9 (H1 hi)) ⟨by omega,by omega⟩ (by omega) B9 (I4 (Nat.le_refl _))
 | d+1,j,h=>by
  have hj:j<w:=by omega
  have hmul:Fn E K2 [.agg (Qr y),.agg (Qr (f r j))] (.agg (Qr (y*f r j))):=x7x hy (hg j hj) (by omega)
  have hsub:Fn E z4q [.agg (Qr (f i j)),.agg (Qr (y*f r j))] (.agg (Qr (f i j-y*f r j))):=v1u (hf j hj) (hy.mul (hg j hj)) (by omega)
  exact k4i (A9 (H1 hi)) ⟨by omega,by omega⟩ (by omega) (A9 (H1 hi)) (A9 (H1 hr)) (by omega) ⟨by omega,by omega⟩ (z4f hj g4_i) ⟨by omega,by omega⟩ ⟨by omega,by omega⟩ (z4f hj (g4_r hne)) hmul hsub B9 (I4 (Nat.le_refl _)) B9 B9 (y5z (c:=Qr) (u:=fun l=>if l=j then f i j-y*f r j else g4 f r i y j i l) (fun _ _=>rfl)) (z2x (g:=g4 f r i y (j+1)) (Nat.le_refl _) (fun a _ l _=>q3o)) (z2x (g:=g4 f r i y (j+1)) (Nat.le_refl _) (fun a _ l _=>by
   by_cases e:a=r
   · rw [if_pos e,e,g4_r hne,g4_r hne]
   · rw [if_neg e])) (wi (by omega)) (rd_L4 hr hi hne hm hw hf hg hy hK d (j+1) (by omega))
theorem rd_L3 {m w r c K L:Nat} {x:Rat} {n:Int} {f:Mx} {b0 b1:Bool} {r0 r1:RW} (hr:r<m) (hc:c<w) (hm:m≤1000) (hw:w≤1000) (hf:∀ i,i<m→∀ j,j<w→i≠r→Sz (f i j) K) (hg:∀ j,j<w→Sz (f r j) L) (hK:K+(K+L)+1≤Lim):∀ d i,i+d=m →
    Lp E 8 A5 3 (U1 m n (r:Nat) (c:Nat) (i:Nat) (mx Qr m w (g3 f r c i)) b0 b1 r0 r1 (qb x) (qn x) (qd x)) (.exit 6) (y2b m n (r:Nat) (c:Nat) b0 b1 r0 r1 (qb x) (qn x) (qd x) (mx Qr m w (g3 f r c m)))
 | 0,i,h=>by
  have hi:i=m:=by omega
  subst hi
  exact x8l (by omega)
 | d+1,i,h=>by
  have hi:i<m:=by omega
  have ih:=rd_L3 (n:=n) (b0:=b0) (b1:=b1) (r0:=r0) (r1:=r1) (x:=x) hr hc hm hw hf hg hK d (i+1) (by omega)
  by_cases e1:i=r
  · rw [J2 (f:=g3 f r c (i+1)) (g:=g3 f r c i) (fun a _ l _=>y8l (.inl e1))] at ih
    exact k4h (by omega) (A9 (H1 hi)) ⟨by omega,by omega⟩ ⟨by omega,by omega⟩ (z4f hc g3_i) (by omega) B9 (I4 (Nat.le_refl _)) (wi (by omega)) ih
  by_cases e2:f i c=0
  · rw [J2 (f:=g3 f r c (i+1)) (g:=g3 f r c i) (fun a _ l _=>y8l (.inr e2))] at ih
    exact k4g (by omega) (A9 (H1 hi)) ⟨by omega,by omega⟩ ⟨by omega,by omega⟩ (z4f hc g3_i) (by omega) (x9m _) (y6i.2 e2) B9 (I4 (Nat.le_refl _)) (wi (by omega)) ih
  · have h4:=rd_L4 (E:=E) (c:=c) (n:=n) (b0:=b0) (b1:=b1) (r0:=r0) (r1:=r1) (x:=x) (f:=g3 f r c i) (y:=f i c) hr hi (Ne.symm e1) hm hw (fun j hj=>by rw [g3_i];exact hf i hi j hj e1) (fun j hj=>by rw [g3_r];exact hg j hj) (hf i hi c hc e1) hK w 0 (by omega)
    rw [J2 (f:=g4 (g3 f r c i) r i (f i c) 0) (g:=g3 f r c i) (fun a _ l _=>j2v),J2 (f:=g4 (g3 f r c i) r i (f i c) w) (g:=g3 f r c (i+1)) (fun a _ l hl=>j2t e1 hl)] at h4
    exact k4f (by omega) (A9 (H1 hi)) ⟨by omega,by omega⟩ ⟨by omega,by omega⟩ (z4f hc g3_i) (by omega) (x9m _) (fun x=>e2 (y6i.1 x)) h4 B9 (I4 (Nat.le_refl _)) (wi (by omega)) ih
theorem w0g {m w r c K:Nat} {x:Rat} {n:Int} {f:Mx} {b0 b1:Bool} {r0 r1:RW} (hr:r<m) (hm:m≤1000) (hw:w≤1000) (hf:∀ j,j<w→Sz (f r j) K) (hx:Sz x K) (hK:K+K≤Lim):∀ d j,j+d=w →
    Lp E 6 A5 2 (z4h m n (r:Nat) (c:Nat) (j:Nat) (mx Qr m w (g2 f r x j)) b0 b1 r0 r1 (qb x⁻¹) (qn x⁻¹) (qd x⁻¹)) (.exit 4) (y0f m n (r:Nat) (c:Nat) b0 b1 r0 r1 (qb x⁻¹) (qn x⁻¹) (qd x⁻¹) (mx Qr m w (g2 f r x w)))
 | 0,j,h=>by
  have hj:j=w:=by omega
  subst hj
  exact x5o (A9 (H1 hr)) ⟨by omega,by omega⟩ (by omega) B9 (I4 (Nat.le_refl _))
 | d+1,j,h=>by
  have hj:j<w:=by omega
  have hmul:Fn E K2 [.agg (Qr (f r j)),.agg (Qr x⁻¹)] (.agg (Qr (f r j / x))):=by
   rw [Rat.div_def];exact x7x (hf j hj) hx.inv (by omega)
  exact k1n (A9 (H1 hr)) ⟨by omega,by omega⟩ (by omega) (A9 (H1 hr)) ⟨by omega,by omega⟩ (z4f hj g2_r) hmul B9 (I4 (Nat.le_refl _)) B9 (y5z (c:=Qr) (u:=fun l=>if l=j then f r j / x else g2 f r x j r l) (fun _ _=>rfl)) (z2x (g:=g2 f r x (j+1)) (Nat.le_refl _) (fun i _ l _=>q3m)) (wi (by omega)) (w0g hr hm hw hf hx hK d (j+1) (by omega))
theorem w0i {m w r c i K L:Nat} {y x:Rat} {n:Int} {f:Mx} {b0 b1:Bool} {r0 r1:RW} (hr:r<m) (hi:i<m) (hne:r≠i) (hm:m≤1000) (hw:w≤1000) (hf:∀ j,j<w→Sz (f i j) K) (hg:∀ j,j<w→Sz (f r j) L) (hy:Sz y K) (hK:K+(K+L)+1≤Lim):∀ d j,j+d=w →
    Lp E 8 A5 4 (z4i m n (r:Nat) (c:Nat) (i:Nat) (j:Nat) (mx Qr m w (g4 f r i y j)) b0 b1 r0 r1 (qb x) (qn x) (qd x) (qb y) (qn y) (qd y)) (.exit 8) (y0h m n (r:Nat) (c:Nat) (i:Nat) b0 b1 r0 r1 (qb x) (qn x) (qd x) (qb y) (qn y) (qd y) (mx Qr m w (g4 f r i y w)))
 | 0,j,h=>by
  have hj:j=w:=by omega
  subst hj
  exact x5q (A9 (H1 hi)) ⟨by omega,by omega⟩ (by omega) B9 (I4 (Nat.le_refl _))
 | d+1,j,h=>by
  have hj:j<w:=by omega
  have hmul:Fn E K2 [.agg (Qr y),.agg (Qr (f r j))] (.agg (Qr (y*f r j))):=x7x hy (hg j hj) (by omega)
  have hsub:Fn E z4q [.agg (Qr (f i j)),.agg (Qr (y*f r j))] (.agg (Qr (f i j-y*f r j))):=v1u (hf j hj) (hy.mul (hg j hj)) (by omega)
  exact k1r (A9 (H1 hi)) ⟨by omega,by omega⟩ (by omega) (A9 (H1 hi)) (A9 (H1 hr)) (by omega) ⟨by omega,by omega⟩ (z4f hj g4_i) ⟨by omega,by omega⟩ ⟨by omega,by omega⟩ (z4f hj (g4_r hne)) hmul hsub B9 (I4 (Nat.le_refl _)) B9 B9 (y5z (c:=Qr) (u:=fun l=>if l=j then f i j-y*f r j else g4 f r i y j i l) (fun _ _=>rfl)) (z2x (g:=g4 f r i y (j+1)) (Nat.le_refl _) (fun a _ l _=>q3o)) (z2x (g:=g4 f r i y (j+1)) (Nat.le_refl _) (fun a _ l _=>by
   by_cases e:a=r
   · rw [if_pos e,e,g4_r hne,g4_r hne]
   · rw [if_neg e])) (wi (by omega)) (w0i hr hi hne hm hw hf hg hy hK d (j+1) (by omega))
theorem w0h {m w r c K L:Nat} {x:Rat} {n:Int} {f:Mx} {b0 b1:Bool} {r0 r1:RW} (hr:r<m) (hc:c<w) (hm:m≤1000) (hw:w≤1000) (hf:∀ i,i<m→∀ j,j<w→i≠r→Sz (f i j) K) (hg:∀ j,j<w→Sz (f r j) L) (hK:K+(K+L)+1≤Lim):∀ d i,i+d=m →
    Lp E 6 A5 3 (O9 m n (r:Nat) (c:Nat) (i:Nat) (mx Qr m w (g3 f r c i)) b0 b1 r0 r1 (qb x) (qn x) (qd x)) (.exit 6) (y0g m n (r:Nat) (c:Nat) b0 b1 r0 r1 (qb x) (qn x) (qd x) (mx Qr m w (g3 f r c m)))
 | 0,i,h=>by
  have hi:i=m:=by omega
  subst hi
  exact x5p (by omega)
 | d+1,i,h=>by
  have hi:i<m:=by omega
  have ih:=w0h (n:=n) (b0:=b0) (b1:=b1) (r0:=r0) (r1:=r1) (x:=x) hr hc hm hw hf hg hK d (i+1) (by omega)
  by_cases e1:i=r
  · rw [J2 (f:=g3 f r c (i+1)) (g:=g3 f r c i) (fun a _ l _=>y8l (.inl e1))] at ih
    exact k1q (by omega) (A9 (H1 hi)) ⟨by omega,by omega⟩ ⟨by omega,by omega⟩ (z4f hc g3_i) (by omega) B9 (I4 (Nat.le_refl _)) (wi (by omega)) ih
  by_cases e2:f i c=0
  · rw [J2 (f:=g3 f r c (i+1)) (g:=g3 f r c i) (fun a _ l _=>y8l (.inr e2))] at ih
    exact k1p (by omega) (A9 (H1 hi)) ⟨by omega,by omega⟩ ⟨by omega,by omega⟩ (z4f hc g3_i) (by omega) (x9m _) (y6i.2 e2) B9 (I4 (Nat.le_refl _)) (wi (by omega)) ih
  · have h4:=w0i (E:=E) (c:=c) (n:=n) (b0:=b0) (b1:=b1) (r0:=r0) (r1:=r1) (x:=x) (f:=g3 f r c i) (y:=f i c) hr hi (Ne.symm e1) hm hw (fun j hj=>by rw [g3_i];exact hf i hi j hj e1) (fun j hj=>by rw [g3_r];exact hg j hj) (hf i hi c hc e1) hK w 0 (by omega)
    rw [J2 (f:=g4 (g3 f r c i) r i (f i c) 0) (g:=g3 f r c i) (fun a _ l _=>j2v),J2 (f:=g4 (g3 f r c i) r i (f i c) w) (g:=g3 f r c (i+1)) (fun a _ l hl=>j2t e1 hl)] at h4
    exact k1o (by omega) (A9 (H1 hi)) ⟨by omega,by omega⟩ ⟨by omega,by omega⟩ (z4f hc g3_i) (by omega) (x9m _) (fun x=>e2 (y6i.1 x)) h4 B9 (I4 (Nat.le_refl _)) (wi (by omega)) ih
def dR (c:Nat) (s:El):Rat:=if s.2.1=c then s.2.2 else 0
theorem rd_L0 {m w n K:Nat} {f:Mx} (hn:n≤w) (hm:m≤1000) (hw:w≤1000) (hK1:1≤K) (hf:∀ i,i<m→∀ j,j<w→Sz (f i j) K) (hK:K*5 ^ n≤Lim):∀ k c,c+k=n →
    Lp E 3 A5 0 (P9 m (n:Nat) ((el m c (s0 f)).2.1:Nat) (c:Nat) (mx Qr m w (el m c (s0 f)).1) false (qb (dR c (el m c (s0 f)))) (qn (dR c (el m c (s0 f)))) (qd (dR c (el m c (s0 f))))) (.exit 0) (y1z false ((el m n (s0 f)).2.1:Nat) (mx Qr m w (el m n (s0 f)).1) (qb (dR n (el m n (s0 f)))) (qn (dR n (el m n (s0 f)))) (qd (dR n (el m n (s0 f)))))
 | 0,c,h=>by
  have hc:c=n:=by omega
  subst hc
  exact x8h (by omega)
 | k+1,c,h=>by
  have ih:=rd_L0 hn hm hw hK1 hf hK k (c+1) (by omega)
  have z:=v0h hK1 hf c (by omega)
  have hK5:K*5 ^ c*5≤Lim:=by
   rw [Nat.mul_assoc,← Nat.pow_succ]
   exact Nat.le_trans (Nat.mul_le_mul_left _ (Nat.pow_le_pow_right (by omega) (by omega))) hK
  have hb1:1≤K*5 ^ c:=Nat.mul_pos hK1 (Nat.pow_pos (by omega))
  obtain ⟨q,hq⟩:=x3s m f c
  have hrm:=hq.rm
  have hrc:=hq.rc
  rw [x2j] at ih
  change (el m c (s0 f)).2.1≤m at hrm
  change (el m c (s0 f)).2.1≤c at hrc
  revert ih z hrm hrc
  generalize el m c (s0 f)=s
  generalize K*5 ^ c=Kc at hK5 hb1
  generalize el m n (s0 f)=sn
  obtain ⟨g,r,d⟩:=s
  intro ih z hrm hrc
  simp only at ih z hrm hrc ⊢
  have zd:Sz (dR c (g,r,d)) Kc:=by
   simp only [dR];split
   · exact z.2
   · exact Sz.zero.mono hb1
  have l1:=rd_L1 (E:=E) (m:=m) (w:=w) (r:=r) (c:=c) (n:=(n:Nat)) (b0:=false) (b1:=qb (dR c (g,r,d))) (r0:=qn (dR c (g,r,d))) (r1:=qd (dR c (g,r,d))) (f:=g) (by omega) hm (m-r) r (by omega)
  by_cases hp:pv g c (m-r) r<m
  · simp only [e1,if_pos hp] at ih
    have hp1:=(v3w g c (m-r) r).1
    have hp2:=v3x g c (m-r) r (by omega)
    generalize pv g c (m-r) r=p at ih l1 hp hp1 hp2
    have hr:r<m:=by omega
    have hcw:c<w:=by omega
    have zG:=w0z hp hr z.1
    have hG0:sg g p r r c≠0:=by rw [sg_r];exact hp2
    have ed:∀ (G:Mx) (y:Rat),dR (c+1) (G,r+1,(if p=r then d else -d)*y)=(if p=r then dR c (g,r,d) else -dR c (g,r,d))*y:=fun G y=>by
     simp only [dR]
     by_cases e:r=c
     · rw [if_pos (by omega),if_pos e]
     · rw [if_neg (by omega),if_neg e];split <;> grind
    rw [ed] at ih
    generalize hD:dR c (g,r,d)=D at ih zd l1
    by_cases epr:p=r
    · have eG:sg g p r=g:=by funext i l;rw [j3f,epr];split <;> simp_all
      rw [if_pos epr,eG] at ih
      rw [eG] at zG hG0
      have hmul:Fn E K2 [.agg (Qr D),.agg (Qr (g r c))] (.agg (Qr (D*g r c))):=x7x zd (zG r hr c hcw) (by omega)
      have hinv:Fn E y0j [.agg (Qr (g r c))] (.agg (Qr (g r c)⁻¹)):=v9r hG0
      have a2:=w0g (E:=E) (c:=c) (n:=(n:Nat)) (b0:=false) (b1:=qb (D*g r c)) (r0:=qn (D*g r c)) (r1:=qd (D*g r c)) (f:=g) (x:=g r c) hr hm hw (zG r hr) (zG r hr c hcw) (by omega) w 0 (by omega)
      have a3:=w0h (E:=E) (c:=c) (n:=(n:Nat)) (b0:=false) (b1:=qb (D*g r c)) (r0:=qn (D*g r c)) (r1:=qd (D*g r c)) (x:=(g r c)⁻¹) (f:=g2 g r (g r c) w) (K:=Kc) (L:=Kc+Kc) hr hcw hm hw (fun i hi j hj hne=>by rw [y9g hj,if_neg hne];exact zG i hi j hj) (fun j hj=>by rw [y9g hj,if_pos rfl];exact (zG r hr j hj).div (zG r hr c hcw)) (by omega) m 0 (by omega)
      rw [J2 (f:=g2 g r (g r c) 0) (g:=g) (fun a _ l _=>j2s)] at a2
      rw [J2 (f:=g3 (g2 g r (g r c) w) r c 0) (g:=g2 g r (g r c) w) (fun a _ l _=>j2u),J2 (f:=g3 (g2 g r (g r c) w) r c m) (g:=st g r c) (fun a ha l hl=>q3n rfl hcw ha hl)] at a3
      exact k4c (by omega) l1 (by omega) (by omega) (A9 (H1 hr)) ⟨by omega,by omega⟩ ⟨by omega,by omega⟩ (z4f hcw rfl) hmul (A9 (H1 hr)) ⟨by omega,by omega⟩ (z4f hcw rfl) hinv a2 a3 B9 (I4 (Nat.le_refl _)) B9 (I4 (Nat.le_refl _)) (wi (by omega)) (wi (by omega)) ih
    · rw [if_neg epr] at ih
      have hmul:Fn E K2 [.agg (Qr (-D)),.agg (Qr (sg g p r r c))] (.agg (Qr (-D*sg g p r r c))):=x7x zd.neg (zG r hr c hcw) (by omega)
      have hinv:Fn E y0j [.agg (Qr (sg g p r r c))] (.agg (Qr (sg g p r r c)⁻¹)):=v9r hG0
      have hneg:Fn E y3y [.agg (Qr D)] (.agg (Qr (-D))):=v9s D
      have a2:=rd_L2 (E:=E) (c:=c) (n:=(n:Nat)) (b0:=false) (b1:=qb (-D*sg g p r r c)) (r0:=qn (-D*sg g p r r c)) (r1:=qd (-D*sg g p r r c)) (f:=sg g p r) (x:=sg g p r r c) hr hm hw (zG r hr) (zG r hr c hcw) (by omega) w 0 (by omega)
      have a3:=rd_L3 (E:=E) (c:=c) (n:=(n:Nat)) (b0:=false) (b1:=qb (-D*sg g p r r c)) (r0:=qn (-D*sg g p r r c)) (r1:=qd (-D*sg g p r r c)) (x:=(sg g p r r c)⁻¹) (f:=g2 (sg g p r) r (sg g p r r c) w) (K:=Kc) (L:=Kc+Kc) hr hcw hm hw (fun i hi j hj hne=>by rw [y9g hj,if_neg hne];exact zG i hi j hj) (fun j hj=>by rw [y9g hj,if_pos rfl];exact (zG r hr j hj).div (zG r hr c hcw)) (by omega) m 0 (by omega)
      rw [J2 (f:=g2 (sg g p r) r (sg g p r r c) 0) (g:=sg g p r) (fun a _ l _=>j2s)] at a2
      rw [J2 (f:=g3 (g2 (sg g p r) r (sg g p r r c) w) r c 0) (g:=g2 (sg g p r) r (sg g p r r c) w) (fun a _ l _=>j2u),J2 (f:=g3 (g2 (sg g p r) r (sg g p r r c) w) r c m) (g:=st (sg g p r) r c) (fun a ha l hl=>q3n rfl hcw ha hl)] at a3
      exact k4b (by omega) l1 (by omega) (by omega) (A9 (H1 hr)) (A9 (H1 hp)) (by omega) ⟨by omega,by omega⟩ ⟨by omega,by omega⟩ hneg (A9 (H1 (f:=sg g p r) hr)) ⟨by omega,by omega⟩ (z4f hcw rfl) hmul (A9 (H1 (f:=sg g p r) hr)) ⟨by omega,by omega⟩ (z4f hcw rfl) hinv a2 a3 B9 B9 (z2x (g:=fun a l=>if a=r then g p l else g a l) (Nat.le_refl _) (fun _ _ _ _=>rfl)) (z2x (g:=sg g p r) (Nat.le_refl _) (fun a _ l _=>j3f)) B9 (I4 (Nat.le_refl _)) B9 (I4 (Nat.le_refl _)) (wi (by omega)) (wi (by omega)) ih
  · simp only [e1,if_neg hp] at ih
    have hz:dR (c+1) (g,r,d)=0:=by simp only [dR];rw [if_neg (by omega)]
    have h0:Fn E I0 [.c (.i64 0)] (.agg (Qr 0)):=x7w (z:=0) (by decide)
    rw [hz] at ih
    exact k4a (by omega) l1 (by omega) h0 (wi (by omega)) ih
theorem v5z {m w n K:Nat} {f:Mx} (hn:n≤w) (hm:m≤1000) (hw:w≤1000) (hK1:1≤K) (hf:∀ i,i<m→∀ j,j<w→Sz (f i j) K) (hK:K*5 ^ n≤Lim) :
    Rn E A5 [.vec 0 m,.i (n:Nat)] [some (.mat A3 (mx Qr m w f) [])] (.tup [.i ((el m n (s0 f)).2.1:Nat),.agg (Qr (dR n (el m n (s0 f))))]) [some (.mat A3 (mx Qr m w (el m n (s0 f)).1) [])]:=by
 have h:=rd_L0 (E:=E) hn hm hw hK1 hf hK n 0 (by omega)
 rw [show (el m 0 (s0 f))=s0 f from rfl] at h
 simp only [s0] at h
 have h1:Fn E I0 [.c (.i64 1)] (.agg (Qr 1)):=x7w (z:=1) (by decide)
 exact j6w h1 h
end Gev
namespace Gev
open Go Gb
variable {E:Env}
attribute [local irreducible] Sz
def tq (c:Rat→List DV) (n m:Nat) (F:Mx) (k i:Nat):List (RW):=(List.range n).map fun q=>if q<k then rw' c m (F q) else if q=k then rw' c i (F k) else []
section
variable {c:Rat→List DV} {n m k i:Nat} {F:Mx}
theorem j0d (h:k<n):(tq c n m F k i)[(Int.toNat (k:Nat))]?=some (rw' c i (F k)):=by
 rw [Int.toNat_natCast];simp [tq,h]
theorem j0e:List.set (tq c n m F k i) (Int.toNat (k:Nat)) (((rw' c i (F k)).take i++[c (F k i)]).take (i+1))=tq c n m F k (i+1):=by
 rw [Int.toNat_natCast,X3 (Nat.le_refl _),x9p,X3 (Nat.le_refl _)]
 unfold tq;rw [z8f]
 exact List.map_congr_left fun q _=>by
  by_cases h:q=k
  · simp [h]
  · simp [h]
theorem x9u:tq c n m F k m=tq c n m F (k+1) 0:=by
 unfold tq
 exact List.map_congr_left fun q _=>by
  by_cases h:q<k
  · rw [if_pos h,if_pos (by omega)]
  · rw [if_neg h]
    by_cases h2:q=k
    · rw [if_pos h2,if_pos (by omega),h2]
    · rw [if_neg h2,if_neg (by omega)];split <;> rfl
theorem x4b:(List.replicate n []:List (RW))=tq c n m F 0 0:=by
 unfold tq
 rw [List.map_congr_left (g:=fun _=>[]) fun q _=>by
  rw [if_neg (by omega)];split <;> rfl]
 rw [List.map_const',List.length_range]
theorem k4s:tq c n m F n 0=mx c n m F:=by
 unfold tq mx
 exact List.map_congr_left fun q hq=>by rw [if_pos (by simpa using hq)]
end
theorem rl_eq (l:List (RW)):List.map (fun x=>[DV.list x]) l=rl l:=rfl
theorem z5n {l:List (RW)} {n:Nat} (h:l.length≤n):(rl l).take n=rl l:=List.take_of_length_le (by rw [w0m];exact h)
theorem y8w {w j:Nat} {v:Nat→Rat} (h:j<w):(rw' tx w v)[(Int.toNat (j:Nat))]?=some [.str (B (decQ (v j)))]:=by rw [Int.toNat_natCast,z6u h];rfl
theorem rmI {c:Rat→List DV} {m w i:Nat} {f:Mx} (h:i<m):(rl (mx c m w f))[(Int.toNat (i:Nat))]?=some [.list (rw' c w (f i))]:=by rw [Int.toNat_natCast];exact k4p h
theorem P2 {c:Rat→List DV} {m w:Nat} {f:Mx}:(rl (mx c m w f)).length=m:=by rw [w0m,z8r]
theorem v8c (hlib:Lib E) {w w' K L:Nat} {v u:Nat→Rat} (hw:w≤w') (hw':w'≤1000) (hv:∀ j,j<w→Sz (v j) K) (hu:∀ j,j<w→Sz (u j) L) (h:(K+L+1)*w+1≤Lim):∀ d j,j+d=w →
    Lp E 0 z0z 0 (z9a (rw' tx w v) (rw' tx w' u) (B (decQ (sm j fun k=>v k*u k))) (w:Nat) (j:Nat)) (.exit 0) (y4x (B (decQ (sm w fun k=>v k*u k))))
 | 0,j,hj=>by
  have e:j=w:=by omega
  subst e
  exact k2x (by omega)
 | d+1,j,hj=>by
  have hs:=z6f j (fun k=>v k*u k) fun k hk=>(hv k (by omega)).mul (hu k (by omega))
  have hm:=(hv j (by omega)).mul (hu j (by omega))
  have hb:(K+L+1)*(j+1)≤(K+L+1)*w:=Nat.mul_le_mul_left _ (by omega)
  rw [Nat.mul_add] at hb
  exact k8u (by omega) (by omega) (y8w (by omega)) (y8w (by omega)) (q1r hlib (hv j (by omega)) (hu j (by omega)) (by omega)) (m_add hlib hs hm (by omega)) (wi (by omega)) (v8c hlib hw hw' hv hu h d (j+1) (by omega))
theorem m_dot (hlib:Lib E) {w w' K L:Nat} {v u:Nat→Rat} (hw:w≤w') (hw':w'≤1000) (hv:∀ j,j<w→Sz (v j) K) (hu:∀ j,j<w→Sz (u j) L) (h:(K+L+1)*w+1≤Lim):Fn E z0z [.l (rw' tx w v),.l (rw' tx w' u)] (.s (B (decQ (sm w fun k=>v k*u k)))):=by
 have h:=v8c hlib hw hw' hv hu h w 0 (by omega)
 have e:B (decQ (sm 0 fun k=>v k*u k))=⟨#[48]⟩:=Bq0
 rw [e] at h
 exact q4l (by rw [B9];exact h)
theorem v8l {m w k:Nat} {f:Mx} {n i1:Int} (hk:k<w) (hm:m≤1000) (hw:w≤1000):∀ d i,i+d=m →
    Lp E 1 D3 1 (z0w (rl (mx tx m w f)) w (k:Nat) n i1 (rl (mx tx m w f)) (m:Nat) (i:Nat) (tq tx w m (tp f) k i)) (.exit 2) (z6t (rl (mx tx m w f)) w n i1 (tq tx w m (tp f) k m))
 | 0,i,h=>by
  have e:i=m:=by omega
  subst e
  exact y9p (by omega)
 | d+1,i,h=>x3j (by omega) (by omega) (rmI (by omega)) (j0d hk) ⟨by omega,by omega⟩ (by omega) (y8w hk) ⟨by omega,by omega⟩ B9 rfl rfl j0e (wi (by omega)) (v8l hk hm hw d (i+1) (by omega))
theorem v8k {m w:Nat} {f:Mx} (hm:m≤1000) (hw:w≤1000):∀ d k,k+d=w →
    Lp E 1 D3 0 (z0v (rl (mx tx m w f)) w (w:Nat) (k:Nat) (tq tx w m (tp f) k 0)) (.exit 0) (z6s w (tq tx w m (tp f) w 0))
 | 0,k,h=>by
  have e:k=w:=by omega
  subst e
  exact y9o (by omega)
 | d+1,k,h=>by
  have h1:=v8l (E:=E) (m:=m) (f:=f) (n:=(w:Nat)) (i1:=(k:Nat)) (show k<w by omega) hm hw m 0 (by omega)
  have h2:=v8k (f:=f) hm hw d (k+1) (by omega)
  rw [← x9u] at h2
  exact x3i (by omega) (by rw [P2];exact h1) (wi (by omega)) h2
theorem y4g {m w:Nat} {f:Mx} (h1:1≤m) (hm:m≤1000) (hw:w≤1000):Fn E D3 [.l (rl (mx tx m w f))] (.l (rl (mx tx w m (tp f)))):=by
 have h:=v8k (E:=E) (f:=f) hm hw w 0 (by omega)
 rw [← x4b,k4s] at h
 exact k3b (k4p (by omega)) (by rw [B9];omega) h (by rw [B9];exact Int.toNat_natCast _) rfl rfl (z5n (by rw [z8r];omega))
theorem v8g (hlib:Lib E) {m k w i K L:Nat} {f g:Mx} {n i1:Int} (hi:i<m) (hm:m≤1000) (hk:k≤1000) (hw:w≤1000) (hf:∀ i,i<m→∀ j,j<k→Sz (f i j) K) (hg:∀ i,i<k→∀ j,j<w→Sz (g i j) L) (hK:(K+L+1)*k+1≤Lim):∀ d j,j+d=w →
    Lp E 1 D9 1 (z2w (rl (mx tx w k (tp g))) m (i:Nat) (rw' tx k (f i)) (rl (mx tx m k f)) n i1 (rl (mx tx w k (tp g))) (w:Nat) (j:Nat) (tq tx m w (mm k f g) i j)) (.exit 2) (z8q (rl (mx tx w k (tp g))) m (rl (mx tx m k f)) n i1 (tq tx m w (mm k f g) i w))
 | 0,j,h=>by
  have e:j=w:=by omega
  subst e
  exact x3h (by omega)
 | d+1,j,h=>x7f (by omega) (by omega) (rmI (by omega)) (j0d hi) ⟨by omega,by omega⟩ (m_dot hlib (Nat.le_refl _) hk (hf i hi) (fun l hl=>hg l hl j (by omega)) hK) ⟨by omega,by omega⟩ B9 rfl rfl j0e (wi (by omega)) (v8g hlib hi hm hk hw hf hg hK d (j+1) (by omega))
theorem v8f (hlib:Lib E) {m k w K L:Nat} {f g:Mx} (hm:m≤1000) (hk:k≤1000) (hw:w≤1000) (hf:∀ i,i<m→∀ j,j<k→Sz (f i j) K) (hg:∀ i,i<k→∀ j,j<w→Sz (g i j) L) (hK:(K+L+1)*k+1≤Lim):∀ d i,i+d=m →
    Lp E 1 D9 0 (z2v (rl (mx tx w k (tp g))) m (rl (mx tx m k f)) (m:Nat) (i:Nat) (tq tx m w (mm k f g) i 0)) (.exit 0) (z8p m (tq tx m w (mm k f g) m 0))
 | 0,i,h=>by
  have e:i=m:=by omega
  subst e
  exact x3g (by omega)
 | d+1,i,h=>by
  have h1:=v8g hlib (n:=(m:Nat)) (i1:=(i:Nat)) (show i<m by omega) hm hk hw hf hg hK w 0 (by omega)
  have h2:=v8f hlib hm hk hw hf hg hK d (i+1) (by omega)
  rw [← x9u] at h2
  exact x7e (by omega) (by omega) (rmI (by omega)) (by rw [P2];exact h1) (wi (by omega)) h2
theorem k8o (hlib:Lib E) {m k w K L:Nat} {f g:Mx} (h1:1≤k) (hm:m≤1000) (hk:k≤1000) (hw:w≤1000) (hf:∀ i,i<m→∀ j,j<k→Sz (f i j) K) (hg:∀ i,i<k→∀ j,j<w→Sz (g i j) L) (hK:(K+L+1)*k+1≤Lim) :
    Fn E D9 [.l (rl (mx tx m k f)),.l (rl (mx tx k w g))] (.l (rl (mx tx m w (mm k f g)))):=by
 have h:=v8f hlib hm hk hw hf hg hK m 0 (by omega)
 rw [← x4b,k4s] at h
 exact k8v (y4g h1 hk hw) (by rw [P2];omega) (by rw [P2];exact h) (by rw [P2];exact Int.toNat_natCast _) rfl rfl (z5n (by rw [z8r];omega))
end Gev
namespace Gev
open Go Gb
variable {E:Env}
attribute [local irreducible] Sz
structure Cl (E:Env):Prop where
 ra:∀ l:RW,(∀ x∈l,x.length=1)→l.length≤1000→Rn E H0 [.l l] [] (.vec 0 l.length) [some (.vec M6 l)]
 rr:∀ l:RW,(∀ x∈l,x.length=1)→l.length≤1000→Rn E z2r [.l l] [] (.vec 0 l.length) [some (.vec A7 l)]
section
variable {c:Rat→List DV} {n m w k i:Nat} {F A B:Mx} {v u:Nat→Rat}
theorem v4q (h:m≤k):List.set (tq c n m F i 0) (Int.toNat (i:Nat)) ((rw' c m (F i)).take k)=tq c n m F (i+1) 0:=by
 rw [Int.toNat_natCast,X3 h,← x9u]
 unfold tq;rw [z8f]
 exact List.map_congr_left fun q _=>by
  by_cases h:q=i
  · simp [h]
  · simp [h]
theorem rw_app:rw' c n v++rw' c w u=rw' c (n+w) (fun j=>if j<n then v j else u (j-n)):=by
 apply List.ext_getElem?
 intro j
 by_cases h:j<n
 · rw [List.getElem?_append_left (by rw [B9];exact h),z6u h,z6u (by omega),if_pos h]
 · rw [List.getElem?_append_right (by rw [B9];omega),B9]
   by_cases h2:j<n+w
   · rw [z6u (by omega),z6u h2,if_neg h]
   · rw [List.getElem?_eq_none (by rw [B9];omega),List.getElem?_eq_none (by rw [B9];omega)]
theorem w3g:List.drop n (rw' c (n+w) v)=rw' c w (fun j=>v (n+j)):=by
 apply List.ext_getElem?
 intro j
 rw [List.getElem?_drop]
 by_cases h:j<w
 · rw [z6u (by omega),z6u h]
 · rw [List.getElem?_eq_none (by rw [B9];omega),List.getElem?_eq_none (by rw [B9];omega)]
def sq (c:Rat→List DV) (n w:Nat) (A B:Mx) (i:Nat):List (RW):=(List.range n).map fun q=>if q<i then rw' c (n+w) (aug n A B q) else rw' c n (A q)
def dq (c:Rat→List DV) (n w:Nat) (S:Mx) (i:Nat):List (RW):=(List.range n).map fun q=>if q<i then rw' c w (fun j=>S q (n+j)) else rw' c (n+w) (S q)
theorem sq_get (h:i<n):(sq c n w A B i)[(Int.toNat (i:Nat))]?=some (rw' c n (A i)):=by rw [Int.toNat_natCast];simp [sq,h]
theorem sq_set:List.set (sq c n w A B i) (Int.toNat (i:Nat)) (((rw' c n (A i)).take n++rw' c w (B i)).take (n+w))=sq c n w A B (i+1):=by
 rw [Int.toNat_natCast,X3 (Nat.le_refl _),rw_app,X3 (Nat.le_refl _)]
 unfold sq;rw [z8f]
 exact List.map_congr_left fun q _=>by
  by_cases h:q=i
  · rw [if_pos h,if_pos (by omega),h];rfl
  · rw [if_neg h]
    by_cases h2:q<i
    · rw [if_pos h2,if_pos (by omega)]
    · rw [if_neg h2,if_neg (by omega)]
theorem w3m:sq c n w A B 0=mx c n n A:=by
 unfold sq mx;exact List.map_congr_left fun q _=>by rw [if_neg (by omega)]
theorem sq_end:sq c n w A B n=mx c n (n+w) (aug n A B):=by
 unfold sq mx;exact List.map_congr_left fun q hq=>by rw [if_pos (by simpa using hq)]
theorem dq_get (h:i<n):(rl (dq c n w F i))[(Int.toNat (i:Nat))]?=some [.list (rw' c (n+w) (F i))]:=by
 rw [Int.toNat_natCast];exact w0l (by simp [dq,h])
theorem dq_set:List.set (rl (dq c n w F i)) (Int.toNat (i:Nat)) [.list (rw' c w (fun j=>F i (n+j)))]=rl (dq c n w F (i+1)):=by
 rw [Int.toNat_natCast]
 unfold rl
 rw [← List.map_set (f:=fun x=>[DV.list x])]
 congr 1
 unfold dq;rw [z8f]
 exact List.map_congr_left fun q _=>by
  by_cases h:q=i
  · rw [if_pos h,if_pos (by omega),h]
  · rw [if_neg h]
    by_cases h2:q<i
    · rw [if_pos h2,if_pos (by omega)]
    · rw [if_neg h2,if_neg (by omega)]
theorem w2c:dq c n w F 0=mx c n (n+w) F:=by
 unfold dq mx;exact List.map_congr_left fun q _=>by rw [if_neg (by omega)]
theorem dq_end:dq c n w F n=mx c n w (fun i j=>F i (n+j)):=by
 unfold dq mx;exact List.map_congr_left fun q hq=>by rw [if_pos (by simpa using hq)]
end
theorem m_cpL (hc:Cl E) {m w:Nat} {f:Mx} (hm:m≤1000) (hw:w≤1000):∀ d i,i+d=m →
    Lp E 1 H2 0 (Z9 m (rl (mx tx m w f)) (m:Nat) (i:Nat) (tq tx m w f i 0)) (.exit 0) (z5d m (tq tx m w f m 0))
 | 0,i,h=>by
  have e:i=m:=by omega
  subst e
  exact y7s (by omega)
 | d+1,i,h=>x0q (by omega) (by omega) (rmI (by omega)) (hc.ra (rw' tx w (f i)) q6l (by rw [B9];exact hw)) ⟨by omega,by omega⟩ (v4q (by rw [B9];exact Nat.le_refl _)) (wi (by omega)) (m_cpL hc hm hw d (i+1) (by omega))
theorem j5a (hc:Cl E) {m w:Nat} {f:Mx} (hm:m≤1000) (hw:w≤1000):Rn E H2 [.l (rl (mx tx m w f))] [] (.vec 0 m) [some (.mat A7 (mx tx m w f) [])]:=by
 have h:=m_cpL hc (f:=f) hm hw m 0 (by omega)
 rw [← x4b,k4s] at h
 exact x5c (by rw [P2];omega) (by rw [P2];exact h) (by rw [P2];exact Int.toNat_natCast _) rfl
theorem v8i {n w:Nat} {A B:Mx} {i0:Int} (hn:n≤1000) (hw:w≤1000):∀ d i,i+d=n →
    Lp E 1 G2 0 (z5s (rl (mx tx n w B)) i0 n (n:Nat) (i:Nat) (sq tx n w A B i)) (.exit 0) (y1m i0 n (sq tx n w A B n))
 | 0,i,h=>by
  have e:i=n:=by omega
  subst e
  exact x7g (by omega)
 | d+1,i,h=>k2z (by omega) (sq_get (by omega)) ⟨by omega,by omega⟩ (by omega) (rmI (by omega)) q6l (by rw [B9];omega) B9 rfl (by rw [B9]) sq_set (wi (by omega)) (v8i hn hw d (i+1) (by omega))
theorem v8j {n w:Nat} {S:Mx} (hn:n≤1000) (hw:w≤1000):∀ d i,i+d=n →
    Lp E 1 G2 1 (z5t (n:Nat) n (n:Nat) (i:Nat) (rl (dq tx n w S i))) (.exit 2) (y1n n (rl (dq tx n w S n)))
 | 0,i,h=>by
  have e:i=n:=by omega
  subst e
  exact x7h (by omega)
 | d+1,i,h=>k3a (by omega) ⟨by omega,by omega⟩ (dq_get (by omega)) ⟨by omega,by rw [B9];omega,Int.le_refl _,q6l⟩ (by rw [B9,Int.toNat_natCast,Int.toNat_natCast,X3 (Nat.le_refl _),w3g]) dq_set (wi (by omega)) (v8j hn hw d (i+1) (by omega))
theorem q3v (hlib:Lib E) (hc:Cl E) {n w K:Nat} {A B:Mx} (hn:n≤500) (hw:w≤500) (hK1:1≤K) (hA:∀ i,i<n→∀ j,j<n→Sz (A i j) K) (hB:∀ i,i<n→∀ j,j<w→Sz (B i j) K) (hK:K*5 ^ n≤Lim) :
    Fn E G2 [.l (rl (mx tx n n A)),.l (rl (mx tx n w B))] (if rk n n A<n then .tup [.l [],.b false] else .tup [.l (rl (mx tx n w (sol n A B))),.b true]):=by
 have h1:=j5a hc (f:=A) (m:=n) (w:=n) (by omega) (by omega)
 have h2:=v8i (E:=E) (A:=A) (B:=B) (i0:=(n:Nat)) (n:=n) (w:=w) (by omega) (by omega) n 0 (by omega)
 rw [w3m,sq_end] at h2
 have h3:=x2k hlib (m:=n) (w:=n+w) (n:=n) (f:=aug n A B) (by omega) (by omega) (by omega) hK1 (fun i hi j hj=>by
  simp only [aug];split
  · rename_i h;exact hA i hi j h
  · exact hB i hi _ (by omega)) hK
 have e:(el n n (s0 (aug n A B))).2.1=rk n n A:=y0s (B:=B)
 rw [e] at h3
 split
 · rename_i hr
   exact j5p h1 (by rw [P2];exact h2) (by rw [P2];exact h3) (by rw [P2];omega) rfl
 · rename_i hr
   have h5:=v8j (E:=E) (S:=(el n n (s0 (aug n A B))).1) (n:=n) (w:=w) (by omega) (by omega) n 0 (by omega)
   rw [w2c,dq_end] at h5
   exact j5q h1 (by rw [P2];exact h2) (by rw [P2];exact h3) (by rw [P2];omega) (by rw [P2];exact h5) rfl (z5n (by rw [z8r];omega))
theorem j3d {l:List (RW)} {x:RW}:rl l++[[.list x]]=rl (l++[x]):=by simp [rl]
theorem v8b {n:Nat} {v:Nat→Rat} (hn:n≤1000):∀ d i,i+d=n →
    Lp E 0 O3 0 (z4d i (rw' tx n v) (n:Nat) (i:Nat) (rl (mx tx i 1 fun i _=>v i))) (.exit 0) (z9y n (rl (mx tx n 1 fun i _=>v i)))
 | 0,i,h=>by
  have e:i=n:=by omega
  subst e
  exact x5b (by omega)
 | d+1,i,h=>k0l (by omega) (by omega) (y8w (by omega)) ⟨by omega,by omega⟩ rfl (by
     rw [z5n (by rw [z8r];exact Nat.le_refl _),j3d,← j2z];rfl) rfl (wi (by omega)) (v8b hn d (i+1) (by omega))
theorem q7v {n:Nat} {v:Nat→Rat} (hn:n≤1000):Fn E O3 [.l (rw' tx n v)] (.l (rl (mx tx n 1 fun i _=>v i))):=by
 have h:=v8b (E:=E) (v:=v) hn n 0 (by omega)
 exact j1h (by rw [B9];exact h) (z5n (by rw [z8r];exact Nat.le_refl _))
end Gev
