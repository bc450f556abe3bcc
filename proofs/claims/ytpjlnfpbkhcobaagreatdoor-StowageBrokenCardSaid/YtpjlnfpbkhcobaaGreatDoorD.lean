/- A part of the proof: see the last text of this claim. -/
import Derived.Test.YtpjlnfpbkhcobaaGreatDoorC
set_option linter.unusedSectionVars false
set_option linter.unusedVariables false
set_option linter.unusedSimpArgs false
namespace Gev
open Go Gb
variable {E:Env}
structure Dv (u v:List Int) (lu k j:Nat):Prop where
 hu:Wd u
 hv:Wd v
 elu:u.length=lu
 elv:v.length=k
 two:2≤k
 norm:1000000000≤2*v.getD (k - 1) 0
 jk:j+k < lu
 small:lu < 35184372088832
 low:wv (u.drop (j+1)) < wv v
theorem Dv.vk {u v:List Int} {lu k j:Nat} (h:Dv u v lu k j):wv v < pw k:=by have:=y2n h.hv; rwa [h.elv] at this
theorem Dv.zero {u v:List Int} {lu k j:Nat} (h:Dv u v lu k j):wv (u.drop (j+k+1))=0:=w5k h.hu (Int.lt_trans h.low h.vk)
theorem Dv.vpos {u v:List Int} {lu k j:Nat} (h:Dv u v lu k j):0 < wv v:=by
 have e:=x6y h.elv h.two
 have h1:=D4 (h.hv.take (k - 2))
 have h2:=h.hv.getD (k - 2)
 have h3:=h.norm
 have:0 < (v.getD (k - 1) 0*1000000000+v.getD (k - 2) 0)*pw (k - 2):=Int.mul_pos (by omega) (z3d _)
 omega
theorem w2t {m w1 w3 w4:RW} {lq lu k j:Nat} {u v:List Int} (D:Dv u v lu k j) (hw3:∀ i:Nat,i < k→w3[i]?=some [.u32 (v.getD i 0)]) :
    ∀ (t:Nat) (g rest:Int),0≤g→g < t→g≤1000000001→0≤rest∧rest < 1000000000→g*v.getD (k - 1) 0+rest=u.getD (j+k) 0*1000000000+u.getD (j+k - 1) 0→wv (u.drop j) < (g+1)*wv v→(g=1000000001→rest+v.getD (k - 1) 0 < 1000000000) →
    ∃ g',Lp E 5 A8 1 (H9 m lu k k lq j g rest w1 (Wr u) w3 w4) (.exit 3) (O8 m lu k k lq j w1 (Wr u) w3 w4 g')∧(0≤g'∧g' < 1000000000)∧wv (u.drop j) < (g'+1)*wv v∧(g' - 1)*wv v≤wv (u.drop j)
 | 0,g,rest,h0,ht,_,_,_,_,_=>by omega
 | t+1,g,rest,h0,ht,hg,hr,he,hX,hbig=>by
  have h2:=D.two
  have hjk:=D.jk
  have hsm:=D.small
  have hlu:=D.elu
  have a1:=D.hv.getD (k - 1)
  have a2:=D.hv.getD (k - 2)
  have b2:=D.hu.getD (j+k - 2)
  have b1:=D.hu.getD (j+k - 1)
  have b0:=D.hu.getD (j+k)
  have hnorm:=D.norm
  have eV:=x6y D.elv D.two
  have eX:=x4d (u:=u) (j:=j) (k:=k) D.two (by omega) D.zero
  have vl0:=D4 (D.hv.take (k - 2))
  have vl1:=D.hv.val_take_lt (k - 2) (by have:=D.elv; omega)
  have xl0:=D4 ((D.hu.drop j).take (k - 2))
  have xl1:=(D.hu.drop j).val_take_lt (k - 2) (by simp; omega)
  have hP:=z3d (k - 2)
  have gk1:w3[Int.toNat ((k:Int) - 1)]?=some [.u32 (v.getD (k - 1) 0)]:=by
   rw [show Int.toNat ((k:Int) - 1)=k - 1 by omega]; exact hw3 _ (by omega)
  have gk2:w3[Int.toNat ((k:Int) - 2)]?=some [.u32 (v.getD (k - 2) 0)]:=by
   rw [show Int.toNat ((k:Int) - 2)=k - 2 by omega]; exact hw3 _ (by omega)
  have gu:(Wr u)[Int.toNat ((j:Int)+k - 2)]?=some [.u32 (u.getD (j+k - 2) 0)]:=by
   rw [show Int.toNat ((j:Int)+k - 2)=j+k - 2 by omega]; exact G5 (by omega)
  obtain ⟨v1,e1⟩:∃ x,x=v.getD (k - 1) 0:=⟨_,rfl⟩
  obtain ⟨v2,e2⟩:∃ x,x=v.getD (k - 2) 0:=⟨_,rfl⟩
  obtain ⟨u2,e3⟩:∃ x,x=u.getD (j+k - 2) 0:=⟨_,rfl⟩
  obtain ⟨top,e4⟩:∃ x,x=u.getD (j+k) 0*1000000000+u.getD (j+k - 1) 0:=⟨_,rfl⟩
  rw [← e1] at a1 hnorm eV gk1 he hbig
  rw [← e2] at a2 eV gk2
  rw [← e3] at b2 eX gu
  rw [← e4] at eX he
  have hg2:0≤g*v2∧g*v2≤1000000001*999999999:=by
   constructor
   · exact Int.mul_nonneg h0 a2.1
   · exact Int.mul_le_mul hg (by omega) a2.1 (by decide)
  have down:1≤g→wv (u.drop j) < g*wv v→(g=1000000001→rest+v1 < 1000000000) →
      (¬ rest+v1≥1000000000→∃ g',Lp E 5 A8 1 (H9 m lu k k lq j (g - 1) (rest+v1) w1 (Wr u) w3 w4) (.exit 3) (O8 m lu k k lq j w1 (Wr u) w3 w4 g')∧(0≤g'∧g' < 1000000000)∧wv (u.drop j) < (g'+1)*wv v∧(g' - 1)*wv v≤wv (u.drop j)) ∧
      (rest+v1≥1000000000→(0≤g - 1∧g - 1 < 1000000000)∧wv (u.drop j) < (g - 1+1)*wv v∧(g - 1 - 1)*wv v≤wv (u.drop j)):=by
   intro hg1 hlt hb
   have hmul:(g - 1)*v1+(rest+v1)=top:=by
    have:(g - 1)*v1=g*v1 - v1:=by grind
    omega
   refine ⟨fun hc=>?_,fun hc=>?_⟩
   · refine w2t D hw3 t (g - 1) (rest+v1) (by omega) (by omega) (by omega) (by omega) ?_ (by rw [show g - 1+1=g by omega]; exact hlt) (fun h=>by omega)
     rw [← e1,← e4]; exact hmul
   · have hgB:g - 1 < 1000000000:=by
      rcases Int.lt_or_le (g - 1) 1000000000 with h | h
      · exact h
      · have:=hb (by omega); omega
     refine ⟨⟨by omega,hgB⟩,by rw [show g - 1+1=g by omega]; exact hlt,?_⟩
     refine x7u hP ⟨vl0,vl1⟩ xl0 eV eX hmul ⟨by omega,hgB⟩ ?_ hnorm a2.1
     have h5:(g - 1)*v2≤999999999*999999999:=Int.mul_le_mul (by omega) (by omega) a2.1 (by decide)
     omega
  by_cases c1:g≥1000000000
  · have hlt:wv (u.drop j) < g*wv v:=by
     have h6:=X9 u j (by omega)
     have h7:=D.hu.getD j
     have h8:=D.low
     have h9:1000000000*wv v≤g*wv v:=Int.mul_le_mul_of_nonneg_right c1 (by have:=D.vpos; omega)
     omega
    obtain ⟨d1,d2⟩:=down (by omega) hlt hbig
    by_cases c2:rest+v1≥1000000000
    · obtain ⟨d3,d4,d5⟩:=d2 c2
      exact ⟨g - 1,x1k (i6:=(k:Int) - 1) (i7:=v1) (i8:=v1) (i9:=rest+v1) (wu (by omega)) (wi (by omega)) (wu (by omega)) (wu (by omega)) c1 (by omega) gk1 c2,d3,d4,d5⟩
    · obtain ⟨g',d3,d4⟩:=d1 c2
      exact ⟨g',x3h (i6:=(k:Int) - 1) (i7:=v1) (i8:=v1) (wu (by omega)) (wi (by omega)) (wu (by omega)) (wu (by omega)) c1 (by omega) gk1 c2 d3,d4⟩
  · by_cases c3:g*v2 > rest*1000000000+u2
    · have hlt:=v6z hP vl0 xl1 eV eX he h0 c3
      have hg1:1≤g:=by
       rcases Int.lt_or_le g 1 with h | h
       · have:g=0:=by omega
         subst this
         rw [Int.zero_mul] at c3
         omega
       · exact h
      obtain ⟨d1,d2⟩:=down hg1 hlt hbig
      by_cases c2:rest+v1≥1000000000
      · obtain ⟨d3,d4,d5⟩:=d2 c2
        exact ⟨g - 1,x1l (i5:=(k:Int) - 2) (i6:=v2) (i7:=v2) (i8:=g*v2) (i9:=rest*1000000000) (i10:=(j:Int)+k) (i11:=(j:Int)+k - 2) (i12:=u2) (i13:=u2) (i14:=rest*1000000000+u2) (i16:=(k:Int) - 1) (i17:=v1) (i18:=v1) (i19:=rest+v1)
         (wi (by omega)) (wu (by omega)) (wu (by omega)) (wu (by omega)) (wi (by omega)) (wi (by omega)) (wu (by omega)) (wu (by omega)) (wu (by omega)) (wi (by omega)) (wu (by omega)) (wu (by omega)) c1 (by omega) gk2 (by omega) gu c3 (by omega) gk1 c2,d3,d4,d5⟩
      · obtain ⟨g',d3,d4⟩:=d1 c2
        exact ⟨g',x3i (i5:=(k:Int) - 2) (i6:=v2) (i7:=v2) (i8:=g*v2) (i9:=rest*1000000000) (i10:=(j:Int)+k) (i11:=(j:Int)+k - 2) (i12:=u2) (i13:=u2) (i14:=rest*1000000000+u2) (i16:=(k:Int) - 1) (i17:=v1) (i18:=v1)
         (wi (by omega)) (wu (by omega)) (wu (by omega)) (wu (by omega)) (wi (by omega)) (wi (by omega)) (wu (by omega)) (wu (by omega)) (wu (by omega)) (wi (by omega)) (wu (by omega)) (wu (by omega)) c1 (by omega) gk2 (by omega) gu c3 (by omega) gk1 c2 d3,d4⟩
    · refine ⟨g,x1m (i5:=(k:Int) - 2) (i6:=v2) (i7:=v2) (i8:=g*v2) (i9:=rest*1000000000) (i10:=(j:Int)+k) (i11:=(j:Int)+k - 2) (i12:=u2) (i13:=u2) (i14:=rest*1000000000+u2)
          (wi (by omega)) (wu (by omega)) (wu (by omega)) (wu (by omega)) (wi (by omega)) (wi (by omega)) (wu (by omega)) (wu (by omega)) c1 (by omega) gk2 (by omega) gu c3,⟨h0,by omega⟩,hX,?_⟩
      exact x7u hP ⟨vl0,vl1⟩ xl0 eV eX he ⟨h0,by omega⟩ (by omega) hnorm a2.1
theorem u1r {m w1 w3 w4:RW} {lq lu k j:Nat} {u v:List Int} (D:Dv u v lu k j) (hw3:∀ i:Nat,i < k→w3[i]?=some [.u32 (v.getD i 0)]) {g:Int} (hg:0≤g∧g < 1000000000) :
    ∀ d i c b u',i+d=k→0≤c∧c < 1000000000→b=0∨b=1→Wd u'→u'.length=lu→(∀ n,n < j∨j+i≤n→u'.getD n 0=u.getD n 0)→wv u'=wv u - pw j*(g*wv (v.take i))+pw j*pw i*(c+b) →
    ∃ c' b' u'',Lp E 5 A8 2 (I0 m lu k k lq j g c b k i w1 (Wr u') w3 w4) (.exit 5) (z0e m lu k k lq j g w1 w3 w4 c' b' (Wr u''))∧(0≤c'∧c' < 1000000000)∧(b'=0∨b'=1)∧Wd u''∧u''.length=lu∧(∀ n,n < j∨j+k≤n→u''.getD n 0=u.getD n 0)∧wv u''=wv u - pw j*(g*wv v)+pw j*pw k*(c'+b')
 | 0,i,c,b,u',hi,hc,hb,hw,hl,hn,hv=>by
  have:i=k:=by omega
  subst this
  have:=D.elv
  rw [List.take_of_length_le (by omega)] at hv
  exact ⟨c,b,u',x1n (by omega),hc,hb,hw,hl,hn,hv⟩
 | d+1,i,c,b,u',hi,hc,hb,hw,hl,hn,hv=>by
  have hjk:=D.jk
  have hsm:=D.small
  have a0:=D.hv.getD i
  have b0:=hw.getD (i+j)
  have gk:w3[Int.toNat (i:Int)]?=some [.u32 (v.getD i 0)]:=hw3 i (by omega)
  have gu:(Wr u')[Int.toNat ((i+j:Nat):Int)]?=some [.u32 (u'.getD (i+j) 0)]:=G5 (by omega)
  have et:=z2o v i (by have:=D.elv; omega)
  have es:=y4j u' (i+j) (by omega)
  obtain ⟨x,ex⟩:∃ x,x=v.getD i 0:=⟨_,rfl⟩
  obtain ⟨w,ew⟩:∃ w,w=u'.getD (i+j) 0:=⟨_,rfl⟩
  rw [← ex] at a0 gk et
  rw [← ew] at b0 gu es
  have hgx:0≤g*x∧g*x≤999999998000000001:=k5w hg a0
  obtain ⟨S,eS⟩:∃ S,S=g*x+c:=⟨_,rfl⟩
  have hS:0≤S∧S≤999999999000000000:=by omega
  obtain ⟨dd,ed⟩:∃ dd,dd=w - S % 1000000000 - b:=⟨_,rfl⟩
  have key:∀ b' d',d'=dd+1000000000*b'→0≤d'∧d' < 1000000000→(b'=0∨b'=1) →
      (∀ {c2:Int} {st:St},Lp E 5 A8 2 (I0 m lu k k lq j g (S / 1000000000) b' k ((i+1:Nat):Int) w1 (Wr (u'.set (i+j) d')) w3 w4) (.exit 5) st→Lp E 5 A8 2 (I0 m lu k k lq j g c b k i w1 (Wr u') w3 w4) (.exit 5) st) →
      ∃ c' b' u'',Lp E 5 A8 2 (I0 m lu k k lq j g c b k i w1 (Wr u') w3 w4) (.exit 5) (z0e m lu k k lq j g w1 w3 w4 c' b' (Wr u''))∧(0≤c'∧c' < 1000000000)∧(b'=0∨b'=1)∧Wd u''∧u''.length=lu∧(∀ n,n < j∨j+k≤n→u''.getD n 0=u.getD n 0)∧wv u''=wv u - pw j*(g*wv v)+pw j*pw k*(c'+b'):=by
   intro b' d' hd' hd0 hb' hstep
   obtain ⟨c2,b2,u2,k1,k2⟩:=u1r D hw3 hg d (i+1) (S / 1000000000) b' (u'.set (i+j) d') (by omega) (by omega) hb' (hw.set _ hd0.1 hd0.2) (by simpa using hl)
    (fun n h=>by rw [O5 (by omega)]; exact hn n (by omega)) (by
     rw [es d',et,z6s,show i+j=j+i by omega,y4p]
     have:=w5b hv eS (Int.emod_add_mul_ediv S 1000000000) ed hd'
     rw [this]; grind)
   exact ⟨c2,b2,u2,hstep (c2:=0) k1,k2⟩
  by_cases c1:dd < 0
  · refine key 1 (dd+1000000000) (by omega) (by omega) (.inr rfl) fun k1=>?_
    exact x3j (i9:=g) (i10:=x) (i11:=x) (i12:=g*x) (i13:=S) (i14:=S / 1000000000) (i15:=((i+j:Nat):Int)) (i16:=w) (i17:=w) (i18:=S % 1000000000) (i19:=w - S % 1000000000) (i20:=dd) (i21:=dd+1000000000) (i22:=dd+1000000000) (r6:=Wr (u'.set (i+j) (dd+1000000000))) (i23:=((i+1:Nat):Int))
     (wi (by omega)) (wi (by omega)) (wi (by omega)) (wi (by omega)) (wi ⟨tdv hS.1 rfl,by omega,by omega⟩) (wi (by omega)) (wi (by omega)) (tmd hS.1 rfl) (wi (by omega)) (wi (by omega)) (wi (by omega)) (w32 (by omega)) (by rw [Int.toNat_natCast,z7t]) (wi (by omega))
     (by omega) (by omega) gk (by omega) gu c1 k1
  · refine key 0 dd (by omega) (by omega) (.inl rfl) fun k1=>?_
    exact x3k (i9:=g) (i10:=x) (i11:=x) (i12:=g*x) (i13:=S) (i14:=S / 1000000000) (i15:=((i+j:Nat):Int)) (i16:=w) (i17:=w) (i18:=S % 1000000000) (i19:=w - S % 1000000000) (i20:=dd) (i21:=dd) (r7:=Wr (u'.set (i+j) dd)) (i24:=((i+1:Nat):Int))
     (wi (by omega)) (wi (by omega)) (wi (by omega)) (wi (by omega)) (wi ⟨tdv hS.1 rfl,by omega,by omega⟩) (wi (by omega)) (wi (by omega)) (tmd hS.1 rfl) (wi (by omega)) (wi (by omega)) (w32 (by omega)) (by rw [Int.toNat_natCast,z7t]) (wi (by omega))
     (by omega) (by omega) gk (by omega) gu c1 k1
theorem u1p {m w1 w3 w4:RW} {lq lu k j:Nat} {u v:List Int} (D:Dv u v lu k j) (hw3:∀ i:Nat,i < k→w3[i]?=some [.u32 (v.getD i 0)]) {g last:Int} {u1:List Int} :
    ∀ d i up u',i+d=k→0≤up∧up≤1→Wd u'→u'.length=lu→(∀ n,n < j∨j+i≤n→u'.getD n 0=u1.getD n 0)→wv u'=wv u1+pw j*wv (v.take i) - pw j*pw i*up →
    ∃ up' u'',Lp E 5 A8 3 (z1h m lu k k lq j g last up k i w1 (Wr u') w3 w4) (.exit 7) (z7b m lu k k lq j g last w1 w3 w4 up' (Wr u''))∧(0≤up'∧up'≤1)∧Wd u''∧u''.length=lu∧(∀ n,n < j∨j+k≤n→u''.getD n 0=u1.getD n 0)∧wv u''=wv u1+pw j*wv v - pw j*pw k*up'
 | 0,i,up,u',hi,hc,hw,hl,hn,hv=>by
  have:i=k:=by omega
  subst this
  have:=D.elv
  rw [List.take_of_length_le (by omega)] at hv
  exact ⟨up,u',x1o (by omega),hc,hw,hl,hn,hv⟩
 | d+1,i,up,u',hi,hc,hw,hl,hn,hv=>by
  have hjk:=D.jk
  have hsm:=D.small
  have a0:=D.hv.getD i
  have b0:=hw.getD (i+j)
  have gk:w3[Int.toNat (i:Int)]?=some [.u32 (v.getD i 0)]:=hw3 i (by omega)
  have gu:(Wr u')[Int.toNat ((i+j:Nat):Int)]?=some [.u32 (u'.getD (i+j) 0)]:=G5 (by omega)
  have et:=z2o v i (by have:=D.elv; omega)
  have es:=y4j u' (i+j) (by omega)
  obtain ⟨x,ex⟩:∃ x,x=v.getD i 0:=⟨_,rfl⟩
  obtain ⟨w,ew⟩:∃ w,w=u'.getD (i+j) 0:=⟨_,rfl⟩
  rw [← ex] at a0 gk et
  rw [← ew] at b0 gu es
  obtain ⟨S,eS⟩:∃ S,S=up+(w+x):=⟨_,rfl⟩
  have hS:0≤S∧S≤1999999999:=by omega
  obtain ⟨up2,u2,k1,k2⟩:=u1p (g:=g) (last:=last) D hw3 (u1:=u1) d (i+1) (S / 1000000000) (u'.set (i+j) (S % 1000000000)) (by omega) (by omega) (hw.set _ (by omega) (by omega)) (by simpa using hl)
   (fun n h=>by rw [O5 (by omega)]; exact hn n (by omega)) (by
    rw [es,et,z6s,show i+j=j+i by omega,y4p]
    have:=w1q hv eS (Int.emod_add_mul_ediv S 1000000000)
    rw [this]; grind)
  refine ⟨up2,u2,?_,k2⟩
  exact x3l (i8:=((i+j:Nat):Int)) (i9:=w) (i10:=w) (i11:=x) (i12:=x) (i13:=w+x) (i14:=S) (i15:=S % 1000000000) (i16:=S % 1000000000) (r6:=Wr (u'.set (i+j) (S % 1000000000))) (i17:=S / 1000000000) (i18:=((i+1:Nat):Int))
   (wi (by omega)) (wu (by omega)) (wu (by omega)) (wu (by omega)) (wu (by omega)) (tmd hS.1 rfl) (w32 (by omega)) (by rw [Int.toNat_natCast,z7t]) (wu ⟨tdv hS.1 rfl,by omega,by omega⟩) (wi (by omega))
   (by omega) (by omega) gu (by omega) gk k1
end Gev
namespace Gev
open Go Gb
variable {E:Env}
theorem u5k {xs ys:List Int} (hl:xs.length=ys.length) (j:Nat) (h:∀ n,n < j→xs.getD n 0=ys.getD n 0):xs.take j=ys.take j:=by
 induction j with
 | zero=>simp
 | succ j ih =>
  rcases Nat.lt_or_ge j xs.length with hj | hj
  · rw [k6d xs j hj,k6d ys j (by omega),ih (fun n hn=>h n (by omega)),h j (by omega)]
  · rw [List.take_of_length_le (by omega),List.take_of_length_le (by omega)]
    rw [List.take_of_length_le hj,List.take_of_length_le (by omega)] at ih
    exact ih fun n hn=>h n (by omega)
theorem w6e {p a b:Int} (hp:0 < p) (h:p*a=p*b):a=b:=Int.eq_of_mul_eq_mul_left (by omega) h
theorem y9s {xs ys:List Int} (hl:xs.length=ys.length) {j:Nat} (hj:j≤xs.length) (h:∀ n,n < j→xs.getD n 0=ys.getD n 0) {T:Int} (hv:wv xs=wv ys - pw j*T):wv (xs.drop j)=wv (ys.drop j) - T:=by
 have e1:=H3 xs j hj
 have e2:=H3 ys j (by omega)
 rw [u5k hl j h] at e1
 refine w6e (z3d j) ?_
 rw [Int.mul_sub]
 omega
theorem u1q {m w1 w3:RW} {lq lu k j:Nat} {u v q:List Int} (D:Dv u v lu k j) (hw3:∀ i:Nat,i < k→w3[i]?=some [.u32 (v.getD i 0)]) (hq:q.length=lq) (hj:j < lq) :
    ∃ u' g,(∀ {o:Out} {st:St},Lp E 5 A8 0 (K2 m lu k k lq ((j:Int) - 1) w1 (Wr u') w3 (Wr (q.set j g))) o st→Lp E 5 A8 0 (K2 m lu k k lq j w1 (Wr u) w3 (Wr q)) o st) ∧
     (0≤g∧g < 1000000000)∧Wd u'∧u'.length=lu∧wv u'=wv u - pw j*(g*wv v)∧0≤wv (u'.drop j)∧wv (u'.drop j) < wv v:=by
 have h2:=D.two
 have hjk:=D.jk
 have hsm:=D.small
 have hlu:=D.elu
 have hlv:=D.elv
 have hnorm:=D.norm
 have hV:=D.vpos
 have hVk:=D.vk
 have a1:=D.hv.getD (k - 1)
 have b1:=D.hu.getD (j+k - 1)
 have b0:=D.hu.getD (j+k)
 have bj:=D.hu.getD j
 have hlow:=D.low
 have hz:=D.zero
 have eX1:=X9 u j (by omega)
 obtain ⟨v1,e1⟩:∃ x,x=v.getD (k - 1) 0:=⟨_,rfl⟩
 obtain ⟨u0,e3⟩:∃ x,x=u.getD (j+k) 0:=⟨_,rfl⟩
 obtain ⟨u1',e4⟩:∃ x,x=u.getD (j+k - 1) 0:=⟨_,rfl⟩
 obtain ⟨top,et⟩:∃ x,x=u0*1000000000+u1':=⟨_,rfl⟩
 have gk1:w3[Int.toNat ((k:Int) - 1)]?=some [.u32 v1]:=by
  rw [show Int.toNat ((k:Int) - 1)=k - 1 by omega,e1]; exact hw3 _ (by omega)
 have gu0:(Wr u)[Int.toNat ((j:Int)+k)]?=some [.u32 u0]:=by
  rw [show Int.toNat ((j:Int)+k)=j+k by omega,e3]; exact G5 (by omega)
 have gu1:(Wr u)[Int.toNat ((j:Int)+k - 1)]?=some [.u32 u1']:=by
  rw [show Int.toNat ((j:Int)+k - 1)=j+k - 1 by omega,e4]; exact G5 (by omega)
 rw [← e1] at a1 hnorm
 rw [← e3] at b0
 rw [← e4] at b1
 have htop:0≤top:=by omega
 have hdm:=Int.emod_add_mul_ediv top v1
 have hr0:=Int.emod_nonneg top (show v1≠0 by omega)
 have hr1:=Int.emod_lt_of_pos top (show 0 < v1 by omega)
 have hg0:0≤top / v1:=Int.ediv_nonneg htop (by omega)
 have hmul:top / v1*v1+top % v1=top:=by rw [Int.mul_comm]; omega
 have hX3:=x4d (u:=u) (j:=j) (k:=k) h2 (by omega) hz
 rw [← e3,← e4,← et] at hX3
 have hV2:=x6y hlv h2
 rw [← e1] at hV2
 have a2:=D.hv.getD (k - 2)
 have vl1:=D.hv.val_take_lt (k - 2) (by omega)
 have xl0:=D4 ((D.hu.drop j).take (k - 2))
 have hP:=z3d (k - 2)
 have b2:=D.hu.getD (j+k - 2)
 have hu0:u0≤v1:=by
  rcases Int.lt_or_le v1 u0 with h | h
  · exfalso
    have e5:=H3 (u.drop (j+1)) (k - 1) (by simp; omega)
    rw [List.drop_drop,show j+1+(k - 1)=j+k by omega,X9 u (j+k) (by omega),hz,← e3] at e5
    have h6:=D4 ((D.hu.drop (j+1)).take (k - 1))
    have e7:=H3 v (k - 1) (by omega)
    rw [X9 v (k - 1) (by omega),← e1,show k - 1+1=k by omega,List.drop_eq_nil_of_le (by omega),show wv []=0 from rfl] at e7
    have h8:=D.hv.val_take_lt (k - 1) (by omega)
    have h9:pw (k - 1)*(v1+1)≤pw (k - 1)*u0:=Int.mul_le_mul_of_nonneg_left (by omega) (by have:=z3d (k - 1); omega)
    rw [Int.mul_add,Int.mul_one] at h9
    simp at e5 e7
    omega
  · exact h
 have hgB:top / v1≤1000000001:=by
  have:top / v1 < 1000000002:=Int.ediv_lt_of_lt_mul (by omega) (by omega)
  omega
 have hbig:top / v1=1000000001→top % v1+v1 < 1000000000:=by
  intro h
  rw [h] at hmul
  omega
 have hXg:wv (u.drop j) < (top / v1+1)*wv v:=by
  have h5:top+1≤(top / v1+1)*v1:=by
   have:(top / v1+1)*v1=top / v1*v1+v1:=by grind
   omega
  have h6:=Int.mul_le_mul_of_nonneg_right h5 (show 0≤1000000000*pw (k - 2) by omega)
  have h7:(top / v1+1)*(v1*(1000000000*pw (k - 2)))≤(top / v1+1)*wv v:=by
   refine Int.mul_le_mul_of_nonneg_left ?_ (by omega)
   have h8:(v1*1000000000+v.getD (k - 2) 0)*pw (k - 2)=v1*(1000000000*pw (k - 2))+v.getD (k - 2) 0*pw (k - 2):=by grind
   have h9:0≤v.getD (k - 2) 0*pw (k - 2):=Int.mul_nonneg a2.1 (by omega)
   have h10:=D4 (D.hv.take (k - 2))
   omega
  have h8:(top / v1+1)*v1*(1000000000*pw (k - 2))=(top / v1+1)*(v1*(1000000000*pw (k - 2))):=by grind
  have h9:(top+1)*(1000000000*pw (k - 2))=top*1000000000*pw (k - 2)+1000000000*pw (k - 2):=by grind
  have h10:(top*1000000000+u.getD (j+k - 2) 0)*pw (k - 2)=top*1000000000*pw (k - 2)+u.getD (j+k - 2) 0*pw (k - 2):=by grind
  have h11:u.getD (j+k - 2) 0*pw (k - 2)≤999999999*pw (k - 2):=Int.mul_le_mul_of_nonneg_right (by omega) (by omega)
  have h12:=(D.hu.drop j).val_take_lt (k - 2) (by simp; omega)
  omega
 obtain ⟨g,k1,k2,k3,k4⟩:=w2t (E:=E) (m:=m) (w1:=w1) (w4:=Wr q) (lq:=lq) D hw3 1000000002 (top / v1) (top % v1) hg0 (by omega) hgB ⟨hr0,by omega⟩ (by rw [← e1,← e3,← e4,← et]; exact hmul) hXg (by rw [← e1]; exact hbig)
 obtain ⟨c,b,us,s1,s2,s3,s4,s5,s6,s7⟩:=u1r (E:=E) (m:=m) (w1:=w1) (w4:=Wr q) (lq:=lq) D hw3 k2 k 0 0 0 u (by omega) (by omega) (.inl rfl) D.hu D.elu (fun _ _=>rfl) (by simp [wv])
 have hsu:us.getD (j+k) 0=u0:=by rw [s6 _ (.inr (Nat.le_refl _)),← e3]
 have gs0:(Wr us)[Int.toNat ((j:Int)+k)]?=some [.u32 u0]:=by
  rw [show Int.toNat ((j:Int)+k)=j+k by omega,← hsu]; exact G5 (by omega)
 obtain ⟨last,hlast⟩:∃ x,x=u0 - c - b:=⟨_,rfl⟩
 have hset:=y4j us (j+k) (by omega)
 rw [hsu] at hset
 have sv:wv us=wv u - pw j*(g*wv v - pw k*(c+b)):=by rw [s7]; grind
 have sd:=y9s (xs:=us) (ys:=u) (by omega) (j:=j) (by omega) (fun n hn=>s6 n (.inl hn)) sv
 have sk:=H3 (us.drop j) k (by simp; omega)
 have sz:wv (us.drop (j+k+1))=0:=by
  have h0:wv (us.drop (j+k+1))=wv (u.drop (j+k+1)):=by
   congr 1
   apply List.ext_getElem?
   intro i
   rw [List.getElem?_drop,List.getElem?_drop]
   rcases Nat.lt_or_ge (j+k+1+i) lu with h | h
   · rw [getD_some (by omega),getD_some (by omega),s6 _ (.inr (by omega))]
   · rw [List.getElem?_eq_none (by omega),List.getElem?_eq_none (by omega)]
  rw [h0]; exact hz
 rw [List.drop_drop,X9 us (j+k) (by omega),sz,hsu] at sk
 have sk0:=D4 ((s4.drop j).take k)
 have sk1:=(s4.drop j).val_take_lt k (by simp; omega)
 have hpk:=z3d k
 have hpj:=z3d j
 have wj:((j:Int)+k)=((j+k:Nat):Int):=by omega
 have gq:(Wr q)[Int.toNat (j:Int)]?=some [.u32 (q.getD j 0)]:=G5 (by omega)
 have hXV:(g+1)*wv v=g*wv v+wv v:=by grind
 by_cases c1:last < 0
 · -- once too often
   have hneg:wv (u.drop j) < g*wv v:=by
    have h5:pw k*last≤pw k*(-1):=Int.mul_le_mul_of_nonneg_left (by omega) (by omega)
    have h6:pw k*last=pw k*u0 - pw k*(c+b):=by rw [hlast]; grind
    simp at sk
    omega
   have hg1:1≤g:=by
    rcases Int.lt_or_le g 1 with h | h
    · have:g=0:=by omega
      subst this
      have:=D4 (D.hu.drop j)
      omega
    · exact h
   obtain ⟨up,ua,t1,t2,t3,t4,t5,t6⟩:=u1p (E:=E) (m:=m) (w1:=w1) (w4:=Wr q) (lq:=lq) (g:=g - 1) (last:=last) D hw3 (u1:=us) k 0 0 us (by omega) (by omega) s4 s5 (fun _ _=>rfl) (by simp [wv])
   have hau:ua.getD (j+k) 0=u0:=by rw [t5 _ (.inr (Nat.le_refl _)),hsu]
   have ga0:(Wr ua)[Int.toNat ((j:Int)+k)]?=some [.u32 u0]:=by
    rw [show Int.toNat ((j:Int)+k)=j+k by omega,← hau]; exact G5 (by omega)
   have hset2:=y4j ua (j+k) (by omega)
   rw [hau] at hset2
   have tv:wv ua=wv u - pw j*((g - 1)*wv v - pw k*(c+b)+pw k*up):=by rw [t6,s7]; grind
   have td:=y9s (xs:=ua) (ys:=u) (by omega) (j:=j) (by omega) (fun n hn=>by rw [t5 n (.inl hn)]; exact s6 n (.inl hn)) tv
   have tk:=H3 (ua.drop j) k (by simp; omega)
   have tz:wv (ua.drop (j+k+1))=0:=by
    have h0:wv (ua.drop (j+k+1))=wv (us.drop (j+k+1)):=by
     congr 1
     apply List.ext_getElem?
     intro i
     rw [List.getElem?_drop,List.getElem?_drop]
     rcases Nat.lt_or_ge (j+k+1+i) lu with h | h
     · rw [getD_some (by omega),getD_some (by omega),t5 _ (.inr (by omega))]
     · rw [List.getElem?_eq_none (by omega),List.getElem?_eq_none (by omega)]
    rw [h0]; exact sz
   rw [List.drop_drop,X9 ua (j+k) (by omega),tz,hau] at tk
   have tk0:=D4 ((t3.drop j).take k)
   have tk1:=(t3.drop j).val_take_lt k (by simp; omega)
   have hg1V:(g - 1)*wv v=g*wv v - wv v:=by grind
   have hzero:last+up=0:=by
    have h5:pw k*(last+up)=pw k*u0 - pw k*(c+b)+pw k*up:=by rw [hlast]; grind
    have h6:-pw k < pw k*(last+up)∧pw k*(last+up) < pw k:=by
     simp at tk
     omega
    rcases Int.lt_trichotomy (last+up) 0 with h | h | h
    · have:pw k*(last+up)≤pw k*(-1):=Int.mul_le_mul_of_nonneg_left (by omega) (by omega)
      omega
    · exact h
    · have:pw k*1≤pw k*(last+up):=Int.mul_le_mul_of_nonneg_left (by omega) (by omega)
      omega
   have hfin:wv (ua.set (j+k) 0)=wv u - pw j*((g - 1)*wv v):=by
    rw [hset2,tv,y4p]
    have:u0=c+b - up:=by omega
    rw [this]; grind
   have hd:=y9s (xs:=ua.set (j+k) 0) (ys:=u) (by simp; omega) (j:=j) (by simp; omega) (fun n hn=>by rw [O5 (by omega),t5 n (.inl hn)]; exact s6 n (.inl hn)) hfin
   refine ⟨ua.set (j+k) 0,g - 1,fun {o} {st} ih=>?_,by omega,t3.set _ (by omega) (by omega),by simpa using t4,hfin,?_,?_⟩
   · exact x3f (i2:=(j:Int)+k) (i3:=u0) (i4:=u0) (i5:=u0*1000000000) (i6:=(j:Int)+k - 1) (i7:=u1') (i8:=u1') (i9:=top) (i10:=(k:Int) - 1) (i11:=v1) (i12:=v1) (i13:=top / v1) (i14:=top % v1) (i15:=g) (i16:=c) (i17:=b) (r7:=Wr us) (i18:=u0) (i19:=u0) (i20:=u0 - c) (i21:=last) (i22:=g - 1) (i23:=up) (r8:=Wr ua) (i24:=up) (i25:=0) (i26:=0) (i27:=0) (i28:=u0) (r9:=Wr (ua.set (j+k) 0)) (i29:=g - 1) (i30:=q.getD j 0) (r10:=Wr (q.set j (g - 1))) (i31:=(j:Int) - 1)
      (wi (by omega)) (wu (by omega)) (wu (by omega)) (wi (by omega)) (wu (by omega)) (wu (by omega)) (wi (by omega)) (wu (by omega)) (wu ⟨tdv htop rfl,hg0,by omega⟩) (tmd htop rfl) (wi (by omega)) (wi (by omega)) (wi (by omega)) (wu (by omega)) (wi (by omega)) (wi (by omega)) (by simp) (w32 (by omega)) (by rw [wj,Int.toNat_natCast,z7t]) (w32 (by omega)) (by rw [Int.toNat_natCast,z7t]) (wi (by omega))
      (by omega) (by omega) gu0 (by omega) gu1 (by omega) gk1 (by omega) k1 s1 gs0 c1 t1 ga0 (by omega) gq ih
   · rw [hd]; omega
   · rw [hd]; omega
 · have hfin:wv (us.set (j+k) last)=wv u - pw j*(g*wv v):=by
    rw [hset,sv,y4p,hlast]; grind
   have hd:=y9s (xs:=us.set (j+k) last) (ys:=u) (by simp; omega) (j:=j) (by simp; omega) (fun n hn=>by rw [O5 (by omega)]; exact s6 n (.inl hn)) hfin
   refine ⟨us.set (j+k) last,g,fun {o} {st} ih=>?_,k2,s4.set _ (by omega) (by omega),by simpa using s5,hfin,?_,?_⟩
   · exact x3g (i2:=(j:Int)+k) (i3:=u0) (i4:=u0) (i5:=u0*1000000000) (i6:=(j:Int)+k - 1) (i7:=u1') (i8:=u1') (i9:=top) (i10:=(k:Int) - 1) (i11:=v1) (i12:=v1) (i13:=top / v1) (i14:=top % v1) (i15:=g) (i16:=c) (i17:=b) (r7:=Wr us) (i18:=u0) (i19:=u0) (i20:=u0 - c) (i21:=last) (i22:=last) (i23:=last) (r8:=Wr (us.set (j+k) last)) (i24:=g) (i25:=q.getD j 0) (r11:=Wr (q.set j g)) (i27:=(j:Int) - 1)
      (wi (by omega)) (wu (by omega)) (wu (by omega)) (wi (by omega)) (wu (by omega)) (wu (by omega)) (wi (by omega)) (wu (by omega)) (wu ⟨tdv htop rfl,hg0,by omega⟩) (tmd htop rfl) (wi (by omega)) (wi (by omega)) (wi (by omega)) (if_neg (by omega)) (w32 (by omega)) (by rw [wj,Int.toNat_natCast,z7t]) (w32 (by omega)) (by rw [Int.toNat_natCast,z7t]) (wi (by omega))
      (by omega) (by omega) gu0 (by omega) gu1 (by omega) gk1 (by omega) k1 s1 gs0 c1 (by omega) gq ih
   · have h5:=D4 ((s4.set (j+k) (show 0≤last by omega) (by omega)).drop j)
     exact h5
   · rw [hd]; omega
theorem w7u {m w1 w3:RW} {lq lu k:Nat} {v:List Int} (hv:Wd v) (hlv:v.length=k) (h2:2≤k) (hn:1000000000≤2*v.getD (k - 1) 0) (hsm:lu < 35184372088832) (hw3:∀ i:Nat,i < k→w3[i]?=some [.u32 (v.getD i 0)]) :
    ∀ j u q,Wd u→u.length=lu→Wd q→q.length=lq→j≤lq→(0 < j→j - 1+k < lu)→wv (u.drop j) < wv v →
    ∃ u' q',Lp E 5 A8 0 (K2 m lu k k lq ((j:Int) - 1) w1 (Wr u) w3 (Wr q)) (.exit 1) (z7a m lu k lq w1 w3 (Wr u') (Wr q'))∧Wd u'∧u'.length=lu∧Wd q'∧q'.length=lq∧wv u' < wv v∧wv u'+wv v*wv q'=wv u+wv v*(pw j*wv (q.drop j))
 | 0,u,q,hu,hlu,hq,hlq,_,_,hlow=>⟨u,q,x1j (by omega),hu,hlu,hq,hlq,by simpa using hlow,by simp [x8d]⟩
 | j+1,u,q,hu,hlu,hq,hlq,hj,hjk,hlow=>by
  have D:Dv u v lu k j:=⟨hu,hv,hlu,hlv,h2,hn,by have:=hjk (by omega); omega,hsm,hlow⟩
  obtain ⟨u1,g,st,hg,k1,k2,k3,k4,k5⟩:=u1q (E:=E) (m:=m) (w1:=w1) D hw3 hlq (by omega)
  obtain ⟨u',q',r1,r2,r3,r4,r5,r6,r7⟩:=w7u hv hlv h2 hn hsm hw3 j u1 (q.set j g) k1 k2 (hq.set _ hg.1 hg.2) (by simpa using hlq) (by omega) (fun h=>by have:=D.jk; omega) k5
  refine ⟨u',q',?_,r2,r3,r4,r5,r6,?_⟩
  · rw [show ((j+1:Nat):Int) - 1=(j:Int) by omega]; exact st r1
  · have hd:(q.set j g).drop (j+1)=q.drop (j+1):=List.drop_set_of_lt (Nat.lt_succ_self j)
    rw [r7,k3,y1n (q.set j g) j,y3x (by omega),hd,z6s]
    grind
theorem x4t {n m q r:Nat} (h:n=q*m+r) (hr:r < m):n / m=q∧n % m=r:=by
 subst h
 rw [Nat.mul_comm]
 exact ⟨by rw [Nat.mul_add_div (by omega),Nat.div_eq_of_lt hr,Nat.add_zero],by rw [Nat.mul_add_mod,Nat.mod_eq_of_lt hr]⟩
theorem w9t {xs:List Int} {k i:Nat} (h:i < k):(xs.take k).getD i 0=xs.getD i 0:=by
 rw [List.getD_eq_getElem?_getD,List.getD_eq_getElem?_getD,List.getElem?_take_of_lt h]
theorem v8v {m n:Nat} (hm:2≤(words m).length) (hmn:m≤n) (hl:(words n).length < 1099511627776) (hns:¬ n < 1000000000000000000):Fn E A8 [.c (.list (Wr (words n))),.c (.list (Wr (words m)))] (.tup [.c (.list (Wr (words (n / m)))),.c (.list (Wr (words (n % m))))]):=by
 have hlm:(words m).length≤(words n).length:=(z0u m).length_le (B9 m) (B9 n) (by rw [B5,B5]; omega)
 obtain ⟨k,hk⟩:∃ k,k=(words m).length:=⟨_,rfl⟩
 rw [← hk] at hm hlm
 have ht:=(B9 m).getD (k - 1)
 obtain ⟨t,et⟩:∃ t,t=(words m).getD (k - 1) 0:=⟨_,rfl⟩
 rw [← et] at ht
 obtain ⟨f,hf⟩:∃ f:Nat,(f:Int)=1000000000 / (t+1):=⟨(1000000000 / (t+1)).toNat,by have:0≤1000000000 / (t+1):=Int.ediv_nonneg (by decide) (by omega); omega⟩
 obtain ⟨f1,f2,lv,nv⟩:=q1u (n:=m) rfl hk.symm (by omega) (f:=f) (by rw [← et]; exact hf)
 have hfl:(words f).length≤1:=z6k (by rw [show pw 1=1000000000 by decide]; omega)
 obtain ⟨ku,xu,hru,eu,hku,hxu⟩:=v2e (E:=E) (m:=n) (n:=f) (by omega)
 obtain ⟨kv,xv,hrv,ev,hkv,hxv⟩:=v2e (E:=E) (m:=m) (n:=f) (by omega)
 have hkv':kv=k:=by
  have:=congrArg List.length ev
  rw [List.length_take,lv] at this
  omega
 subst hkv'
 have hku':ku=(words (n*f)).length:=by
  have:=congrArg List.length eu
  rw [List.length_take] at this
  omega
 have hnf:n≤n*f:=by have:=Nat.mul_le_mul_left n f1; omega
 have hkn:(words n).length≤ku:=by rw [hku']; exact (z0u n).length_le (B9 n) (B9 _) (by rw [B5,B5]; omega)
 have hku2:ku≤(words n).length+1:=by omega
 have hu0:Wd (words (n*f)++[0]):=(B9 _).append (Wd.cons (by omega) (by omega) Wd.nil)
 have hu0l:(words (n*f)++[0]).length=ku+1:=by simp [hku']
 have hw3:∀ i:Nat,i < kv→(Wr xv)[i]?=some [.u32 ((words (m*f)).getD i 0)]:=fun i hi=>by
  rw [← ev,w9t hi]; exact G5 (by omega)
 have hvk:=y2n (B9 (m*f))
 have hvge:=(z0u (m*f)).val_ge (B9 _) (by intro h; rw [h] at lv; simp at lv; omega)
 rw [lv] at hvk hvge
 have hlow:wv ((words (n*f)++[0]).drop (ku+1 - kv)) < wv (words (m*f)):=by
  have h5:=y2n ((B9 (n*f)).drop (ku+1 - kv))
  rw [List.length_drop,← hku',show ku - (ku+1 - kv)=kv - 1 by omega] at h5
  rw [List.drop_append_of_le_length (by omega),y2o]
  omega
 obtain ⟨u',q',r1,r2,r3,r4,r5,r6,r7⟩:=w7u (E:=E) (m:=Wr (words f)) (w1:=[[.u32 0]]) (w3:=Wr xv) (lq:=ku+1 - kv) (lu:=ku+1) (B9 (m*f)) lv hm nv (by omega) hw3 (ku+1 - kv) (words (n*f)++[0]) (List.replicate (ku+1 - kv) 0) hu0 hu0l (Wd.replicate _) (by simp) (Nat.le_refl _) (fun _=>by omega) hlow
 rw [drop_nil (by simp),y2o,B5,B5,show wv []=0 from rfl] at r7
 rw [B5] at r6
 have hq0:=D4 r4
 have hr0:=D4 r2
 obtain ⟨Q,hQ⟩:∃ Q:Nat,wv q'=Q:=⟨(wv q').toNat,by omega⟩
 obtain ⟨R,hR⟩:∃ R:Nat,wv u'=R:=⟨(wv u').toNat,by omega⟩
 rw [hQ,hR] at r7
 rw [hR] at r6
 have hmf0:0 < m*f:=by omega
 have e1:n*f=Q*(m*f)+R:=by
  have:((n*f:Nat):Int)=((Q*(m*f)+R:Nat):Int):=by
   rw [Int.natCast_add,Int.natCast_mul Q]
   have:((Q:Int))*((m*f:Nat):Int)=((m*f:Nat):Int)*Q:=Int.mul_comm _ _
   simp at r7
   simp at this ⊢
   omega
  omega
 have hfR:f ∣ R:=by
  have h5:f ∣ Q*(m*f):=⟨Q*m,by rw [← Nat.mul_assoc,Nat.mul_comm]⟩
  exact (Nat.dvd_add_right h5).1 (by rw [← e1]; exact ⟨n,Nat.mul_comm _ _⟩)
 obtain ⟨R',hR'⟩:=hfR
 have e2:n=Q*m+R':=by
  have:f*n=f*(Q*m+R'):=by
   rw [Nat.mul_add,← hR',Nat.mul_comm f n,e1,← Nat.mul_assoc,Nat.mul_comm f]
  exact Nat.eq_of_mul_eq_mul_left (by omega) this
 have e3:R' < m:=by
  have:f*R' < f*m:=by rw [← hR',Nat.mul_comm f m]; omega
  exact Nat.lt_of_mul_lt_mul_left this
 obtain ⟨d1,d2⟩:=x4t e2 e3
 have hRf:R / f=R':=by rw [hR',Nat.mul_div_cancel_left _ (by omega)]
 have hul:wv (u'.take kv)=R:=by
  have h5:=H3 u' kv (by omega)
  have h6:=D4 (r2.take kv)
  have h7:=D4 (r2.drop kv)
  rw [B5] at hvk
  rcases Int.lt_or_le 0 (wv (u'.drop kv)) with h | h
  · have h8:pw kv*1≤pw kv*wv (u'.drop kv):=Int.mul_le_mul_of_nonneg_left (by omega) (by have:=z3d kv; omega)
    omega
  · have:wv (u'.drop kv)=0:=by omega
    rw [this,Int.mul_zero] at h5
    omega
 have t1:=(x7f (E:=E) (ws:=u') (k:=kv) (by omega) (by omega)).at (args:=[]) rfl rfl rfl rfl (objs:=[some .dead,some (.vec A3 [[.u32 0]]),some (.vec A3 (Wr u')),some (.vec A3 (Wr xv)),some (.vec A3 (Wr q'))]) (l:=2) rfl
 have t2:=(x7f (E:=E) (ws:=q') (k:=ku+1 - kv) (by omega) (by omega)).at (args:=[]) rfl rfl rfl rfl (objs:=[some .dead,some (.vec A3 [[.u32 0]]),some (.fro (Wr u')),some (.vec A3 (Wr xv)),some (.vec A3 (Wr q'))]) (l:=4) rfl
 have w1:=z3k r2 (k:=kv) (by omega)
 rw [hul] at w1
 have w2:=z3k r4 (k:=ku+1 - kv) (by omega)
 rw [← r5,List.take_length,hQ,r5] at w2
 have hRl:(words R).length < 35184372088000:=by
  have:=congrArg List.length w1
  rw [List.length_take,Int.toNat_natCast] at this
  have:=j8c u' kv
  omega
 have hby:=by_ok (E:=E) (n:=R) (w:=f) ⟨by omega,by omega⟩ hRl
 rw [hRf,show words R=u'.take (z3j u' kv) from w1.symm,← z2l] at hby
 rw [d1,d2]
 have h18:(18446744073709551615:Int)≥0:=by decide
 by_cases hsm:m < 1000000000000000000
 · exact y9u (i0:=cmpI n m) (i1:=0) (i2:=(m:Int)) (b2:=true) (i3:=(kv:Int) - 1) (i5:=t) (i4:=t) (i6:=t+1) (i7:=(f:Int)) (r5:=Wr (words f)) (n0:=ku) (r6:=Wr xu) (r7:=Wr (words (n*f)++[0])) (n1:=ku+1) (n2:=kv) (r8:=Wr xv) (i11:=((ku+1 - kv:Nat):Int)) (n3:=ku+1 - kv) (r17:=Wr (List.replicate (ku+1 - kv) 0)) (i12:=((ku+1 - kv:Nat):Int) - 1) (r10:=Wr u') (r18:=Wr q') (i13:=(f:Int)) (b1:=true) (n8:=kv) (n9:=z3j u' kv) (n10:=z3j q' (ku+1 - kv))
    (wi (by rw [B3,← hk]; omega)) (wu (by omega)) (wu (by omega)) (wu ⟨tdv (by omega) hf.symm,by omega,by omega⟩) (by rw [z2l,eu,x3t]) rfl (wi (by omega)) (Int.toNat_natCast _) (z8x _ _) (wi (by omega)) (Int.toNat_natCast _) rfl (by rw [z2l,w2,Int.toNat_natCast])
    (x2j (by omega)) (by unfold cmpI; split <;> (try split) <;> omega) (y7b hns) (z7z hsm) (by rw [B3,← hk]; omega) (by omega) (by rw [show Int.toNat ((kv:Int) - 1)=kv - 1 by omega,et]; exact G5 (by omega)) (by omega) (v7h (by omega)) hru (by omega) hrv (by rw [B3]; omega) (by omega) r1 (z7z (by omega)) (by omega) t1 hby t2
 · exact y9u (i0:=cmpI n m) (i1:=0) (i2:=0) (b2:=false) (i3:=(kv:Int) - 1) (i5:=t) (i4:=t) (i6:=t+1) (i7:=(f:Int)) (r5:=Wr (words f)) (n0:=ku) (r6:=Wr xu) (r7:=Wr (words (n*f)++[0])) (n1:=ku+1) (n2:=kv) (r8:=Wr xv) (i11:=((ku+1 - kv:Nat):Int)) (n3:=ku+1 - kv) (r17:=Wr (List.replicate (ku+1 - kv) 0)) (i12:=((ku+1 - kv:Nat):Int) - 1) (r10:=Wr u') (r18:=Wr q') (i13:=(f:Int)) (b1:=true) (n8:=kv) (n9:=z3j u' kv) (n10:=z3j q' (ku+1 - kv))
    (wi (by rw [B3,← hk]; omega)) (wu (by omega)) (wu (by omega)) (wu ⟨tdv (by omega) hf.symm,by omega,by omega⟩) (by rw [z2l,eu,x3t]) rfl (wi (by omega)) (Int.toNat_natCast _) (z8x _ _) (wi (by omega)) (Int.toNat_natCast _) rfl (by rw [z2l,w2,Int.toNat_natCast])
    (x2j (by omega)) (by unfold cmpI; split <;> (try split) <;> omega) (y7b hns) (y7b hsm) (by rw [B3,← hk]; omega) (by omega) (by rw [show Int.toNat ((kv:Int) - 1)=kv - 1 by omega,et]; exact G5 (by omega)) (by omega) (v7h (by omega)) hru (by omega) hrv (by rw [B3]; omega) (by omega) r1 (z7z (by omega)) (by omega) t1 hby t2
end Gev
namespace Gev
open Go Gb
variable {E:Env}
def Lim:Nat:=1000000000
structure Lib (E:Env):Prop where
 parseUint:∀ l:List UInt8,Dg l→1≤l.length→l.length≤9→Fn E y3j [.c (.str (B l)),.c (.i64 10),.c (.i64 32)] (.tup [.c (.u64 (dval l:Int)),.undef])
 /-- what is behind a text in front of another one -/
 cutPrefix:∀ l p:List UInt8,l.length < 10000000000000→p.length < 10000000000000→Fn E y3k [.c (.str (B l)),.c (.str (B p))] (.tup [.c (.str (B (if p.isPrefixOf l then l.drop p.length else l))),.c (.bool (p.isPrefixOf l))])
 /-- what is ahead of the first slash,and behind it -/
 cutYes:∀ p q:List UInt8,(47:UInt8) ∉ p→p.length+q.length < 4000000000→Fn E y0h [.c (.str (B (p++47::q))),.c (.str (B [47]))] (.tup [.c (.str (B p)),.c (.str (B q)),.c (.bool true)])
 cutNo:∀ p:List UInt8,(47:UInt8) ∉ p→p.length < 4000000000→Fn E y0h [.c (.str (B p)),.c (.str (B [47]))] (.tup [.c (.str (B p)),.c (.str (B [])),.c (.bool false)])
 parseInt:∀ z:Int,(decZ z).length≤9→Fn E z8w [.c (.str (B (decZ z))),.c (.i64 10),.c (.i64 64)] (.tup [.c (.i64 z),.undef])
 formatInt:∀ z:Int,-9223372036854775808≤z∧z≤9223372036854775807→Fn E z7l [.c (.i64 z),.c (.i64 10)] (.c (.str (B (decZ z))))
 itoa:∀ z:Int,-9223372036854775808≤z∧z≤9223372036854775807→Fn E y5x [.c (.i64 z)] (.c (.str (B (decZ z))))
 /-- an operation of package rational,by its byte -/
 apply:∀ (op:Int) (f:Nat),(op,f)∈[(43,z3n),(42,z4v),(45,z0o),(47,y5e)]→∀ (a b x1 x2 y1 y2 z1 z2 t:BA),Fn E F_rational_both [.c (.str a),.c (.str b)] (.tup [.agg [.str x1,.str x2],.agg [.str y1,.str y2],.c (.i64 0)])→(op=47→¬ y1=B [48]) →
  Fn E f [.agg [.str x1,.str x2],.agg [.str y1,.str y2]] (.agg [.str z1,.str z2])→Fn E F_rational_frac_text [.agg [.str z1,.str z2]] (.c (.str t))→Fn E z7q [.c (.u8 op),.c (.str a),.c (.str b)] (.tup [.c (.str t),.c (.i64 0)])
 text:∀ n K:Nat,n < 10 ^ K→K≤Lim+1→Fn E V4 [.c (.list (Wr (words n)))] (.c (.str (B (dec n))))
theorem w9m (K:Nat):((10 ^ K:Nat):Int)≤pw K:=by
 unfold pw
 rw [show (1000000000:Int) ^ K=((1000000000 ^ K:Nat):Int) by rw [Int.natCast_pow]; rfl]
 exact Int.ofNat_le.2 (Nat.pow_le_pow_left (by decide) K)
theorem y0f {n K:Nat} (h:n < 10 ^ K):(words n).length≤K:=z6k (Int.lt_of_lt_of_le (Int.ofNat_lt.2 h) (w9m K))
theorem y2v {a b:Int}:cmpI a b < 0↔a < b:=by unfold cmpI; split <;> (try split) <;> omega
theorem v6q {m n:Nat} (hm:m≠0) (hl:(words n).length < 1099511627776):Fn E A8 [.c (.list (Wr (words n))),.c (.list (Wr (words m)))] (.tup [.c (.list (Wr (words (n / m)))),.c (.list (Wr (words (n % m))))]):=by
 have hc:=x2j (E:=E) (m:=n) (n:=m) (by omega)
 by_cases h1:n < m
 · rw [Nat.div_eq_of_lt h1,Nat.mod_eq_of_lt h1,Y4]
   exact k3e hc (y2v.2 (by omega))
 · have hc':¬ cmpI n m < 0:=fun h=>h1 (by have:=y2v.1 h; omega)
   by_cases h2:n < 1000000000000000000
   · have hd:n / m < 1000000000000000000:=Nat.lt_of_le_of_lt (Nat.div_le_self _ _) h2
     have hr:n % m < 1000000000000000000:=Nat.lt_of_lt_of_le (Nat.mod_lt _ (by omega)) (by omega)
     have hdz:0≤((n / m:Nat):Int)∧((n / m:Nat):Int)≤18446744073709551615:=⟨Int.natCast_nonneg _,by have:=Int.ofNat_lt.2 hd; exact Int.le_trans (Int.le_of_lt this) (by decide)⟩
     exact k3f (i3:=((n / m:Nat):Int)) (i4:=((n % m:Nat):Int)) (wu ⟨tdv (by omega) rfl,hdz⟩) (tmd (by omega) rfl) hc hc' (z7z h2) (z7z (by omega)) (by omega) (v7h hd) (v7h hr)
   · by_cases h3:(words m).length=1
     · have hm1:m < 1000000000:=by
        have:=y2n (B9 m)
        rw [B5,h3,show pw 1=1000000000 by decide] at this
        omega
       have e:words m=[(m:Int)]:=by
        rcases k6f (n:=m) (by omega) with ⟨_,h⟩ | ⟨e,_,_⟩ | ⟨_,h⟩
        · exact absurd h hm
        · exact e
        · omega
       have hs:=z7z (E:=E) (n:=m) (by omega)
       have hb:=by_ok (E:=E) (n:=n) (w:=m) ⟨by omega,hm1⟩ (by omega)
       exact k3g (i3:=(m:Int)) (i5:=(m:Int)) (wu (by omega)) hc hc' (y7b h2) hs (by rw [B3,h3]; rfl) (by rw [e]; rfl) hb
     · have:words m≠[]:=fun h=>hm (z8b.1 h)
       have:=y2y this
       exact v8v (by omega) (by omega) hl h2
theorem v6y:∀ (t y x:Nat),y < t→x < 1000000000000000000→y < 1000000000000000000→Lp E 0 D5 1 (z5l x y) (.exit 2) (y2a (Nat.gcd x y:Nat))
 | 0,y,x,h,_,_=>by omega
 | t+1,y,x,h,hx,hy=>by
  by_cases h0:y=0
  · subst h0
    rw [Nat.gcd_zero_right]
    exact x6l (by omega)
  · have hm:=Nat.mod_lt x (show 0 < y by omega)
    have e:Nat.gcd x y=Nat.gcd y (x % y):=by rw [Nat.gcd_comm x y,Nat.gcd_rec y x,Nat.gcd_comm]
    rw [e]
    exact k0j (i3:=((x % y:Nat):Int)) (tmd (by omega) rfl) (by omega) (by omega) (v6y t (x % y) y (by omega) hy (by omega))
theorem q7y {L:Nat} (hL:L < 1099511627776):∀ (t n m:Nat),n < t→(words m).length≤L→(words n).length≤L →
    (Lp E 0 D5 0 (O9 (Wr (words m)) (Wr (words n))) .ret (y1y (Wr (words (Nat.gcd m n))))) ∨
    (Lp E 0 D5 0 (O9 (Wr (words m)) (Wr (words n))) (.exit 0) (y1z (Wr (words (Nat.gcd m n)))))
 | 0,n,m,h,_,_=>by omega
 | t+1,n,m,h,hm,hn=>by
  by_cases h0:n=0
  · subst h0
    rw [Nat.gcd_zero_right,Y4]
    exact .inr (x6k (by simp [Wr]))
  · have hpos:((Wr (words n)).length:Int) > 0:=by
     have:words n≠[]:=fun h=>h0 (z8b.1 h)
     have:=y2y this
     rw [B3]; omega
    have hr:=Nat.mod_lt m (show 0 < n by omega)
    have e:Nat.gcd m n=Nat.gcd n (m % n):=by rw [Nat.gcd_comm m n,Nat.gcd_rec n m,Nat.gcd_comm]
    have hrl:(words (m % n)).length≤L:=Nat.le_trans ((z0u _).length_le (B9 _) (B9 n) (by rw [B5,B5]; omega)) hn
    have hd:=v6q (E:=E) (m:=n) (n:=m) h0 (by omega)
    by_cases s1:m < 1000000000000000000
    · by_cases s2:n < 1000000000000000000
      · refine .inl (x6j hpos (z7z s1) (z7z s2) (v6y (n+1) n m (by omega) s1 s2) (v7h ?_))
        exact Nat.lt_of_le_of_lt (Nat.gcd_le_right m (by omega)) s2
      · rw [e]
        rcases q7y hL t (m % n) n (by omega) hn hrl with ih | ih
        · exact .inl (y7k hpos (z7z s1) (y7b s2) hd ih)
        · exact .inr (y7k hpos (z7z s1) (y7b s2) hd ih)
    · rw [e]
      have hs:∃ v b,Fn E C9 [.c (.list (Wr (words n)))] (.tup [.c (.u64 v),.c (.bool b)]):=by
       by_cases s2:n < 1000000000000000000
       · exact ⟨_,_,z7z s2⟩
       · exact ⟨_,_,y7b s2⟩
      obtain ⟨v,b,hs⟩:=hs
      rcases q7y hL t (m % n) n (by omega) hn hrl with ih | ih
      · exact .inl (y7l hpos (y7b s1) hs hd ih)
      · exact .inr (y7l hpos (y7b s1) hs hd ih)
theorem gcd_ok {m n L:Nat} (hL:L < 1099511627776) (hm:(words m).length≤L) (hn:(words n).length≤L):Fn E D5 [.c (.list (Wr (words m))),.c (.list (Wr (words n)))] (.c (.list (Wr (words (Nat.gcd m n))))):=by
 rcases q7y (E:=E) hL (n+1) n m (by omega) hm hn with h | h
 · exact j4m h
 · exact j4n h
def x3v (c:UInt8):Bool:=decide (48≤c.toNat) && decide (c.toNat≤57)
def natB (l:List UInt8):Bool:=!l.isEmpty && l.all x3v && (decide (l.length≤1) || !(l.head? == some 48))
theorem k5v {c:UInt8}:x3v c=true↔48≤c.toNat∧c.toNat≤57:=by simp [x3v]
theorem x3w {c:UInt8} (h:c.toNat < 48∨57 < c.toNat):x3v c=false:=by
 cases hb:x3v c with
 | false=>rfl
 | true=>have:=k5v.1 hb; omega
theorem x6a {l:List UInt8}:natB l=true↔q1r l:=by
 unfold natB q1r Dg
 simp only [Bool.and_eq_true,Bool.not_eq_true',List.isEmpty_eq_false_iff,List.all_eq_true,k5v,Bool.or_eq_true,decide_eq_true_eq,beq_eq_false_iff_ne,and_assoc]
 constructor
 · rintro ⟨h1,h2,h3⟩
   exact ⟨h1,h2,fun h=>h3.resolve_left (by omega)⟩
 · rintro ⟨h1,h2,h3⟩
   refine ⟨h1,h2,?_⟩
   by_cases h:l.length≤1
   · exact .inl h
   · exact .inr (h3 (by omega))
theorem q8q (n:Nat):natB (dec n)=true:=x6a.2 (k5q n)
theorem x1f (l:List UInt8) (i:Nat):(((B l).data.toList.getD (Int.toNat (i:Int)) 0).toNat:Int)=((l.getD i 0).toNat:Int):=by rw [y4k,Int.toNat_natCast]
theorem v2m (l:List UInt8) (hl:l.length < 9223372036854775807):∀ d i:Nat,i+d=l.length →
    ((l.drop i).all x3v=true∧Lp E 0 D7 0 (U2 (B l) l.length i) (.exit 0) z9a) ∨
    ((l.drop i).all x3v=false∧Lp E 0 D7 0 (U2 (B l) l.length i) .ret z5k)
 | 0,i,hi=>.inl ⟨by rw [List.drop_eq_nil_of_le (by omega)]; rfl,k0f (by omega)⟩
 | d+1,i,hi=>by
  have hd:l.drop i=l.getD i 0::l.drop (i+1):=by
   rw [List.drop_eq_getElem_cons (by omega),List.getD_eq_getElem?_getD,List.getElem?_eq_getElem (by omega)]; rfl
  have hlt:0≤(i:Int)∧(i:Int) < (B l).size:=by rw [F7]; omega
  rw [hd,List.all_cons]
  by_cases c1:(l.getD i 0).toNat < 48
  · have:x3v (l.getD i 0)=false:=x3w (by omega)
    exact .inr ⟨by rw [this]; rfl,k0d (x1f l i) (by omega) hlt (by omega)⟩
  · by_cases c2:(l.getD i 0).toNat > 57
    · have:x3v (l.getD i 0)=false:=x3w (by omega)
      exact .inr ⟨by rw [this]; rfl,k0e (x1f l i) (by omega) hlt (by omega) (by omega)⟩
    · have:x3v (l.getD i 0)=true:=k5v.2 (by omega)
      rw [this,Bool.true_and]
      rcases v2m l hl d (i+1) (by omega) with ⟨h1,h2⟩ | ⟨h1,h2⟩
      · exact .inl ⟨h1,x1e (x1f l i) (wi (by omega)) (by omega) hlt (by omega) (by omega) h2⟩
      · exact .inr ⟨h1,x1e (x1f l i) (wi (by omega)) (by omega) hlt (by omega) (by omega) h2⟩
theorem u0d {l:List UInt8} (h:l≠[]):¬ B l=(⟨#[]⟩:BA):=fun e=>h (y5o (e.trans u0e.symm))
theorem z4x (l:List UInt8) (hl:l.length < 9223372036854775807):Fn E D7 [.c (.str (B l))] (.c (.bool (natB l))):=by
 cases l with
 | nil=>exact q2v u0e
 | cons c m =>
  have hne:=u0d (l:=c::m) (by simp)
  have h0:(((B (c::m)).data.toList.getD 0 0).toNat:Int)=(c.toNat:Int):=by rw [y4k]; rfl
  have hloop:=v2m (E:=E) (c::m) hl (c::m).length 0 (by omega)
  simp only [List.drop_zero] at hloop
  by_cases h1:1 < (c::m).length
  · have hlt:0≤(0:Int)∧(0:Int) < (B (c::m)).size:=by rw [F7]; omega
    by_cases h2:c.toNat=48
    · have hc:c=48:=UInt8.toNat_inj.1 h2
      have e:natB (c::m)=false:=by
       unfold natB
       have:decide ((c::m).length≤1)=false:=decide_eq_false (by omega)
       rw [this]; subst hc; simp
      rw [e]
      exact q2w h0 hne (by rw [F7]; omega) hlt (by omega)
    · have hc:¬ c=48:=fun e=>h2 (by rw [e]; rfl)
      have e:natB (c::m)=(c::m).all x3v:=by
       unfold natB
       have:((c::m).head? == some 48)=false:=by simp [hc]
       rw [this]; simp
      rw [e]
      rcases hloop with ⟨g1,g2⟩ | ⟨g1,g2⟩
      · rw [g1]; exact q2y h0 hne (by rw [F7]; omega) hlt (by omega) (by rw [F7]; exact g2)
      · rw [g1]; exact q2x h0 hne (by rw [F7]; omega) hlt (by omega) (by rw [F7]; exact g2)
  · have e:natB (c::m)=(c::m).all x3v:=by
     unfold natB
     have:decide ((c::m).length≤1)=true:=decide_eq_true (by omega)
     rw [this]; simp
    rw [e]
    rcases hloop with ⟨g1,g2⟩ | ⟨g1,g2⟩
    · rw [g1]; exact q3a hne (by rw [F7]; omega) (by rw [F7]; exact g2)
    · rw [g1]; exact q2z hne (by rw [F7]; omega) (by rw [F7]; exact g2)
theorem Dg.take {l:List UInt8} (h:Dg l) (n:Nat):Dg (l.take n):=fun c hc=>h c (List.mem_of_mem_take hc)
theorem Dg.drop {l:List UInt8} (h:Dg l) (n:Nat):Dg (l.drop n):=fun c hc=>h c (List.mem_of_mem_drop hc)
theorem x0j:(10:Nat) ^ 9=1000000000:=by decide
theorem v7q (hlib:Lib E) {l:List UInt8} (hd:Dg l) (hl:l.length < 10000000000000):∀ (t i:Nat) (ws:List Int) (n:Nat),n≤t→n≤l.length→9*i≤l.length+8→ws.length=i→(0 < n→n+9*i=l.length)→Wd ws→wv ws+pw i*(dval (l.take n):Int)=dval l →
    ∃ ws',Lp E 0 z1a 0 (y0a (B (l.take n)) i (Wr ws)) (.exit 0) (y6d ws'.length (Wr ws'))∧Wd ws'∧wv ws'=dval l∧ws'.length≤l.length+8
 | t,i,ws,0,_,_,hi,hw,_,hwd,hv=>by
  rw [List.take_zero,show dval []=0 from rfl] at hv
  exact ⟨ws,by rw [hw]; exact k3i (by rw [F7]; simp),hwd,by simpa using hv,by omega⟩
 | 0,i,ws,n+1,h,_,_,_,_,_,_=>by omega
 | t+1,i,ws,n+1,hn,hnl,hi,hw,hni,hwd,hv=>by
  obtain ⟨at',ha⟩:∃ a,a=n+1 - 9:=⟨_,rfl⟩
  have hlen:(l.take (n+1)).length=n+1:=by simp; omega
  obtain ⟨p,hp⟩:∃ p,p=(l.take (n+1)).drop at':=⟨_,rfl⟩
  have hpd:Dg p:=by rw [hp]; exact Dg.drop (Dg.take hd _) _
  have hpl:p.length=n+1 - at':=by rw [hp,List.length_drop,hlen]
  have hval:dval p < 1000000000:=by
   have:=j3y hpd
   have h9:(10:Nat) ^ p.length≤10 ^ 9:=Nat.pow_le_pow_right (by decide) (by omega)
   rw [x0j] at h9
   omega
  have hsplit:l.take (n+1)=l.take at'++p:=by
   rw [hp]
   have:=(List.take_append_drop at' (l.take (n+1))).symm
   rwa [List.take_take,Nat.min_eq_left (by omega)] at this
  have hvs:wv (ws++[(dval p:Int)])+pw (i+1)*(dval (l.take at'):Int)=dval l:=by
   rw [y2o,hw,z6s]
   rw [hsplit,y9t] at hv
   by_cases h9:p.length=9
   · rw [h9,x0j] at hv
     have e:((dval (l.take at')*1000000000+dval p:Nat):Int)=1000000000*(dval (l.take at'):Int)+dval p:=by omega
     rw [e] at hv
     grind
   · have:at'=0:=by omega
     subst this
     rw [List.take_zero,show dval []=0 from rfl] at hv ⊢
     rw [show ((0*10 ^ p.length+dval p:Nat):Int)=(dval p:Int) by simp] at hv
     simp
     omega
  obtain ⟨ws',k1,k2,k3,k4⟩:=v7q hlib hd hl t (i+1) (ws++[(dval p:Int)]) at' (by omega) (by omega) (by omega) (by simp [hw]) (by omega) (hwd.append (Wd.cons (by omega) (by omega) Wd.nil)) hvs
  refine ⟨ws',?_,k2,k3,k4⟩
  have hsz:((B (l.take (n+1))).size:Int)=((n+1:Nat):Int):=by rw [F7,hlen]
  refine j1l (i0:=((n+1:Nat):Int) - 9) (i1:=(at':Int)) (s1:=B p) (i2:=(dval p:Int)) (i3:=(dval p:Int)) (r2:=Wr (ws++[(dval p:Int)])) (n2:=i+1) (s2:=B (l.take at'))
   (wi (by rw [hsz]; omega)) (by split <;> omega) (by rw [hsz,Int.toNat_natCast,Int.toNat_natCast,x1w,List.take_of_length_le (by omega),hp]) (w32 (by omega)) (by rw [z2l,← hw,List.take_length,x3t]) rfl (by rw [Int.toNat_natCast,x1w,List.drop_zero,List.take_take,Nat.min_eq_left (by omega)])
   (by rw [hsz]; omega) (by rw [F7,hlen]; omega) (hlib.parseUint p hpd (by omega) (by omega)) (by omega) (by rw [F7,hlen]; omega) k1
theorem w8h (hlib:Lib E) {l:List UInt8} (hd:Dg l) (hl:l.length < 10000000000000):Fn E z1a [.c (.str (B l))] (.c (.list (Wr (words (dval l))))):=by
 obtain ⟨ws,k1,k2,k3,k4⟩:=v7q (E:=E) hlib hd hl l.length 0 [] l.length (Nat.le_refl _) (Nat.le_refl _) (by omega) rfl (by omega) Wd.nil (by rw [List.take_length,x8d]; simp [wv])
 rw [List.take_length] at k1
 have h:=z3k k2 (k:=ws.length) (Nat.le_refl _)
 rw [List.take_length,k3,Int.toNat_natCast] at h
 exact q8t (by rw [z2l,h]) k1 (x7f (Nat.le_refl _) (by omega))
theorem j0u {n K:Nat} (h:n < 10 ^ K):(dec n).length≤K+1:=by
 rcases Nat.eq_zero_or_pos K with rfl | hK
 · have:n=0:=by simpa using h
   subst this; rw [z7v]; simp
 · exact Nat.le_succ_of_le (dec_length h hK)
theorem Y9:Lim=1000000000:=rfl
theorem k5k (hlib:Lib E) {a b K L:Nat} (ha:a < 10 ^ K) (hb:b < 10 ^ L) (hK:K≤Lim) (hL:L≤Lim):Fn E z2s [.c (.str (B (dec a))),.c (.str (B (dec b)))] (.tup [.c (.list (Wr (words a))),.c (.list (Wr (words b))),.c (.i64 0)]):=by
 have h1:=j0u ha
 have h2:=j0u hb
 rw [Y9] at hK hL
 have v1:=z4x (E:=E) (dec a) (by omega)
 have v2:=z4x (E:=E) (dec b) (by omega)
 have r1:=w8h hlib (y7x a) (by omega)
 have r2:=w8h hlib (y7x b) (by omega)
 rw [q8q] at v1 v2
 rw [z6p] at r1 r2
 exact q8s v1 v2 r1 r2
theorem j1i (hlib:Lib E) {a b K L:Nat} (ha:a < 10 ^ K) (hb:b < 10 ^ L) (hK:K≤Lim) (hL:L≤Lim):Fn E y5s [.c (.str (B (dec a))),.c (.str (B (dec b)))] (.tup [.c (.i64 (cmpI a b)),.c (.i64 0)]):=by
 have w1:=y0f ha
 have hK':=hK
 rw [Y9] at hK'
 exact j4l (k5k hlib ha hb hK hL) rfl (x2j (by omega))
theorem z3c {a K M:Nat} (h:a < 10 ^ K) (k:K≤M):a < 10 ^ M:=Nat.lt_of_lt_of_le h (Nat.pow_le_pow_right (by decide) k)
theorem w5l {a b K:Nat} (h:a < 10 ^ K) (k:b < 10 ^ K):a+b < 10 ^ (K+1):=by rw [Nat.pow_succ]; omega
theorem k3c (hlib:Lib E) {a b K L:Nat} (ha:a < 10 ^ K) (hb:b < 10 ^ L) (hK:K≤Lim) (hL:L≤Lim):Fn E y9h [.c (.str (B (dec a))),.c (.str (B (dec b)))] (.tup [.c (.str (B (dec (a+b)))),.c (.i64 0)]):=by
 have w1:=y0f ha
 have w2:=y0f hb
 have hK':=hK
 have hL':=hL
 rw [Y9] at hK' hL'
 have hs:=w5l (z3c ha (show K≤max K L by omega)) (z3c hb (show L≤max K L by omega))
 exact v3u (k5k hlib ha hb hK hL) rfl (y5n (u4u (by omega) (by omega)) (hlib.text _ _ hs (by omega)))
theorem x2o (hlib:Lib E) {a b K L:Nat} (ha:a < 10 ^ K) (hb:b < 10 ^ L) (hK:K≤Lim) (hL:L≤Lim) (hab:b≤a):Fn E y3t [.c (.str (B (dec a))),.c (.str (B (dec b)))] (.tup [.c (.str (B (dec (a - b)))),.c (.i64 0)]):=by
 have w1:=y0f ha
 have hK':=hK
 rw [Y9] at hK'
 exact v3x (k5k hlib ha hb hK hL) rfl (x2j (by omega)) (fun h=>by have:=y2v.1 h; omega) (y4n (u1o (by omega) hab) (hlib.text _ _ (Nat.lt_of_le_of_lt (Nat.sub_le _ _) ha) (by omega)))
theorem x2n (hlib:Lib E) {a b K L:Nat} (ha:a < 10 ^ K) (hb:b < 10 ^ L) (hKL:K+L≤Lim):Fn E z6w [.c (.str (B (dec a))),.c (.str (B (dec b)))] (.tup [.c (.str (B (dec (a*b)))),.c (.i64 0)]):=by
 have w1:=y0f ha
 have w2:=y0f hb
 have hK':=hKL
 rw [Y9] at hK'
 exact v3w (k5k hlib ha hb (by omega) (by omega)) rfl (y4o (u3k (by omega)) (hlib.text _ _ (z5j ha hb) (by omega)))
theorem x3z (hlib:Lib E) {a b K L:Nat} (ha:a < 10 ^ K) (hb:b < 10 ^ L) (hK:K≤Lim) (hL:L≤Lim) (h0:b≠0):Fn E z4u [.c (.str (B (dec a))),.c (.str (B (dec b)))] (.tup [.c (.str (B (dec (a / b)))),.c (.str (B (dec (a % b)))),.c (.i64 0)]):=by
 have w1:=y0f ha
 have hK':=hK
 rw [Y9] at hK'
 have hne:((Wr (words b)).length:Int)≠0:=by
  have:words b≠[]:=fun h=>h0 (z8b.1 h)
  have:=y2y this
  rw [B3]; omega
 exact j9b (k5k hlib ha hb hK hL) rfl hne (v6q h0 (by omega)) (hlib.text _ _ (Nat.lt_of_le_of_lt (Nat.div_le_self _ _) ha) (by omega)) (hlib.text _ _ (Nat.lt_of_le_of_lt (Nat.mod_le _ _) ha) (by omega))
theorem q8r (hlib:Lib E) {a b K L:Nat} (ha:a < 10 ^ K) (hb:b < 10 ^ L) (hK:K≤Lim) (hL:L≤Lim) (hp:0 < a∨0 < b):Fn E x4n [.c (.str (B (dec a))),.c (.str (B (dec b)))] (.tup [.c (.str (B (dec (Nat.gcd a b)))),.c (.i64 0)]):=by
 have w1:=y0f ha
 have w2:=y0f hb
 have hK':=hK
 have hL':=hL
 rw [Y9] at hK' hL'
 have hg:Nat.gcd a b < 10 ^ max K L:=by
  rcases hp with h | h
  · exact Nat.lt_of_le_of_lt (Nat.gcd_le_left b h) (z3c ha (by omega))
  · exact Nat.lt_of_le_of_lt (Nat.gcd_le_right a h) (z3c hb (by omega))
 exact v3v (k5k hlib ha hb hK hL) rfl (y6c (gcd_ok (L:=max K L) (by omega) (by omega) (by omega)) (hlib.text _ _ hg (by omega)))
end Gev
namespace Gev
open Go Gb
variable {E:Env}
theorem u0c (l m:List UInt8):(B l == B m)=(l == m):=by
 rw [beq_toListBytes,toList_eq,toList_eq,y4k,y4k]
theorem B48:(⟨#[48]⟩:BA)=B [48]:=rfl
theorem B45:(⟨#[45]⟩:BA)=B [45]:=rfl
theorem B49:(⟨#[49]⟩:BA)=B [49]:=rfl
theorem u0x:B [49]=B (dec 1):=by rw [y9k]
def Zc (z:Int):List DV:=[.bool (decide (z < 0)),.str (B (dec z.natAbs))]
def intB (l:List UInt8):Bool:=if [45].isPrefixOf l then natB (l.drop 1) && !(l.drop 1 == [48]) else natB l
theorem w3b (c:UInt8) (m:List UInt8):[45].isPrefixOf (c::m)=(c == 45):=by
 show ((45:UInt8) == c && [].isPrefixOf m)=(c == 45)
 simp [Bool.beq_eq_decide_eq,eq_comm]
theorem k2w {l:List UInt8}:intB l=true↔w1p l:=by
 unfold intB w1p
 cases l with
 | nil =>
  show natB []=true↔_
  constructor
  · intro h; exact absurd h (by decide)
  · rintro (h | ⟨m,h,_⟩)
    · exact absurd rfl h.1
    · cases h
 | cons c m =>
  rw [w3b]
  by_cases hc:c=45
  · subst hc
    simp only [beq_self_eq_true,if_true,List.drop_succ_cons,List.drop_zero,Bool.and_eq_true,Bool.not_eq_true',beq_eq_false_iff_ne,x6a]
    constructor
    · rintro ⟨h1,h2⟩; exact .inr ⟨m,rfl,h1,h2⟩
    · rintro (h | ⟨m',h,h1,h2⟩)
      · have:=h.2.1 45 (by simp)
        exact absurd this.1 (by decide)
      · cases h; exact ⟨h1,h2⟩
  · simp only [beq_eq_false_iff_ne.2 hc,Bool.false_eq_true,if_false,x6a]
    constructor
    · exact .inl
    · rintro (h | ⟨m',h,_⟩)
      · exact h
      · cases h; exact absurd rfl hc
theorem k5u (z:Int):intB (decZ z)=true:=k2w.2 (w5x z)
theorem w3k (hlib:Lib E) {l:List UInt8} (hl:l.length < 10000000000000):Fn E z2r [.c (.str (B l))] (.tup [.agg [.bool ([45].isPrefixOf l),.str (B (if [45].isPrefixOf l then l.drop 1 else l))],.c (.bool (intB l))]):=by
 have hc:=hlib.cutPrefix l [45] hl (by decide)
 unfold intB
 cases hb:[45].isPrefixOf l with
 | true =>
  rw [hb] at hc
  simp only [if_true,List.length_singleton] at hc ⊢
  have hv:=z4x (E:=E) (l.drop 1) (by simp; omega)
  cases hn:natB (l.drop 1) with
  | true =>
   rw [hn] at hv
   by_cases h48:l.drop 1=[48]
   · rw [h48,show (true && !([48] == ([48]:List UInt8)))=false from rfl]
     rw [h48] at hc hv
     exact q8h hc hv (by rw [B48,u0c]; rfl)
   · rw [show (true && !(l.drop 1 == [48]))=true by rw [beq_eq_false_iff_ne.2 h48]; rfl]
     exact k2z hc hv (by rw [B48,u0c,beq_eq_false_iff_ne.2 h48]; rfl)
  | false =>
   rw [hn] at hv
   rw [Bool.false_and]
   exact k3a hc hv
 | false =>
  rw [hb] at hc
  simp only [Bool.false_eq_true,if_false] at hc ⊢
  have hv:=z4x (E:=E) l (by omega)
  cases hn:natB l with
  | true=>rw [hn] at hv; exact k2z hc hv rfl
  | false=>rw [hn] at hv; exact k3a hc hv
theorem w1z (z:Int):[45].isPrefixOf (decZ z)=decide (z < 0)∧(if [45].isPrefixOf (decZ z) then (decZ z).drop 1 else decZ z)=dec z.natAbs:=by
 by_cases h:z < 0
 · rw [z6o h,w3b]; simp [h]
 · rw [Z5 (by omega)]
   have:[45].isPrefixOf (dec z.natAbs)=false:=by
    cases hd:dec z.natAbs with
    | nil=>rfl
    | cons c m =>
     rw [w3b]
     refine beq_eq_false_iff_ne.2 fun e=>?_
     have:=y7x z.natAbs c (by rw [hd]; simp)
     rw [e] at this
     exact absurd this.1 (by decide)
   rw [this]; simp [h]
theorem v7p (hlib:Lib E) {z:Int} (hl:(decZ z).length < 10000000000000):Fn E z2r [.c (.str (B (decZ z)))] (.tup [.agg (Zc z),.c (.bool true)]):=by
 have:=w3k hlib hl
 rw [(w1z z).2,(w1z z).1,k5u] at this
 exact this
theorem j3x {z:Int} {K:Nat} (h:z.natAbs < 10 ^ K):(decZ z).length≤K+2:=by
 have:=j0u h
 unfold decZ
 split <;> simp <;> omega
theorem y8a (hlib:Lib E) {l:List UInt8} (hl:l.length < 10000000000000):Fn E z9x [.c (.str (B l))] (.c (.bool (intB l))):=q2u (w3k hlib hl)
theorem k1s (hlib:Lib E) {a b:Int} {K L:Nat} (ha:a.natAbs < 10 ^ K) (hb:b.natAbs < 10 ^ L) (hK:K≤Lim) (hL:L≤Lim):Fn E z5c [.c (.str (B (decZ a))),.c (.str (B (decZ b)))] (.tup [.agg (Zc a),.agg (Zc b),.c (.i64 0)]):=by
 have h1:=j3x ha
 have h2:=j3x hb
 rw [Y9] at hK hL
 exact q8g (v7p hlib (by omega)) (v7p hlib (by omega))
theorem v9q (hlib:Lib E) {a:Int} {K:Nat} (ha:a.natAbs < 10 ^ K) (hK:K≤Lim):Fn E y3s [.c (.str (B (decZ a)))] (.tup [.agg (Zc a),.c (.i64 0)]):=by
 have:=k1s hlib ha (show (0:Int).natAbs < 10 ^ 1 by decide) hK (by rw [Y9]; omega)
 rw [x5v] at this
 exact v3n this
def sgn (neg:Bool) (n:Nat):Int:=if neg then -(n:Int) else n
theorem y7g (neg:Bool) (n:Nat):Fn E M4 [.c (.bool neg),.c (.str (B (dec n)))] (.agg (Zc (sgn neg n))):=by
 cases neg with
 | false =>
  have:Zc (sgn false n)=[.bool false,.str (B (dec n))]:=by unfold Zc sgn; simp
  rw [this]; exact q8k
 | true =>
  by_cases h:n=0
  · subst h
    have:Zc (sgn true 0)=[.bool false,.str (B (dec 0))]:=by unfold Zc sgn; simp
    rw [this]; exact q8j (by rw [B48,z7v])
  · have:Zc (sgn true n)=[.bool true,.str (B (dec n))]:=by
     unfold Zc sgn
     simp only [if_true,Int.natAbs_neg,Int.natAbs_natCast]
     rw [decide_eq_true (by omega)]
    rw [this]
    exact q8i (fun e=>h (by rw [B48] at e; exact y5g.1 (y5o e)))
theorem k5h {z:Int} {K:Nat} (hz:z.natAbs < 10 ^ K) (hK:K≤Lim+Lim):Fn E P5 [.agg (Zc z)] (.c (.str (B (decZ z)))):=by
 have h1:=j0u hz
 rw [Y9] at hK
 by_cases h:z < 0
 · have:Zc z=[.bool true,.str (B (dec z.natAbs))]:=by unfold Zc; rw [decide_eq_true h]
   rw [this,z6o h]
   exact x9v (by rw [B45,x5o]; rfl) (by rw [B45,F7,F7]; simp; omega)
 · have:Zc z=[.bool false,.str (B (dec z.natAbs))]:=by unfold Zc; rw [decide_eq_false h]
   rw [this,Z5 (by omega)]
   exact x9w
theorem q1w (z:Int):Fn E z1u [.agg (Zc z)] (.agg (Zc (-z))):=by
 have:=y7g (E:=E) (!decide (z < 0)) z.natAbs
 have e:sgn (!decide (z < 0)) z.natAbs=-z:=by unfold sgn; split <;> rename_i h <;> simp at h <;> omega
 rw [e] at this
 exact x3d this
theorem j8g:Fn E y5r [] (.agg [.bool false,.str (B [48])]):=q8l
theorem u1f (z:Int):((decide (z < 0) == false) && ((B (dec z.natAbs) == B [48]) && true))=decide (z=0):=by
 rw [u0c]
 by_cases h:z=0
 · subst h; rw [decide_eq_true rfl]; simp [z7v]
 · rw [decide_eq_false h]
   have:(dec z.natAbs == [48])=false:=beq_eq_false_iff_ne.2 fun e=>h (by have:=y5g.1 e; omega)
   rw [this]; simp
theorem w4z (z:Int):Fn E Z7 [.agg (Zc z)] (.c (.i64 (cmpI z 0))):=by
 have hz:=u1f z
 by_cases h:z=0
 · rw [decide_eq_true h] at hz
   rw [j3s h]
   exact x9s j8g hz
 · rw [decide_eq_false h] at hz
   by_cases h1:z < 0
   · have e:cmpI z 0=-1:=by unfold cmpI; rw [if_pos h1]
     have:Zc z=[.bool true,.str (B (dec z.natAbs))]:=by unfold Zc; rw [decide_eq_true h1]
     rw [e,this]
     exact x9t j8g rfl
   · have e:cmpI z 0=1:=by unfold cmpI; rw [if_neg h1,if_pos (by omega)]
     have:Zc z=[.bool false,.str (B (dec z.natAbs))]:=by unfold Zc; rw [decide_eq_false h1]
     rw [e,this]
     rw [decide_eq_false h1] at hz
     exact x9u j8g hz
theorem u5j (hlib:Lib E) {a b:Int} {K L:Nat} (ha:a.natAbs < 10 ^ K) (hb:b.natAbs < 10 ^ L) (hK:K≤Lim) (hL:L≤Lim) (hs:decide (a < 0)=decide (b < 0)):Fn E y9g [.agg (Zc a),.agg (Zc b)] (.agg (Zc (a+b))):=by
 have h:=k3c hlib ha hb hK hL
 have hw:=y7g (E:=E) (decide (a < 0)) (a.natAbs+b.natAbs)
 have e:sgn (decide (a < 0)) (a.natAbs+b.natAbs)=a+b:=by
  unfold sgn
  rw [decide_eq_decide] at hs
  by_cases c:a < 0
  · have:=hs.1 c; rw [decide_eq_true c,if_pos rfl]; omega
  · have:¬ b < 0:=fun x=>c (hs.2 x)
    rw [decide_eq_false c,if_neg (by simp)]; omega
 rw [e] at hw
 exact v3o h hw
theorem q7p (hlib:Lib E) {a b:Int} {K L:Nat} (ha:a.natAbs < 10 ^ K) (hb:b.natAbs < 10 ^ L) (hK:K≤Lim) (hL:L≤Lim) (hs:decide (a < 0)≠decide (b < 0)):Fn E z2q [.agg (Zc a),.agg (Zc b)] (.agg (Zc (a+b))):=by
 have hc:=j1i hlib ha hb hK hL
 have hs':¬ (a < 0↔b < 0):=fun h=>hs (decide_eq_decide.2 h)
 by_cases c:a.natAbs < b.natAbs
 · have h:=x2o hlib hb ha hL hK (by omega)
   have hw:=y7g (E:=E) (decide (b < 0)) (b.natAbs - a.natAbs)
   have e:sgn (decide (b < 0)) (b.natAbs - a.natAbs)=a+b:=by
    unfold sgn
    by_cases d:b < 0
    · have:¬ a < 0:=fun x=>hs' ⟨fun _=>d,fun _=>x⟩
      rw [decide_eq_true d,if_pos rfl]; omega
    · have:a < 0:=Classical.byContradiction fun x=>hs' ⟨fun y=>absurd y x,fun y=>absurd y d⟩
      rw [decide_eq_false d,if_neg (by simp)]; omega
   rw [e] at hw
   exact k2x hc (y2v.2 (by omega)) h hw
 · have h:=x2o hlib ha hb hK hL (by omega)
   have hw:=y7g (E:=E) (decide (a < 0)) (a.natAbs - b.natAbs)
   have e:sgn (decide (a < 0)) (a.natAbs - b.natAbs)=a+b:=by
    unfold sgn
    by_cases d:a < 0
    · have:¬ b < 0:=fun x=>hs' ⟨fun _=>x,fun _=>d⟩
      rw [decide_eq_true d,if_pos rfl]; omega
    · have:b < 0:=Classical.byContradiction fun x=>hs' ⟨fun y=>absurd y d,fun y=>absurd y x⟩
      rw [decide_eq_false d,if_neg (by simp)]; omega
   rw [e] at hw
   exact k2y hc (fun x=>c (by have:=y2v.1 x; omega)) h hw
theorem u0p (b:Bool):Fn E z2f [.c (.bool b)] (.c (.i64 (if b then 1 else 0))):=by
 cases b
 · exact v3m
 · exact v3l
theorem w2z (hlib:Lib E) {a b:Int} {K L:Nat} (ha:a.natAbs < 10 ^ K) (hb:b.natAbs < 10 ^ L) (hK:K≤Lim) (hL:L≤Lim):Fn E X4 [.agg (Zc a),.agg (Zc b)] (.agg (Zc (a+b))):=by
 have b1:=u0p (E:=E) (decide (a < 0))
 have b2:=u0p (E:=E) (decide (b < 0))
 by_cases hs:decide (a < 0)=decide (b < 0)
 · have h:=u5j hlib ha hb hK hL hs
   cases c:decide (a < 0) with
   | true =>
    rw [c] at b1 hs; rw [← hs] at b2
    simp only [Zc] at h ⊢; rw [c,← hs] at h ⊢
    exact x9r b1 b2 h
   | false =>
    rw [c] at b1 hs; rw [← hs] at b2
    simp only [Zc] at h ⊢; rw [c,← hs] at h ⊢
    exact x9o b1 b2 h
 · have h:=q7p hlib ha hb hK hL hs
   cases c:decide (a < 0) with
   | true =>
    have d:decide (b < 0)=false:=by rw [c] at hs; cases x:decide (b < 0) with | true=>exact absurd x.symm hs | false=>rfl
    rw [c] at b1; rw [d] at b2
    simp only [Zc] at h ⊢; rw [c,d] at h ⊢
    exact x9q b1 b2 h
   | false =>
    have d:decide (b < 0)=true:=by rw [c] at hs; cases x:decide (b < 0) with | false=>exact absurd x.symm hs | true=>rfl
    rw [c] at b1; rw [d] at b2
    simp only [Zc] at h ⊢; rw [c,d] at h ⊢
    exact x9p b1 b2 h
theorem w9w (hlib:Lib E) {a b:Int} {K L:Nat} (ha:a.natAbs < 10 ^ K) (hb:b.natAbs < 10 ^ L) (hKL:K+L≤Lim):Fn E z8r [.agg (Zc a),.agg (Zc b)] (.agg (Zc (a*b))):=by
 have h:=x2n hlib ha hb hKL
 have hw:=y7g (E:=E) (!(decide (a < 0) == decide (b < 0))) (a.natAbs*b.natAbs)
 have e:sgn (!(decide (a < 0) == decide (b < 0))) (a.natAbs*b.natAbs)=a*b:=by
  unfold sgn
  have ea:(a.natAbs:Int)=if a < 0 then -a else a:=by split <;> omega
  have eb:(b.natAbs:Int)=if b < 0 then -b else b:=by split <;> omega
  rw [Int.natCast_mul,ea,eb]
  by_cases c:a < 0 <;> by_cases d:b < 0 <;> simp [c,d] <;> grind
 rw [e] at hw
 exact x7v rfl h hw
theorem x7n {a b:Int} {K:Nat} (ha:a.natAbs < 10 ^ K) (hb:b.natAbs < 10 ^ K):(a+b).natAbs < 10 ^ (K+1):=by
 have:=Int.natAbs_add_le a b
 rw [Nat.pow_succ]; omega
theorem q8d (hlib:Lib E) {a b:Int} {K L:Nat} (ha:a.natAbs < 10 ^ K) (hb:b.natAbs < 10 ^ L) (hK:K≤Lim) (hL:L≤Lim):Fn E y9f [.c (.str (B (decZ a))),.c (.str (B (decZ b)))] (.tup [.c (.str (B (decZ (a+b)))),.c (.i64 0)]):=by
 have hs:=x7n (z3c ha (show K≤max K L by omega)) (z3c hb (show L≤max K L by omega))
 have:1≤Lim:=by rw [Y9]; omega
 exact v3i (k1s hlib ha hb hK hL) rfl (w2z hlib ha hb hK hL) (k5h hs (by omega))
theorem z1y {a b:Int} {K L:Nat} (ha:a.natAbs < 10 ^ K) (hb:b.natAbs < 10 ^ L):(a*b).natAbs < 10 ^ (K+L):=by
 rw [Int.natAbs_mul]; exact z5j ha hb
theorem y1v (hlib:Lib E) {a b:Int} {K L:Nat} (ha:a.natAbs < 10 ^ K) (hb:b.natAbs < 10 ^ L) (hKL:K+L≤Lim):Fn E z0w [.c (.str (B (decZ a))),.c (.str (B (decZ b)))] (.tup [.c (.str (B (decZ (a*b)))),.c (.i64 0)]) :=
 v3j (k1s hlib ha hb (by omega) (by omega)) rfl (w9w hlib ha hb hKL) (k5h (z1y ha hb) (by omega))
theorem q8e (hlib:Lib E) {a:Int} {K:Nat} (ha:a.natAbs < 10 ^ K) (hK:K≤Lim):Fn E x4m [.c (.str (B (decZ a)))] (.tup [.c (.str (B (decZ (-a)))),.c (.i64 0)]) :=
 v3k (v9q hlib ha hK) rfl (q1w a) (k5h (K:=K) (by rw [Int.natAbs_neg]; exact ha) (by omega))
theorem q8c (hlib:Lib E) {a:Int} {K:Nat} (ha:a.natAbs < 10 ^ K) (hK:K≤Lim):Fn E x4l [.c (.str (B (decZ a)))] (.tup [.c (.str (B (dec a.natAbs))),.c (.i64 0)]) :=
 v3h (v9q hlib ha hK) rfl
theorem q2t (hlib:Lib E) {a:Int} {K:Nat} (ha:a.natAbs < 10 ^ K) (hK:K≤Lim):Fn E x2b [.c (.str (B (decZ a)))] (.tup [.c (.i64 (cmpI a 0)),.c (.i64 0)]) :=
 q8f (v9q hlib ha hK) (w4z a)
theorem w1w (a b:Int):cmpI (a+-b) 0=cmpI a b:=by unfold cmpI; split <;> split <;> (try split) <;> (try split) <;> omega
theorem j1a (hlib:Lib E) {a b:Int} {K L:Nat} (ha:a.natAbs < 10 ^ K) (hb:b.natAbs < 10 ^ L) (hK:K≤Lim) (hL:L≤Lim):Fn E y5q [.c (.str (B (decZ a))),.c (.str (B (decZ b)))] (.tup [.c (.i64 (cmpI a b)),.c (.i64 0)]):=by
 rw [← w1w a b]
 exact j4f (k1s hlib ha hb hK hL) (q1w b) (w2z hlib ha (b:=-b) (by rw [Int.natAbs_neg]; exact hb) hK hL) (w4z _)
theorem w5z (hlib:Lib E) {a:Int} {b K L:Nat} (ha:a.natAbs < 10 ^ K) (hb:b < 10 ^ L) (hK:K≤Lim) (hL:L≤Lim) (h0:b≠0):Fn E z0m [.agg (Zc a),.agg (Zc b)] (.tup [.agg (Zc (a / b)),.agg (Zc (a % b))]):=by
 have h:=x3z hlib ha hb hK hL h0
 have eb:Zc (b:Int)=[.bool false,.str (B (dec b))]:=by unfold Zc; rw [decide_eq_false (by omega),Int.natAbs_natCast]
 have hdm:=Nat.div_add_mod a.natAbs b
 have hlt:=Nat.mod_lt a.natAbs (show 0 < b by omega)
 obtain ⟨q,eq⟩:∃ q,q=a.natAbs / b:=⟨_,rfl⟩
 obtain ⟨r,er⟩:∃ r,r=a.natAbs % b:=⟨_,rfl⟩
 rw [← eq,← er] at h hdm
 rw [← er] at hlt
 have hq:q < 10 ^ K:=by rw [eq]; exact Nat.lt_of_le_of_lt (Nat.div_le_self _ _) ha
 rw [eb]
 have uniq:∀ Q R:Int,a=b*Q+R→0≤R→R < b→a / b=Q∧a % b=R:=by
  intro Q R e h1 h2
  have:=(Int.ediv_emod_unique (show 0 < (b:Int) by omega) (a:=a) (r:=R) (q:=Q)).2 ⟨by rw [e]; omega,h1,h2⟩
  exact this
 have hdm':((b:Int))*q+r=a.natAbs:=by have:=congrArg (Nat.cast (R:=Int)) hdm; simpa using this
 by_cases c:a < 0
 · have ea:Zc a=[.bool true,.str (B (dec a.natAbs))]:=by unfold Zc; rw [decide_eq_true c]
   rw [ea]
   by_cases hr:r=0
   · obtain ⟨u1,u2⟩:=uniq (-(q:Int)) 0 (by rw [Int.mul_neg]; omega) (by omega) (by omega)
     rw [u1,u2]
     have w1:=y7g (E:=E) true q
     have w2:=y7g (E:=E) false r
     rw [show sgn true q=-(q:Int) from rfl] at w1
     rw [show sgn false r=(r:Int) from rfl,hr,show ((0:Nat):Int)=0 from rfl] at w2
     rw [hr] at h
     exact x5y rfl h (by rw [B48,z7v]) w1 w2
   · obtain ⟨u1,u2⟩:=uniq (-((q+1:Nat):Int)) ((b - r:Nat):Int) (by rw [Int.mul_neg,Int.natCast_add,Int.mul_add]; omega) (by omega) (by omega)
     rw [u1,u2]
     have w1:=y7g (E:=E) true (q+1)
     have w2:=y7g (E:=E) false (b - r)
     have h1:=k3c hlib hq (show 1 < 10 ^ 1 by decide) hK (by rw [Y9]; omega)
     have h2:=x2o hlib hb (show r < 10 ^ L by omega) hL hL (by omega)
     rw [← u0x] at h1
     exact x5x rfl h (fun e=>hr (by rw [B48] at e; exact y5g.1 (y5o e))) h1 h2 w1 w2
 · have ea:Zc a=[.bool false,.str (B (dec a.natAbs))]:=by unfold Zc; rw [decide_eq_false c]
   rw [ea]
   obtain ⟨u1,u2⟩:=uniq q r (by omega) (by omega) (by omega)
   rw [u1,u2]
   exact x5z rfl h (y7g false q) (y7g false r)
theorem w2b {a:Int} {b:Nat}:(a / b).natAbs≤a.natAbs:=Int.natAbs_ediv_le_natAbs a b
theorem j4g (hlib:Lib E) {a:Int} {b K L:Nat} (ha:a.natAbs < 10 ^ K) (hb:b < 10 ^ L) (hK:K≤Lim) (hL:L≤Lim) (h0:b≠0):Fn E y7n [.c (.str (B (decZ a))),.c (.str (B (dec b)))] (.tup [.c (.str (B (decZ (a / b)))),.c (.str (B (decZ (a % b)))),.c (.i64 0)]):=by
 have hbo:=k1s hlib ha (show (b:Int).natAbs < 10 ^ L from hb) hK hL
 rw [y6a] at hbo
 have hz:=u1f (b:Int)
 rw [decide_eq_false (show ¬ (b:Int)=0 by omega)] at hz
 have hr0:=Int.emod_nonneg a (show (b:Int)≠0 by omega)
 have hr1:=Int.emod_lt_of_pos a (show 0 < (b:Int) by omega)
 exact j8v hbo rfl j8g hz (w5z hlib ha hb hK hL h0) (k5h (Nat.lt_of_le_of_lt w2b ha) (by omega)) (k5h (K:=L) (Nat.lt_of_le_of_lt (show (a % b).natAbs≤b by omega) hb) (by omega))
end Gev
namespace Gev
open Go Gb
variable {E:Env}
def Qc (q:Rat):List DV:=[.str (B (decZ q.num)),.str (B (dec q.den))]
theorem B47:(⟨#[47]⟩:BA)=B [47]:=rfl
theorem Sz.num {q:Rat} {K:Nat} (h:Sz q K):q.num.natAbs < 10 ^ K:=h.1
theorem Sz.den {q:Rat} {K:Nat} (h:Sz q K):q.den < 10 ^ K:=h.2
theorem w5y {q:Rat} {K:Nat} (h:Sz q K):(dec q.den).length≤K:=dec_length h.2 h.pos
theorem v2d {q:Rat} {K:Nat} (h:Sz q K) (hK:K≤Lim):Fn E F_rational_frac_text [.agg (Qc q)] (.c (.str (B (decQ q)))):=by
 have h1:=j3x h.1
 have h2:=w5y h
 rw [Y9] at hK
 by_cases hd:q.den=1
 · rw [z7u hd]
   exact k3s (by rw [hd,y9k]; rfl)
 · rw [z4w hd]
   exact k3t (s2:=B (decZ q.num++[47])) (by rw [B47,x5o]) (by rw [x5o]; simp) (fun e=>hd (by rw [B49] at e; exact y7y.1 (y5o e))) (by rw [B47,F7,F7]; simp; omega) (by rw [F7,F7]; simp; omega)
theorem j0w (hlib:Lib E) {z:Int} {d K L:Nat} (hz:z.natAbs < 10 ^ K) (hd:d < 10 ^ L) (hK:K≤Lim) (hL:L≤Lim) (h0:d≠0):Fn E z8t [.c (.str (B (decZ z))),.c (.str (B (dec d)))] (.c (.str (B (dec (Nat.gcd z.natAbs d))))) :=
 j1r (q8c hlib hz hK) (q8r hlib hz hd hK hL (.inr (by omega)))
theorem w6b {z:Int} {d:Nat} (h0:d≠0):Nat.gcd z.natAbs d≠0:=fun h=>h0 (Nat.eq_zero_of_gcd_eq_zero_right h)
theorem v7g {z:Int} {d:Nat} (h0:d≠0):(mkRat z d).num=z / (Nat.gcd z.natAbs d:Nat):=by rw [Rat.num_mkRat,if_neg h0,Nat.gcd_comm]
theorem v7f {z:Int} {d:Nat} (h0:d≠0):(mkRat z d).den=d / Nat.gcd z.natAbs d:=by rw [Rat.den_mkRat,if_neg h0,Nat.gcd_comm]
theorem Qc_mk {z:Int} {d:Nat} (h0:d≠0):Qc (mkRat z d)=[.str (B (decZ (z / (Nat.gcd z.natAbs d:Nat)))),.str (B (dec (d / Nat.gcd z.natAbs d)))]:=by unfold Qc; rw [v7g h0,v7f h0]
theorem v7e (hlib:Lib E) {z:Int} {d K L:Nat} (hz:z.natAbs < 10 ^ K) (hd:d < 10 ^ L) (hK:K≤Lim) (hL:L≤Lim) (h0:d≠0):Fn E Z3 [.c (.str (B (decZ z))),.c (.str (B (dec d)))] (.agg (Qc (mkRat z d))):=by
 have hg:=j0w hlib hz hd hK hL h0
 rw [Qc_mk h0]
 obtain ⟨g,eg⟩:∃ g,g=Nat.gcd z.natAbs d:=⟨_,rfl⟩
 have hg0:g≠0:=by rw [eg]; exact w6b h0
 have hgl:g < 10 ^ L:=by rw [eg]; exact Nat.lt_of_le_of_lt (Nat.gcd_le_right _ (by omega)) hd
 rw [← eg] at hg ⊢
 by_cases h1:g=1
 · rw [h1] at hg ⊢
   rw [show ((1:Nat):Int)=1 from rfl,Int.ediv_one,Nat.div_one]
   exact j5c hg (by rw [y9k,B49])
 · exact j5b hg (fun e=>h1 (by rw [B49] at e; exact y7y.1 (y5o e))) (j4g hlib hz hgl hK hL hg0) (x3z hlib hd hgl hL hL hg0)
theorem x6x {z:Int} (h:(decZ z).length≤9):z.natAbs < 1000000000:=by
 have h1:(dec z.natAbs).length≤(decZ z).length:=by unfold decZ; split <;> simp
 have h2:=z4t z.natAbs
 have h3:(10:Nat) ^ (dec z.natAbs).length≤10 ^ 9:=Nat.pow_le_pow_right (by decide) (by omega)
 rw [x0j] at h3
 omega
theorem k6b {n:Nat} (h:(dec n).length≤9):n < 1000000000:=by
 have:=x6x (z:=(n:Int)) (by rw [y6a]; exact h)
 omega
theorem y1x (hlib:Lib E) {q:Rat} (h1:(decZ q.num).length≤9) (h2:(dec q.den).length≤9):Fn E C5 [.agg (Qc q)] (.tup [.c (.i64 q.num),.c (.i64 q.den),.c (.bool true)]):=by
 have p1:=hlib.parseInt q.num h1
 have p2:=hlib.parseInt (q.den:Int) (by rw [y6a]; exact h2)
 rw [y6a] at p2
 exact x8g (by rw [F7]; omega) (by rw [F7]; omega) p1 p2
theorem x1x {q:Rat} (h:¬ ((decZ q.num).length≤9∧(dec q.den).length≤9)):Fn E C5 [.agg (Qc q)] (.tup [.c (.i64 0),.c (.i64 0),.c (.bool false)]):=by
 by_cases h1:(decZ q.num).length≤9
 · exact x8f (by rw [F7]; omega) (by rw [F7]; have:¬ (dec q.den).length≤9:=fun x=>h ⟨h1,x⟩; omega)
 · exact x8e (by rw [F7]; omega)
theorem w7w {x0 x1:Int} {s:BA}:∀ (t:Nat) (a b:Int),b.natAbs < t→∃ g:Int,Lp E 1 z2h 0 (y2b x0 x1 a b s s) (.exit 0) (y8b x0 x1 s s g)∧g.natAbs=Nat.gcd a.natAbs b.natAbs
 | 0,a,b,h=>by omega
 | t+1,a,b,h=>by
  by_cases h0:b=0
  · subst h0
    exact ⟨a,k7p rfl,by simp⟩
  · have hlt:(Int.tmod a b).natAbs < b.natAbs:=by
     rw [Int.natAbs_tmod]
     exact Nat.mod_lt _ (by omega)
    obtain ⟨g,h1,h2⟩:=w7w t b (Int.tmod a b) (by omega)
    refine ⟨g,j5d rfl h0 h0 h1,?_⟩
    rw [h2,Int.natAbs_tmod]
    exact (Nat.gcd_comm _ _).trans ((Nat.gcd_rec _ _).symm.trans (Nat.gcd_comm _ _))
theorem u1u (hlib:Lib E) {p:Int} {q:Nat} (hp:p.natAbs < 9000000000000000000) (hq:q < 9000000000000000000) (h0:q≠0):Fn E z2h [.c (.i64 p),.c (.i64 q)] (.agg (Qc (mkRat p q))):=by
 obtain ⟨g,h1,h2⟩:=w7w (E:=E) (x0:=p) (x1:=q) (s:=⟨#[]⟩) (q+1) p q (by omega)
 rw [Int.natAbs_natCast] at h2
 have hg0:=w6b (z:=p) h0
 have hgle:Nat.gcd p.natAbs q≤q:=Nat.gcd_le_right _ (by omega)
 rw [Qc_mk h0]
 obtain ⟨G,eG⟩:∃ G,G=Nat.gcd p.natAbs q:=⟨_,rfl⟩
 have d1:((G:Nat):Int) ∣ p:=by rw [eG]; exact Int.ofNat_dvd_left.2 (Nat.gcd_dvd_left _ _)
 rw [← eG] at h2 hg0 hgle ⊢
 have hm:(if (if g < 0 then -g else -g) > g then (if g < 0 then -g else -g) else g)=(G:Int):=by split <;> split at*<;> omega
 have hq':((q / G:Nat):Int)=(q:Int) / G:=Int.natCast_ediv q G
 have f1:=hlib.formatInt (p / G) (by have:=Int.natAbs_ediv_le_natAbs p G; omega)
 have hqg:q / G≤q:=Nat.div_le_self _ _
 obtain ⟨Q,eQ⟩:∃ Q,Q=q / G:=⟨_,rfl⟩
 rw [← eQ] at hq' hqg ⊢
 have f2:=hlib.formatInt (Q:Int) (by omega)
 rw [y6a] at f2
 have hpd:Int.tdiv p G=p / G:=Int.tdiv_eq_ediv_of_dvd d1
 have hpa:=Int.natAbs_ediv_le_natAbs p G
 refine v4b (i3:=-g) (i4:=(G:Int)) (i5:=p / G) (i6:=(Q:Int)) (wi (by omega)) (by split <;> omega) (wi ⟨hpd,by omega,by omega⟩) (wi ⟨(tdv (by omega) hq'.symm),by omega,by omega⟩) h1 (by omega) f1 f2
theorem w3a (hlib:Lib E) {x y:Rat} {K L:Nat} (hx:Sz x K) (hy:Sz y L) (hKL:K+L+1≤Lim):Fn E z3n [.agg (Qc x),.agg (Qc y)] (.agg (Qc (x+y))):=by
 rw [Rat.add_def']
 have hd:x.den*y.den≠0:=Nat.mul_ne_zero x.den_nz y.den_nz
 have low:Fn E Z3 [.c (.str (B (decZ (x.num*y.den+y.num*x.den)))),.c (.str (B (dec (x.den*y.den))))] (.agg (Qc (mkRat (x.num*y.den+y.num*x.den) (x.den*y.den)))):=by
  refine v7e hlib (K:=K+L+1) (L:=K+L) ?_ (z5j hx.2 hy.2) hKL (by omega) hd
  have h1:=z1y (b:=(y.den:Int)) hx.1 (show (y.den:Int).natAbs < 10 ^ L from hy.2)
  have h2:=z1y (b:=(x.den:Int)) hy.1 (show (x.den:Int).natAbs < 10 ^ K from hx.2)
  exact x7n h1 (by rw [Nat.add_comm]; exact h2)
 have m1:=y1v hlib hx.1 (b:=(y.den:Int)) (show (y.den:Int).natAbs < 10 ^ L from hy.2) (by omega)
 have m2:=y1v hlib hy.1 (b:=(x.den:Int)) (show (x.den:Int).natAbs < 10 ^ K from hx.2) (by omega)
 rw [y6a] at m1 m2
 have a1:=q8d hlib (z1y hx.1 (show (y.den:Int).natAbs < 10 ^ L from hy.2)) (z1y hy.1 (show (x.den:Int).natAbs < 10 ^ K from hx.2)) (by omega) (by omega)
 have n1:=x2n hlib hx.2 hy.2 (by omega)
 by_cases c1:(decZ x.num).length≤9∧(dec x.den).length≤9
 · by_cases c2:(decZ y.num).length≤9∧(dec y.den).length≤9
   · have b1:=x6x c1.1
     have b2:=k6b c1.2
     have b3:=x6x c2.1
     have b4:=k6b c2.2
     have p1:(x.num*(y.den:Int)).natAbs≤999999999*999999999:=by rw [Int.natAbs_mul]; exact Nat.mul_le_mul (by omega) (by simp; omega)
     have p2:(y.num*(x.den:Int)).natAbs≤999999999*999999999:=by rw [Int.natAbs_mul]; exact Nat.mul_le_mul (by omega) (by simp; omega)
     have p3:x.den*y.den≤999999999*999999999:=Nat.mul_le_mul (by omega) (by omega)
     have e3:(x.den:Int)*y.den=((x.den*y.den:Nat):Int):=(Int.natCast_mul _ _).symm
     have o:=u1u hlib (p:=x.num*y.den+y.num*x.den) (q:=x.den*y.den) (by omega) (by omega) hd
     exact q3d (i4:=x.num*y.den) (i5:=y.num*x.den) (i6:=x.num*y.den+y.num*x.den) (i7:=((x.den*y.den:Nat):Int)) (wi (by omega)) (wi (by omega)) (wi (by omega)) (wi ⟨e3,by omega,by omega⟩) (y1x hlib c1.1 c1.2) (y1x hlib c2.1 c2.2) o
   · exact q3e (y1x hlib c1.1 c1.2) (x1x c2) m1 m2 a1 n1 low
 · have:∃ v w b,Fn E C5 [.agg (Qc y)] (.tup [.c (.i64 v),.c (.i64 w),.c (.bool b)]):=by
    by_cases c2:(decZ y.num).length≤9∧(dec y.den).length≤9
    · exact ⟨_,_,_,y1x hlib c2.1 c2.2⟩
    · exact ⟨_,_,_,x1x c2⟩
   obtain ⟨v,w,b,hl⟩:=this
   exact q3f (x1x c1) hl m1 m2 a1 n1 low
theorem w9x (hlib:Lib E) {x y:Rat} {K L:Nat} (hx:Sz x K) (hy:Sz y L) (hKL:K+L≤Lim):Fn E z4v [.agg (Qc x),.agg (Qc y)] (.agg (Qc (x*y))):=by
 rw [Rat.mul_def']
 have hd:x.den*y.den≠0:=Nat.mul_ne_zero x.den_nz y.den_nz
 have low:=v7e hlib (z1y hx.1 hy.1) (z5j hx.2 hy.2) (by omega) (by omega) hd
 have m1:=y1v hlib hx.1 hy.1 (by omega)
 have n1:=x2n hlib hx.2 hy.2 (by omega)
 by_cases c1:(decZ x.num).length≤9∧(dec x.den).length≤9
 · by_cases c2:(decZ y.num).length≤9∧(dec y.den).length≤9
   · have b1:=x6x c1.1
     have b2:=k6b c1.2
     have b3:=x6x c2.1
     have b4:=k6b c2.2
     have p1:(x.num*y.num).natAbs≤999999999*999999999:=by rw [Int.natAbs_mul]; exact Nat.mul_le_mul (by omega) (by omega)
     have p3:x.den*y.den≤999999999*999999999:=Nat.mul_le_mul (by omega) (by omega)
     have e3:(x.den:Int)*y.den=((x.den*y.den:Nat):Int):=(Int.natCast_mul _ _).symm
     have o:=u1u hlib (p:=x.num*y.num) (q:=x.den*y.den) (by omega) (by omega) hd
     exact j9j (i4:=x.num*y.num) (i5:=((x.den*y.den:Nat):Int)) (wi (by omega)) (wi ⟨e3,by omega,by omega⟩) (y1x hlib c1.1 c1.2) (y1x hlib c2.1 c2.2) o
   · exact j9k (y1x hlib c1.1 c1.2) (x1x c2) m1 n1 low
 · have:∃ v w b,Fn E C5 [.agg (Qc y)] (.tup [.c (.i64 v),.c (.i64 w),.c (.bool b)]):=by
    by_cases c2:(decZ y.num).length≤9∧(dec y.den).length≤9
    · exact ⟨_,_,_,y1x hlib c2.1 c2.2⟩
    · exact ⟨_,_,_,x1x c2⟩
   obtain ⟨v,w,b,hl⟩:=this
   exact j9l (x1x c1) hl m1 n1 low
theorem v9t (hlib:Lib E) {x:Rat} {K:Nat} (hx:Sz x K) (hK:K≤Lim):Fn E y3i [.agg (Qc x)] (.agg (Qc (-x))):=by
 have h:=q8e hlib hx.1 hK
 have e:Qc (-x)=[.str (B (decZ (-x.num))),.str (B (dec x.den))]:=by unfold Qc; rw [Rat.neg_num,Rat.neg_den]
 rw [e]
 exact k7q h
def w7q (z:Int) (l:List UInt8):Bool:=bif decide (z < 0) then (match l with
 | c::m=>c == 45 && (natB m && dval m == z.natAbs)
 | []=>false) else natB l && dval l == z.natAbs
theorem q6l {l:List UInt8} {n:Nat}:(natB l && dval l == n)=true↔l=dec n:=by
 rw [Bool.and_eq_true,x6a,beq_iff_eq]
 exact ⟨fun h=>by rw [← h.2]; exact h.1.eq_dec,fun h=>by rw [h]; exact ⟨k5q n,z6p n⟩⟩
theorem j8l {z:Int} {l:List UInt8}:w7q z l=true↔l=decZ z:=by
 unfold w7q
 by_cases h:z < 0
 · rw [decide_eq_true h,cond_true,z6o h]
   cases l with
   | nil=>simp
   | cons c m=>rw [Bool.and_eq_true,beq_iff_eq,q6l,List.cons.injEq]
 · rw [decide_eq_false h,cond_false,Z5 (by omega)]; exact q6l
def w1y (q:Rat) (l:List UInt8):Bool:=bif q.den == 1 then w7q q.num l else (match l.drop (l.takeWhile (· != 47)).length with
 | c::m=>c == 47 && (w7q q.num (l.takeWhile (· != 47)) && (natB m && dval m == q.den))
 | []=>false)
theorem w7n {a b:List UInt8} (h:(47:UInt8) ∉ a):(a++47::b).takeWhile (· != 47)=a:=by
 induction a with
 | nil=>rfl
 | cons x a ih =>
  have hx:(x != 47)=true:=by rw [bne_iff_ne]; exact fun e=>h (by simp [e])
  rw [List.cons_append,List.takeWhile_cons,if_pos hx,ih (fun e=>h (List.mem_cons_of_mem _ e))]
theorem u3z {a:List UInt8} (h:(47:UInt8) ∉ a):a.takeWhile (· != 47)=a:=by
 induction a with
 | nil=>rfl
 | cons x a ih =>
  have hx:(x != 47)=true:=by rw [bne_iff_ne]; exact fun e=>h (by simp [e])
  rw [List.takeWhile_cons,if_pos hx,ih (fun e=>h (List.mem_cons_of_mem _ e))]
theorem j8k {q:Rat} {l:List UInt8}:w1y q l=true↔l=decQ q:=by
 unfold w1y
 by_cases h:q.den=1
 · rw [h,beq_self_eq_true,cond_true,z7u h]; exact j8l
 · rw [beq_false_of_ne h,cond_false,z4w h]
   constructor
   · intro e
     split at e
     · rename_i c m hd
       rw [Bool.and_eq_true,beq_iff_eq,Bool.and_eq_true,j8l,q6l] at e
       obtain ⟨e1,e2,e3⟩:=e
       have ht:l.take (l.takeWhile (· != 47)).length=l.takeWhile (· != 47):=(List.prefix_iff_eq_take.1 (List.takeWhile_prefix _)).symm
       rw [← List.take_append_drop (l.takeWhile (· != 47)).length l,ht,hd,e1,e2,e3]
     · cases e
   · intro e
     rw [e,w7n (z1i _),List.drop_left]
     show (47 == 47 && _)=true
     rw [Bool.and_eq_true,Bool.and_eq_true]
     exact ⟨rfl,j8l.2 rfl,q6l.2 rfl⟩
def rdZ (l:List UInt8):Int:=bif l.head? == some 45 then -(dval l.tail:Int) else dval l
def rdQ (l:List UInt8):Rat:=match l.drop (l.takeWhile (· != 47)).length with
 | _::m=>mkRat (rdZ (l.takeWhile (· != 47))) (dval m)
 | []=>mkRat (rdZ l) 1
theorem w8e (z:Int):rdZ (decZ z)=z:=by
 unfold rdZ
 by_cases h:z < 0
 · rw [z6o h]
   show -(dval (dec z.natAbs):Int)=z
   rw [z6p]; omega
 · rw [Z5 (by omega)]
   have hh:((dec z.natAbs).head? == some 45)=false:=by
    rw [beq_eq_false_iff_ne]
    intro e
    cases hd:dec z.natAbs with
    | nil=>rw [hd] at e; cases e
    | cons c m=>rw [hd] at e; cases e; exact k2n _ (by decide) _ hd
   rw [hh,cond_false,z6p]; omega
theorem u5a (q:Rat):rdQ (decQ q)=q:=by
 unfold rdQ
 by_cases h:q.den=1
 · rw [z7u h,u3z (z1i _),List.drop_length]
   show mkRat (rdZ (decZ q.num)) 1=q
   rw [w8e,← h]; exact Rat.mkRat_self q
 · rw [z4w h,w7n (z1i _),List.drop_left]
   show mkRat (rdZ (decZ q.num)) (dval (dec q.den))=q
   rw [w8e,z6p]; exact Rat.mkRat_self q
noncomputable def rd (l:List UInt8):Option Rat:=bif w1y (rdQ l) l then some (rdQ l) else none
theorem k5z (q:Rat):rd (decQ q)=some q:=by
 unfold rd
 rw [u5a,j8k.2 rfl]; rfl
theorem q6o {l:List UInt8} {q:Rat} (h:rd l=some q):l=decQ q:=by
 unfold rd at h
 cases c:w1y (rdQ l) l with
 | true=>rw [c] at h; cases h; exact j8k.1 c
 | false=>rw [c] at h; cases h
theorem w8f {l:List UInt8} (h:rd l=none) (q:Rat):l≠decQ q:=fun e=>by rw [e,k5z] at h; cases h
end Gev
namespace Gev
open Go Gb
variable {E:Env}
theorem v3y {q:Rat} (h:q.den≠1):q.num≠0:=by
 intro h0
 have:=q.reduced
 rw [h0] at this
 simp [Nat.Coprime] at this
 exact h this
theorem q9h (hlib:Lib E) {q:Rat} {K:Nat} (hq:Sz q K) (hK:K≤Lim):Fn E N9 [.c (.str (B (decQ q)))] (.tup [.agg (Qc q),.c (.bool true)]):=by
 have h1:=j3x hq.1
 have h2:=w5y hq
 have hK':=hK
 rw [Y9] at hK'
 have hv:=y8a hlib (l:=decZ q.num) (by omega)
 rw [k5u] at hv
 by_cases hd:q.den=1
 · rw [z7u hd]
   have e:Qc q=[.str (B (decZ q.num)),.str (B [49])]:=by unfold Qc; rw [hd,y9k]
   rw [e]
   exact x9h (hlib.cutNo _ (z1i _) (by omega)) hv
 · rw [z4w hd]
   have hn:=v3y hd
   have hnv:=z4x (E:=E) (dec q.den) (by omega)
   rw [q8q] at hnv
   have hg:=j0w hlib hq.1 hq.2 hK hK q.den_nz
   have hg1:Nat.gcd q.num.natAbs q.den=1:=q.reduced
   rw [hg1] at hg
   exact q3g (hlib.cutYes _ _ (z1i _) (by omega)) hv (fun e=>hn (by rw [B48] at e; exact k2m ((y5o e).trans x5v.symm))) hnv (fun e=>q.den_nz (by rw [B48] at e; exact y5g.1 (y5o e))) (fun e=>hd (by rw [B49] at e; exact y7y.1 (y5o e))) hg (by rw [y9k,B49])
theorem k2t:∀ (l:List UInt8),(47:UInt8)∈l→∃ p r,l=p++47::r∧(47:UInt8) ∉ p
 | [],h=>by cases h
 | c::l,h=>by
  by_cases hc:c=47
  · exact ⟨[],l,by rw [hc]; rfl,by simp⟩
  · have h':(47:UInt8)∈l:=by
     rcases List.mem_cons.1 h with h | h
     · exact absurd h.symm hc
     · exact h
    obtain ⟨p,r,e,hp⟩:=k2t l h'
    exact ⟨c::p,r,by rw [e]; rfl,fun hx=>by
     rcases List.mem_cons.1 hx with hx | hx
     · exact hc hx.symm
     · exact hp hx⟩
theorem k2o (z:Int):(dec z.natAbs).length≤(decZ z).length:=by unfold decZ; split <;> simp
theorem u5b (hlib:Lib E) {l:List UInt8} (h:rd l=none) (hl:l.length≤Lim):∃ x y,Fn E N9 [.c (.str (B l))] (.tup [.agg [.str x,.str y],.c (.bool false)]):=by
 have hl':=hl
 rw [Y9] at hl'
 by_cases hs:(47:UInt8)∈l
 · obtain ⟨p,r,rfl,hp⟩:=k2t l hs
   simp only [List.length_append,List.length_cons] at hl hl'
   have hc:=hlib.cutYes p r hp (by omega)
   have hv:=y8a hlib (l:=p) (by omega)
   have hnv:=z4x (E:=E) r (by omega)
   cases hi:intB p with
   | false=>rw [hi] at hv; exact ⟨_,_,q3m hc hv⟩
   | true =>
    rw [hi] at hv
    obtain ⟨z,rfl⟩:=(k2w.1 hi).eq_decZ
    by_cases hz:z=0
    · exact ⟨_,_,q3l hc hv (by rw [hz,x5v]; rfl)⟩
    · have hz':¬ B (decZ z)=(⟨#[48]⟩:BA):=fun e=>hz (by rw [B48] at e; exact k2m ((y5o e).trans x5v.symm))
      cases hn:natB r with
      | false=>rw [hn] at hnv; exact ⟨_,_,q3k hc hv hz' hnv⟩
      | true =>
       rw [hn] at hnv
       have hr:=x6a.1 hn
       obtain ⟨n,rfl⟩:∃ n,r=dec n:=⟨_,hr.eq_dec⟩
       by_cases h0:n=0
       · exact ⟨_,_,q3j hc hv hz' hnv (by rw [h0,z7v]; rfl)⟩
       · have h0':¬ B (dec n)=(⟨#[48]⟩:BA):=fun e=>h0 (by rw [B48] at e; exact y5g.1 (y5o e))
         by_cases h1:n=1
         · exact ⟨_,_,q3i hc hv hz' hnv h0' (by rw [h1,y9k]; rfl)⟩
         · have h1':¬ B (dec n)=(⟨#[49]⟩:BA):=fun e=>h1 (by rw [B49] at e; exact y7y.1 (y5o e))
           have hzl:z.natAbs < 10 ^ (decZ z).length:=z3c (z4t _) (k2o z)
           have hg:=j0w hlib hzl (z4t n) (by omega) (by omega) h0
           by_cases hg1:Nat.gcd z.natAbs n=1
           · obtain ⟨q,_,_,e⟩:=w7p z n (by omega) hg1
             exact absurd e.symm (w8f h q)
           · exact ⟨_,_,q3h hc hv hz' hnv h0' h1' hg (fun e=>hg1 (by rw [B49] at e; exact y7y.1 (y5o e)))⟩
 · have hc:=hlib.cutNo l hs (by omega)
   have hv:=y8a hlib (l:=l) (by omega)
   cases hi:intB l with
   | false=>rw [hi] at hv; exact ⟨_,_,x9h hc hv⟩
   | true =>
    obtain ⟨z,e⟩:=(k2w.1 hi).eq_decZ
    exact absurd (e.trans (x7r z).symm) (w8f h z)
theorem y6f (hlib:Lib E) {l:List UInt8} (hl:l.length≤Lim):Fn E z7p [.c (.str (B l))] (.c (.bool (rd l).isSome)):=by
 cases h:rd l with
 | none =>
  obtain ⟨x,y,hr⟩:=u5b hlib h hl
  exact x6t hr
 | some q =>
  have:=q6o h
  subst this
  exact x6t (q9h hlib (Sz.of_len (Nat.le_refl _)) hl)
theorem j3h (hlib:Lib E) {a b:Rat} {K L:Nat} (ha:Sz a K) (hb:Sz b L) (hK:K≤Lim) (hL:L≤Lim):Fn E F_rational_both [.c (.str (B (decQ a))),.c (.str (B (decQ b)))] (.tup [.agg (Qc a),.agg (Qc b),.c (.i64 0)]) :=
 q3c (q9h hlib ha hK) (q9h hlib hb hL)
theorem x9f (hlib:Lib E) {a b:Rat} {K L:Nat} (ha:Sz a K) (hb:Sz b L) (h:K+L+1≤Lim):Fn E y5t [.c (.str (B (decQ a))),.c (.str (B (decQ b)))] (.tup [.c (.str (B (decQ (a+b)))),.c (.i64 0)]) :=
 q9e (hlib.apply 43 _ (by simp) _ _ _ _ _ _ _ _ _ (j3h hlib ha hb (by omega) (by omega)) (by omega) (w3a hlib ha hb h) (v2d (ha.add hb) h))
theorem x9g (hlib:Lib E) {a b:Rat} {K L:Nat} (ha:Sz a K) (hb:Sz b L) (h:K+L≤Lim):Fn E y5u [.c (.str (B (decQ a))),.c (.str (B (decQ b)))] (.tup [.c (.str (B (decQ (a*b)))),.c (.i64 0)]) :=
 q9f (hlib.apply 42 _ (by simp) _ _ _ _ _ _ _ _ _ (j3h hlib ha hb (by omega) (by omega)) (by omega) (w9x hlib ha hb h) (v2d (ha.mul hb) h))
theorem q3b (hlib:Lib E) {a b:Rat} {K L:Nat} (ha:Sz a K) (hb:Sz b L) (h:K+L+1≤Lim):Fn E x2c [.c (.str (B (decQ a))),.c (.str (B (decQ b)))] (.tup [.c (.str (B (decQ (a - b)))),.c (.i64 0)]):=by
 refine q9g (hlib.apply 45 z0o (by simp) _ _ _ _ _ _ _ _ _ (j3h hlib ha hb (by omega) (by omega)) (by omega) (?_:Fn E z0o [.agg (Qc a),.agg (Qc b)] (.agg (Qc (a - b)))) (v2d (ha.sub hb) h))
 rw [Rat.sub_eq_add_neg]
 exact x6u (v9t hlib hb (by omega)) (w3a hlib ha hb.neg h)
def cmpQ (a b:Rat):Int:=cmpI (a.num*b.den) (b.num*a.den)
theorem v8p {a b:Rat}:cmpQ a b < 0↔a < b:=by unfold cmpQ; rw [y2v,Rat.lt_iff]
theorem v8o {a b:Int}:cmpI a b > 0↔b < a:=by unfold cmpI; split <;> (try split) <;> omega
theorem q6g {a b:Rat}:cmpQ a b > 0↔b < a:=by unfold cmpQ; rw [v8o,Rat.lt_iff]
theorem x5s {a b:Int}:cmpI a b=0↔a=b:=by unfold cmpI; split <;> (try split) <;> omega
theorem w8z (a:Rat):cmpQ a a=0:=j3s rfl
theorem q7k (a b:Int):-1≤cmpI a b∧cmpI a b≤1:=by unfold cmpI; split <;> (try split) <;> omega
theorem j4c (hlib:Lib E) {a:Rat} {K:Nat} (ha:Sz a K) (hK:K≤Lim):Fn E z0n [.agg (Qc a)] (.c (.i64 (cmpI a.num 0))):=k3r (q2t hlib ha.1 hK)
theorem q7l {a b:Rat} (h:cmpI a.num 0≠cmpI b.num 0):cmpQ a b=(if cmpI a.num 0 < cmpI b.num 0 then -1 else 1):=by
 have pa:=Nat.pos_of_ne_zero a.den_nz
 have pb:=Nat.pos_of_ne_zero b.den_nz
 have sg:∀ (n:Int) (d:Nat),0 < d→cmpI (n*d) 0=cmpI n 0:=by
  intro n d hd
  rcases Int.lt_trichotomy n 0 with c | c | c
  · have:n*d < 0:=Int.mul_neg_of_neg_of_pos c (by omega)
    unfold cmpI; rw [if_pos this,if_pos c]
  · subst c; simp
  · have:0 < n*d:=Int.mul_pos c (by omega)
    unfold cmpI; rw [if_neg (by omega),if_pos (by omega),if_neg (by omega),if_pos (by omega)]
 have s1:=sg a.num b.den pb
 have s2:=sg b.num a.den pa
 rw [← s1,← s2] at h ⊢
 unfold cmpQ
 generalize a.num*(b.den:Int)=u at *
 generalize b.num*(a.den:Int)=v at *
 unfold cmpI at *
 split <;> (try split) <;> split at*<;> (try split at *) <;> (try split at *) <;> (try split at *) <;> omega
theorem y3o (hlib:Lib E) {a b:Rat} {K L:Nat} (ha:Sz a K) (hb:Sz b L) (h:K+L≤Lim):Fn E z1x [.c (.str (B (decQ a))),.c (.str (B (decQ b)))] (.tup [.c (.i64 (cmpQ a b)),.c (.i64 0)]):=by
 have hbo:=j3h hlib ha hb (by omega) (by omega)
 by_cases he:a=b
 · subst he
   rw [w8z]
   exact j1o hbo rfl rfl
 · have hne:¬ B (decQ a)=B (decQ b):=fun e=>he (u0v (y5o e))
   have s1:=j4c hlib ha (by omega)
   have s2:=j4c hlib hb (by omega)
   have r1:=q7k a.num 0
   have r2:=q7k b.num 0
   by_cases hs:cmpI a.num 0=cmpI b.num 0
   · have m1:=y1v hlib ha.1 (b:=(b.den:Int)) (show (b.den:Int).natAbs < 10 ^ L from hb.2) h
     have m2:=y1v hlib hb.1 (b:=(a.den:Int)) (show (a.den:Int).natAbs < 10 ^ K from ha.2) (by omega)
     rw [y6a] at m1 m2
     have c:=j1a hlib (z1y ha.1 (show (b.den:Int).natAbs < 10 ^ L from hb.2)) (z1y hb.1 (show (a.den:Int).natAbs < 10 ^ K from ha.2)) h (by omega)
     exact j1q hbo rfl hne s1 s2 hs m1 m2 c
   · rw [q7l hs]
     refine j1p (i3:=cmpI a.num 0 - cmpI b.num 0) (i4:=if 1 < cmpI a.num 0 - cmpI b.num 0 then 1 else cmpI a.num 0 - cmpI b.num 0) (wi (by omega)) rfl ?_ hbo rfl hne s1 s2 hs
     split <;> split <;> (try split) <;> omega
end Gev
namespace Gev
open Go Gb
variable {E:Env}
theorem j4v (ws:List Int):∀ k,k≤ws.length→k < 9223372036854775807→Lp E 1 K0 0 (y0l k (Wr ws)) (.exit 0) (y4i (Wr ws) (z3j ws k))
 | 0,_,_=>j2c (by omega)
 | k+1,hk,hb=>by
  unfold z3j
  by_cases h0:ws.getD k 0=0
  · rw [if_pos h0]
    exact j9w (i0:=(k:Int)) (i1:=ws.getD k 0) (n2:=k) (wi (by omega)) rfl (by omega) (by omega) (G5 (by omega)) h0 (by omega) (j4v ws k (by omega) (by omega))
  · rw [if_neg h0]
    exact j2b (i0:=(k:Int)) (i1:=ws.getD k 0) (wi (by omega)) (by omega) (by omega) (G5 (by omega)) h0
theorem y9l {ws:List Int} {k:Nat} (hk:k≤ws.length) (hb:k < 9223372036854775807):Rn E K0 [.vec 0 k] [some (.vec A3 (Wr ws))] (.vec 0 (z3j ws k)) [some (.vec A3 (Wr ws))] :=
 w0d (j4v ws k hk hb)
theorem x3b {ws:List Int} (h:Wd ws) {n:Nat} (hv:wv ws=n):(Wr ws).take (z3j ws ws.length)=Wr (words n):=by
 rw [z2l,z3k h (Nat.le_refl _),List.take_length,hv,Int.toNat_natCast]
theorem k3m {n:Nat} (h:n < 4294967296):Fn E z4r [.c (.u32 n)] (.c (.list (Wr (words n)))):=by
 have hw:Wd [((n % 1000000000:Nat):Int),((n / 1000000000:Nat):Int)]:=Wd.cons (by omega) (by omega) (Wd.cons (by omega) (by omega) Wd.nil)
 have ht:=y9l (E:=E) (ws:=[((n % 1000000000:Nat):Int),((n / 1000000000:Nat):Int)]) (k:=2) (Nat.le_refl _) (by decide)
 exact v4d (i1:=((n % 1000000000:Nat):Int)) (i2:=((n / 1000000000:Nat):Int)) (tmd (by omega) (by omega)) (w32 ⟨tdv (by omega) (by omega),by omega,by omega⟩) (x3b hw (by simp [wv]; omega)) ht
theorem u4x {n:Nat} (h:n < 18446744073709551616):Fn E x7j [.c (.u64 n)] (.c (.list (Wr (words n)))):=by
 have hw:Wd [((n % 1000000000:Nat):Int),((n / 1000000000 % 1000000000:Nat):Int),((n / 1000000000 / 1000000000:Nat):Int)]:=Wd.cons (by omega) (by omega) (Wd.cons (by omega) (by omega) (Wd.cons (by omega) (by omega) Wd.nil))
 have ht:=y9l (E:=E) (ws:=[((n % 1000000000:Nat):Int),((n / 1000000000 % 1000000000:Nat):Int),((n / 1000000000 / 1000000000:Nat):Int)]) (k:=3) (Nat.le_refl _) (by decide)
 exact w0e (i1:=((n % 1000000000:Nat):Int)) (i2:=((n % 1000000000:Nat):Int)) (i3:=((n / 1000000000:Nat):Int)) (i4:=((n / 1000000000 % 1000000000:Nat):Int)) (i5:=((n / 1000000000 % 1000000000:Nat):Int)) (i6:=((n / 1000000000 / 1000000000:Nat):Int)) (i7:=((n / 1000000000 / 1000000000:Nat):Int))
  (tmd (by omega) (by omega)) (w32 (by omega)) (wu ⟨tdv (by omega) (by omega),by omega,by omega⟩) (tmd (by omega) (by omega)) (w32 (by omega)) (wu ⟨tdv (by omega) (by omega),by omega,by omega⟩) (w32 (by omega)) (x3b hw (by simp [wv]; omega)) ht
theorem j4w (xs:List Int) (hx:Wd xs) (hl:xs.length≤2):∀ k:Nat,k≤xs.length→Lp E 0 z4c 0 (y4a (Wr xs) (wv (xs.drop k)) ((k:Int) - 1)) (.exit 0) (x0q (wv xs))
 | 0,_=>by rw [List.drop_zero]; exact j2d (by omega)
 | k+1,hk=>by
  have h0:=hx.getD k
  have h1:=D4 (hx.drop (k+1))
  have h2:=y2n (hx.drop (k+1))
  rw [List.length_drop] at h2
  have h3:pw (xs.length - (k+1))≤pw 1:=q6m (by omega)
  rw [show pw 1=1000000000 by decide] at h3
  have e:=y1n xs k
  rw [show ((k+1:Nat):Int) - 1=(k:Int) by omega]
  exact j9x (i3:=wv (xs.drop (k+1))*1000000000) (i4:=xs.getD k 0) (i5:=xs.getD k 0) (i6:=wv (xs.drop k)) (i7:=(k:Int) - 1) (wu (by omega)) (wu (by omega)) (wu (by omega)) (wi (by omega)) (by omega) (by omega) (G5 (by omega)) (j4w xs hx hl k (by omega))
theorem w7z {n:Nat} (h:(words n).length≤2):Fn E z4c [.c (.list (Wr (words n)))] (.c (.u64 n)):=by
 have:=j4w (E:=E) (words n) (B9 n) h (words n).length (Nat.le_refl _)
 rw [List.drop_length,B5] at this
 exact w0f (i0:=((words n).length:Int) - 1) (wi (by rw [B3]; omega)) this
theorem q1z (xs ys:List Int) (hx:Wd xs) (hy:Wd ys) (hl:xs.length=ys.length) (hb:xs.length < 9223372036854775807):∀ k:Nat,k≤xs.length→xs.drop k=ys.drop k →
    (xs=ys∧Lp E 0 N0 0 (z4h (Wr xs) (Wr ys) ((k:Int) - 1)) (.exit 0) x2p) ∨
    (xs≠ys∧Lp E 0 N0 0 (z4h (Wr xs) (Wr ys) ((k:Int) - 1)) .ret (y6g (cmpI (wv xs) (wv ys))))
 | 0,_,h=>.inl ⟨by simpa using h,j5g (by omega)⟩
 | k+1,hk,h=>by
  rw [show ((k+1:Nat):Int) - 1=(k:Int) by omega]
  have g1:(Wr xs)[Int.toNat (k:Int)]?=some [.u32 (xs.getD k 0)]:=G5 (by omega)
  have g2:(Wr ys)[Int.toNat (k:Int)]?=some [.u32 (ys.getD k 0)]:=G5 (by omega)
  rcases Int.lt_trichotomy (xs.getD k 0) (ys.getD k 0) with c | c | c
  · have:=y9p hx hy (by omega) (by omega) c h
    refine .inr ⟨fun e=>by rw [e] at c; omega,?_⟩
    have e:cmpI (wv xs) (wv ys)=-1:=by unfold cmpI; rw [if_pos this]
    rw [e]
    exact j5e (by omega) (by omega) g1 g2 c
  · have hd:xs.drop k=ys.drop k:=by rw [x5w xs k (by omega),x5w ys k (by omega),c,h]
    rcases q1z xs ys hx hy hl hb k (by omega) hd with ⟨e,ih⟩ | ⟨e,ih⟩
    · exact .inl ⟨e,x9i (wi (by omega)) (by omega) (by omega) g1 g2 (by omega) (by omega) ih⟩
    · exact .inr ⟨e,x9i (wi (by omega)) (by omega) (by omega) g1 g2 (by omega) (by omega) ih⟩
  · have:=y9p hy hx (by omega) (by omega) c h.symm
    refine .inr ⟨fun e=>by rw [e] at c; omega,?_⟩
    have e:cmpI (wv xs) (wv ys)=1:=by unfold cmpI; rw [if_neg (by omega),if_pos (by omega)]
    rw [e]
    exact j5f (by omega) (by omega) g1 g2 (by omega) c
theorem q8w {m n:Nat} (hm:(words m).length < 9223372036854775807):Fn E N0 [.c (.list (Wr (words m))),.c (.list (Wr (words n)))] (.c (.i64 (cmpI m n))):=by
 by_cases hl:(words m).length=(words n).length
 · rcases q1z (E:=E) (words m) (words n) (B9 m) (B9 n) hl hm (words m).length (Nat.le_refl _) (by rw [List.drop_length,hl,List.drop_length]) with ⟨e,h⟩ | ⟨e,h⟩
   · have:=v8b e
     subst this
     rw [j3s rfl]
     exact w3o (wi (by rw [B3]; omega)) (by rw [B3]) h
   · rw [B5,B5] at h
     exact w3n (wi (by rw [B3]; omega)) (by rw [B3,B3]; omega) h
 · rcases Nat.lt_or_gt_of_ne hl with c | c
   · have:m < n:=by
      rcases Nat.lt_or_ge m n with h | h
      · exact h
      · have:=(z0u n).length_le (B9 n) (B9 m) (by rw [B5,B5]; omega)
        omega
     have e:cmpI (m:Int) n=-1:=by unfold cmpI; rw [if_pos (by omega)]
     rw [e]
     exact w3l (by rw [B3,B3]; omega) (by rw [B3,B3]; omega)
   · have:n < m:=by
      rcases Nat.lt_or_ge n m with h | h
      · exact h
      · have:=(z0u m).length_le (B9 m) (B9 n) (by rw [B5,B5]; omega)
        omega
     have e:cmpI (m:Int) n=1:=by unfold cmpI; rw [if_neg (by omega),if_pos (by omega)]
     rw [e]
     exact w3m (by rw [B3,B3]; omega) (by rw [B3,B3]; omega)
theorem j4u {xs ys:List Int} (hx:Wd xs) (hy:Wd ys) (hxl:xs.length < 17592186044000) (hyl:ys.length < 17592186044000):∀ (t i:Nat) (c:Int) (zs:List Int),xs.length+ys.length+2≤t+i→i≤xs.length+ys.length+1→0≤c∧c≤1→(xs.length+ys.length < i→c=0)→zs.length=i→Wd zs →
    ∃ zs',Lp E 0 X7 0 (z0g (Wr xs) (Wr ys) i c i (Wr zs)) (.exit 0) (x0p zs'.length (Wr zs'))∧Wd zs'∧zs'.length≤xs.length+ys.length+1∧wv zs'=wv zs+pw i*(c+wv (xs.drop i)+wv (ys.drop i))
 | 0,i,c,zs,ht,hi,_,_,_,_=>by omega
 | t+1,i,c,zs,ht,hi,hc,hc0,hz,hw=>by
  have ha:=hx.getD i
  have hb:=hy.getD i
  obtain ⟨a,ea⟩:∃ a,a=xs.getD i 0:=⟨_,rfl⟩
  obtain ⟨b,eb⟩:∃ b,b=ys.getD i 0:=⟨_,rfl⟩
  rw [← ea] at ha
  rw [← eb] at hb
  have gx:i < xs.length→(Wr xs)[Int.toNat (i:Int)]?=some [.u32 a]:=fun h=>by rw [ea]; exact G5 h
  have gy:i < ys.length→(Wr ys)[Int.toNat (i:Int)]?=some [.u32 b]:=fun h=>by rw [eb]; exact G5 h
  obtain ⟨S,eS⟩:∃ S,S=c+a+b:=⟨_,rfl⟩
  have hap:∀ w,(Wr zs).take i++[[DV.u32 w]]=Wr (zs++[w]):=fun w=>by rw [z2l,← hz,List.take_length,x3t]
  have stop:¬ i < xs.length→¬ i < ys.length→c=0→wv zs=wv zs+pw i*(c+wv (xs.drop i)+wv (ys.drop i)):=by
   intro h1 h2 h3
   rw [drop_nil (by omega),drop_nil (by omega),h3]
   simp [wv]
  by_cases hend:¬ i < xs.length∧¬ i < ys.length∧c=0
  · exact ⟨zs,by rw [hz]; exact j1x (by rw [B3]; omega) (by rw [B3]; omega) (by omega),hw,by omega,stop hend.1 hend.2.1 hend.2.2⟩
  · have hii:i≤xs.length+ys.length:=by
     rcases Nat.lt_or_ge (xs.length+ys.length) i with h | h
     · exact absurd ⟨by omega,by omega,hc0 h⟩ hend
     · exact h
    have ndone:xs.length+ys.length < i+1→S / 1000000000=0:=by
     intro h
     have h0:i=xs.length+ys.length:=by omega
     have:b=0∨a=0:=by
      rcases Nat.lt_or_ge i xs.length with h1 | h1
      · left; rw [eb]; exact z9z (by omega)
      · right; rw [ea]; exact z9z h1
     by_cases hcc:c=0
     · rcases this with h2 | h2 <;> omega
     · -- the last carry has no words beside it
       have h1:a=0:=by
        rcases Nat.lt_or_ge i xs.length with h1 | h1
        · omega
        · rw [ea]; exact z9z h1
       have h2:b=0:=by
        rcases Nat.lt_or_ge i ys.length with h1 | h1
        · omega
        · rw [eb]; exact z9z h1
       omega
    obtain ⟨zs',k1,k2,k3,k4⟩:=j4u hx hy hxl hyl t (i+1) (S / 1000000000) (zs++[S % 1000000000]) (by omega) (by omega) (by omega) ndone (by simp [hz]) (hw.append (Wd.cons (by omega) (by omega) Wd.nil))
    refine ⟨zs',?_,k2,k3,?_⟩
    · have hlen:(i+1)*4≤140737488355328∧i+1≤140737488355328:=by omega
      by_cases c1:i < xs.length
      · by_cases c2:i < ys.length
        · exact j9q (i2:=a) (i3:=c+a) (i4:=b) (i5:=S) (i6:=S % 1000000000) (r4:=Wr (zs++[S % 1000000000])) (n2:=i+1) (i7:=S / 1000000000) (i8:=((i+1:Nat):Int)) (w32 (by omega)) (w32 (by omega)) (tmd (by omega) rfl) (hap _) rfl (w32 ⟨tdv (by omega) rfl,by omega,by omega⟩) (wi (by omega)) (by rw [B3]; omega) (by omega) (gx c1) (by rw [B3]; omega) (gy c2) hlen k1
        · have b0:b=0:=by rw [eb]; exact z9z (by omega)
          exact j9r (i2:=a) (i3:=S) (i4:=S % 1000000000) (r5:=Wr (zs++[S % 1000000000])) (n3:=i+1) (i9:=S / 1000000000) (i10:=((i+1:Nat):Int)) (w32 (by omega)) (tmd (by omega) rfl) (hap _) rfl (w32 ⟨tdv (by omega) rfl,by omega,by omega⟩) (wi (by omega)) (by rw [B3]; omega) (by omega) (gx c1) (by rw [B3]; omega) hlen k1
      · have a0:a=0:=by rw [ea]; exact z9z (by omega)
        by_cases c2:i < ys.length
        · exact j9s (i2:=b) (i3:=S) (i4:=S % 1000000000) (r5:=Wr (zs++[S % 1000000000])) (n3:=i+1) (i9:=S / 1000000000) (i10:=((i+1:Nat):Int)) (w32 (by omega)) (tmd (by omega) rfl) (hap _) rfl (w32 ⟨tdv (by omega) rfl,by omega,by omega⟩) (wi (by omega)) (by rw [B3]; omega) (by rw [B3]; omega) (by omega) (gy c2) hlen k1
        · have b0:b=0:=by rw [eb]; exact z9z (by omega)
          have e0:S=c:=by omega
          rw [e0] at k1
          exact j9t (i2:=c % 1000000000) (r6:=Wr (zs++[c % 1000000000])) (n4:=i+1) (i5:=c / 1000000000) (i6:=((i+1:Nat):Int)) (tmd (by omega) rfl) (hap _) rfl (w32 ⟨tdv (by omega) rfl,by omega,by omega⟩) (wi (by omega)) (by rw [B3]; omega) (by rw [B3]; omega) (by omega) hlen k1
    · rw [k4,y2o,hz,y1n xs i,y1n ys i,z6s,← ea,← eb]
      have e1:S % 1000000000=c+a+b - 1000000000*(S / 1000000000):=by omega
      rw [e1]; grind
theorem u4w {m n:Nat} (h1:(words m).length < 17592186044000) (h2:(words n).length < 17592186044000):Fn E X7 [.c (.list (Wr (words m))),.c (.list (Wr (words n)))] (.c (.list (Wr (words (m+n))))):=by
 obtain ⟨zs,k1,k2,k3,k4⟩:=j4u (E:=E) (B9 m) (B9 n) h1 h2 ((words m).length+(words n).length+2) 0 0 [] (by omega) (by omega) (by omega) (fun _=>rfl) rfl Wd.nil
 rw [List.drop_zero,List.drop_zero,B5,B5,x8d] at k4
 exact w0c (x3b k2 (by simp [wv] at k4; omega)) k1 (y9l (Nat.le_refl _) (by omega))
theorem k9s {xs ys:List Int} (hx:Wd xs) (hy:Wd ys) (hxl:xs.length < 17592186044000):∀ d i b zs,i+d=xs.length→(b=0∨b=1)→zs.length=i→Wd zs →
    ∃ b' zs',Lp E 0 J4 0 (O7 (Wr xs) (Wr ys) i b i (Wr zs)) (.exit 0) (y2z zs'.length (Wr zs'))∧Wd zs'∧zs'.length=xs.length∧(b'=0∨b'=1)∧wv zs'+pw i*(0 - wv (xs.drop i)+wv ((ys.take xs.length).drop i)+b)=wv zs+pw xs.length*b'
 | 0,i,b,zs,hi,hb,hz,hw=>by
  refine ⟨b,zs,by rw [hz]; exact k7s (by rw [B3]; omega),hw,by omega,hb,?_⟩
  have:i=xs.length:=by omega
  subst this
  rw [drop_nil (Nat.le_refl _),drop_nil (by simp; omega)]
  simp [wv]
 | d+1,i,b,zs,hi,hb,hz,hw=>by
  have ha:=hx.getD i
  have hbb:=hy.getD i
  obtain ⟨a,ea⟩:∃ a,a=xs.getD i 0:=⟨_,rfl⟩
  obtain ⟨y,eb⟩:∃ y,y=ys.getD i 0:=⟨_,rfl⟩
  rw [← ea] at ha
  rw [← eb] at hbb
  have gx:(Wr xs)[Int.toNat (i:Int)]?=some [.u32 a]:=by rw [ea]; exact G5 (by omega)
  have gy:i < ys.length→(Wr ys)[Int.toNat (i:Int)]?=some [.u32 y]:=fun h=>by rw [eb]; exact G5 h
  have hap:∀ w,(Wr zs).take i++[[DV.u32 w]]=Wr (zs++[w]):=fun w=>by rw [z2l,← hz,List.take_length,x3t]
  have hlen:(i+1)*4≤140737488355328∧i+1≤140737488355328:=by omega
  have ey:(ys.take xs.length).getD i 0=y:=by rw [List.getD_eq_getElem?_getD,List.getElem?_take_of_lt (by omega),← List.getD_eq_getElem?_getD,eb]
  obtain ⟨dd,ed⟩:∃ dd,dd=a - b - y:=⟨_,rfl⟩
  have key:∀ b1 w,w=dd+1000000000*b1→0≤w∧w < 1000000000→(b1=0∨b1=1) →
      (∀ {st:St},Lp E 0 J4 0 (O7 (Wr xs) (Wr ys) (i+1) b1 ((i+1:Nat):Int) (Wr (zs++[w]))) (.exit 0) st→Lp E 0 J4 0 (O7 (Wr xs) (Wr ys) i b i (Wr zs)) (.exit 0) st) →
      ∃ b' zs',Lp E 0 J4 0 (O7 (Wr xs) (Wr ys) i b i (Wr zs)) (.exit 0) (y2z zs'.length (Wr zs'))∧Wd zs'∧zs'.length=xs.length∧(b'=0∨b'=1)∧wv zs'+pw i*(0 - wv (xs.drop i)+wv ((ys.take xs.length).drop i)+b)=wv zs+pw xs.length*b':=by
   intro b1 w hw1 hw0 hb1 st
   obtain ⟨b',zs',k1,k2,k3,k4,k5⟩:=k9s hx hy hxl d (i+1) b1 (zs++[w]) (by omega) hb1 (by simp [hz]) (hw.append (Wd.cons hw0.1 hw0.2 Wd.nil))
   refine ⟨b',zs',st k1,k2,k3,k4,?_⟩
   rw [y2o,hz,z6s] at k5
   rw [y1n xs i,y1n (ys.take xs.length) i,← ea,ey]
   rw [hw1,ed] at k5
   grind
  by_cases c2:i < ys.length
  · by_cases c3:dd < 0
    · exact key 1 (dd+1000000000) (by omega) (by omega) (.inr rfl) fun k1=>j5i (i2:=a) (i3:=a) (i4:=a - b) (i5:=y) (i6:=y) (i7:=dd) (i8:=dd+1000000000) (i9:=dd+1000000000) (wi (by omega)) (wi (by omega)) (wi (by omega)) (wi (by omega)) (wi (by omega)) (w32 (by omega)) (hap _) rfl (wi (by omega)) (by rw [B3]; omega) (by omega) gx (by rw [B3]; omega) (gy c2) c3 hlen k1
    · exact key 0 dd (by omega) (by omega) (.inl rfl) fun k1=>j5j (i2:=a) (i3:=a) (i4:=a - b) (i5:=y) (i6:=y) (i7:=dd) (i8:=dd) (wi (by omega)) (wi (by omega)) (wi (by omega)) (wi (by omega)) (w32 (by omega)) (hap _) rfl (wi (by omega)) (by rw [B3]; omega) (by omega) gx (by rw [B3]; omega) (gy c2) c3 hlen k1
  · have y0:y=0:=by rw [eb]; exact z9z (by omega)
    by_cases c3:dd < 0
    · exact key 1 (dd+1000000000) (by omega) (by omega) (.inr rfl) fun k1=>j5k (i2:=a) (i3:=a) (i4:=dd) (i5:=dd+1000000000) (i6:=dd+1000000000) (wi (by omega)) (wi (by omega)) (wi (by omega)) (w32 (by omega)) (hap _) rfl (wi (by omega)) (by rw [B3]; omega) (by omega) gx (by rw [B3]; omega) c3 hlen k1
    · exact key 0 dd (by omega) (by omega) (.inl rfl) fun k1=>j5l (i2:=a) (i3:=a) (i4:=dd) (i5:=dd) (wi (by omega)) (wi (by omega)) (w32 (by omega)) (hap _) rfl (wi (by omega)) (by rw [B3]; omega) (by omega) gx (by rw [B3]; omega) c3 hlen k1
theorem w3e {m n:Nat} (h1:(words m).length < 17592186044000) (hmn:n≤m):Fn E J4 [.c (.list (Wr (words m))),.c (.list (Wr (words n)))] (.c (.list (Wr (words (m - n))))):=by
 have hle:(words n).length≤(words m).length:=(z0u n).length_le (B9 n) (B9 m) (by rw [B5,B5]; omega)
 obtain ⟨b,zs,k1,k2,k3,k4,k5⟩:=k9s (E:=E) (B9 m) (B9 n) h1 (words m).length 0 0 [] (by omega) (.inl rfl) rfl Wd.nil
 rw [List.drop_zero,List.drop_zero,List.take_of_length_le hle,B5,B5,x8d] at k5
 have h2:=y2n k2
 have h3:=z3d (words m).length
 have hv:=D4 k2
 rw [k3] at h2
 have hb:b=0:=by
  rcases k4 with h | h
  · exact h
  · subst h
    simp [wv] at k5
    omega
 subst hb
 exact v4c (x3b k2 (n:=m - n) (by simp [wv] at k5; omega)) k1 (y9l (Nat.le_refl _) (by omega))
theorem k9u (l:List UInt8) (hl:l.length < 9223372036854775807):∀ d i:Nat,i+d=l.length →
    ((l.drop i).all x3v=true∧Lp E 0 G7 0 (Y3 (B l) i) (.exit 0) (z7x (B l))) ∨
    ((l.drop i).all x3v=false∧Lp E 0 G7 0 (Y3 (B l) i) .ret y3a)
 | 0,i,hi=>.inl ⟨by rw [List.drop_eq_nil_of_le (by omega)]; rfl,k7x (by rw [F7]; omega)⟩
 | d+1,i,hi=>by
  have hd:l.drop i=l.getD i 0::l.drop (i+1):=by
   rw [List.drop_eq_getElem_cons (by omega),List.getD_eq_getElem?_getD,List.getElem?_eq_getElem (by omega)]; rfl
  have hlt:0≤(i:Int)∧(i:Int) < (B l).size:=by rw [F7]; omega
  rw [hd,List.all_cons]
  by_cases c1:(l.getD i 0).toNat < 48
  · rw [x3w (.inl c1)]
    exact .inr ⟨rfl,k7v (x1f l i) (by omega) hlt (by omega)⟩
  · by_cases c2:(l.getD i 0).toNat > 57
    · rw [x3w (.inr c2)]
      exact .inr ⟨rfl,k7w (x1f l i) (by omega) hlt (by omega) (by omega)⟩
    · rw [k5v.2 (by omega),Bool.true_and]
      rcases k9u l hl d (i+1) (by omega) with ⟨h1,h2⟩ | ⟨h1,h2⟩
      · exact .inl ⟨h1,x4a (x1f l i) (wi (by omega)) (by omega) hlt (by omega) (by omega) h2⟩
      · exact .inr ⟨h1,x4a (x1f l i) (wi (by omega)) (by omega) hlt (by omega) (by omega) h2⟩
theorem x6r (l:List UInt8) (hl:l.length < 9223372036854775807):Fn E G7 [.c (.str (B l))] (.c (.bool (natB l))):=by
 have hloop:=k9u (E:=E) l hl l.length 0 (by omega)
 rw [List.drop_zero] at hloop
 cases l with
 | nil =>
  rcases hloop with ⟨_,g2⟩ | ⟨g1,_⟩
  · exact v4l g2 (by rw [F7]; decide) (by rw [F7]; decide)
  · cases g1
 | cons c m =>
  rcases hloop with ⟨g1,g2⟩ | ⟨g1,g2⟩
  · by_cases h1:(c::m).length=1
    · have e:natB (c::m)=true:=by
       unfold natB
       rw [g1,decide_eq_true (show (c::m).length≤1 by omega)]; rfl
      rw [e]
      exact v4i g2 (by rw [F7]; omega)
    · have h2:(c::m).length > 1:=by have:(c::m).length=m.length+1:=rfl; omega
      have h0:(((B (c::m)).data.toList.getD 0 0).toNat:Int)=(c.toNat:Int):=by rw [y4k]; rfl
      have hlt:0≤(0:Int)∧(0:Int) < (B (c::m)).size:=by rw [F7]; omega
      by_cases hc:c=48
      · have e:natB (c::m)=false:=by
         unfold natB
         rw [decide_eq_false (show ¬ (c::m).length≤1 by omega),hc]; simp
        rw [e]
        exact v4k h0 g2 (by rw [F7]; omega) (by rw [F7]; omega) hlt (by rw [hc]; rfl)
      · have hn:c.toNat≠48:=fun e=>hc (UInt8.toNat_inj.1 e)
        have e:natB (c::m)=true:=by
         unfold natB
         have:((c::m).head? == some 48)=false:=by simp [hc]
         rw [g1,this]; simp
        rw [e]
        exact v4j h0 g2 (by rw [F7]; omega) (by rw [F7]; omega) hlt (by omega)
  · have e:natB (c::m)=false:=by unfold natB; rw [g1]; simp
    rw [e]
    exact v4h g2
theorem k9r {l:List UInt8} (hd:Dg l) (hl:l.length < 9223372036854775807) {w0:RW} {i:Nat} {e s:Nat} (he:e≤l.length) (hes:e≤s+9):∀ (d k:Nat),k+d=e→s≤k →
    Lp E 1 O3 1 (y2c (B l) i e (dval ((l.take k).drop s):Int) k w0) (.exit 2) (y8c (B l) i e w0 (dval ((l.take e).drop s):Int))
 | 0,k,hk,hs=>by
  have:k=e:=by omega
  subst this
  exact k7r (by omega)
 | d+1,k,hk,hs=>by
  have hg:l.getD k 0=l[k]:=by rw [List.getD_eq_getElem?_getD,List.getElem?_eq_getElem (by omega)]; rfl
  have hc:=hd l[k] (List.getElem_mem _)
  have htk:(l.take (k+1)).drop s=(l.take k).drop s++[l[k]]:=by
   rw [List.take_succ_eq_append_getElem (by omega),List.drop_append_of_le_length (by simp; omega)]
  have hb:dval ((l.take k).drop s) < 100000000:=by
   have h1:=j3y (Dg.drop (Dg.take hd k) s)
   have h2:(10:Nat) ^ ((l.take k).drop s).length≤10 ^ 8:=Nat.pow_le_pow_right (by decide) (by simp; omega)
   have h3:(10:Nat) ^ 8=100000000:=by decide
   omega
  have hv:dval ((l.take (k+1)).drop s)=10*dval ((l.take k).drop s)+(l[k].toNat - 48):=by rw [htk,j8n]
  exact j5h (i4:=10*(dval ((l.take k).drop s):Int)) (i5:=(l[k].toNat:Int)) (i6:=(l[k].toNat:Int) - 48) (i7:=(l[k].toNat:Int) - 48) (i8:=(dval ((l.take (k+1)).drop s):Int)) (i9:=((k+1:Nat):Int))
   (w32 (by omega)) (by rw [x1f,hg]) (w8 (by omega)) (w32 (by omega)) (w32 (by omega)) (wi (by omega)) (by omega) (by rw [F7]; omega) (k9r hd hl he hes d (k+1) (by omega) (by omega))
theorem j4r {l:List UInt8} (hd:Dg l) (hl:l.length < 10000000000000):∀ (t i:Nat) (ws:List Int) (n:Int),n≤t→n≤l.length→-9 < n→9*(i:Int)≤l.length+8→ws.length=i→(0 < n→n+9*i=l.length)→Wd ws→wv ws+pw i*(dval (l.take n.toNat):Int)=dval l →
    ∃ ws',Lp E 0 O3 0 (y3y (B l) i n (Wr ws)) (.exit 0) (x0n ws'.length (Wr ws'))∧Wd ws'∧wv ws'=dval l∧ws'.length≤l.length+8
 | t,i,ws,n,ht,hnl,hn9,hi,hw,hni,hwd,hv=>by
  by_cases h0:n≤0
  · rw [show n.toNat=0 by omega,List.take_zero,show dval []=0 from rfl] at hv
    exact ⟨ws,by rw [hw]; exact j1t (by omega),hwd,by simpa using hv,by omega⟩
  · cases t with
    | zero=>omega
    | succ t =>
     obtain ⟨e,he⟩:∃ e:Nat,n=e:=⟨n.toNat,by omega⟩
     subst he
     rw [Int.toNat_natCast] at hv
     obtain ⟨s,hs⟩:∃ s,s=e - 9:=⟨_,rfl⟩
     obtain ⟨p,hp⟩:∃ p,p=(l.take e).drop s:=⟨_,rfl⟩
     have hlen:(l.take e).length=e:=by simp; omega
     have hpd:Dg p:=by rw [hp]; exact Dg.drop (Dg.take hd _) _
     have hpl:p.length=e - s:=by rw [hp,List.length_drop,hlen]
     have hval:dval p < 1000000000:=by
      have:=j3y hpd
      have h9:(10:Nat) ^ p.length≤10 ^ 9:=Nat.pow_le_pow_right (by decide) (by omega)
      rw [x0j] at h9
      omega
     have hsplit:l.take e=l.take s++p:=by
      rw [hp]
      have:=(List.take_append_drop s (l.take e)).symm
      rwa [List.take_take,Nat.min_eq_left (by omega)] at this
     have hvs:wv (ws++[(dval p:Int)])+pw (i+1)*(dval (l.take ((e:Int) - 9).toNat):Int)=dval l:=by
      rw [show ((e:Int) - 9).toNat=s by omega,y2o,hw,z6s]
      rw [hsplit,y9t] at hv
      by_cases h9:p.length=9
      · rw [h9,x0j] at hv
        have e2:((dval (l.take s)*1000000000+dval p:Nat):Int)=1000000000*(dval (l.take s):Int)+dval p:=by omega
        rw [e2] at hv
        grind
      · have hs0:s=0:=by omega
        rw [hs0,List.take_zero,show dval []=0 from rfl] at hv ⊢
        rw [show ((0*10 ^ p.length+dval p:Nat):Int)=(dval p:Int) by simp] at hv
        simp
        omega
     obtain ⟨ws',k1,k2,k3,k4⟩:=j4r hd hl t (i+1) (ws++[(dval p:Int)]) ((e:Int) - 9) (by omega) (by omega) (by omega) (by omega) (by simp [hw]) (by omega) (hwd.append (Wd.cons (by omega) (by omega) Wd.nil)) hvs
     refine ⟨ws',?_,k2,k3,k4⟩
     have hin:=k9r (E:=E) hd (by omega) (w0:=Wr ws) (i:=i) (e:=e) (s:=s) (by omega) (by omega) (e - s) s (by omega) (Nat.le_refl _)
     rw [List.drop_eq_nil_of_le (by simp; omega),show dval []=0 from rfl,← hp] at hin
     exact j9m (i1:=(e:Int) - 9) (i2:=(s:Int)) (i3:=(dval p:Int)) (r2:=Wr (ws++[(dval p:Int)])) (n2:=i+1) (wi (by omega)) (by split <;> omega) (by rw [z2l,← hw,List.take_length,x3t]) rfl (by omega) hin (by omega) k1
theorem u4v {l:List UInt8} (hd:Dg l) (hl:l.length < 10000000000000):Fn E O3 [.c (.str (B l))] (.c (.list (Wr (words (dval l))))):=by
 obtain ⟨ws,k1,k2,k3,k4⟩:=j4r (E:=E) hd hl l.length 0 [] l.length (by omega) (by omega) (by omega) (by omega) rfl (fun _=>by omega) Wd.nil (by rw [Int.toNat_natCast,List.take_length,x8d]; simp [wv])
 rw [← F7] at k1
 exact v9y (x3b k2 k3) k1 (y9l (Nat.le_refl _) (by omega))
theorem k3l {n K:Nat} (h:n < 10 ^ K) (hK:K≤Lim):Fn E O3 [.c (.str (B (dec n)))] (.c (.list (Wr (words n)))):=by
 have h1:=j0u h
 rw [Y9] at hK
 have:=u4v (E:=E) (y7x n) (by omega)
 rwa [z6p] at this
end Gev
namespace Gev
open Go Gb
variable {E:Env}
theorem k3o {xs ys:List Int} (hy:Wd ys) {N i:Nat} {x:Int} (hi:i < xs.length) (hxi:x=xs.getD i 0) (hx:0≤x∧x < 1000000000) (hN:N < 4611686018427387904) (hiN:i+ys.length≤N) {out0:List Int} :
    ∀ d k c out,k+d=ys.length→0≤c∧c < 1000000000→Wd out→out.length=N→(∀ j,i+k≤j→out.getD j 0=out0.getD j 0) →
    wv out+pw (i+k)*c=wv out0+pw i*(x*wv (ys.take k)) →
    ∃ c' out',Lp E 1 G4 1 (y2e (Wr xs) (Wr ys) N i c k (Wr out)) (.exit 2) (y8e (Wr xs) (Wr ys) N i c' (Wr out')) ∧
     (0≤c'∧c' < 1000000000)∧Wd out'∧out'.length=N∧(∀ j,i+ys.length≤j→out'.getD j 0=out0.getD j 0)∧wv out'+pw (i+ys.length)*c'=wv out0+pw i*(x*wv ys)
 | 0,k,c,out,hk,hc,hw,hl,hj,hv=>by
  have:k=ys.length:=by omega
  subst this
  rw [List.take_length] at hv
  exact ⟨c,out,k7u (by rw [B3]; omega),hc,hw,hl,hj,hv⟩
 | d+1,k,c,out,hk,hc,hw,hl,hj,hv=>by
  have hyk:=hy.getD k
  obtain ⟨y,ey⟩:∃ y,y=ys.getD k 0:=⟨_,rfl⟩
  rw [← ey] at hyk
  have ho:=hw.getD (i+k)
  obtain ⟨w,ew⟩:∃ w,w=out.getD (i+k) 0:=⟨_,rfl⟩
  rw [← ew] at ho
  have hxy:=k5w hx hyk
  obtain ⟨p,ep⟩:∃ p,p=x*y:=⟨_,rfl⟩
  rw [← ep] at hxy
  obtain ⟨S,eS⟩:∃ S,S=c+(p+w):=⟨_,rfl⟩
  have hS:0≤S∧S≤999999999999999999:=by omega
  have hik:i+k < out.length:=by omega
  obtain ⟨c',out',k1,k2,k3,k4,k5,k6⟩:=k3o hy hi hxi hx hN hiN (out0:=out0) d (k+1) (S / 1000000000) (out.set (i+k) (S % 1000000000)) (by omega) (by omega) (hw.set _ (by omega) (by omega)) (by simpa using hl)
   (fun j h=>by rw [O5 (by omega)]; exact hj j (by omega)) (by
    rw [y4j out (i+k) hik,← ew,z2o ys k (by omega),← ey,← Nat.add_assoc,z6s,y4p]
    rw [y4p] at hv
    exact alg1 hv ep eS (Int.emod_add_mul_ediv S 1000000000))
  refine ⟨c',out',?_,k2,k3,k4,k5,k6⟩
  exact j5n (i4:=((i+k:Nat):Int)) (i5:=w) (i6:=w) (i7:=x) (i8:=x) (i9:=y) (i10:=y) (i11:=p) (i12:=w+p) (i13:=S) (i14:=S % 1000000000) (i15:=S % 1000000000) (r4:=Wr (out.set (i+k) (S % 1000000000))) (i16:=S / 1000000000) (i17:=((k+1:Nat):Int))
   (wi (by omega)) (wu (by omega)) (wu (by omega)) (wu (by omega)) (wu (by omega)) (wu (by omega)) (wu (by omega)) (tmd hS.1 rfl) (w32 (by omega)) (by rw [Int.toNat_natCast,z7t]) (wu ⟨tdv hS.1 rfl,by omega,by omega⟩) (wi (by omega))
   (by rw [B3]; omega) (by omega) (by rw [ew]; exact G5 hik) (by omega) (by rw [hxi]; exact G5 (by omega)) (by omega) (by rw [ey]; exact G5 (by omega)) k1
theorem k3p {xs ys:List Int} (hx:Wd xs) (hy:Wd ys) {N:Nat} (hN:N < 4611686018427387904) (hl:N=xs.length+ys.length) :
    ∀ d i out,i+d=xs.length→Wd out→out.length=N→(∀ j,i+ys.length≤j→out.getD j 0=0)→wv out=wv (xs.take i)*wv ys →
    ∃ out',Lp E 1 G4 0 (y2d (Wr xs) (Wr ys) N i (Wr out)) (.exit 0) (y8d N (Wr out'))∧Wd out'∧out'.length=N∧wv out'=wv xs*wv ys
 | 0,i,out,hi,hw,ho,_,hv=>by
  have:i=xs.length:=by omega
  subst this
  rw [List.take_length] at hv
  exact ⟨out,k7t (by rw [B3]; omega),hw,ho,hv⟩
 | d+1,i,out,hi,hw,ho,hj,hv=>by
  have hxi:=hx.getD i
  obtain ⟨x,ex⟩:∃ x,x=xs.getD i 0:=⟨_,rfl⟩
  rw [← ex] at hxi
  obtain ⟨c',out1,k1,k2,k3,k4,k5,k6⟩:=k3o (E:=E) hy (show i < xs.length by omega) ex hxi hN (by omega) (out0:=out) ys.length 0 0 out (by omega) (by omega) hw ho (fun _ _=>rfl) (by simp [wv])
  have hik:i+ys.length < out1.length:=by omega
  have h0:out1.getD (i+ys.length) 0=0:=by rw [k5 _ (Nat.le_refl _)]; exact hj _ (Nat.le_refl _)
  obtain ⟨out',g1,g2,g3,g4⟩:=k3p hx hy hN hl d (i+1) (out1.set (i+ys.length) c') (by omega) (k3.set _ k2.1 k2.2) (by simpa using k4)
   (fun j h=>by rw [O5 (by omega),k5 j (by omega)]; exact hj j (by omega)) (by
    rw [y4j out1 _ hik,h0,z2o xs i (by omega),← ex,Int.sub_zero,k6,hv]
    grind)
  refine ⟨out',?_,g2,g3,g4⟩
  exact j5m (i1:=c') (r4:=Wr out1) (i2:=((i+ys.length:Nat):Int)) (i3:=c') (i4:=0) (r5:=Wr (out1.set (i+ys.length) c')) (i5:=((i+1:Nat):Int))
   (wi (by rw [B3]; omega)) (w32 (by omega)) (by rw [Int.toNat_natCast,z7t]) (wi (by omega)) (by rw [B3]; omega) k1 (by omega) (by rw [← h0]; exact G5 hik) g1
theorem x6q {m n:Nat} (hl:(words m).length+(words n).length < 35184372088000):Fn E G4 [.c (.list (Wr (words m))),.c (.list (Wr (words n)))] (.c (.list (Wr (words (m*n))))):=by
 by_cases hm:m=0
 · subst hm
   rw [Nat.zero_mul,Y4]
   exact v4e rfl
 · by_cases hn:n=0
   · subst hn
     rw [Nat.mul_zero,Y4]
     have:words m≠[]:=fun h=>hm (z8b.1 h)
     have:=y2y this
     exact v4f (by rw [B3]; omega) rfl
   · obtain ⟨out,k1,k2,k3,k4⟩:=k3p (E:=E) (B9 m) (B9 n) (N:=(words m).length+(words n).length) (by omega) rfl (words m).length 0 (List.replicate ((words m).length+(words n).length) 0) (by omega) (Wd.replicate _) (by simp)
      (fun j _=>by rw [List.getD_eq_getElem?_getD,List.getElem?_replicate]; split <;> rfl) (by rw [j0a]; simp [wv])
     have p1:=y2y (fun h=>hm (z8b.1 h):words m≠[])
     have p2:=y2y (fun h=>hn (z8b.1 h):words n≠[])
     have ht:=y9l (E:=E) (ws:=out) (k:=(words m).length+(words n).length) (by omega) (by omega)
     have ha:=x3b k2 (n:=m*n) (by rw [k4,B5,B5,Int.natCast_mul])
     rw [k3] at ha
     exact v4g (i0:=(((words m).length+(words n).length:Nat):Int)) (n0:=(words m).length+(words n).length) (r2:=Wr (List.replicate ((words m).length+(words n).length) 0)) (r3:=Wr out) (wi (by rw [B3,B3]; omega)) (Int.toNat_natCast _) (z8x _ _) ha (by rw [B3]; omega) (by rw [B3]; omega) (by omega) k1 ht
theorem k9t {xs:List Int} (hx:Wd xs) {N:Nat} (hN:xs.length=N) (hb:N < 4611686018427387904) {w:Int} (hw:0 < w∧w < 1000000000):∀ k rest out,k≤N→0≤rest∧rest < w→Wd out→out.length=N →
    wv (out.drop k)*w+rest=wv (xs.drop k) →
    ∃ rest' out',Lp E 1 z2i 0 (y2f (Wr xs) w N rest ((k:Int) - 1) (Wr out)) (.exit 0) (y8f N rest' (Wr out'))∧(0≤rest'∧rest' < w)∧Wd out'∧out'.length=N∧wv out'*w+rest'=wv xs
 | 0,rest,out,_,hr,ho,hl,hv=>by
  rw [List.drop_zero,List.drop_zero] at hv
  exact ⟨rest,out,k7y (by omega),hr,ho,hl,hv⟩
 | k+1,rest,out,hk,hr,ho,hl,hv=>by
  rw [show ((k+1:Nat):Int) - 1=(k:Int) by omega]
  have hxk:=hx.getD k
  obtain ⟨x,ex⟩:∃ x,x=xs.getD k 0:=⟨_,rfl⟩
  rw [← ex] at hxk
  obtain ⟨S,eS⟩:∃ S,S=rest*1000000000+x:=⟨_,rfl⟩
  have hS:0≤S∧S < w*1000000000:=by omega
  have hq0:0≤S / w:=Int.ediv_nonneg hS.1 (by omega)
  have hq:S / w < 1000000000:=Int.ediv_lt_of_lt_mul (by omega) (by rw [Int.mul_comm]; exact hS.2)
  have hm0:=Int.emod_nonneg S (show w≠0 by omega)
  have hm1:=Int.emod_lt_of_pos S (show 0 < w by omega)
  have hdm:=Int.emod_add_mul_ediv S w
  have hkl:k < out.length:=by omega
  have hd:(out.set k (S / w)).drop (k+1)=out.drop (k+1):=List.drop_set_of_lt (Nat.lt_succ_self k)
  obtain ⟨rest',out',k1,k2,k3,k4,k5⟩:=k9t hx hN hb hw k (S % w) (out.set k (S / w)) (by omega) ⟨hm0,hm1⟩ (ho.set _ hq0 hq) (by simpa using hl) (by
   rw [y1n _ k,y1n xs k,← ex,y3x hkl,hd,← hv]
   exact alg2 eS hdm)
  refine ⟨rest',out',?_,k2,k3,k4,k5⟩
  exact j5q (i4:=rest*1000000000) (i5:=x) (i6:=x) (i7:=S) (i8:=w) (i9:=S / w) (i10:=S / w) (i11:=out.getD k 0) (r3:=Wr (out.set k (S / w))) (i12:=S % w) (i13:=(k:Int) - 1)
   (wu (by omega)) (wu (by omega)) (wu (by omega)) (wu (by omega)) (wu ⟨tdv hS.1 rfl,hq0,by omega⟩) (w32 (by omega)) (by rw [Int.toNat_natCast,z7t]) (tmd hS.1 rfl) (wi (by omega))
   (by omega) (by omega) (by rw [ex]; exact G5 (by omega)) (by omega) (by omega) (G5 hkl) k1
theorem w3g {n w:Nat} (hw:0 < w∧w < 1000000000) (hl:(words n).length < 35184372088000):Fn E z2i [.c (.list (Wr (words n))),.c (.u32 w)] (.tup [.c (.list (Wr (words (n / w)))),.c (.u32 ((n % w:Nat):Int))]):=by
 obtain ⟨rest,out,k1,k2,k3,k4,k5⟩:=k9t (E:=E) (B9 n) (N:=(words n).length) rfl (by omega) (w:=w) (by omega) (words n).length 0 (List.replicate (words n).length 0) (Nat.le_refl _) (by omega) (Wd.replicate _) (by simp)
  (by rw [drop_nil (by simp),drop_nil (Nat.le_refl _)]; simp [wv])
 rw [B5] at k5
 have h0:=D4 k3
 obtain ⟨q,hq⟩:∃ q:Nat,wv out=q:=⟨(wv out).toNat,by omega⟩
 obtain ⟨r,hr⟩:∃ r:Nat,rest=r:=⟨rest.toNat,by omega⟩
 rw [hq,hr] at k5
 subst hr
 have hn:n=q*w+r:=by
  have:((q*w+r:Nat):Int)=n:=by rw [Int.natCast_add,Int.natCast_mul]; exact k5
  omega
 obtain ⟨e1,e2⟩:=x4t hn (by omega)
 rw [e1,e2]
 have ht:=y9l (E:=E) (ws:=out) (k:=(words n).length) (by omega) (by omega)
 have ha:=x3b k3 hq
 rw [k4] at ha
 exact v4m (n0:=(words n).length) (r1:=Wr (List.replicate (words n).length 0)) (i1:=((words n).length:Int) - 1) (i2:=(r:Int)) (r2:=Wr out) (by rw [B3]; rfl) (z8x _ _) (wi (by rw [B3]; omega)) (w32 (by omega)) ha (by rw [B3]; omega) k1 ht
theorem u2j {lu k j ln:Nat} {u v:List Int} (D:Dv u v lu k j) (hln:j+k < ln) (hls:ln < 35184372088832) {g:Int} (hg:0≤g∧g < 1000000000) :
    ∀ d i c b u',i+d=k→0≤c∧c < 1000000000→b=0∨b=1→Wd u'→u'.length=lu→(∀ n,n < j∨j+i≤n→u'.getD n 0=u.getD n 0)→wv u'=wv u - pw j*(g*wv (v.take i))+pw j*pw i*(c+b) →
    ∃ c' b' u'',Lp E 1 F9 0 (P8 ln (Wr v) j g k b c i (Wr u')) (.exit 0) (z3l ln (Wr v) j g k b' c' (Wr u''))∧(0≤c'∧c' < 1000000000)∧(b'=0∨b'=1)∧Wd u''∧u''.length=lu∧(∀ n,n < j∨j+k≤n→u''.getD n 0=u.getD n 0)∧wv u''=wv u - pw j*(g*wv v)+pw j*pw k*(c'+b')
 | 0,i,c,b,u',hi,hc,hb,hw,hl,hn,hv=>by
  have:i=k:=by omega
  subst this
  have:=D.elv
  rw [List.take_of_length_le (by omega)] at hv
  exact ⟨c,b,u',k3x (by omega),hc,hb,hw,hl,hn,hv⟩
 | d+1,i,c,b,u',hi,hc,hb,hw,hl,hn,hv=>by
  have hjk:=D.jk
  have hsm:=D.small
  have hlv:=D.elv
  have a0:=D.hv.getD i
  have b0:=hw.getD (j+i)
  have gk:(Wr v)[Int.toNat (i:Int)]?=some [.u32 (v.getD i 0)]:=G5 (by omega)
  have gu:(Wr u')[Int.toNat ((j+i:Nat):Int)]?=some [.u32 (u'.getD (j+i) 0)]:=G5 (by omega)
  have et:=z2o v i (by omega)
  have es:=y4j u' (j+i) (by omega)
  obtain ⟨x,ex⟩:∃ x,x=v.getD i 0:=⟨_,rfl⟩
  obtain ⟨w,ew⟩:∃ w,w=u'.getD (j+i) 0:=⟨_,rfl⟩
  rw [← ex] at a0 gk et
  rw [← ew] at b0 gu es
  have hgx:0≤g*x∧g*x≤999999998000000001:=k5w hg a0
  obtain ⟨S,eS⟩:∃ S,S=g*x+c:=⟨_,rfl⟩
  have hS:0≤S∧S≤999999999000000000:=by omega
  obtain ⟨dd,ed⟩:∃ dd,dd=w - S % 1000000000 - b:=⟨_,rfl⟩
  have key:∀ b' d',d'=dd+1000000000*b'→0≤d'∧d' < 1000000000→(b'=0∨b'=1) →
      (∀ {st:St},Lp E 1 F9 0 (P8 ln (Wr v) j g k b' (S / 1000000000) ((i+1:Nat):Int) (Wr (u'.set (j+i) d'))) (.exit 0) st→Lp E 1 F9 0 (P8 ln (Wr v) j g k b c i (Wr u')) (.exit 0) st) →
      ∃ c' b' u'',Lp E 1 F9 0 (P8 ln (Wr v) j g k b c i (Wr u')) (.exit 0) (z3l ln (Wr v) j g k b' c' (Wr u''))∧(0≤c'∧c' < 1000000000)∧(b'=0∨b'=1)∧Wd u''∧u''.length=lu∧(∀ n,n < j∨j+k≤n→u''.getD n 0=u.getD n 0)∧wv u''=wv u - pw j*(g*wv v)+pw j*pw k*(c'+b'):=by
   intro b' d' hd' hd0 hb' hstep
   obtain ⟨c2,b2,u2,k1,k2⟩:=u2j D hln hls hg d (i+1) (S / 1000000000) b' (u'.set (j+i) d') (by omega) (by omega) hb' (hw.set _ hd0.1 hd0.2) (by simpa using hl)
    (fun n h=>by rw [O5 (by omega)]; exact hn n (by omega)) (by
     rw [es d',et,z6s,y4p]
     have:=w5b hv eS (Int.emod_add_mul_ediv S 1000000000) ed hd'
     rw [this]; grind)
   exact ⟨c2,b2,u2,hstep k1,k2⟩
  by_cases c1:dd < 0
  · refine key 1 (dd+1000000000) (by omega) (by omega) (.inr rfl) fun k1=>?_
    exact j1y (i8:=x) (i9:=x) (i10:=g*x) (i11:=S) (i12:=S / 1000000000) (i13:=((j+i:Nat):Int)) (i14:=w) (i15:=w) (i16:=S % 1000000000) (i17:=S % 1000000000) (i18:=w - S % 1000000000) (i19:=dd) (i20:=dd+1000000000) (i21:=dd+1000000000) (r3:=Wr (u'.set (j+i) (dd+1000000000))) (i22:=((i+1:Nat):Int))
     (wu (by omega)) (wu (by omega)) (wu (by omega)) (wu ⟨tdv hS.1 rfl,by omega,by omega⟩) (wi (by omega)) (wi (by omega)) (tmd hS.1 rfl) (wi (by omega)) (wi (by omega)) (wi (by omega)) (wi (by omega)) (w32 (by omega)) (by rw [Int.toNat_natCast,z7t]) (wi (by omega))
     (by omega) (by omega) gk (by omega) gu c1 k1
  · refine key 0 dd (by omega) (by omega) (.inl rfl) fun k1=>?_
    exact j1z (i8:=x) (i9:=x) (i10:=g*x) (i11:=S) (i12:=S / 1000000000) (i13:=((j+i:Nat):Int)) (i14:=w) (i15:=w) (i16:=S % 1000000000) (i17:=S % 1000000000) (i18:=w - S % 1000000000) (i19:=dd) (i20:=dd) (r4:=Wr (u'.set (j+i) dd)) (i23:=((i+1:Nat):Int))
     (wu (by omega)) (wu (by omega)) (wu (by omega)) (wu ⟨tdv hS.1 rfl,by omega,by omega⟩) (wi (by omega)) (wi (by omega)) (tmd hS.1 rfl) (wi (by omega)) (wi (by omega)) (wi (by omega)) (w32 (by omega)) (by rw [Int.toNat_natCast,z7t]) (wi (by omega))
     (by omega) (by omega) gk (by omega) gu c1 k1
theorem u2i {lu k j ln:Nat} {u v:List Int} (D:Dv u v lu k j) (hln:j+k < ln) (hls:ln < 35184372088832) {g:Int} {u1:List Int} :
    ∀ d i up u',i+d=k→0≤up∧up≤1→Wd u'→u'.length=lu→(∀ n,n < j∨j+i≤n→u'.getD n 0=u1.getD n 0)→wv u'=wv u1+pw j*wv (v.take i) - pw j*pw i*up →
    ∃ up' u'',Lp E 1 F9 1 (z6j ln (Wr v) j g k up i (Wr u')) (.exit 2) (y1f ln j g k up' (Wr u''))∧(0≤up'∧up'≤1)∧Wd u''∧u''.length=lu∧(∀ n,n < j∨j+k≤n→u''.getD n 0=u1.getD n 0)∧wv u''=wv u1+pw j*wv v - pw j*pw k*up'
 | 0,i,up,u',hi,hc,hw,hl,hn,hv=>by
  have:i=k:=by omega
  subst this
  have:=D.elv
  rw [List.take_of_length_le (by omega)] at hv
  exact ⟨up,u',k3y (by omega),hc,hw,hl,hn,hv⟩
 | d+1,i,up,u',hi,hc,hw,hl,hn,hv=>by
  have hjk:=D.jk
  have hsm:=D.small
  have hlv:=D.elv
  have a0:=D.hv.getD i
  have b0:=hw.getD (j+i)
  have gk:(Wr v)[Int.toNat (i:Int)]?=some [.u32 (v.getD i 0)]:=G5 (by omega)
  have gu:(Wr u')[Int.toNat ((j+i:Nat):Int)]?=some [.u32 (u'.getD (j+i) 0)]:=G5 (by omega)
  have et:=z2o v i (by omega)
  have es:=y4j u' (j+i) (by omega)
  obtain ⟨x,ex⟩:∃ x,x=v.getD i 0:=⟨_,rfl⟩
  obtain ⟨w,ew⟩:∃ w,w=u'.getD (j+i) 0:=⟨_,rfl⟩
  rw [← ex] at a0 gk et
  rw [← ew] at b0 gu es
  obtain ⟨S,eS⟩:∃ S,S=up+(w+x):=⟨_,rfl⟩
  have hS:0≤S∧S≤1999999999:=by omega
  obtain ⟨up2,u2,k1,k2⟩:=u2i (g:=g) D hln hls (u1:=u1) d (i+1) (S / 1000000000) (u'.set (j+i) (S % 1000000000)) (by omega) (by omega) (hw.set _ (by omega) (by omega)) (by simpa using hl)
   (fun n h=>by rw [O5 (by omega)]; exact hn n (by omega)) (by
    rw [es,et,z6s,y4p]
    have:=w1q hv eS (Int.emod_add_mul_ediv S 1000000000)
    rw [this]; grind)
  refine ⟨up2,u2,?_,k2⟩
  exact j2a (i6:=((j+i:Nat):Int)) (i7:=w) (i8:=x) (i9:=w+x) (i10:=S) (i11:=S % 1000000000) (r3:=Wr (u'.set (j+i) (S % 1000000000))) (i12:=S / 1000000000) (i13:=((i+1:Nat):Int))
   (wi (by omega)) (w32 (by omega)) (w32 (by omega)) (tmd hS.1 rfl) (by rw [Int.toNat_natCast,z7t]) (w32 ⟨tdv hS.1 rfl,by omega,by omega⟩) (wi (by omega))
   (by omega) (by omega) gu (by omega) gk k1
theorem v1x {xs ys:List Int} {n:Nat} (hl:xs.length=ys.length) (h:∀ i,n≤i→xs.getD i 0=ys.getD i 0):xs.drop n=ys.drop n:=by
 apply List.ext_getElem?
 intro i
 rw [List.getElem?_drop,List.getElem?_drop]
 rcases Nat.lt_or_ge (n+i) xs.length with h1 | h1
 · rw [getD_some h1,getD_some (by omega),h _ (by omega)]
 · rw [List.getElem?_eq_none h1,List.getElem?_eq_none (by omega)]
theorem w9n {lu k j ln:Nat} {u v:List Int} (D:Dv u v lu k j) (hln:j+k < ln) (hls:ln < 35184372088832) {g:Int} (hg:0≤g∧g < 1000000000) (hup:wv (u.drop j) < (g+1)*wv v) (hlo:(g - 1)*wv v≤wv (u.drop j)) :
    ∃ u' q,Rn E F9 [.vec 0 ln,.c (.list (Wr v)),.c (.i64 j),.c (.u64 g)] [some (.vec A3 (Wr u))] (.c (.u32 q)) [some (.vec A3 (Wr u'))] ∧
     (0≤q∧q < 1000000000)∧Wd u'∧u'.length=lu∧wv u'=wv u - pw j*(q*wv v)∧0≤wv (u'.drop j)∧wv (u'.drop j) < wv v:=by
 have h2:=D.two
 have hjk:=D.jk
 have hsm:=D.small
 have hlu:=D.elu
 have hlv:=D.elv
 have hV:=D.vpos
 have hVk:=D.vk
 have b0:=D.hu.getD (j+k)
 have hz:=D.zero
 obtain ⟨u0,e3⟩:∃ x,x=u.getD (j+k) 0:=⟨_,rfl⟩
 rw [← e3] at b0
 obtain ⟨c,b,us,s1,s2,s3,s4,s5,s6,s7⟩:=u2j (E:=E) D hln hls hg k 0 0 0 u (by omega) (by omega) (.inl rfl) D.hu D.elu (fun _ _=>rfl) (by simp [wv])
 have hsu:us.getD (j+k) 0=u0:=by rw [s6 _ (.inr (Nat.le_refl _)),← e3]
 have gs0:(Wr us)[Int.toNat ((j+k:Nat):Int)]?=some [.u32 u0]:=by rw [← hsu]; exact G5 (by omega)
 obtain ⟨last,hlast⟩:∃ x,x=u0 - c - b:=⟨_,rfl⟩
 have hset:=y4j us (j+k) (by omega)
 rw [hsu] at hset
 have sv:wv us=wv u - pw j*(g*wv v - pw k*(c+b)):=by rw [s7]; grind
 have sd:=y9s (xs:=us) (ys:=u) (by omega) (j:=j) (by omega) (fun n hn=>s6 n (.inl hn)) sv
 have sk:=H3 (us.drop j) k (by simp; omega)
 have sz:wv (us.drop (j+k+1))=0:=by
  rw [v1x (ys:=u) (by omega) (fun i hi=>s6 i (.inr (by omega)))]; exact hz
 rw [List.drop_drop,X9 us (j+k) (by omega),sz,hsu] at sk
 have sk0:=D4 ((s4.drop j).take k)
 have sk1:=(s4.drop j).val_take_lt k (by simp; omega)
 have hpk:=z3d k
 have hpj:=z3d j
 have hXV:(g+1)*wv v=g*wv v+wv v:=by grind
 have hwl:((Wr v).length:Int)=k:=by rw [B3,hlv]
 have s1':Lp E 1 F9 0 (P8 ln (Wr v) j g ((Wr v).length:Int) 0 0 0 (Wr u)) (.exit 0) (z3l ln (Wr v) j g ((Wr v).length:Int) b c (Wr us)):=by rw [hwl]; exact s1
 by_cases c1:last < 0
 · have hneg:wv (u.drop j) < g*wv v:=by
    have h5:pw k*last≤pw k*(-1):=Int.mul_le_mul_of_nonneg_left (by omega) (by omega)
    have h6:pw k*last=pw k*u0 - pw k*(c+b):=by rw [hlast]; grind
    simp at sk
    omega
   have hg1:1≤g:=by
    rcases Int.lt_or_le g 1 with h | h
    · have:g=0:=by omega
      subst this
      have:=D4 (D.hu.drop j)
      omega
    · exact h
   obtain ⟨m,hm⟩:∃ m,m=us.set (j+k) (last+1000000000):=⟨_,rfl⟩
   have hlb:-1000000000≤last:=by rcases s3 with h | h <;> omega
   have mw:Wd m:=by rw [hm]; exact s4.set _ (by omega) (by omega)
   have ml:m.length=lu:=by rw [hm]; simpa using s5
   have mv:wv m=wv us+pw (j+k)*(last+1000000000 - u0):=by rw [hm,hset]
   have mj:m.getD (j+k) 0=last+1000000000:=by rw [hm]; exact y3x (by omega) _
   obtain ⟨up,ua,t1,t2,t3,t4,t5,t6⟩:=u2i (E:=E) (g:=g) D hln hls (u1:=m) k 0 0 m (by omega) (by omega) mw ml (fun _ _=>rfl) (by simp [wv])
   have hau:ua.getD (j+k) 0=last+1000000000:=by rw [t5 _ (.inr (Nat.le_refl _)),mj]
   have ga0:(Wr ua)[Int.toNat ((j+k:Nat):Int)]?=some [.u32 (last+1000000000)]:=by rw [← hau]; exact G5 (by omega)
   have hset2:=y4j ua (j+k) (by omega)
   rw [hau] at hset2
   have tv:wv ua=wv u - pw j*((g - 1)*wv v - pw k*(last+1000000000 - u0) - pw k*(c+b)+pw k*up):=by rw [t6,mv,s7,y4p]; grind
   have td:=y9s (xs:=ua) (ys:=u) (by omega) (j:=j) (by omega) (fun n hn=>by rw [t5 n (.inl hn),hm,O5 (by omega)]; exact s6 n (.inl hn)) tv
   have tk:=H3 (ua.drop j) k (by simp; omega)
   have tz:wv (ua.drop (j+k+1))=0:=by
    rw [v1x (ys:=us) (by omega) (fun i hi=>by rw [t5 i (.inr (by omega)),hm,O5 (by omega)])]; exact sz
   rw [List.drop_drop,X9 ua (j+k) (by omega),tz,hau] at tk
   have tk0:=D4 ((t3.drop j).take k)
   have tk1:=(t3.drop j).val_take_lt k (by simp; omega)
   have hg1V:(g - 1)*wv v=g*wv v - wv v:=by grind
   have hzero:last+up=0:=by
    have h5:pw k*(last+up)=pw k*last+pw k*up:=by grind
    have h6:pw k*(last+1000000000 - u0)=pw k*last+pw k*1000000000 - pw k*u0:=by grind
    have h7:pw k*last=pw k*u0 - pw k*(c+b):=by rw [hlast]; grind
    have h8:pw k*(last+1000000000)=pw k*last+pw k*1000000000:=by grind
    have h9:-pw k < pw k*(last+up)∧pw k*(last+up) < pw k:=by
     simp at tk
     omega
    rcases Int.lt_trichotomy (last+up) 0 with h | h | h
    · have:pw k*(last+up)≤pw k*(-1):=Int.mul_le_mul_of_nonneg_left (by omega) (by omega)
      omega
    · exact h
    · have:pw k*1≤pw k*(last+up):=Int.mul_le_mul_of_nonneg_left (by omega) (by omega)
      omega
   have hfin:wv (ua.set (j+k) 0)=wv u - pw j*((g - 1)*wv v):=by
    rw [hset2,tv,y4p]
    have e1:u0=c+b+last:=by omega
    have e2:up=-last:=by omega
    rw [e1,e2]; grind
   have hd:=y9s (xs:=ua.set (j+k) 0) (ys:=u) (by simp; omega) (j:=j) (by simp; omega) (fun n hn=>by rw [O5 (by omega),t5 n (.inl hn),hm,O5 (by omega)]; exact s6 n (.inl hn)) hfin
   refine ⟨ua.set (j+k) 0,g - 1,?_,by omega,t3.set _ (by omega) (by omega),by simpa using t4,hfin,by rw [hd]; omega,by rw [hd]; omega⟩
   have t1':Lp E 1 F9 1 (z6j ln (Wr v) j g ((Wr v).length:Int) 0 0 (Wr m)) (.exit 2) (y1f ln j g ((Wr v).length:Int) up (Wr ua)):=by rw [hwl]; exact t1
   exact q9n (i2:=b) (i3:=c) (r2:=Wr us) (i4:=((j+k:Nat):Int)) (i5:=u0) (i6:=u0) (i7:=c) (i8:=u0 - c) (i9:=last) (i10:=last+1000000000) (i12:=last+1000000000) (r4:=Wr m) (i13:=up) (r5:=Wr ua) (i14:=last+1000000000) (i15:=1000000000) (i16:=0) (r6:=Wr (ua.set (j+k) 0)) (i17:=g - 1) (i18:=g - 1)
    (wi (by rw [hwl]; omega)) (wi (by omega)) (wi (by omega)) (wi (by omega)) (wi (by omega)) (wi (by omega)) (w32 (by omega)) (by rw [Int.toNat_natCast,z7t,hm]) (w32 (by omega)) (tmd (by omega) rfl) (by rw [Int.toNat_natCast,z7t]) (wu (by omega)) (w32 (by omega))
    s1' (by omega) gs0 (by omega) t1' ga0
 · have hfin:wv (us.set (j+k) last)=wv u - pw j*(g*wv v):=by
    rw [hset,sv,y4p,hlast]; grind
   have hd:=y9s (xs:=us.set (j+k) last) (ys:=u) (by simp; omega) (j:=j) (by simp; omega) (fun n hn=>by rw [O5 (by omega)]; exact s6 n (.inl hn)) hfin
   have hl9:last < 1000000000:=by rcases s3 with h | h <;> omega
   refine ⟨us.set (j+k) last,g,?_,hg,s4.set _ (by omega) hl9,by simpa using s5,hfin,D4 ((s4.set (j+k) (show 0≤last by omega) hl9).drop j),by rw [hd]; omega⟩
   exact q9m (i2:=b) (i3:=c) (r2:=Wr us) (i4:=((j+k:Nat):Int)) (i5:=u0) (i6:=u0) (i7:=c) (i8:=u0 - c) (i9:=last) (i10:=last) (r3:=Wr (us.set (j+k) last)) (i11:=g)
    (wi (by rw [hwl]; omega)) (wi (by omega)) (wi (by omega)) (wi (by omega)) (wi (by omega)) (w32 (by omega)) (by rw [Int.toNat_natCast,z7t]) (w32 (by omega)) s1' (by omega) gs0 (by omega)
end Gev
namespace Gev
open Go Gb
variable {E:Env}
theorem w3f {sc w2 w4:RW} {lq lu k j ln:Nat} {u v:List Int} (D:Dv u v lu k j) (hln:j+k < ln) (hls:ln < 35184372088832) :
    ∀ (t:Nat) (g rest:Int),0≤g→g < t→g≤1000000001→0≤rest∧rest < 2000000000→g*v.getD (k - 1) 0+rest=u.getD (j+k) 0*1000000000+u.getD (j+k - 1) 0→wv (u.drop j) < (g+1)*wv v→(g=1000000001→rest+v.getD (k - 1) 0 < 1000000000)→(rest≥1000000000→g < 1000000000) →
    ∃ g',Lp E 5 H6 1 (z2m k sc (Wr v) ln lq j g rest w2 (Wr u) w4) (.exit 2) (y0c k sc (Wr v) ln lq j w2 (Wr u) w4 g')∧(0≤g'∧g' < 1000000000)∧wv (u.drop j) < (g'+1)*wv v∧(g' - 1)*wv v≤wv (u.drop j)
 | 0,g,rest,h0,ht,_,_,_,_,_,_=>by omega
 | t+1,g,rest,h0,ht,hg,hr,he,hX,hbig,hrg=>by
  have h2:=D.two
  have hjk:=D.jk
  have hsm:=D.small
  have hlu:=D.elu
  have hlv:=D.elv
  have a1:=D.hv.getD (k - 1)
  have a2:=D.hv.getD (k - 2)
  have b2:=D.hu.getD (j+k - 2)
  have b1:=D.hu.getD (j+k - 1)
  have b0:=D.hu.getD (j+k)
  have hnorm:=D.norm
  have eV:=x6y D.elv D.two
  have eX:=x4d (u:=u) (j:=j) (k:=k) D.two (by omega) D.zero
  have vl0:=D4 (D.hv.take (k - 2))
  have vl1:=D.hv.val_take_lt (k - 2) (by omega)
  have xl0:=D4 ((D.hu.drop j).take (k - 2))
  have xl1:=(D.hu.drop j).val_take_lt (k - 2) (by simp; omega)
  have hP:=z3d (k - 2)
  have gk1:(Wr v)[Int.toNat ((k:Int) - 1)]?=some [.u32 (v.getD (k - 1) 0)]:=by
   rw [show Int.toNat ((k:Int) - 1)=k - 1 by omega]; exact G5 (by omega)
  have gk2:(Wr v)[Int.toNat ((k:Int) - 2)]?=some [.u32 (v.getD (k - 2) 0)]:=by
   rw [show Int.toNat ((k:Int) - 2)=k - 2 by omega]; exact G5 (by omega)
  have gu:(Wr u)[Int.toNat ((j:Int)+k - 2)]?=some [.u32 (u.getD (j+k - 2) 0)]:=by
   rw [show Int.toNat ((j:Int)+k - 2)=j+k - 2 by omega]; exact G5 (by omega)
  obtain ⟨v1,e1⟩:∃ x,x=v.getD (k - 1) 0:=⟨_,rfl⟩
  obtain ⟨v2,e2⟩:∃ x,x=v.getD (k - 2) 0:=⟨_,rfl⟩
  obtain ⟨u2,e3⟩:∃ x,x=u.getD (j+k - 2) 0:=⟨_,rfl⟩
  obtain ⟨top,e4⟩:∃ x,x=u.getD (j+k) 0*1000000000+u.getD (j+k - 1) 0:=⟨_,rfl⟩
  rw [← e1] at a1 hnorm eV gk1 he hbig
  rw [← e2] at a2 eV gk2
  rw [← e3] at b2 eX gu
  rw [← e4] at eX he
  have hg2:0≤g*v2∧g*v2≤1000000001*999999999:=⟨Int.mul_nonneg h0 a2.1,Int.mul_le_mul hg (by omega) a2.1 (by decide)⟩
  by_cases c0:rest≥1000000000
  · have hgB:=hrg c0
    refine ⟨g,j1w (by omega),⟨h0,hgB⟩,hX,?_⟩
    refine x7u hP ⟨vl0,vl1⟩ xl0 eV eX he ⟨h0,hgB⟩ ?_ hnorm a2.1
    have h5:g*v2≤999999999*999999999:=Int.mul_le_mul (by omega) (by omega) a2.1 (by decide)
    omega
  · have down:1≤g→wv (u.drop j) < g*wv v→(g≤1000000000∨rest+v1 < 1000000000) →
        ∃ g',Lp E 5 H6 1 (z2m k sc (Wr v) ln lq j (g - 1) (rest+v1) w2 (Wr u) w4) (.exit 2) (y0c k sc (Wr v) ln lq j w2 (Wr u) w4 g')∧(0≤g'∧g' < 1000000000)∧wv (u.drop j) < (g'+1)*wv v∧(g' - 1)*wv v≤wv (u.drop j):=by
     intro hg1 hlt hb
     have hmul:(g - 1)*v1+(rest+v1)=top:=by
      have:(g - 1)*v1=g*v1 - v1:=by grind
      omega
     refine w3f D hln hls t (g - 1) (rest+v1) (by omega) (by omega) (by omega) (by omega) ?_ (by rw [show g - 1+1=g by omega]; exact hlt) (fun h=>by omega) (fun h=>by omega)
     rw [← e1,← e4]; exact hmul
    by_cases c1:g≥1000000000
    · have hlt:wv (u.drop j) < g*wv v:=by
       have h6:=X9 u j (by omega)
       have h7:=D.hu.getD j
       have h8:=D.low
       have h9:1000000000*wv v≤g*wv v:=Int.mul_le_mul_of_nonneg_right c1 (by have:=D.vpos; omega)
       omega
      have hb:g≤1000000000∨rest+v1 < 1000000000:=by
       rcases Int.lt_or_le 1000000000 g with h | h
       · exact .inr (hbig (by omega))
       · exact .inl h
      obtain ⟨g',d3,d4⟩:=down (by omega) hlt hb
      exact ⟨g',j9o (i6:=(k:Int) - 1) (i7:=v1) (i8:=v1) (wu (by omega)) (wi (by omega)) (wu (by omega)) (wu (by omega)) (by omega) c1 (by omega) gk1 d3,d4⟩
    · by_cases c3:g*v2 > rest*1000000000+u2
      · have hlt:=v6z hP vl0 xl1 eV eX he h0 c3
        have hg1:1≤g:=by
         rcases Int.lt_or_le g 1 with h | h
         · have:g=0:=by omega
           subst this
           rw [Int.zero_mul] at c3
           omega
         · exact h
        obtain ⟨g',d3,d4⟩:=down hg1 hlt (.inl (by omega))
        exact ⟨g',j9p (i5:=(k:Int) - 2) (i6:=v2) (i7:=v2) (i8:=g*v2) (i9:=rest*1000000000) (i10:=(j:Int)+k) (i11:=(j:Int)+k - 2) (i12:=u2) (i13:=u2) (i14:=rest*1000000000+u2) (i16:=(k:Int) - 1) (i17:=v1) (i18:=v1)
         (wi (by omega)) (wu (by omega)) (wu (by omega)) (wu (by omega)) (wi (by omega)) (wi (by omega)) (wu (by omega)) (wu (by omega)) (wu (by omega)) (wi (by omega)) (wu (by omega)) (wu (by omega)) (by omega) c1 (by omega) gk2 (by omega) gu c3 (by omega) gk1 d3,d4⟩
      · refine ⟨g,j1v (i5:=(k:Int) - 2) (i6:=v2) (i7:=v2) (i8:=g*v2) (i9:=rest*1000000000) (i10:=(j:Int)+k) (i11:=(j:Int)+k - 2) (i12:=u2) (i13:=u2) (i14:=rest*1000000000+u2)
            (wi (by omega)) (wu (by omega)) (wu (by omega)) (wu (by omega)) (wi (by omega)) (wi (by omega)) (wu (by omega)) (wu (by omega)) (by omega) c1 (by omega) gk2 (by omega) gu c3,⟨h0,by omega⟩,hX,?_⟩
        exact x7u hP ⟨vl0,vl1⟩ xl0 eV eX he ⟨h0,by omega⟩ (by omega) hnorm a2.1
theorem w2g {lu k j:Nat} {u v:List Int} (D:Dv u v lu k j) {top:Int} (et:top=u.getD (j+k) 0*1000000000+u.getD (j+k - 1) 0) :
    0≤top∧0≤top / v.getD (k - 1) 0∧top / v.getD (k - 1) 0≤1000000001∧(0≤top % v.getD (k - 1) 0∧top % v.getD (k - 1) 0 < v.getD (k - 1) 0)∧top / v.getD (k - 1) 0*v.getD (k - 1) 0+top % v.getD (k - 1) 0=top∧wv (u.drop j) < (top / v.getD (k - 1) 0+1)*wv v∧(top / v.getD (k - 1) 0=1000000001→top % v.getD (k - 1) 0+v.getD (k - 1) 0 < 1000000000):=by
 have h2:=D.two
 have hjk:=D.jk
 have hlu:=D.elu
 have hlv:=D.elv
 have hnorm:=D.norm
 have hV:=D.vpos
 have a1:=D.hv.getD (k - 1)
 have b1:=D.hu.getD (j+k - 1)
 have b0:=D.hu.getD (j+k)
 have hlow:=D.low
 have hz:=D.zero
 obtain ⟨v1,e1⟩:∃ x,x=v.getD (k - 1) 0:=⟨_,rfl⟩
 obtain ⟨u0,e3⟩:∃ x,x=u.getD (j+k) 0:=⟨_,rfl⟩
 obtain ⟨u1',e4⟩:∃ x,x=u.getD (j+k - 1) 0:=⟨_,rfl⟩
 have hX3:=x4d (u:=u) (j:=j) (k:=k) h2 (by omega) hz
 have hV2:=x6y hlv h2
 rw [← e3,← e4] at et hX3
 rw [← et] at hX3
 rw [← e1] at a1 hnorm hV2 ⊢
 rw [← e3] at b0
 rw [← e4] at b1
 have htop:0≤top:=by omega
 have hdm:=Int.emod_add_mul_ediv top v1
 have hr0:=Int.emod_nonneg top (show v1≠0 by omega)
 have hr1:=Int.emod_lt_of_pos top (show 0 < v1 by omega)
 have hg0:0≤top / v1:=Int.ediv_nonneg htop (by omega)
 have hmul:top / v1*v1+top % v1=top:=by rw [Int.mul_comm]; omega
 have a2:=D.hv.getD (k - 2)
 have vl1:=D.hv.val_take_lt (k - 2) (by omega)
 have xl0:=D4 ((D.hu.drop j).take (k - 2))
 have hP:=z3d (k - 2)
 have b2:=D.hu.getD (j+k - 2)
 have hu0:u0≤v1:=by
  rcases Int.lt_or_le v1 u0 with h | h
  · exfalso
    have e5:=H3 (u.drop (j+1)) (k - 1) (by simp; omega)
    rw [List.drop_drop,show j+1+(k - 1)=j+k by omega,X9 u (j+k) (by omega),hz,← e3] at e5
    have h6:=D4 ((D.hu.drop (j+1)).take (k - 1))
    have e7:=H3 v (k - 1) (by omega)
    rw [X9 v (k - 1) (by omega),← e1,show k - 1+1=k by omega,List.drop_eq_nil_of_le (by omega),show wv []=0 from rfl] at e7
    have h8:=D.hv.val_take_lt (k - 1) (by omega)
    have h9:pw (k - 1)*(v1+1)≤pw (k - 1)*u0:=Int.mul_le_mul_of_nonneg_left (by omega) (by have:=z3d (k - 1); omega)
    rw [Int.mul_add,Int.mul_one] at h9
    simp at e5 e7
    omega
  · exact h
 refine ⟨htop,hg0,?_,⟨hr0,hr1⟩,hmul,?_,fun h=>by rw [h] at hmul; omega⟩
 · have:top / v1 < 1000000002:=Int.ediv_lt_of_lt_mul (by omega) (by omega)
   omega
 · have h5:top+1≤(top / v1+1)*v1:=by
    have:(top / v1+1)*v1=top / v1*v1+v1:=by grind
    omega
   have h6:=Int.mul_le_mul_of_nonneg_right h5 (show 0≤1000000000*pw (k - 2) by omega)
   have h7:(top / v1+1)*(v1*(1000000000*pw (k - 2)))≤(top / v1+1)*wv v:=by
    refine Int.mul_le_mul_of_nonneg_left ?_ (by omega)
    have h8:(v1*1000000000+v.getD (k - 2) 0)*pw (k - 2)=v1*(1000000000*pw (k - 2))+v.getD (k - 2) 0*pw (k - 2):=by grind
    have h9:0≤v.getD (k - 2) 0*pw (k - 2):=Int.mul_nonneg a2.1 (by omega)
    have h10:=D4 (D.hv.take (k - 2))
    omega
   have h8:(top / v1+1)*v1*(1000000000*pw (k - 2))=(top / v1+1)*(v1*(1000000000*pw (k - 2))):=by grind
   have h9:(top+1)*(1000000000*pw (k - 2))=top*1000000000*pw (k - 2)+1000000000*pw (k - 2):=by grind
   have h10:(top*1000000000+u.getD (j+k - 2) 0)*pw (k - 2)=top*1000000000*pw (k - 2)+u.getD (j+k - 2) 0*pw (k - 2):=by grind
   have h11:u.getD (j+k - 2) 0*pw (k - 2)≤999999999*pw (k - 2):=Int.mul_le_mul_of_nonneg_right (by omega) (by omega)
   have h12:=(D.hu.drop j).val_take_lt (k - 2) (by simp; omega)
   omega
theorem j4t {sc w2:RW} {lq lu k ln:Nat} {v:List Int} (hv:Wd v) (hlv:v.length=k) (h2:2≤k) (hn:1000000000≤2*v.getD (k - 1) 0) (hsm:lu < 35184372088832) (hlnu:ln≤lu) :
    ∀ j u q,Wd u→u.length=lu→Wd q→q.length=lq→j≤lq→(0 < j→j - 1+k < ln)→wv (u.drop j) < wv v →
    ∃ u' q',Lp E 5 H6 0 (y3z k sc (Wr v) ln lq ((j:Int) - 1) w2 (Wr u) (Wr q)) (.exit 0) (x0o k sc ln lq w2 (Wr u') (Wr q'))∧Wd u'∧u'.length=lu∧Wd q'∧q'.length=lq∧wv u' < wv v∧wv u'+wv v*wv q'=wv u+wv v*(pw j*wv (q.drop j))
 | 0,u,q,hu,hlu,hq,hlq,_,_,hlow=>⟨u,q,j1u (by omega),hu,hlu,hq,hlq,by simpa using hlow,by simp [x8d]⟩
 | j+1,u,q,hu,hlu,hq,hlq,hj,hjk,hlow=>by
  have hjk':=hjk (by omega)
  have D:Dv u v lu k j:=⟨hu,hv,hlu,hlv,h2,hn,by omega,hsm,hlow⟩
  rw [show ((j+1:Nat):Int) - 1=(j:Int) by omega]
  have a1:=hv.getD (k - 1)
  have b1:=hu.getD (j+k - 1)
  have b0:=hu.getD (j+k)
  obtain ⟨top,et⟩:∃ x,x=u.getD (j+k) 0*1000000000+u.getD (j+k - 1) 0:=⟨_,rfl⟩
  obtain ⟨f1,f2,f3,f4,f5,f6,f7⟩:=w2g D et
  obtain ⟨g,k1,k2,k3,k4⟩:=w3f (E:=E) (sc:=sc) (w2:=w2) (w4:=Wr q) (lq:=lq) (ln:=ln) D (by omega) (by omega) 1000000002 _ _ f2 (by omega) f3 (by omega) (by rw [← et]; exact f5) f6 f7 (by omega)
  obtain ⟨u1,qd,r1,r2,r3,r4,r5,r6,r7⟩:=w9n (E:=E) (ln:=ln) D (by omega) (by omega) k2 k3 k4
  obtain ⟨u',q',s1,s2,s3,s4,s5,s6,s7⟩:=j4t hv hlv h2 hn hsm hlnu j u1 (q.set j qd) r3 r4 (hq.set _ r2.1 r2.2) (by simpa using hlq) (by omega) (fun h=>by omega) r7
  refine ⟨u',q',?_,s2,s3,s4,s5,s6,?_⟩
  · have hred:=r1.at rfl rfl rfl rfl (objs:=[some .dead,some .dead,some (.vec A3 w2),some (.vec A3 (Wr u)),some (.vec A3 (Wr q))]) (l:=3) rfl
    exact j9n (i2:=((j+k:Nat):Int)) (i3:=u.getD (j+k) 0) (i4:=u.getD (j+k) 0) (i5:=u.getD (j+k) 0*1000000000) (i6:=((j+k - 1:Nat):Int)) (i7:=u.getD (j+k - 1) 0) (i8:=u.getD (j+k - 1) 0) (i9:=top) (i10:=((k - 1:Nat):Int)) (i11:=v.getD (k - 1) 0) (i12:=v.getD (k - 1) 0) (i13:=top / v.getD (k - 1) 0) (i14:=top % v.getD (k - 1) 0) (i15:=g) (r7:=Wr u1) (i16:=qd) (i17:=q.getD j 0) (r8:=Wr (q.set j qd)) (i18:=(j:Int) - 1)
     (wi (by omega)) (wu (by omega)) (wu (by omega)) (wi (by omega)) (wu (by omega)) (wu (by omega)) (wi (by omega)) (wu (by omega)) (wu ⟨tdv f1 rfl,f2,by omega⟩) (tmd f1 rfl) (by rw [Int.toNat_natCast,z7t]) (wi (by omega))
     (by omega) (by omega) (G5 (by omega)) (by omega) (G5 (by omega)) (by omega) (G5 (by omega)) (by omega) k1 hred (by omega) (G5 (by omega)) s1
  · have hd:(q.set j qd).drop (j+1)=q.drop (j+1):=List.drop_set_of_lt (Nat.lt_succ_self j)
    rw [s7,r5,y1n (q.set j qd) j,y3x (by omega),hd,z6s]
    grind
theorem q2o (xs:List Int):∀ k,z3j (xs++List.replicate k 0) (xs.length+k)=z3j xs xs.length
 | 0=>by simp
 | k+1=>by
  have ih:=q2o xs k
  have h0:(xs++List.replicate (k+1) 0).getD (xs.length+k) 0=0:=by
   rw [List.getD_eq_getElem?_getD,List.getElem?_append_right (by omega),List.getElem?_replicate]; split <;> rfl
  have hpre:∀ m,m≤xs.length+k→z3j (xs++List.replicate (k+1) 0) m=z3j (xs++List.replicate k 0) m:=by
   intro m hm
   induction m with
   | zero=>rfl
   | succ m ih =>
    have e:(xs++List.replicate (k+1) 0).getD m 0=(xs++List.replicate k 0).getD m 0:=by
     rw [List.getD_eq_getElem?_getD,List.getD_eq_getElem?_getD,List.replicate_succ',← List.append_assoc,List.getElem?_append_left (by simp; omega)]
    unfold z3j
    rw [e,ih (by omega)]
  show z3j (xs++List.replicate (k+1) 0) (xs.length+k+1)=_
  have step:z3j (xs++List.replicate (k+1) 0) (xs.length+k+1)=z3j (xs++List.replicate (k+1) 0) (xs.length+k):=by
   conv=>lhs; unfold z3j
   rw [if_pos h0]
  rw [step,hpre _ (Nat.le_refl _),ih]
theorem w5d {n:Nat}:z3j (words n) (words n).length=(words n).length:=by
 have h:=z3k (B9 n) (Nat.le_refl (words n).length)
 rw [List.take_length,B5,Int.toNat_natCast] at h
 have h2:=congrArg List.length h
 rw [List.length_take] at h2
 have:=j8c (words n) (words n).length
 omega
theorem v9u {m n:Nat} (hm0:m≠0) (hl:(words n).length < 1099511627776):Fn E H6 [.c (.list (Wr (words n))),.c (.list (Wr (words m)))] (.tup [.c (.list (Wr (words (n / m)))),.c (.list (Wr (words (n % m))))]):=by
 have hc:=q8w (E:=E) (m:=n) (n:=m) (by omega)
 by_cases h1:n < m
 · rw [Nat.div_eq_of_lt h1,Nat.mod_eq_of_lt h1,Y4]
   exact v9z hc (y2v.2 (by omega))
 · have hc':¬ cmpI n m < 0:=fun h=>h1 (by have:=y2v.1 h; omega)
   have hmne:words m≠[]:=fun h=>hm0 (z8b.1 h)
   have hmp:=y2y hmne
   by_cases h3:(words m).length=1
   · have hm1:m < 1000000000:=by
      have:=y2n (B9 m)
      rw [B5,h3,show pw 1=1000000000 by decide] at this
      omega
     have e:words m=[(m:Int)]:=by
      rcases k6f (n:=m) (by omega) with ⟨_,h⟩ | ⟨e,_,_⟩ | ⟨_,h⟩
      · exact absurd h hm0
      · exact e
      · omega
     have hs:=w3g (E:=E) (n:=n) (w:=m) ⟨by omega,hm1⟩ (by omega)
     have hr:=Nat.mod_lt n (show 0 < m by omega)
     exact w0a (i1:=(m:Int)) hc hc' (by rw [B3,h3]; rfl) (by rw [e]; rfl) hs (k3m (by omega))
   · have hlm:(words m).length≤(words n).length:=(z0u m).length_le (B9 m) (B9 n) (by rw [B5,B5]; omega)
     obtain ⟨k,hk⟩:∃ k,k=(words m).length:=⟨_,rfl⟩
     rw [← hk] at hlm h3 hmp
     have hk2:2≤k:=by omega
     have ht:=(B9 m).getD (k - 1)
     obtain ⟨t,et⟩:∃ t,t=(words m).getD (k - 1) 0:=⟨_,rfl⟩
     rw [← et] at ht
     obtain ⟨f,hf⟩:∃ f:Nat,(f:Int)=1000000000 / (t+1):=⟨(1000000000 / (t+1)).toNat,by have:0≤1000000000 / (t+1):=Int.ediv_nonneg (by decide) (by omega); omega⟩
     obtain ⟨f1,f2,lv,nv⟩:=q1u (n:=m) rfl hk.symm (by omega) (f:=f) (by rw [← et]; exact hf)
     have hfl:(words f).length≤1:=z6k (by rw [show pw 1=1000000000 by decide]; omega)
     have hfe:words f=[(f:Int)]:=by
      rcases k6f (n:=f) (by omega) with ⟨_,h⟩ | ⟨e,_,_⟩ | ⟨_,h⟩
      · omega
      · exact e
      · omega
     have hnf:n≤n*f:=by have:=Nat.mul_le_mul_left n f1; omega
     have hun:=(z0u n).length_le (B9 n) (B9 (n*f)) (by rw [B5,B5]; omega)
     have hnp:(n:Int) < pw (words n).length:=by have:=y2n (B9 n); rwa [B5] at this
     have hun2:(words (n*f)).length≤(words n).length+1:=by
      refine z6k ?_
      rw [z6s,Int.natCast_mul,Int.mul_comm]
      have h5:(f:Int)*n≤1000000000*n:=Int.mul_le_mul_of_nonneg_right (by omega) (by omega)
      have h6:1000000000*(n:Int) < 1000000000*pw (words n).length:=Int.mul_lt_mul_of_pos_left hnp (by decide)
      omega
     obtain ⟨L,hL⟩:∃ L,L=(words (n*f)).length:=⟨_,rfl⟩
     rw [← hL] at hun hun2
     have hu0:Wd (words (n*f)++[0,0]):=(B9 _).append (Wd.cons (by omega) (by omega) (Wd.cons (by omega) (by omega) Wd.nil))
     have hu0l:(words (n*f)++[0,0]).length=L+2:=by simp [hL]
     have hval0:wv (words (n*f)++[0,0])=((n*f:Nat):Int):=by rw [j3c,B5]; simp [wv]
     have hvv:wv (words (m*f))=((m*f:Nat):Int):=B5 _
     have hlow:wv ((words (n*f)++[0,0]).drop ((words n).length+1 - k)) < wv (words (m*f)):=by
      have e5:=H3 (words (n*f)++[0,0]) ((words n).length+1 - k) (by rw [hu0l]; omega)
      have h6:=D4 (hu0.take ((words n).length+1 - k))
      rw [hval0] at e5
      rw [hvv]
      have h7:pw (k - 1)≤m:=by have:=(z0u m).val_ge (B9 m) hmne; rwa [B5,← hk] at this
      have h8:pw (words n).length=pw ((words n).length+1 - k)*pw (k - 1):=by rw [← y4p]; congr 1; omega
      have h9:((n*f:Nat):Int) < pw ((words n).length+1 - k)*((m*f:Nat):Int):=by
       rw [Int.natCast_mul,Int.natCast_mul]
       have h10:(n:Int)*f < pw (words n).length*f:=Int.mul_lt_mul_of_pos_right hnp (by omega)
       have h11:pw ((words n).length+1 - k)*(pw (k - 1)*f)≤pw ((words n).length+1 - k)*((m:Int)*f) :=
        Int.mul_le_mul_of_nonneg_left (Int.mul_le_mul_of_nonneg_right h7 (by omega)) (by have:=z3d ((words n).length+1 - k); omega)
       rw [h8,Int.mul_assoc] at h10
       omega
      have hp:=z3d ((words n).length+1 - k)
      rcases Int.lt_or_le (wv ((words (n*f)++[0,0]).drop ((words n).length+1 - k))) ((m*f:Nat):Int) with h | h
      · exact h
      · have:=Int.mul_le_mul_of_nonneg_left h (show 0≤pw ((words n).length+1 - k) by omega)
        omega
     obtain ⟨u',q',r1,r2,r3,r4,r5,r6,r7⟩:=j4t (E:=E) (sc:=Wr (words f)) (w2:=[[.u32 0],[.u32 0]]) (lq:=(words n).length+1 - k) (lu:=L+2) (ln:=(words n).length+1) (B9 (m*f)) lv hk2 nv (by omega) (by omega) ((words n).length+1 - k) (words (n*f)++[0,0]) (List.replicate ((words n).length+1 - k) 0) hu0 hu0l (Wd.replicate _) (by simp) (Nat.le_refl _) (fun _=>by omega) hlow
     rw [drop_nil (by simp),hval0,hvv,show wv []=0 from rfl] at r7
     rw [hvv] at r6
     have hq0:=D4 r4
     have hr0:=D4 r2
     obtain ⟨Q,hQ⟩:∃ Q:Nat,wv q'=Q:=⟨(wv q').toNat,by omega⟩
     obtain ⟨R,hR⟩:∃ R:Nat,wv u'=R:=⟨(wv u').toNat,by omega⟩
     rw [hQ,hR] at r7
     rw [hR] at r6
     have e1:n*f=Q*(m*f)+R:=by
      have:((n*f:Nat):Int)=((Q*(m*f)+R:Nat):Int):=by
       rw [Int.natCast_add,Int.natCast_mul Q]
       have:((Q:Int))*((m*f:Nat):Int)=((m*f:Nat):Int)*Q:=Int.mul_comm _ _
       simp at r7
       simp at this ⊢
       omega
      omega
     have hfR:f ∣ R:=by
      have h5:f ∣ Q*(m*f):=⟨Q*m,by rw [← Nat.mul_assoc,Nat.mul_comm]⟩
      exact (Nat.dvd_add_right h5).1 (by rw [← e1]; exact ⟨n,Nat.mul_comm _ _⟩)
     obtain ⟨R',hR'⟩:=hfR
     have e2:n=Q*m+R':=by
      have:f*n=f*(Q*m+R'):=by
       rw [Nat.mul_add,← hR',Nat.mul_comm f n,e1,← Nat.mul_assoc,Nat.mul_comm f]
      exact Nat.eq_of_mul_eq_mul_left (by omega) this
     have e3:R' < m:=by
      have:f*R' < f*m:=by rw [← hR',Nat.mul_comm f m]; omega
      exact Nat.lt_of_mul_lt_mul_left this
     obtain ⟨d1,d2⟩:=x4t e2 e3
     have hRf:R / f=R':=by rw [hR',Nat.mul_div_cancel_left _ (by omega)]
     have hvk:=y2n (B9 (m*f))
     rw [lv,hvv] at hvk
     have hul:wv (u'.take k)=R:=by
      have h5:=H3 u' k (by omega)
      have h6:=D4 (r2.take k)
      have h7:=D4 (r2.drop k)
      rcases Int.lt_or_le 0 (wv (u'.drop k)) with h | h
      · have h8:pw k*1≤pw k*wv (u'.drop k):=Int.mul_le_mul_of_nonneg_left (by omega) (by have:=z3d k; omega)
        omega
      · have:wv (u'.drop k)=0:=by omega
        rw [this,Int.mul_zero] at h5
        omega
     have t0:=(y9l (E:=E) (ws:=words (n*f)++[0,0]) (k:=L+2) (by omega) (by omega)).at (args:=[]) rfl rfl rfl rfl (objs:=[some .dead,some .dead,some (.vec A3 [[.u32 0],[.u32 0]]),some (.vec A3 (Wr (words (n*f)++[0,0])))]) (l:=3) rfl
     have ht0:z3j (words (n*f)++[0,0]) (L+2)=L:=by
      have:=q2o (words (n*f)) 2
      rw [← hL,show List.replicate 2 (0:Int)=[0,0] from rfl] at this
      rw [this,hL,w5d]
     rw [ht0] at t0
     have t1:=(y9l (E:=E) (ws:=u') (k:=k) (by omega) (by omega)).at (args:=[]) rfl rfl rfl rfl (objs:=[some .dead,some .dead,some (.vec A3 [[.u32 0],[.u32 0]]),some (.vec A3 (Wr u')),some (.vec A3 (Wr q'))]) (l:=3) rfl
     have t2:=(y9l (E:=E) (ws:=q') (k:=(words n).length+1 - k) (by omega) (by omega)).at (args:=[]) rfl rfl rfl rfl (objs:=[some .dead,some .dead,some (.vec A3 [[.u32 0],[.u32 0]]),some (.fro (Wr u')),some (.vec A3 (Wr q'))]) (l:=4) rfl
     have w1:=z3k r2 (k:=k) (by omega)
     rw [hul,Int.toNat_natCast] at w1
     have w2:=z3k r4 (k:=(words n).length+1 - k) (by omega)
     rw [← r5,List.take_length,hQ,r5,Int.toNat_natCast] at w2
     have hRl:(words R).length < 35184372088000:=by
      have:=congrArg List.length w1
      rw [List.length_take] at this
      have:=j8c u' k
      omega
     have hby:=w3g (E:=E) (n:=R) (w:=f) ⟨by omega,by omega⟩ hRl
     rw [hRf,show words R=u'.take (z3j u' k) from w1.symm,← z2l] at hby
     rw [d1,d2]
     have hTm:=x6q (E:=E) (m:=m) (n:=f) (by omega)
     have hTn:=x6q (E:=E) (m:=n) (n:=f) (by omega)
     have hWl:((Wr (words m)).length:Int)=k:=by rw [B3,← hk]
     have hlq:(((words n).length+1 - k:Nat):Int)=(words n).length+1 - k:=by omega
     exact w0b (i1:=(k:Int) - 1) (i3:=t) (i2:=t) (i4:=t+1) (i5:=(f:Int)) (i6:=(f:Int)) (r4:=Wr (words f)) (r5:=Wr (words (m*f))) (r6:=Wr (words (n*f))) (r7:=Wr (words (n*f))) (n0:=L) (r8:=Wr (words (n*f)++[0,0])) (n1:=L+2) (i7:=((words n).length:Int)+1) (n2:=L) (i8:=((words n).length:Int)+1) (n3:=(words n).length+1) (i9:=(((words n).length+1 - k:Nat):Int)) (n4:=(words n).length+1 - k) (r9:=Wr (List.replicate ((words n).length+1 - k) 0)) (i10:=(((words n).length+1 - k:Nat):Int) - 1) (r10:=Wr u') (r11:=Wr q') (n5:=k) (n6:=z3j u' k) (i11:=(f:Int)) (n7:=z3j q' ((words n).length+1 - k))
      (wi (by rw [hWl]; omega)) (wi (by omega)) (wi (by omega)) (wi ⟨tdv (by omega) hf.symm,by omega,by omega⟩) (w32 (by omega)) rfl (by rw [B3,← hL,Nat.zero_add]) (by
       rw [z2l,hL,List.take_length]
       show Wr (words (n*f))++Wr [0,0]=_
       exact w8p _ _) rfl (wi (by rw [B3]; omega)) (by split <;> omega) (by omega) (wi (by rw [hWl]; omega)) (Int.toNat_natCast _) (z8x _ _) (wi (by omega)) (by rw [hWl,Int.toNat_natCast]) rfl (by rw [z2l,w2])
      hc hc' (by rw [hWl]; omega) (by omega) (by rw [show Int.toNat ((k:Int) - 1)=k - 1 by omega,et]; exact G5 (by omega)) (by omega) (k3m (by omega)) hTm hTn (u0i _) (by rw [B3]; omega) (by omega) t0 (by omega) (by omega) (by rw [hWl]; exact r1) (by rw [hWl]; omega) t1 (by rw [hfe]; rfl) hby t2
theorem j4s:∀ (t y x:Nat),y < t→Lp E 0 H4 1 (y0b x y) (.exit 2) (y6j (Nat.gcd x y:Nat))
 | 0,y,x,h=>by omega
 | t+1,y,x,h=>by
  by_cases h0:y=0
  · subst h0
    rw [Nat.gcd_zero_right]
    exact k3w rfl
  · have hm:=Nat.mod_lt x (show 0 < y by omega)
    have e:Nat.gcd x y=Nat.gcd y (x % y):=(Nat.gcd_comm x y).trans ((Nat.gcd_rec y x).trans (Nat.gcd_comm _ _))
    rw [e]
    exact j1s (i3:=((x % y:Nat):Int)) (tmd (by omega) rfl) (by omega) (by omega) (j4s t (x % y) y (by omega))
theorem k3n {L:Nat} (hL:L < 1099511627776):∀ (t n m:Nat),n < t→(words m).length≤L→(words n).length≤L →
    (Lp E 0 H4 0 (Y7 (Wr (words m)) (Wr (words n))) .ret (y6h (Wr (words (Nat.gcd m n))))) ∨
    (Lp E 0 H4 0 (Y7 (Wr (words m)) (Wr (words n))) (.exit 0) (y6i (Wr (words (Nat.gcd m n)))))
 | 0,n,m,h,_,_=>by omega
 | t+1,n,m,h,hm,hn=>by
  by_cases h0:n=0
  · subst h0
    rw [Nat.gcd_zero_right,Y4]
    exact .inr (k3v (by simp [Wr]))
  · have hpos:((Wr (words n)).length:Int) > 0:=by
     have:words n≠[]:=fun h=>h0 (z8b.1 h)
     have:=y2y this
     rw [B3]; omega
    have hr:=Nat.mod_lt m (show 0 < n by omega)
    have e:Nat.gcd m n=Nat.gcd n (m % n):=(Nat.gcd_comm m n).trans ((Nat.gcd_rec n m).trans (Nat.gcd_comm _ _))
    have hrl:(words (m % n)).length≤L:=Nat.le_trans ((z0u _).length_le (B9 _) (B9 n) (by rw [B5,B5]; omega)) hn
    have hd:=v9u (E:=E) (m:=n) (n:=m) h0 (by omega)
    by_cases s1:(words m).length≤2
    · by_cases s2:(words n).length≤2
      · have hg:Nat.gcd m n≤n:=Nat.gcd_le_right m (by omega)
        have hn2:=v8c.1 s2
        exact .inl (k3u hpos (by rw [B3]; omega) (by rw [B3]; omega) (w7z s1) (w7z s2) (j4s (n+1) n m (by omega)) (u4x (by omega)))
      · rw [e]
        rcases k3n hL t (m % n) n (by omega) hn hrl with ih | ih
        · exact .inl (x2q hpos (by rw [B3]; omega) (by rw [B3]; omega) hd ih)
        · exact .inr (x2q hpos (by rw [B3]; omega) (by rw [B3]; omega) hd ih)
    · rw [e]
      rcases k3n hL t (m % n) n (by omega) hn hrl with ih | ih
      · exact .inl (x2r hpos (by rw [B3]; omega) hd ih)
      · exact .inr (x2r hpos (by rw [B3]; omega) hd ih)
theorem v7k {m n L:Nat} (hL:L < 1099511627776) (hm:(words m).length≤L) (hn:(words n).length≤L):Fn E H4 [.c (.list (Wr (words m))),.c (.list (Wr (words n)))] (.c (.list (Wr (words (Nat.gcd m n))))):=by
 rcases k3n (E:=E) hL (n+1) n m (by omega) hm hn with h | h
 · exact q9i h
 · exact q9j h
end Gev
namespace Gev
open Go Gb
variable {E:Env}
def Br (l:List UInt8):RW:=l.map fun c=>[.u8 (c.toNat:Int)]
theorem v8e (l:List UInt8) (n:Nat):(Br l).take n=Br (l.take n):=by simp [Br,List.map_take]
theorem u3q (l:List UInt8) (c:UInt8):Br l++[[.u8 (c.toNat:Int)]]=Br (l++[c]):=by simp [Br]
theorem u0f (l:List UInt8) (n:Nat) (c:UInt8):(Br l).set n [.u8 (c.toNat:Int)]=Br (l.set n c):=by simp [Br,List.map_set]
theorem w5i {l:List UInt8} {i:Nat} {c:UInt8} (h:l[i]?=some c):(Br l)[i]?=some [.u8 (c.toNat:Int)]:=by simp [Br,h]
theorem u3p (l:List UInt8):∀ x∈Br l,k1q x:=by intro x hx; simp [Br] at hx; obtain ⟨_,_,rfl⟩:=hx; trivial
theorem u3r (l:List UInt8):ByteArray.mk (((Br l).map x7p).toArray)=B l:=by
 have:(Br l).map x7p=l:=by
  unfold Br
  rw [List.map_map]
  conv=>rhs; rw [← List.map_id l]
  refine List.map_congr_left fun c _=>?_
  show UInt8.ofNat (Int.toNat (c.toNat:Int))=c
  rw [Int.toNat_natCast]
  exact UInt8.ofNat_toNat
 rw [this]; rfl
def rdig (m:Nat):List UInt8:=if m=0 then [] else (dec m).reverse
theorem w9q {m:Nat} (h:m≠0):rdig m=UInt8.ofNat (48+m % 10)::rdig (m / 10):=by
 unfold rdig
 rw [if_neg h]
 by_cases h1:m < 10
 · rw [y5h h1,if_pos (by omega),Nat.mod_eq_of_lt h1]; rfl
 · rw [k5o (by omega),if_neg (by omega),List.reverse_append]; rfl
theorem v7l {x0:RW} {i:Nat} {last:Bool} (hlast:if last then (i:Int)+1=x0.length else (i:Int)+1 < x0.length) (hx:x0.length < 4611686018427387904) {H T:Nat} (hH:if last then H=0 else 0 < H) (hT:T < 35184372088832) :
    ∀ (d k w:Nat) (out:List UInt8),k+d=9→w < 10 ^ d→out.length+(rdig (w+10 ^ d*H)).length=T →
    ∃ out',Lp E 1 J5 1 (z6t x0 out.length i w k (Br out)) (.exit 2) (y6k x0 i out'.length (Br out'))∧out'++rdig H=out++rdig (w+10 ^ d*H)
 | 0,k,w,out,hk,hw,_=>by
  have:w=0:=by simpa using hw
  subst this
  exact ⟨out,j5p (by omega),by simp⟩
 | d+1,k,w,out,hk,hw,hT'=>by
  obtain ⟨m,em⟩:∃ m,m=w+10 ^ (d+1)*H:=⟨_,rfl⟩
  rw [← em] at hT' ⊢
  have e10:10 ^ (d+1)*H=10*(10 ^ d*H):=by rw [Nat.pow_succ]; grind
  by_cases hstop:m=0
  · -- nothing is left
    have hw0:w=0:=by omega
    have hlt:last=true:=by
     cases last with
     | true=>rfl
     | false =>
      simp only [Bool.false_eq_true,if_false] at hH
      have:0 < 10 ^ (d+1)*H:=Nat.mul_pos (Nat.pow_pos (by decide)) hH
      omega
    subst hlt
    simp only [if_true] at hlast hH
    refine ⟨out,j5o (i3:=(i:Int)+1) (wi (by omega)) (by omega) (by omega) (by omega),?_⟩
    rw [hH,hstop]
  · have hrs:=w9q hstop
    have hm10:m % 10=w % 10:=by omega
    have hmd:m / 10=w / 10+10 ^ d*H:=by omega
    rw [hm10,hmd] at hrs
    have hlen:out.length+1≤T:=by rw [hrs] at hT'; simp at hT'; omega
    obtain ⟨out',k1,k2⟩:=v7l hlast hx hH hT d (k+1) (w / 10) (out++[UInt8.ofNat (48+w % 10)]) (by omega) (by rw [Nat.pow_succ] at hw; omega) (by rw [hrs] at hT'; simp at hT' ⊢; omega)
    refine ⟨out',?_,by rw [k2,hrs]; simp⟩
    have hdt:(UInt8.ofNat (48+w % 10)).toNat=48+w % 10:=y9r _ (by omega)
    have hbr:((Br out).take out.length)++[[DV.u8 ((48:Int)+((w % 10:Nat):Int))]]=Br (out++[UInt8.ofNat (48+w % 10)]):=by
     rw [v8e,List.take_length,← u3q,hdt]
     have:((48+w % 10:Nat):Int)=48+((w % 10:Nat):Int):=by omega
     rw [this]
    have hwb:w < 1000000000:=by
     have:(10:Nat) ^ (d+1)≤10 ^ 9:=Nat.pow_le_pow_right (by decide) (by omega)
     rw [x0j] at this
     omega
    rw [show (out++[UInt8.ofNat (48+w % 10)]).length=out.length+1 by simp] at k1
    have hcap:(out.length+1)*1≤140737488355328∧out.length+1≤140737488355328:=by omega
    cases last with
    | true =>
     simp only [if_true] at hlast hH
     have hwp:w≠0:=by rw [hH] at em; simp at em; omega
     exact q3o (i3:=(i:Int)+1) (i4:=((w % 10:Nat):Int)) (i5:=48+((w % 10:Nat):Int)) (i6:=48+((w % 10:Nat):Int)) (i7:=((w / 10:Nat):Int)) (i8:=((k+1:Nat):Int)) (wi (by omega)) (tmd (by omega) (by omega)) (w32 (by omega)) (w8 (by omega)) hbr rfl (w32 ⟨tdv (by omega) (by omega),by omega,by omega⟩) (wi (by omega)) (by omega) (by omega) (by omega) hcap k1
    | false =>
     simp only [Bool.false_eq_true,if_false] at hlast
     exact q3n (i3:=(i:Int)+1) (i4:=((w % 10:Nat):Int)) (i5:=48+((w % 10:Nat):Int)) (i6:=48+((w % 10:Nat):Int)) (i7:=((w / 10:Nat):Int)) (i8:=((k+1:Nat):Int)) (wi (by omega)) (tmd (by omega) (by omega)) (w32 (by omega)) (w8 (by omega)) hbr rfl (w32 ⟨tdv (by omega) (by omega),by omega,by omega⟩) (wi (by omega)) (by omega) (by omega) hcap k1
theorem v2n {n i:Nat} (hi:i < (words n).length):∃ H:Nat,wv ((words n).drop (i+1))=H∧(i+1 < (words n).length→0 < H)∧(i+1=(words n).length→H=0):=by
 have h0:=D4 ((B9 n).drop (i+1))
 refine ⟨(wv ((words n).drop (i+1))).toNat,by omega,fun h=>?_,fun h=>?_⟩
 · have ht:Gb.Tr ((words n).drop (i+1)):=by
    have:=z0u n
    unfold Gb.Tr at this ⊢
    rw [List.getLast?_drop,if_neg (by omega)]
    exact this
   have hp:=ht.val_pos ((B9 n).drop (i+1)) (by intro e; have:=congrArg List.length e; simp at this; omega)
   omega
 · rw [List.drop_eq_nil_of_le (by omega)]; rfl
theorem q8x {n T:Nat} (hT:T < 35184372088832) (hl:(words n).length < 4611686018427387904):∀ (d i m:Nat) (out:List UInt8),i+d=(words n).length→wv ((words n).drop i)=m→out.length+(rdig m).length=T →
    ∃ out',Lp E 0 J5 0 (y9x (Wr (words n)) out.length i (Br out)) (.exit 0) (x4x out'.length (Br out'))∧out'=out++rdig m
 | 0,i,m,out,hi,hm,hT'=>by
  rw [List.drop_eq_nil_of_le (by omega)] at hm
  have:m=0:=by simp [wv] at hm; omega
  subst this
  exact ⟨out,j9u (by rw [B3]; omega),by simp [rdig]⟩
 | d+1,i,m,out,hi,hm,hT'=>by
  obtain ⟨H,hH,hpos,hz⟩:=v2n (n:=n) (i:=i) (by omega)
  have hw:=(B9 n).getD i
  obtain ⟨w,ew⟩:∃ w:Nat,(words n).getD i 0=w:=⟨((words n).getD i 0).toNat,by omega⟩
  rw [ew] at hw
  rw [y1n,ew,hH] at hm
  have em:m=w+10 ^ 9*H:=by rw [x0j]; omega
  have hcl:(if decide (i+1=(words n).length) then (i:Int)+1=(Wr (words n)).length else (i:Int)+1 < (Wr (words n)).length):=by
   rw [B3]; split <;> rename_i h <;> simp at h <;> omega
  have hch:(if decide (i+1=(words n).length) then H=0 else 0 < H):=by
   split <;> rename_i h <;> simp at h
   · exact hz h
   · exact hpos (by omega)
  obtain ⟨out1,k1,k2⟩:=v7l (E:=E) (x0:=Wr (words n)) (i:=i) hcl (by rw [B3]; omega) hch hT 9 0 w out (by omega) (by rw [x0j]; omega) (by rw [← em]; exact hT')
  rw [← em] at k2
  have hl1:out1.length+(rdig H).length=T:=by
   have:=congrArg List.length k2
   simp at this
   omega
  obtain ⟨out2,g1,g2⟩:=q8x hT hl d (i+1) H out1 (by omega) hH hl1
  refine ⟨out2,?_,by rw [g2,k2]⟩
  exact q9k (i1:=(w:Int)) (i2:=((i+1:Nat):Int)) (wi (by omega)) (by rw [B3]; omega) (by omega) (by rw [← ew]; exact G5 (by omega)) k1 g1
theorem w4s {o:List UInt8} {L:Nat} (hL:o.length=L) (hb:L < 35184372088832):∀ (t i:Nat) (cur:List UInt8),L≤t+2*i→2*i≤L+1→cur.length=L →
    (∀ j,j < L→cur[j]?=if j < i∨L - 1 - i < j then o[L - 1 - j]? else o[j]?) →
    ∃ cur',Lp E 1 J5 2 (y9y L i ((L:Int) - 1 - i) (Br cur)) (.exit 4) (x4y L (Br cur'))∧cur'=o.reverse
 | t,i,cur,ht,hi,hc,hinv=>by
  by_cases hend:(i:Int) < (L:Int) - 1 - i
  · cases t with
    | zero=>omega
    | succ t =>
     have hk:L - 1 - i < L:=by omega
     have e1:(L:Int) - 1 - i=((L - 1 - i:Nat):Int):=by omega
     obtain ⟨a,ha⟩:∃ a,cur[i]?=some a:=⟨cur[i],List.getElem?_eq_getElem (by omega)⟩
     obtain ⟨b,hb'⟩:∃ b,cur[L - 1 - i]?=some b:=⟨cur[L - 1 - i],List.getElem?_eq_getElem (by omega)⟩
     have hoa:o[i]?=some a:=by
      have:=hinv i (by omega)
      rw [ha,if_neg (by omega)] at this
      exact this.symm
     have hob:o[L - 1 - i]?=some b:=by
      have:=hinv (L - 1 - i) hk
      rw [hb',if_neg (by omega)] at this
      exact this.symm
     obtain ⟨cur',k1,k2⟩:=w4s hL hb t (i+1) ((cur.set i b).set (L - 1 - i) a) (by omega) (by omega) (by simpa using hc) (fun j hj=>by
      rw [List.getElem?_set,List.getElem?_set]
      by_cases c1:L - 1 - i=j
      · subst c1
        rw [if_pos rfl,if_pos (by simp; omega),if_pos (by omega),show L - 1 - (L - 1 - i)=i by omega]
        exact hoa.symm
      · rw [if_neg c1]
        by_cases c2:i=j
        · subst c2
          rw [if_pos rfl,if_pos (by omega),if_pos (by omega)]
          exact hob.symm
        · rw [if_neg c2,hinv j hj]
          by_cases c3:j < i∨L - 1 - i < j
          · rw [if_pos c3,if_pos (by omega)]
          · rw [if_neg c3,if_neg (by omega)])
     refine ⟨cur',?_,k2⟩
     have g1:(Br cur)[Int.toNat (i:Int)]?=some [.u8 (a.toNat:Int)]:=by rw [Int.toNat_natCast]; exact w5i ha
     have g2:(Br cur)[Int.toNat ((L:Int) - 1 - i)]?=some [.u8 (b.toNat:Int)]:=by rw [e1,Int.toNat_natCast]; exact w5i hb'
     obtain ⟨c,hcc⟩:∃ c,(cur.set i b)[L - 1 - i]?=some c:=⟨(cur.set i b)[L - 1 - i]'(by simp; omega),List.getElem?_eq_getElem _⟩
     exact q9l (i2:=(b.toNat:Int)) (i3:=(a.toNat:Int)) (r2:=Br (cur.set i b)) (i4:=(c.toNat:Int)) (r3:=Br ((cur.set i b).set (L - 1 - i) a)) (i5:=((i+1:Nat):Int)) (i6:=(L:Int) - 1 - ((i+1:Nat):Int))
      (by rw [Int.toNat_natCast,u0f]) (by rw [e1,Int.toNat_natCast,u0f]) (wi (by omega)) (wi (by omega)) (by omega) (by omega) g2 (by omega) g1 (by rw [e1,Int.toNat_natCast]; exact w5i hcc) k1
  · refine ⟨cur,j9v (by omega),?_⟩
    apply List.ext_getElem?
    intro j
    rcases Nat.lt_or_ge j L with hj | hj
    · rw [hinv j hj,List.getElem?_reverse (by omega),hL]
      by_cases c:j < i∨L - 1 - i < j
      · rw [if_pos c]
      · rw [if_neg c]
        have:L - 1 - j=j:=by omega
        rw [this]
    · rw [List.getElem?_eq_none (by omega),List.getElem?_eq_none (by simp; omega)]
theorem r1_To {n K:Nat} (h:n < 10 ^ K) (hK:K≤Lim+Lim):Fn E J5 [.c (.list (Wr (words n)))] (.c (.str (B (dec n)))):=by
 have h1:=j0u h
 have h2:=y0f h
 rw [Y9] at hK
 by_cases h0:n=0
 · subst h0
   rw [Y4,z7v]
   exact w6o rfl
 · have hne:words n≠[]:=fun h=>h0 (z8b.1 h)
   have hp:=y2y hne
   have hr:rdig n=(dec n).reverse:=by unfold rdig; rw [if_neg h0]
   obtain ⟨out,k1,k2⟩:=q8x (E:=E) (n:=n) (T:=(dec n).length) (by omega) (by omega) (words n).length 0 n [] (by omega) (by rw [List.drop_zero,B5]) (by rw [hr]; simp)
   rw [List.nil_append,hr] at k2
   have hol:out.length=(dec n).length:=by rw [k2]; simp
   obtain ⟨cur,g1,g2⟩:=w4s (E:=E) (o:=out) (L:=out.length) rfl (by omega) out.length 0 out (by omega) (by omega) rfl (fun j hj=>by rw [if_neg (by omega)])
   rw [show (out.length:Int) - 1 - ((0:Nat):Int)=(out.length:Int) - 1 by omega] at g1
   have hcur:cur=dec n:=by rw [g2,k2,List.reverse_reverse]
   refine w6p (n0:=out.length) (r1:=Br out) (i0:=(out.length:Int) - 1) (r2:=Br cur) (wi (by omega)) ?_ (by rw [B3]; omega) k1 g1 ?_
   · rw [v8e,List.take_of_length_le (by rw [hcur]; omega),hcur,u3r]
   · rw [v8e]; exact u3p _
end Gev
namespace Gev
open Go Gb
variable {E:Env}
def Zr (z:Int):List DV:=[.bool (decide (z < 0)),.list (Wr (words z.natAbs))]
theorem Zr_nat (n:Nat):Zr (n:Int)=[.bool false,.list (Wr (words n))]:=by unfold Zr; rw [decide_eq_false (by omega),Int.natAbs_natCast]
theorem v8g {n:Nat}:((Wr (words n)).length:Int) > 0↔n≠0:=by
 rw [B3]
 constructor
 · rintro h rfl; rw [Y4] at h; simp at h
 · intro h
   have:=y2y (fun e=>h (z8b.1 e):words n≠[])
   omega
theorem x1p (neg:Bool) (n:Nat):Fn E M9 [.c (.bool neg),.c (.list (Wr (words n)))] (.agg (Zr (sgn neg n))):=by
 cases neg with
 | false =>
  have:Zr (sgn false n)=[.bool false,.list (Wr (words n))]:=by unfold sgn; simp [Zr_nat]
  rw [this]; exact w0i
 | true =>
  by_cases h:n=0
  · subst h
    have:Zr (sgn true 0)=[.bool false,.list (Wr (words 0))]:=by unfold Zr sgn; simp
    rw [this]; exact w0h (fun x=>v8g.1 x rfl)
  · have:Zr (sgn true n)=[.bool true,.list (Wr (words n))]:=by
     unfold Zr sgn
     simp only [if_true,Int.natAbs_neg,Int.natAbs_natCast]
     rw [decide_eq_true (by omega)]
    rw [this]; exact w0g (v8g.2 h)
theorem u5h (z:Int):sgn (!decide (z < 0)) z.natAbs=-z:=by unfold sgn; split <;> rename_i h <;> simp at h <;> omega
theorem u5g (a b:Int):sgn (!(decide (a < 0) == decide (b < 0))) (a.natAbs*b.natAbs)=a*b:=by
 unfold sgn
 have ea:(a.natAbs:Int)=if a < 0 then -a else a:=by split <;> omega
 have eb:(b.natAbs:Int)=if b < 0 then -b else b:=by split <;> omega
 rw [Int.natCast_mul,ea,eb]
 by_cases c:a < 0 <;> by_cases d:b < 0 <;> simp [c,d] <;> grind
theorem w4y (a:Int) (b:Nat):sgn (decide (a < 0)) (a.natAbs*b)=a*b:=by
 unfold sgn
 have ea:(a.natAbs:Int)=if a < 0 then -a else a:=by split <;> omega
 rw [Int.natCast_mul,ea]
 by_cases c:a < 0 <;> simp [c] <;> grind
theorem q2a (z:Int):Fn E y2q [.agg (Zr z)] (.agg (Zr (-z))):=by
 have:=x1p (E:=E) (!decide (z < 0)) z.natAbs
 rw [u5h] at this
 exact j9y this
theorem wl {n K:Nat} (h:n < 10 ^ K):(words n).length≤K:=y0f h
theorem u2m {a b:Int} {K L:Nat} (ha:a.natAbs < 10 ^ K) (hb:b.natAbs < 10 ^ L) (h:K+L≤4*Lim):Fn E x4p [.agg (Zr a),.agg (Zr b)] (.agg (Zr (a*b))):=by
 rw [Y9] at h
 have h1:=wl ha
 have h2:=wl hb
 have hm:=x1p (E:=E) (!(decide (a < 0) == decide (b < 0))) (a.natAbs*b.natAbs)
 rw [u5g] at hm
 exact v4q rfl (x6q (by omega)) hm
theorem v9v {a b:Int} {K L:Nat} (ha:a.natAbs < 10 ^ K) (hb:b.natAbs < 10 ^ L) (hK:K≤4*Lim) (hL:L≤4*Lim):Fn E z8u [.agg (Zr a),.agg (Zr b)] (.agg (Zr (a+b))):=by
 rw [Y9] at hK hL
 have h1:=wl ha
 have h2:=wl hb
 by_cases hs:decide (a < 0)=decide (b < 0)
 · have hw:=x1p (E:=E) (decide (a < 0)) (a.natAbs+b.natAbs)
   have e:sgn (decide (a < 0)) (a.natAbs+b.natAbs)=a+b:=by
    unfold sgn
    rw [decide_eq_decide] at hs
    by_cases c:a < 0
    · have:=hs.1 c; rw [decide_eq_true c,if_pos rfl]; omega
    · have:¬ b < 0:=fun x=>c (hs.2 x)
      rw [decide_eq_false c,if_neg (by simp)]; omega
   rw [e] at hw
   exact w0j hs (u4w (by omega) (by omega)) hw
 · have hc:=q8w (E:=E) (m:=a.natAbs) (n:=b.natAbs) (by omega)
   have hs':¬ (a < 0↔b < 0):=fun h=>hs (decide_eq_decide.2 h)
   by_cases c:a.natAbs < b.natAbs
   · have hw:=x1p (E:=E) (decide (b < 0)) (b.natAbs - a.natAbs)
     have e:sgn (decide (b < 0)) (b.natAbs - a.natAbs)=a+b:=by
      unfold sgn
      by_cases d:b < 0
      · have:¬ a < 0:=fun x=>hs' ⟨fun _=>d,fun _=>x⟩
        rw [decide_eq_true d,if_pos rfl]; omega
      · have:a < 0:=Classical.byContradiction fun x=>hs' ⟨fun y=>absurd y x,fun y=>absurd y d⟩
        rw [decide_eq_false d,if_neg (by simp)]; omega
     rw [e] at hw
     exact w0l hs hc (by have:=(y2v (a:=(a.natAbs:Int)) (b:=b.natAbs)).2 (by omega); omega) (w3e (by omega) (by omega)) hw
   · have hw:=x1p (E:=E) (decide (a < 0)) (a.natAbs - b.natAbs)
     have e:sgn (decide (a < 0)) (a.natAbs - b.natAbs)=a+b:=by
      unfold sgn
      by_cases d:a < 0
      · have:¬ b < 0:=fun x=>hs' ⟨fun _=>x,fun _=>d⟩
        rw [decide_eq_true d,if_pos rfl]; omega
      · have:b < 0:=Classical.byContradiction fun x=>hs' ⟨fun y=>absurd y d,fun y=>absurd y x⟩
        rw [decide_eq_false d,if_neg (by simp)]; omega
     rw [e] at hw
     refine w0k hs hc ?_ (w3e (by omega) (by omega)) hw
     have:¬ cmpI (a.natAbs:Int) b.natAbs < 0:=fun x=>by have:=y2v.1 x; omega
     omega
theorem u2k {a b:Int} {K L:Nat} (ha:a.natAbs < 10 ^ K) (hb:b.natAbs < 10 ^ L) (hK:K≤4*Lim) (hL:L≤4*Lim):Fn E x4o [.agg (Zr a),.agg (Zr b)] (.agg (Zr (a - b))):=by
 rw [Int.sub_eq_add_neg]
 exact v4n (q2a b) (v9v ha (b:=-b) (by rw [Int.natAbs_neg]; exact hb) hK hL)
theorem j9g (z:Int):Fn E z5e [.agg (Zr z)] (.c (.i64 (cmpI z 0))):=by
 rcases Int.lt_trichotomy z 0 with c | c | c
 · have:Zr z=[.bool true,.list (Wr (words z.natAbs))]:=by unfold Zr; rw [decide_eq_true c]
   have e:cmpI z 0=-1:=by unfold cmpI; rw [if_pos c]
   rw [this,e]; exact q9o
 · subst c
   have e:cmpI 0 0=0:=rfl
   rw [e]; exact q9q (fun h=>v8g.1 h rfl)
 · have:Zr z=[.bool false,.list (Wr (words z.natAbs))]:=by unfold Zr; rw [decide_eq_false (by omega)]
   have e:cmpI z 0=1:=by unfold cmpI; rw [if_neg (by omega),if_pos (by omega)]
   rw [this,e]; exact q9p (v8g.2 (by omega))
theorem r2_Cmp {a b:Int} {K L:Nat} (ha:a.natAbs < 10 ^ K) (hb:b.natAbs < 10 ^ L) (hK:K≤4*Lim) (hL:L≤4*Lim):Fn E k1m [.agg (Zr a),.agg (Zr b)] (.c (.i64 (cmpI a b))):=by
 have h:=j9g (E:=E) (a - b)
 rw [Int.sub_eq_add_neg,w1w] at h
 rw [← Int.sub_eq_add_neg] at h
 exact w3p (u2k ha hb hK hL) h
theorem u2l {z:Int} (h:z.natAbs < 4294967296):Fn E y9i [.c (.i64 z)] (.agg (Zr z)):=by
 have hs:=k3m (E:=E) h
 by_cases c:z < 0
 · have hm:=x1p (E:=E) true z.natAbs
   rw [show sgn true z.natAbs=z by unfold sgn; simp; omega] at hm
   exact v4o (i1:=z.natAbs) (i2:=z.natAbs) (wi (by omega)) (w32 (by omega)) c hs hm
 · have hm:=x1p (E:=E) false z.natAbs
   rw [show sgn false z.natAbs=z by unfold sgn; simp; omega] at hm
   exact v4p (i1:=z.natAbs) (w32 (by omega)) c hs hm
theorem w2i (c:UInt8) (m:List UInt8):(((B (c::m)).data.toList.getD 0 0).toNat:Int)=(c.toNat:Int):=by rw [y4k]; rfl
theorem w3h (l:List UInt8) (hl:l.length < 9223372036854775807):Fn E z2j [.c (.str (B l))] (.c (.bool (intB l))):=by
 unfold intB
 match l,hl with
 | [],hl=>exact k9v (by rw [F7]; decide) (x6r [] hl)
 | [c],hl =>
  have h0:=k9v (s0:=B [c]) (by rw [F7]; simp) (x6r (E:=E) [c] hl)
  rw [w3b]
  by_cases hc:c=45
  · subst hc; exact h0
  · rw [beq_eq_false_iff_ne.2 hc]; exact h0
 | c::d::m,hl =>
  rw [w3b]
  simp only [List.length_cons] at hl
  by_cases hc:c=45
  · subst hc
    simp only [beq_self_eq_true,if_true,List.drop_succ_cons,List.drop_zero]
    by_cases h48:d::m=[48]
    · rw [h48]
      exact v4s (w2i _ _) (by rw [F7]; decide) (by rw [F7]; decide) (by decide) rfl
    · rw [beq_eq_false_iff_ne.2 h48,Bool.not_false,Bool.and_true]
      refine v4r (s1:=B (d::m)) (w2i _ _) ?_ (by rw [F7]; simp; omega) (by rw [F7]; simp; omega) (by decide) (fun e=>h48 ?_) (by rw [F7]; simp; omega) (x6r (d::m) (by simp; omega))
      · rw [F7,Int.toNat_natCast,x1w,List.take_length]; rfl
      · have:=y5o (l:=45::d::m) (m:=[45,48]) e
        exact (List.cons.inj this).2
  · rw [beq_eq_false_iff_ne.2 hc]
    exact v4t (w2i _ _) (by rw [F7]; simp; omega) (by rw [F7]; simp; omega) (fun e=>hc (UInt8.toNat_inj.1 (by simpa using Int.ofNat.inj e))) (x6r (c::d::m) (by simp; omega))
theorem w8a {z:Int} {K:Nat} (hz:z.natAbs < 10 ^ K) (hK:K≤Lim):Fn E y5v [.c (.str (B (decZ z)))] (.agg (Zr z)):=by
 have hf:=k3l (E:=E) hz hK
 by_cases c:z < 0
 · have:Zr z=[.bool true,.list (Wr (words z.natAbs))]:=by unfold Zr; rw [decide_eq_true c]
   rw [this,z6o c]
   refine w0m (s1:=B (dec z.natAbs)) (w2i _ _) ?_ (by rw [F7]; simp) (by decide) (by rw [F7]; simp; omega) hf
   rw [F7,Int.toNat_natCast,x1w,List.take_length]; rfl
 · have:Zr z=[.bool false,.list (Wr (words z.natAbs))]:=by unfold Zr; rw [decide_eq_false c]
   rw [this,Z5 (by omega)]
   cases hd:dec z.natAbs with
   | nil=>exact absurd hd (k2p _)
   | cons d m =>
    rw [hd] at hf
    refine w0n (w2i _ _) (by rw [F7]; simp) (fun e=>?_) hf
    have:=y7x z.natAbs d (by rw [hd]; simp)
    omega
theorem r2_To {z:Int} {K:Nat} (hz:z.natAbs < 10 ^ K) (hK:K≤Lim+Lim):Fn E x2d [.agg (Zr z)] (.c (.str (B (decZ z)))):=by
 have ht:=r1_To (E:=E) hz hK
 have h1:=j0u hz
 rw [Y9] at hK
 by_cases c:z < 0
 · have:Zr z=[.bool true,.list (Wr (words z.natAbs))]:=by unfold Zr; rw [decide_eq_true c]
   rw [this,z6o c]
   exact w6q (by rw [B45,x5o]; rfl) ht (by rw [B45,F7,F7]; simp; omega)
 · have:Zr z=[.bool false,.list (Wr (words z.natAbs))]:=by unfold Zr; rw [decide_eq_false c]
   rw [this,Z5 (by omega)]
   exact w6r ht
end Gev
namespace Gev
open Go Gb
variable {E:Env}
def Qr (q:Rat):List DV:=[.bool (decide (q.num < 0)),.list (Wr (words q.num.natAbs)),.list (Wr (words q.den))]
theorem u0j (n:Nat):(n:Int).natAbs=n:=Int.natAbs_natCast n
theorem v8d:words 1=[1]:=by rw [x1z (by decide)]; rw [show 1 / 1000000000=0 from rfl,Y4]; rfl
theorem u5f (z:Int) {g:Nat} (hg:g≠0) (hd:(g:Int) ∣ z):sgn (decide (z < 0)) (z.natAbs / g)=z / (g:Int):=by
 obtain ⟨k,rfl⟩:=hd
 rw [Int.mul_ediv_cancel_left _ (by omega),Int.natAbs_mul,u0j,Nat.mul_div_cancel_left _ (by omega)]
 unfold sgn
 have hs:(g:Int)*k < 0↔k < 0:=by
  constructor
  · intro h
    refine Classical.byContradiction fun c=>?_
    have:=Int.mul_nonneg (show 0≤(g:Int) by omega) (show 0≤k by omega)
    omega
  · intro h; exact Int.mul_neg_of_pos_of_neg (by omega) h
 by_cases c:k < 0
 · rw [decide_eq_true (hs.2 c),if_pos rfl]; omega
 · rw [decide_eq_false (fun x=>c (hs.1 x)),if_neg (by simp)]; omega
theorem j9h {z:Int} {d K L:Nat} (hz:z.natAbs < 10 ^ K) (hd:d < 10 ^ L) (hK:K≤4*Lim) (hL:L≤4*Lim) (h0:d≠0):Fn E z5g [.agg (Zr z),.c (.list (Wr (words d)))] (.agg (Qr (mkRat z d))):=by
 have w1:=wl hz
 have w2:=wl hd
 rw [Y9] at hK hL
 have hc:=v7k (E:=E) (m:=z.natAbs) (n:=d) (L:=max K L) (by omega) (by omega) (by omega)
 have e:Qr (mkRat z d)=[.bool (decide (z / (Nat.gcd z.natAbs d:Nat) < 0)),.list (Wr (words (z / (Nat.gcd z.natAbs d:Nat)).natAbs)),.list (Wr (words (d / Nat.gcd z.natAbs d)))]:=by
  unfold Qr; rw [v7g h0,v7f h0]
 have hg:Nat.gcd z.natAbs d≠0:=w6b h0
 have hdv:((Nat.gcd z.natAbs d:Nat):Int) ∣ z:=by
  have:=Int.gcd_dvd_left z d
  exact this
 rw [e]
 generalize Nat.gcd z.natAbs d=g at *
 have hm:=x1p (E:=E) (decide (z < 0)) (z.natAbs / g)
 rw [u5f z hg hdv] at hm
 have o1:=v9u (E:=E) (m:=g) (n:=z.natAbs) hg (by omega)
 have o2:=v9u (E:=E) (m:=g) (n:=d) hg (by omega)
 by_cases h1:g=1
 · subst h1
   rw [show ((1:Nat):Int)=1 from rfl,Int.ediv_one,Nat.div_one]
   exact q9r (i0:=1) hc (by rw [v8d]; rfl) (by rw [v8d]; rfl) rfl
 · by_cases hl:((Wr (words g)).length:Int)=1
   · rw [B3] at hl
     obtain ⟨w,hw⟩:∃ w,words g=[w]:=by
      cases hx:words g with
      | nil=>rw [hx] at hl; simp at hl
      | cons w m =>
       rw [hx] at hl
       cases m with
       | nil=>exact ⟨w,rfl⟩
       | cons=>simp at hl; omega
     refine q9s (i0:=w) hc (by rw [B3]; exact hl) (by rw [hw]; rfl) (fun e=>h1 ?_) o1 o2 hm
     have:=B5 g
     rw [hw,e] at this
     have hv:wv [(1:Int)]=1:=by decide
     omega
   · exact q9t hc hl o1 o2 hm
theorem q8y {z:Int} (h:z.natAbs < 4294967296):Fn E Z4 [.c (.i64 z)] (.agg (Qr (z:Rat))):=by
 have e:Qr (z:Rat)=[.bool (decide (z < 0)),.list (Wr (words z.natAbs)),.list (Wr (words 1))]:=by unfold Qr; rw [Rat.num_intCast,Rat.den_intCast]
 rw [e]
 exact w3v (u2l h) (k3m (n:=1) (by decide))
theorem r3_Neg (q:Rat):Fn E k1n [.agg (Qr q)] (.agg (Qr (-q))):=by
 have e:Qr (-q)=[.bool (decide (-q.num < 0)),.list (Wr (words (-q.num).natAbs)),.list (Wr (words q.den))]:=by unfold Qr; rw [Rat.neg_num,Rat.neg_den]
 rw [e]
 exact w3x (q2a q.num)
theorem j1m {x y:Rat} {K L:Nat} (hx:Sz x K) (hy:Sz y L) (h:K+L≤4*Lim):Fn E z6l [.agg (Qr x),.agg (Qr y)] (.agg (Qr (x*y))):=by
 rw [Rat.mul_def']
 have w1:=wl hx.2
 have w2:=wl hy.2
 have hl:Lim=1000000000:=rfl
 exact w3w (u2m hx.1 hy.1 h) (x6q (by omega)) (j9h (z1y hx.1 hy.1) (z5j hx.2 hy.2) (by omega) (by omega) (Nat.mul_ne_zero x.den_nz y.den_nz))
theorem j4y {x y:Rat} {K L:Nat} (hx:Sz x K) (hy:Sz y L) (h:K+L≤4*Lim):Fn E G4 [.c (.list (Wr (words x.num.natAbs))),.c (.list (Wr (words y.den)))] (.c (.list (Wr (words (x.num.natAbs*y.den)))))∧Fn E M9 [.c (.bool (decide (x.num < 0))),.c (.list (Wr (words (x.num.natAbs*y.den))))] (.agg (Zr (x.num*y.den))):=by
 have w1:=wl hx.1
 have w2:=wl hy.2
 have hl:Lim=1000000000:=rfl
 have hm:=x1p (E:=E) (decide (x.num < 0)) (x.num.natAbs*y.den)
 rw [w4y] at hm
 exact ⟨x6q (by omega),hm⟩
theorem w1v {m n:Nat}:cmpI m n=0↔m=n:=by rw [x5s]; omega
theorem k3q {x y:Rat} {K L:Nat} (hx:Sz x K) (hy:Sz y L) (h:K+L+1≤4*Lim):Fn E z2t [.agg (Qr x),.agg (Qr y)] (.agg (Qr (x+y))):=by
 have w1:=wl hx.2
 have w2:=wl hy.2
 have hl:Lim=1000000000:=rfl
 have hc:=q8w (E:=E) (m:=x.den) (n:=y.den) (by omega)
 by_cases c:x.den=y.den
 · have hp:=v9v (E:=E) hx.1 hy.1 (by omega) (by omega)
   have e:x+y=mkRat (x.num+y.num) x.den:=by
    rw [Rat.add_def',← c,← Int.add_mul]
    have:=Rat.mkRat_mul_right (n:=x.num+y.num) (d:=x.den) (a:=x.den) x.den_nz
    exact this
   rw [e]
   exact w3q hc (w1v.2 c) hp (j9h (x7n (z3c hx.1 (show K≤max K L by omega)) (z3c hy.1 (show L≤max K L by omega))) hx.2 (by omega) (by omega) x.den_nz)
 · rw [Rat.add_def']
   obtain ⟨t1,m1⟩:=j4y (E:=E) hx hy (by omega)
   obtain ⟨t2,m2⟩:=j4y (E:=E) hy hx (by omega)
   have a1:=z1y (b:=(y.den:Int)) hx.1 (show (y.den:Int).natAbs < 10 ^ L from hy.2)
   have a2:=z1y (b:=(x.den:Int)) hy.1 (show (x.den:Int).natAbs < 10 ^ K from hx.2)
   exact w3r hc (fun e=>c (w1v.1 e)) t1 m1 t2 m2 (v9v a1 a2 (by omega) (by omega)) (x6q (by omega)) (j9h (x7n a1 (by rw [Nat.add_comm K L]; exact a2)) (z5j hx.2 hy.2) (by omega) (by omega) (Nat.mul_ne_zero x.den_nz y.den_nz))
theorem u2n {x y:Rat} {K L:Nat} (hx:Sz x K) (hy:Sz y L) (h:K+L+1≤4*Lim):Fn E y1t [.agg (Qr x),.agg (Qr y)] (.agg (Qr (x - y))):=by
 rw [Rat.sub_eq_add_neg]
 exact w3y (r3_Neg y) (k3q hx hy.neg h)
theorem v9w (x:Rat):Fn E V5 [.agg (Qr x)] (.c (.i64 (cmpI x.num 0))):=w0w (j9g x.num)
theorem r3_Cmp {x y:Rat} {K L:Nat} (hx:Sz x K) (hy:Sz y L) (h:K+L≤4*Lim):Fn E y9q [.agg (Qr x),.agg (Qr y)] (.c (.i64 (cmpQ x y))):=by
 have s1:=v9w (E:=E) x
 have s2:=v9w (E:=E) y
 by_cases hs:cmpI x.num 0=cmpI y.num 0
 · obtain ⟨t1,m1⟩:=j4y (E:=E) hx hy (by omega)
   obtain ⟨t2,m2⟩:=j4y (E:=E) hy hx (by omega)
   have a1:=z1y (b:=(y.den:Int)) hx.1 (show (y.den:Int).natAbs < 10 ^ L from hy.2)
   have a2:=z1y (b:=(x.den:Int)) hy.1 (show (x.den:Int).natAbs < 10 ^ K from hx.2)
   exact w3u s1 s2 hs t1 m1 t2 m2 (r2_Cmp a1 a2 (by omega) (by omega))
 · rw [q7l hs]
   by_cases c:cmpI x.num 0 < cmpI y.num 0
   · rw [if_pos c]; exact w3s s1 s2 hs c
   · rw [if_neg c]; exact w3t s1 s2 hs c
theorem j4x {x y:Rat} {K L:Nat} (hx:Sz x K) (hy:Sz y L) (h:K+L≤4*Lim):Fn E K1 [.agg (Qr x),.agg (Qr y)] (.c (.bool (decide (x < y)))):=by
 have hc:=r3_Cmp (E:=E) hx hy h
 by_cases c:x < y
 · rw [decide_eq_true c]; exact w0u hc (v8p.2 c)
 · rw [decide_eq_false c]; exact w0v hc (fun e=>c (v8p.1 e))
theorem q2b {q:Rat} {K:Nat} (h:Sz q K) (hK:K≤Lim+Lim):Fn E z5f [.agg (Qr q)] (.c (.str (B (decQ q)))):=by
 have h1:=j3x h.1
 have h2:=w5y h
 have t1:=r2_To (E:=E) h.1 hK
 have t2:=r1_To (E:=E) h.2 hK
 rw [Y9] at hK
 by_cases hd:q.den=1
 · rw [z7u hd]
   exact w6t t1 t2 (by rw [hd,y9k]; rfl)
 · rw [z4w hd]
   exact w6s (s2:=B (47::dec q.den)) (by rw [B47,x5o]; rfl) (by rw [x5o]) t1 t2 (fun e=>hd (by rw [B49] at e; exact y7y.1 (y5o e))) (by rw [B47,F7,F7]; simp; omega) (by rw [F7,F7]; simp; omega)
theorem j8t {l:List UInt8} {i:Nat} {c:UInt8} (h:l[i]?=some c):(((B l).data.toList.getD (Int.toNat (i:Int)) 0).toNat:Int)=(c.toNat:Int):=by
 rw [y4k,Int.toNat_natCast,List.getD_eq_getElem?_getD,h]; rfl
theorem w5a {l:List UInt8} (h:(47:UInt8) ∉ l) (hl:l.length < 9223372036854775807):∀ d i,i+d=l.length→Lp E 0 X0 0 (z3e (B l) (i:Nat)) (.exit 0) (y8h (B l))
 | 0,i,hi=>k8a (by rw [F7]; omega)
 | d+1,i,hi=>by
  obtain ⟨c,hc⟩:∃ c,l[i]?=some c:=⟨l[i]'(by omega),List.getElem?_eq_getElem _⟩
  refine x4b (i2:=((i+1:Nat):Int)) (j8t hc) (wi (by omega)) (by rw [F7]; omega) (by rw [F7]; omega) (fun e=>h ?_) (w5a h hl d (i+1) (by omega))
  have:c=47:=UInt8.toNat_inj.1 (by simpa using Int.ofNat.inj e)
  subst this
  exact List.mem_of_getElem? hc
theorem v7u {p r:List UInt8} (h:(47:UInt8) ∉ p) (hl:(p++47::r).length < 9223372036854775807):∀ d i,i+d=p.length→Lp E 0 X0 0 (z3e (B (p++47::r)) (i:Nat)) .ret (y8g (B p) (B r))
 | 0,i,hi=>by
  simp only [List.length_append,List.length_cons] at hl
  have hc:(p++47::r)[i]?=some 47:=by rw [List.getElem?_append_right (by omega),show i - p.length=0 by omega]; rfl
  refine k7z (i3:=((i+1:Nat):Int)) (j8t hc) ?_ (wi (by omega)) ?_ (by rw [F7]; simp; omega) (by rw [F7]; simp; omega) (by decide) (by rw [F7]; simp; omega) (by rw [F7]; simp; omega)
  · rw [x1w,Int.toNat_natCast,List.drop_zero,show i=p.length by omega,List.take_left]
  · rw [x1w,F7,Int.toNat_natCast,Int.toNat_natCast,List.take_length,show i+1=p.length+1 by omega,List.drop_append,List.drop_eq_nil_of_le (by omega)]
    rw [show p.length+1 - p.length=1 by omega]; rfl
 | d+1,i,hi=>by
  have hl':=hl
  simp only [List.length_append,List.length_cons] at hl'
  obtain ⟨c,hc⟩:∃ c,p[i]?=some c:=⟨p[i]'(by omega),List.getElem?_eq_getElem _⟩
  have hc':(p++47::r)[i]?=some c:=by rw [List.getElem?_append_left (by omega)]; exact hc
  refine x4b (i2:=((i+1:Nat):Int)) (j8t hc') (wi (by omega)) (by rw [F7]; simp; omega) (by rw [F7]; simp; omega) (fun e=>h ?_) (v7u h hl d (i+1) (by omega))
  have:c=47:=UInt8.toNat_inj.1 (by simpa using Int.ofNat.inj e)
  subst this
  exact List.mem_of_getElem? hc
theorem k5n (n:Nat):(cmpI n 1 > 0↔1 < n)∧(cmpI n 1=0↔n=1):=by
 constructor
 · rw [v8o]; omega
 · rw [x5s]; omega
theorem w8b {l:List UInt8} (hl:l.length≤Lim):Fn E z1b [.c (.str (B l))] (.tup [.agg (Qr ((rd l).getD 0)),.c (.bool (rd l).isSome)]):=by
 have hl':=hl
 rw [Y9] at hl'
 have hz:=q8y (E:=E) (z:=0) (by decide)
 rw [show ((0:Int):Rat)=0 from rfl] at hz
 have h1:=k3m (E:=E) (n:=1) (by decide)
 by_cases hs:(47:UInt8)∈l
 · obtain ⟨p,r,rfl,hp⟩:=k2t l hs
   have hll:=hl
   simp only [List.length_append,List.length_cons] at hl hl'
   have hc:=v4v (v7u (E:=E) (p:=p) (r:=r) hp (by simp; omega) p.length 0 (by omega))
   have hv:=w3h (E:=E) p (by omega)
   have hnv:=x6r (E:=E) r (by omega)
   have none_of:(∀ q,p++47::r≠decQ q)→rd (p++47::r)=none:=fun hq=>by
    cases e:rd (p++47::r) with
    | none=>rfl
    | some q=>exact absurd (q6o e) (hq q)
   have shape:∀ q,p++47::r=decQ q→p=decZ q.num∧r=dec q.den∧q.den≠1:=by
    intro q e
    by_cases hd:q.den=1
    · rw [z7u hd] at e
      exact absurd (show (47:UInt8)∈decZ q.num by rw [← e]; simp) (z1i _)
    · rw [z4w hd] at e
      have:=w7o e hp (z1i _)
      exact ⟨this.1,this.2,hd⟩
   cases hi:intB p with
   | false =>
    rw [none_of (fun q e=>by rw [(shape q e).1,k5u] at hi; cases hi)]
    rw [hi] at hv
    exact j5r hc hv hz
   | true =>
    rw [hi] at hv
    cases hn:natB r with
    | false =>
     rw [none_of (fun q e=>by rw [(shape q e).2.1,q8q] at hn; cases hn)]
     rw [hn] at hnv
     exact w0t hc hv hnv hz
    | true =>
     rw [hn] at hnv
     obtain ⟨z,rfl⟩:=(k2w.1 hi).eq_decZ
     obtain ⟨n,rfl⟩:∃ n,r=dec n:=⟨_,(x6a.1 hn).eq_dec⟩
     have hzl:z.natAbs < 10 ^ (decZ z).length:=z3c (z4t _) (k2o z)
     have hnl:=z4t n
     have r1:=w8a (E:=E) hzl (by omega)
     have r2:=k3l (E:=E) hnl (by omega)
     have w1:=wl hzl
     have w2:=wl hnl
     have c1:=q8w (E:=E) (m:=n) (n:=1) (by omega)
     have sg:=j9g (E:=E) z
     have uq:∀ q,decZ z++47::dec n=decQ q→z=q.num∧n=q.den∧q.den≠1:=fun q e=>⟨k2m (shape q e).1,k5p (shape q e).2.1,(shape q e).2.2⟩
     by_cases hn1:1 < n
     · by_cases hz0:z=0
       · rw [none_of (fun q e=>by
          obtain ⟨e1,e2,e3⟩:=uq q e
          have hr:=q.reduced
          rw [← e1,hz0] at hr
          simp at hr
          exact e3 hr)]
         exact w0q hc hv hnv r1 r2 h1 c1 ((k5n n).1.2 hn1) sg (by rw [x5s]; exact hz0) hz
       · have g:=v7k (E:=E) (m:=z.natAbs) (n:=n) (L:=max (decZ z).length (dec n).length) (by omega) (by omega) (by omega)
         have hgl:Nat.gcd z.natAbs n < 10 ^ (dec n).length:=Nat.lt_of_le_of_lt (Nat.gcd_le_right _ (by omega)) hnl
         have c2:=q8w (E:=E) (m:=Nat.gcd z.natAbs n) (n:=1) (by have:=wl hgl; omega)
         by_cases hg1:Nat.gcd z.natAbs n=1
         · obtain ⟨q,e1,e2,e3⟩:=w7p z n hn1 hg1
           rw [← e3,k5z,e3]
           have eq:Qr q=[.bool (decide (z < 0)),.list (Wr (words z.natAbs)),.list (Wr (words n))]:=by unfold Qr; rw [e1,e2]
           show Fn E z1b _ (.tup [.agg (Qr q),.c (.bool true)])
           rw [eq]
           exact w0o hc hv hnv r1 r2 h1 c1 ((k5n n).1.2 hn1) sg (by rw [x5s]; exact hz0) g c2 ((k5n _).2.2 hg1)
         · rw [none_of (fun q e=>by
            obtain ⟨e1,e2,e3⟩:=uq q e
            have hr:=q.reduced
            rw [← e1,← e2] at hr
            exact hg1 hr)]
           exact w0p hc hv hnv r1 r2 h1 c1 ((k5n n).1.2 hn1) sg (by rw [x5s]; exact hz0) g c2 (fun e=>hg1 ((k5n _).2.1 e)) hz
     · rw [none_of (fun q e=>by
        obtain ⟨e1,e2,e3⟩:=uq q e
        have:=q.den_nz
        omega)]
       exact w0r hc hv hnv r1 r2 h1 c1 (fun e=>hn1 ((k5n n).1.1 e)) hz
 · have hc:=v4w (w5a (E:=E) hs (by omega) l.length 0 (by omega))
   have hv:=w3h (E:=E) l (by omega)
   have hnv:=x6r (E:=E) [49] (by decide)
   rw [show natB [49]=true from by decide] at hnv
   cases hi:intB l with
   | false =>
    have:rd l=none:=by
     cases e:rd l with
     | none=>rfl
     | some q =>
      have e2:=q6o e
      by_cases hd:q.den=1
      · rw [z7u hd] at e2; rw [e2,k5u] at hi; cases hi
      · rw [z4w hd] at e2; exact absurd (by rw [e2]; simp) hs
    rw [this]
    rw [hi] at hv
    exact j5r hc hv hz
   | true =>
    obtain ⟨z,rfl⟩:=(k2w.1 hi).eq_decZ
    rw [hi] at hv
    have hzl:z.natAbs < 10 ^ (decZ z).length:=z3c (z4t _) (k2o z)
    have r2:=k3l (E:=E) (n:=1) (K:=1) (by decide) (by rw [Y9]; omega)
    rw [y9k] at r2
    have e:rd (decZ z)=some (z:Rat):=by rw [← x7r,k5z]
    rw [e]
    have eq:Qr ((some (z:Rat)).getD 0)=[.bool (decide (z < 0)),.list (Wr (words z.natAbs)),.list (Wr (words 1))]:=by
     show Qr (z:Rat)=_
     unfold Qr; rw [Rat.num_intCast,Rat.den_intCast]
    rw [eq]
    exact w0s hc hv hnv (w8a hzl (by omega)) r2
theorem q6n {l:List UInt8} (hl:l.length≤Lim):Fn E D9 [.c (.str (B l))] (.agg (Qr ((rd l).getD 0))):=w4e (w8b hl)
theorem u2o {l:List UInt8} (hl:l.length≤Lim):Fn E G0 [.c (.str (B l))] (.c (.bool (rd l).isSome)):=v4u (w8b hl)
end Gev
namespace Gev
open Go
variable {E:Env}
theorem z1g {α:Type} {l:List α} {i:Nat} (h:i < l.length):∃ c,l[i]?=some c:=⟨l[i],List.getElem?_eq_getElem h⟩
theorem C1 {α:Type} {l:List α} {i:Nat} {a:α} (h:l[i]?=some a):i < l.length:=(List.getElem?_eq_some_iff.1 h).1
theorem j4k {α:Type} {l:List α} {i:Nat} {c:α} (h:l[i]?=some c):l.drop i=c::l.drop (i+1):=by
 obtain ⟨h1,h2⟩:=List.getElem?_eq_some_iff.1 h
 rw [← h2]; exact List.drop_eq_getElem_cons h1
theorem I3 {α:Type} {n F k:Nat} {l:List α} (bad:Nat→α→Bool) (st:Nat→St) {oe:Out} {fin:St} (Left:Nat→α→Out→St→Prop)
    (hend:Lp E n F k (st l.length) oe fin) (hstep:∀ i a,l[i]?=some a→bad i a=false→∀ o s,Lp E n F k (st (i+1)) o s→Lp E n F k (st i) o s)
    (hout:∀ i a,l[i]?=some a→bad i a=true→∃ o s,Left i a o s∧Lp E n F k (st i) o s):∀ d i:Nat,i+d=l.length →
    ((∀ j a,i≤j→l[j]?=some a→bad j a=false)∧Lp E n F k (st i) oe fin) ∨
    (∃ j a o s,i≤j∧l[j]?=some a∧bad j a=true∧(∀ j' a',i≤j'→j' < j→l[j']?=some a'→bad j' a'=false)∧Left j a o s∧Lp E n F k (st i) o s)
 | 0,i,hi=>by
  have:i=l.length:=by omega
  subst this
  exact .inl ⟨fun j a hj h=>by have:=(List.getElem?_eq_some_iff.1 h).1; omega,hend⟩
 | d+1,i,hi=>by
  obtain ⟨a,ha⟩:=z1g (l:=l) (i:=i) (by omega)
  cases hb:bad i a with
  | true =>
   obtain ⟨o,s,h1,h2⟩:=hout i a ha hb
   exact .inr ⟨i,a,o,s,Nat.le_refl _,ha,hb,fun j' a' h1 h2=>by omega,h1,h2⟩
  | false =>
   rcases I3 bad st Left hend hstep hout d (i+1) (by omega) with ⟨h1,h2⟩ | ⟨j,b,o,s,h1,h2,h3,h4,h5,h6⟩
   · refine .inl ⟨fun j b hj h=>?_,hstep i a ha hb _ _ h2⟩
     by_cases e:j=i
     · subst e; rw [ha] at h; cases h; exact hb
     · exact h1 j b (by omega) h
   · refine .inr ⟨j,b,o,s,by omega,h2,h3,fun j' a' g1 g2 g3=>?_,h5,hstep i a ha hb _ _ h6⟩
     by_cases e:j'=i
     · subst e; rw [ha] at g3; cases g3; exact hb
     · exact h4 j' a' (by omega) g2 g3
theorem I9 {α β:Type} {n F k:Nat} {l:List α} (nxt:β→α→β) (Inv:Nat→β→Prop) (st:Nat→β→St) {oe:Out} {fin:β→St}
    (hend:∀ b,Inv l.length b→Lp E n F k (st l.length b) oe (fin b)) (hstep:∀ i a b,l[i]?=some a→Inv i b→Inv (i+1) (nxt b a)∧∀ o s,Lp E n F k (st (i+1) (nxt b a)) o s→Lp E n F k (st i b) o s):∀ (d i:Nat) (b:β),i+d=l.length→Inv i b →
    Inv l.length ((l.drop i).foldl nxt b)∧Lp E n F k (st i b) oe (fin ((l.drop i).foldl nxt b))
 | 0,i,b,hi,hb=>by
  have:i=l.length:=by omega
  subst this
  rw [List.drop_length]
  exact ⟨hb,hend b hb⟩
 | d+1,i,b,hi,hb=>by
  obtain ⟨a,ha⟩:=z1g (l:=l) (i:=i) (by omega)
  obtain ⟨h1,h2⟩:=hstep i a b ha hb
  obtain ⟨h3,h4⟩:=I9 nxt Inv st hend hstep d (i+1) (nxt b a) (by omega) h1
  rw [j4k ha]
  exact ⟨h3,h2 _ _ h4⟩
end Gev
namespace Gev
open Go Gb
variable {E:Env}
abbrev Sq (q:Rat):AV:=.c (.str (B (decQ q)))
def R1 (l:List (List UInt8)):RW:=l.map fun p=>[.str (B p)]
theorem z6g (l:List (List UInt8)):(R1 l).length=l.length:=by simp [R1]
theorem x0l {l:List (List UInt8)} {i:Nat} {x} (h:l[i]?=some x):(R1 l)[i]?=some [.str (B x)]:=by simp [R1,h]
noncomputable def ok1 (l:List UInt8):Bool:=(rd l).isSome
structure Pc where
 (id un cl:Int)
 (nm ma vo wo:List UInt8)
structure Hd where
 (id:Int)
 (nm ro mo x y z:List UInt8)
structure Ru where
 (nm:List UInt8)
 (kd:Int)
 (fs:List (List UInt8))
 (lo hi:List UInt8)
 (a b:Int)
structure Sw where
 (ho pa un:Int)
def Pc.d (p:Pc):List DV:=[.i64 p.id,.i64 p.un,.i64 p.cl,.str (B p.nm),.str (B p.ma),.str (B p.vo),.str (B p.wo)]
def Hd.d (p:Hd):List DV:=[.i64 p.id,.str (B p.nm),.str (B p.ro),.str (B p.mo),.str (B p.x),.str (B p.y),.str (B p.z)]
def Ru.d (p:Ru):List DV:=[.str (B p.nm),.i64 p.kd,.list (R1 p.fs),.str (B p.lo),.str (B p.hi),.i64 p.a,.i64 p.b]
def Sw.d (p:Sw):List DV:=[.i64 p.ho,.i64 p.pa,.i64 p.un]
def Ps (l:List Pc):RW:=l.map Pc.d
def Hs (l:List Hd):RW:=l.map Hd.d
def Rs (l:List Ru):RW:=l.map Ru.d
def Ss (l:List Sw):RW:=l.map Sw.d
theorem z3q (l):(Ps l).length=l.length:=by simp [Ps]
theorem z0k (l):(Hs l).length=l.length:=by simp [Hs]
theorem y0n (l):(Rs l).length=l.length:=by simp [Rs]
theorem y5y (l):(Ss l).length=l.length:=by simp [Ss]
theorem X6 {l:List Pc} {i:Nat} {x} (h:l[i]?=some x):(Ps l)[i]?=some x.d:=by simp [Ps,h]
theorem z0b {l:List Hd} {i:Nat} {x} (h:l[i]?=some x):(Hs l)[i]?=some x.d:=by simp [Hs,h]
theorem z5h {l:List Ru} {i:Nat} {x} (h:l[i]?=some x):(Rs l)[i]?=some x.d:=by simp [Rs,h]
theorem z0c {l:List Sw} {i:Nat} {x} (h:l[i]?=some x):(Ss l)[i]?=some x.d:=by simp [Ss,h]
theorem A5 {α:Type} {l:List α} {i:Nat} {x:Option α} (h:l[i]?=x):l[(Int.toNat (i:Nat))]?=x:=by rw [Int.toNat_natCast]; exact h
def ix {α:Type} (p:α→Bool) (l:List α):Int:=match l.findIdx? p with
 | some i=>(i:Int)
 | none=>-1
theorem z7m {α:Type} {p:α→Bool} {l:List α} (h:∀ j a,0≤j→l[j]?=some a→p a=false):ix p l=-1:=by
 unfold ix
 rw [List.findIdx?_eq_none_iff.2 fun a ha=>by obtain ⟨j,hj⟩:=List.mem_iff_getElem?.1 ha; exact h j a (Nat.zero_le _) hj]
theorem z7n {α:Type} {p:α→Bool} {l:List α} {j:Nat} {a:α} (h:l[j]?=some a) (hp:p a=true) (hn:∀ j' a',0≤j'→j' < j→l[j']?=some a'→p a'=false):ix p l=j:=by
 unfold ix
 rw [List.findIdx?_eq_some_iff_getElem.2 ⟨(List.getElem?_eq_some_iff.1 h).1,by rw [(List.getElem?_eq_some_iff.1 h).2]; exact hp,fun j' hj'=>by rw [hn j' _ (Nat.zero_le _) hj' (List.getElem?_eq_getElem (Nat.lt_trans hj' (List.getElem?_eq_some_iff.1 h).1))]; simp⟩]
theorem z4e {α:Type} {p:α→Bool} {l:List α}:ix p l < 0↔l.any p=false:=by
 unfold ix
 cases h:l.findIdx? p with
 | none =>
  have:=List.findIdx?_eq_none_iff.1 h
  refine ⟨fun _=>?_,fun _=>by decide⟩
  rw [List.any_eq_false]; intro x hx; rw [this x hx]; simp
 | some i =>
  refine ⟨fun h=>absurd h (by simp),fun h2=>?_⟩
  obtain ⟨h3,h4,h5⟩:=List.findIdx?_eq_some_iff_getElem.1 h
  rw [List.any_eq_false] at h2
  exact absurd h4 (h2 _ (List.getElem_mem h3))
theorem q8m {α:Type} {p:α→Bool} {l:List α} (h:¬ ix p l < 0):∃ a,l[(ix p l).toNat]?=some a∧p a=true:=by
 unfold ix at h ⊢
 cases h2:l.findIdx? p with
 | none=>rw [h2] at h; exact absurd (by decide) h
 | some i =>
  obtain ⟨h3,h4,h5⟩:=List.findIdx?_eq_some_iff_getElem.1 h2
  exact ⟨l[i],by simp,h4⟩
theorem y2t (hlib:Lib E) {a b:Rat} {K L:Nat} (ha:Sz a K) (hb:Sz b L) (h:K+L+1≤Lim):Fn E z8k [Sq a,Sq b] (Sq (a+b)):=w1t (x9f hlib ha hb h)
theorem y2u (hlib:Lib E) {a b:Rat} {K L:Nat} (ha:Sz a K) (hb:Sz b L) (h:K+L≤Lim):Fn E z8l [Sq a,Sq b] (Sq (a*b)):=w1u (x9g hlib ha hb h)
theorem y7t (hlib:Lib E) {a b:Rat} {K L:Nat} (ha:Sz a K) (hb:Sz b L) (h:K+L≤Lim):Fn E z9w [Sq a,Sq b] (.c (.i64 (cmpQ a b))):=q2q (y3o hlib ha hb h)
theorem x5r:(AV.c (.str (⟨#[48]⟩:BA)))=Sq 0:=by unfold Sq; rw [j8j]; rfl
theorem v3c (hlib:Lib E) {a:Rat} {K:Nat} (ha:Sz a K) (h:K+1≤Lim):Fn E z0y [Sq a] (.c (.i64 (cmpQ a 0))):=by
 have:=y7t hlib ha Sz.zero h
 rw [← x5r] at this
 exact v8l this
theorem x8z {a b:Int}:Fn E O2 [.c (.i64 a),.c (.i64 b)] (.c (.bool (decide (1≤a∧a≤b)))):=by
 by_cases h1:a≥1
 · by_cases h2:a≤b
   · rw [decide_eq_true ⟨h1,h2⟩]; exact q7d h1 h2
   · rw [decide_eq_false fun h=>h2 h.2]; exact q7e h1 h2
 · rw [decide_eq_false fun h=>h1 h.1]; exact q7f h1
def nmB (s:List UInt8):Bool:=decide (1≤s.length∧s.length≤64)
theorem U5 (s:List UInt8):((B s).size:Int)=s.length:=by rw [F7]
theorem q6y {s:List UInt8}:Fn E Z8 [.c (.str (B s))] (.c (.bool (nmB s))):=by
 unfold nmB
 have hs:=U5 s
 by_cases h1:1≤s.length
 · by_cases h2:s.length≤64
   · rw [decide_eq_true ⟨h1,h2⟩]; exact v2y (by omega) (by omega)
   · rw [decide_eq_false fun h=>h2 h.2]; exact v2z (by omega) (by omega)
 · rw [decide_eq_false fun h=>h1 h.1]; exact v3a (by omega)
end Gev
namespace Gev
open Go Gb
variable {E:Env}
theorem x9x {c0_0:RW} {c0_1:RW} {c1_0:RW} {l:List Hd} (p:Hd→Bool) (hl:l.length < 9223372036854775807) (hf:∀ a∈l,Rn E J0 [.agg a.d,.ptr 0 0,.ptr 1 0] [some (.cells [.c (.list c0_0),.c (.list c0_1)]),some (.cells [.c (.list c1_0)])] (.c (.bool (p a))) [some (.cells [.c (.list c0_0),.c (.list c0_1)]),some (.cells [.c (.list c1_0)])]) :
    Rn E B1 [.c (.list (Hs l)),.fn J0 [.ptr 0 0,.ptr 1 0]] [some (.cells [.c (.list c0_0),.c (.list c0_1)]),some (.cells [.c (.list c1_0)])] (.c (.i64 (ix p l))) [some (.cells [.c (.list c0_0),.c (.list c0_1)]),some (.cells [.c (.list c1_0)])]:=by
 have hq:=z0k l
 have h:=I3 (l:=l) (fun _ a=>p a) (fun i=>P0 (Hs l) ((Hs l).length:Int) (i:Nat) c0_0 c0_1 c1_0) (fun j _ o s=>o=.ret∧s=z5r c0_0 c0_1 c1_0 (j:Int)) (x0b (by omega))
  (fun i a ha hb o s ih=>by
   have hi:=C1 ha; have hc:=hf a (List.mem_of_getElem? ha); rw [show p a=false from hb] at hc
   exact x1s (by omega) (by omega) (A5 (z0b ha)) hc (wi (by omega)) ih)
  (fun i a ha hb=>by
   have hi:=C1 ha; have hc:=hf a (List.mem_of_getElem? ha); rw [show p a=true from hb] at hc
   exact ⟨_,_,⟨rfl,rfl⟩,x0a (by omega) (by omega) (A5 (z0b ha)) hc⟩) l.length 0 (by omega)
 rcases h with ⟨h1,h2⟩ | ⟨j,a,o,s,h1,h2,h3,h4,⟨rfl,rfl⟩,h5⟩
 · rw [z7m fun j a hj h=>h1 j a hj h]; exact z8j h2
 · rw [z7n h2 h3 fun j a hj hk h=>h4 j a hj hk h]; exact z8i h5
theorem j4h {c1_0:BA} {l:List Ru} {w0:RW} (hw:∀ (i:Nat) a,l[i]?=some a→w0[i]?=some (a.d)) (p:Ru→Bool) (hl:l.length < 9223372036854775807) (hf:∀ a∈l,Rn E G2 [.agg a.d,.ptr 1 0] [some (.vec D1 w0),some (.cells [.c (.str c1_0)])] (.c (.bool (p a))) [some (.vec D1 w0),some (.cells [.c (.str c1_0)])]) :
    Rn E B7 [.vec 0 l.length,.fn G2 [.ptr 1 0]] [some (.vec D1 w0),some (.cells [.c (.str c1_0)])] (.c (.i64 (ix p l))) [some (.vec D1 w0),some (.cells [.c (.str c1_0)])]:=by
 have h:=I3 (l:=l) (fun _ a=>p a) (fun i=>P2 l.length ((l.length:Nat):Int) (i:Nat) w0 c1_0) (fun j _ o s=>o=.ret∧s=z5t w0 c1_0 (j:Int)) (x0g (by omega))
  (fun i a ha hb o s ih=>by
   have hi:=C1 ha; have hc:=hf a (List.mem_of_getElem? ha); rw [show p a=false from hb] at hc
   exact x1u (by omega) (⟨by omega,by omega⟩) (A5 (hw _ _ ha)) hc (wi (by omega)) ih)
  (fun i a ha hb=>by
   have hi:=C1 ha; have hc:=hf a (List.mem_of_getElem? ha); rw [show p a=true from hb] at hc
   exact ⟨_,_,⟨rfl,rfl⟩,x0f (by omega) (⟨by omega,by omega⟩) (A5 (hw _ _ ha)) hc⟩) l.length 0 (by omega)
 rcases h with ⟨h1,h2⟩ | ⟨j,a,o,s,h1,h2,h3,h4,⟨rfl,rfl⟩,h5⟩
 · rw [z7m fun j a hj h=>h1 j a hj h]; exact y1r h2
 · rw [z7n h2 h3 fun j a hj hk h=>h4 j a hj hk h]; exact y1q h5
theorem j1c {l:List (List UInt8)} (p:List UInt8→Bool) (hl:l.length < 9223372036854775807) (hf:∀ a∈l,Fn E H8 [.c (.str (B a))] (.c (.bool (p a)))) :
    Fn E C0 [.c (.list (R1 l)),.fn H8 []] (.c (.i64 (ix p l))):=by
 have hq:=z6g l
 have h:=I3 (l:=l) (fun _ a=>p a) (fun i=>U4 (R1 l) ((R1 l).length:Int) (i:Nat)) (fun j _ o s=>o=.ret∧s=z6h (j:Int)) (x1a (by omega))
  (fun i a ha hb o s ih=>by
   have hi:=C1 ha; have hc:=hf a (List.mem_of_getElem? ha); rw [show p a=false from hb] at hc
   exact x2y (by omega) (by omega) (A5 (x0l ha)) hc (wi (by omega)) ih)
  (fun i a ha hb=>by
   have hi:=C1 ha; have hc:=hf a (List.mem_of_getElem? ha); rw [show p a=true from hb] at hc
   exact ⟨_,_,⟨rfl,rfl⟩,x0z (by omega) (by omega) (A5 (x0l ha)) hc⟩) l.length 0 (by omega)
 rcases h with ⟨h1,h2⟩ | ⟨j,a,o,s,h1,h2,h3,h4,⟨rfl,rfl⟩,h5⟩
 · rw [z7m fun j a hj h=>h1 j a hj h]; exact y1p h2
 · rw [z7n h2 h3 fun j a hj hk h=>h4 j a hj hk h]; exact y1o h5
theorem j0p {l:List (List UInt8)} (p:List UInt8→Bool) (hl:l.length < 9223372036854775807) (hf:∀ a∈l,Fn E H8 [.c (.str (B a))] (.c (.bool (p a)))) :
    Fn E I4 [.c (.list (R1 l)),.fn H8 []] (.c (.bool (l.any p))):=by
 have h:=j1c p hl hf
 cases hp:l.any p with
 | false=>exact z9g h (by have:=z4e.2 hp; omega)
 | true =>
  have hn:¬ ix p l < 0:=fun h=>by rw [z4e.1 h] at hp; cases hp
  exact z9f h (by omega)
theorem j1d {c0_0:BA} {c0_1:Int} {c0_2:RW} {c0_3:BA} {c0_4:BA} {c0_5:Int} {c0_6:Int} {l:List Ru} (p:Ru→Bool) (hl:l.length < 9223372036854775807) (hf:∀ a∈l,Rn E G9 [.agg a.d,.ptr 0 0] [some (.cells [.c (.str c0_0),.c (.i64 c0_1),.c (.list c0_2),.c (.str c0_3),.c (.str c0_4),.c (.i64 c0_5),.c (.i64 c0_6)])] (.c (.bool (p a))) [some (.cells [.c (.str c0_0),.c (.i64 c0_1),.c (.list c0_2),.c (.str c0_3),.c (.str c0_4),.c (.i64 c0_5),.c (.i64 c0_6)])]) :
    Rn E B7 [.c (.list (Rs l)),.fn G9 [.ptr 0 0]] [some (.cells [.c (.str c0_0),.c (.i64 c0_1),.c (.list c0_2),.c (.str c0_3),.c (.str c0_4),.c (.i64 c0_5),.c (.i64 c0_6)])] (.c (.i64 (ix p l))) [some (.cells [.c (.str c0_0),.c (.i64 c0_1),.c (.list c0_2),.c (.str c0_3),.c (.str c0_4),.c (.i64 c0_5),.c (.i64 c0_6)])]:=by
 have hq:=y0n l
 have h:=I3 (l:=l) (fun _ a=>p a) (fun i=>N7 (Rs l) ((Rs l).length:Int) (i:Nat) c0_0 c0_1 c0_2 c0_3 c0_4 c0_5 c0_6) (fun j _ o s=>o=.ret∧s=z4o c0_0 c0_1 c0_2 c0_3 c0_4 c0_5 c0_6 (j:Int)) (y8y (by omega))
  (fun i a ha hb o s ih=>by
   have hi:=C1 ha; have hc:=hf a (List.mem_of_getElem? ha); rw [show p a=false from hb] at hc
   exact x1b (by omega) (by omega) (A5 (z5h ha)) hc (wi (by omega)) ih)
  (fun i a ha hb=>by
   have hi:=C1 ha; have hc:=hf a (List.mem_of_getElem? ha); rw [show p a=true from hb] at hc
   exact ⟨_,_,⟨rfl,rfl⟩,y8x (by omega) (by omega) (A5 (z5h ha)) hc⟩) l.length 0 (by omega)
 rcases h with ⟨h1,h2⟩ | ⟨j,a,o,s,h1,h2,h3,h4,⟨rfl,rfl⟩,h5⟩
 · rw [z7m fun j a hj h=>h1 j a hj h]; exact y0x h2
 · rw [z7n h2 h3 fun j a hj hk h=>h4 j a hj hk h]; exact y0w h5
theorem j0q {c0_0:BA} {c0_1:Int} {c0_2:RW} {c0_3:BA} {c0_4:BA} {c0_5:Int} {c0_6:Int} {l:List Ru} (p:Ru→Bool) (hl:l.length < 9223372036854775807) (hf:∀ a∈l,Rn E G9 [.agg a.d,.ptr 0 0] [some (.cells [.c (.str c0_0),.c (.i64 c0_1),.c (.list c0_2),.c (.str c0_3),.c (.str c0_4),.c (.i64 c0_5),.c (.i64 c0_6)])] (.c (.bool (p a))) [some (.cells [.c (.str c0_0),.c (.i64 c0_1),.c (.list c0_2),.c (.str c0_3),.c (.str c0_4),.c (.i64 c0_5),.c (.i64 c0_6)])]) :
    Rn E Y2 [.c (.list (Rs l)),.fn G9 [.ptr 0 0]] [some (.cells [.c (.str c0_0),.c (.i64 c0_1),.c (.list c0_2),.c (.str c0_3),.c (.str c0_4),.c (.i64 c0_5),.c (.i64 c0_6)])] (.c (.bool (l.any p))) [some (.cells [.c (.str c0_0),.c (.i64 c0_1),.c (.list c0_2),.c (.str c0_3),.c (.str c0_4),.c (.i64 c0_5),.c (.i64 c0_6)])]:=by
 have h:=j1d p hl hf
 cases hp:l.any p with
 | false=>exact z8f h (by have:=z4e.2 hp; omega)
 | true =>
  have hn:¬ ix p l < 0:=fun h=>by rw [z4e.1 h] at hp; cases hp
  exact z8e h (by omega)
theorem j1h {c0_0:BA} {c0_1:Int} {c0_2:RW} {c0_3:BA} {c0_4:BA} {c0_5:Int} {c0_6:Int} {l:List Pc} (p:Pc→Bool) (hl:l.length < 9223372036854775807) (hf:∀ a∈l,Rn E V2 [.agg a.d,.ptr 0 0] [some (.cells [.c (.str c0_0),.c (.i64 c0_1),.c (.list c0_2),.c (.str c0_3),.c (.str c0_4),.c (.i64 c0_5),.c (.i64 c0_6)])] (.c (.bool (p a))) [some (.cells [.c (.str c0_0),.c (.i64 c0_1),.c (.list c0_2),.c (.str c0_3),.c (.str c0_4),.c (.i64 c0_5),.c (.i64 c0_6)])]) :
    Rn E A6 [.c (.list (Ps l)),.fn V2 [.ptr 0 0]] [some (.cells [.c (.str c0_0),.c (.i64 c0_1),.c (.list c0_2),.c (.str c0_3),.c (.str c0_4),.c (.i64 c0_5),.c (.i64 c0_6)])] (.c (.i64 (ix p l))) [some (.cells [.c (.str c0_0),.c (.i64 c0_1),.c (.list c0_2),.c (.str c0_3),.c (.str c0_4),.c (.i64 c0_5),.c (.i64 c0_6)])]:=by
 have hq:=z3q l
 have h:=I3 (l:=l) (fun _ a=>p a) (fun i=>M7 (Ps l) ((Ps l).length:Int) (i:Nat) c0_0 c0_1 c0_2 c0_3 c0_4 c0_5 c0_6) (fun j _ o s=>o=.ret∧s=z3v c0_0 c0_1 c0_2 c0_3 c0_4 c0_5 c0_6 (j:Int)) (y7j (by omega))
  (fun i a ha hb o s ih=>by
   have hi:=C1 ha; have hc:=hf a (List.mem_of_getElem? ha); rw [show p a=false from hb] at hc
   exact x0c (by omega) (by omega) (A5 (X6 ha)) hc (wi (by omega)) ih)
  (fun i a ha hb=>by
   have hi:=C1 ha; have hc:=hf a (List.mem_of_getElem? ha); rw [show p a=true from hb] at hc
   exact ⟨_,_,⟨rfl,rfl⟩,y7i (by omega) (by omega) (A5 (X6 ha)) hc⟩) l.length 0 (by omega)
 rcases h with ⟨h1,h2⟩ | ⟨j,a,o,s,h1,h2,h3,h4,⟨rfl,rfl⟩,h5⟩
 · rw [z7m fun j a hj h=>h1 j a hj h]; exact z9o h2
 · rw [z7n h2 h3 fun j a hj hk h=>h4 j a hj hk h]; exact z9n h5
theorem j8x {l:List (List UInt8)} (p:List UInt8→Bool) (hl:l.length < 9223372036854775807) (hf:∀ a∈l,Fn E K8 [.c (.str (B a))] (.c (.bool (p a)))) :
    Fn E C0 [.c (.list (R1 l)),.fn K8 []] (.c (.i64 (ix p l))):=by
 have hq:=z6g l
 have h:=I3 (l:=l) (fun _ a=>p a) (fun i=>P1 (R1 l) ((R1 l).length:Int) (i:Nat)) (fun j _ o s=>o=.ret∧s=z5s (j:Int)) (x0e (by omega))
  (fun i a ha hb o s ih=>by
   have hi:=C1 ha; have hc:=hf a (List.mem_of_getElem? ha); rw [show p a=false from hb] at hc
   exact x1t (by omega) (by omega) (A5 (x0l ha)) hc (wi (by omega)) ih)
  (fun i a ha hb=>by
   have hi:=C1 ha; have hc:=hf a (List.mem_of_getElem? ha); rw [show p a=true from hb] at hc
   exact ⟨_,_,⟨rfl,rfl⟩,x0d (by omega) (by omega) (A5 (x0l ha)) hc⟩) l.length 0 (by omega)
 rcases h with ⟨h1,h2⟩ | ⟨j,a,o,s,h1,h2,h3,h4,⟨rfl,rfl⟩,h5⟩
 · rw [z7m fun j a hj h=>h1 j a hj h]; exact y3c h2
 · rw [z7n h2 h3 fun j a hj hk h=>h4 j a hj hk h]; exact y3b h5
theorem j8i {l:List (List UInt8)} (p:List UInt8→Bool) (hl:l.length < 9223372036854775807) (hf:∀ a∈l,Fn E K8 [.c (.str (B a))] (.c (.bool (p a)))) :
    Fn E I4 [.c (.list (R1 l)),.fn K8 []] (.c (.bool (l.any p))):=by
 have h:=j8x p hl hf
 cases hp:l.any p with
 | false=>exact y0q h (by have:=z4e.2 hp; omega)
 | true =>
  have hn:¬ ix p l < 0:=fun h=>by rw [z4e.1 h] at hp; cases hp
  exact y0p h (by omega)
theorem j1f {c0_0:BA} {c0_1:Int} {c0_2:RW} {c0_3:BA} {c0_4:BA} {c0_5:Int} {c0_6:Int} {l:List Hd} (p:Hd→Bool) (hl:l.length < 9223372036854775807) (hf:∀ a∈l,Rn E H1 [.agg a.d,.ptr 0 0] [some (.cells [.c (.str c0_0),.c (.i64 c0_1),.c (.list c0_2),.c (.str c0_3),.c (.str c0_4),.c (.i64 c0_5),.c (.i64 c0_6)])] (.c (.bool (p a))) [some (.cells [.c (.str c0_0),.c (.i64 c0_1),.c (.list c0_2),.c (.str c0_3),.c (.str c0_4),.c (.i64 c0_5),.c (.i64 c0_6)])]) :
    Rn E B1 [.c (.list (Hs l)),.fn H1 [.ptr 0 0]] [some (.cells [.c (.str c0_0),.c (.i64 c0_1),.c (.list c0_2),.c (.str c0_3),.c (.str c0_4),.c (.i64 c0_5),.c (.i64 c0_6)])] (.c (.i64 (ix p l))) [some (.cells [.c (.str c0_0),.c (.i64 c0_1),.c (.list c0_2),.c (.str c0_3),.c (.str c0_4),.c (.i64 c0_5),.c (.i64 c0_6)])]:=by
 have hq:=z0k l
 have h:=I3 (l:=l) (fun _ a=>p a) (fun i=>N5 (Hs l) ((Hs l).length:Int) (i:Nat) c0_0 c0_1 c0_2 c0_3 c0_4 c0_5 c0_6) (fun j _ o s=>o=.ret∧s=z4m c0_0 c0_1 c0_2 c0_3 c0_4 c0_5 c0_6 (j:Int)) (y8r (by omega))
  (fun i a ha hb o s ih=>by
   have hi:=C1 ha; have hc:=hf a (List.mem_of_getElem? ha); rw [show p a=false from hb] at hc
   exact x0x (by omega) (by omega) (A5 (z0b ha)) hc (wi (by omega)) ih)
  (fun i a ha hb=>by
   have hi:=C1 ha; have hc:=hf a (List.mem_of_getElem? ha); rw [show p a=true from hb] at hc
   exact ⟨_,_,⟨rfl,rfl⟩,y8q (by omega) (by omega) (A5 (z0b ha)) hc⟩) l.length 0 (by omega)
 rcases h with ⟨h1,h2⟩ | ⟨j,a,o,s,h1,h2,h3,h4,⟨rfl,rfl⟩,h5⟩
 · rw [z7m fun j a hj h=>h1 j a hj h]; exact y0v h2
 · rw [z7n h2 h3 fun j a hj hk h=>h4 j a hj hk h]; exact y0u h5
theorem j0s {c0_0:BA} {c0_1:Int} {c0_2:RW} {c0_3:BA} {c0_4:BA} {c0_5:Int} {c0_6:Int} {l:List Hd} (p:Hd→Bool) (hl:l.length < 9223372036854775807) (hf:∀ a∈l,Rn E H1 [.agg a.d,.ptr 0 0] [some (.cells [.c (.str c0_0),.c (.i64 c0_1),.c (.list c0_2),.c (.str c0_3),.c (.str c0_4),.c (.i64 c0_5),.c (.i64 c0_6)])] (.c (.bool (p a))) [some (.cells [.c (.str c0_0),.c (.i64 c0_1),.c (.list c0_2),.c (.str c0_3),.c (.str c0_4),.c (.i64 c0_5),.c (.i64 c0_6)])]) :
    Rn E Y1 [.c (.list (Hs l)),.fn H1 [.ptr 0 0]] [some (.cells [.c (.str c0_0),.c (.i64 c0_1),.c (.list c0_2),.c (.str c0_3),.c (.str c0_4),.c (.i64 c0_5),.c (.i64 c0_6)])] (.c (.bool (l.any p))) [some (.cells [.c (.str c0_0),.c (.i64 c0_1),.c (.list c0_2),.c (.str c0_3),.c (.str c0_4),.c (.i64 c0_5),.c (.i64 c0_6)])]:=by
 have h:=j1f p hl hf
 cases hp:l.any p with
 | false=>exact z8d h (by have:=z4e.2 hp; omega)
 | true =>
  have hn:¬ ix p l < 0:=fun h=>by rw [z4e.1 h] at hp; cases hp
  exact z8c h (by omega)
theorem j1g {c0_0:BA} {c0_1:Int} {c0_2:RW} {c0_3:BA} {c0_4:BA} {c0_5:Int} {c0_6:Int} {l:List Pc} (p:Pc→Bool) (hl:l.length < 9223372036854775807) (hf:∀ a∈l,Rn E H2 [.agg a.d,.ptr 0 0] [some (.cells [.c (.str c0_0),.c (.i64 c0_1),.c (.list c0_2),.c (.str c0_3),.c (.str c0_4),.c (.i64 c0_5),.c (.i64 c0_6)])] (.c (.bool (p a))) [some (.cells [.c (.str c0_0),.c (.i64 c0_1),.c (.list c0_2),.c (.str c0_3),.c (.str c0_4),.c (.i64 c0_5),.c (.i64 c0_6)])]) :
    Rn E A6 [.c (.list (Ps l)),.fn H2 [.ptr 0 0]] [some (.cells [.c (.str c0_0),.c (.i64 c0_1),.c (.list c0_2),.c (.str c0_3),.c (.str c0_4),.c (.i64 c0_5),.c (.i64 c0_6)])] (.c (.i64 (ix p l))) [some (.cells [.c (.str c0_0),.c (.i64 c0_1),.c (.list c0_2),.c (.str c0_3),.c (.str c0_4),.c (.i64 c0_5),.c (.i64 c0_6)])]:=by
 have hq:=z3q l
 have h:=I3 (l:=l) (fun _ a=>p a) (fun i=>K3 (Ps l) ((Ps l).length:Int) (i:Nat) c0_0 c0_1 c0_2 c0_3 c0_4 c0_5 c0_6) (fun j _ o s=>o=.ret∧s=z3g c0_0 c0_1 c0_2 c0_3 c0_4 c0_5 c0_6 (j:Int)) (y6w (by omega))
  (fun i a ha hb o s ih=>by
   have hi:=C1 ha; have hc:=hf a (List.mem_of_getElem? ha); rw [show p a=false from hb] at hc
   exact y8u (by omega) (by omega) (A5 (X6 ha)) hc (wi (by omega)) ih)
  (fun i a ha hb=>by
   have hi:=C1 ha; have hc:=hf a (List.mem_of_getElem? ha); rw [show p a=true from hb] at hc
   exact ⟨_,_,⟨rfl,rfl⟩,y6v (by omega) (by omega) (A5 (X6 ha)) hc⟩) l.length 0 (by omega)
 rcases h with ⟨h1,h2⟩ | ⟨j,a,o,s,h1,h2,h3,h4,⟨rfl,rfl⟩,h5⟩
 · rw [z7m fun j a hj h=>h1 j a hj h]; exact z9m h2
 · rw [z7n h2 h3 fun j a hj hk h=>h4 j a hj hk h]; exact z9l h5
theorem j0t {c0_0:BA} {c0_1:Int} {c0_2:RW} {c0_3:BA} {c0_4:BA} {c0_5:Int} {c0_6:Int} {l:List Pc} (p:Pc→Bool) (hl:l.length < 9223372036854775807) (hf:∀ a∈l,Rn E H2 [.agg a.d,.ptr 0 0] [some (.cells [.c (.str c0_0),.c (.i64 c0_1),.c (.list c0_2),.c (.str c0_3),.c (.str c0_4),.c (.i64 c0_5),.c (.i64 c0_6)])] (.c (.bool (p a))) [some (.cells [.c (.str c0_0),.c (.i64 c0_1),.c (.list c0_2),.c (.str c0_3),.c (.str c0_4),.c (.i64 c0_5),.c (.i64 c0_6)])]) :
    Rn E V8 [.c (.list (Ps l)),.fn H2 [.ptr 0 0]] [some (.cells [.c (.str c0_0),.c (.i64 c0_1),.c (.list c0_2),.c (.str c0_3),.c (.str c0_4),.c (.i64 c0_5),.c (.i64 c0_6)])] (.c (.bool (l.any p))) [some (.cells [.c (.str c0_0),.c (.i64 c0_1),.c (.list c0_2),.c (.str c0_3),.c (.str c0_4),.c (.i64 c0_5),.c (.i64 c0_6)])]:=by
 have h:=j1g p hl hf
 cases hp:l.any p with
 | false=>exact z7h h (by have:=z4e.2 hp; omega)
 | true =>
  have hn:¬ ix p l < 0:=fun h=>by rw [z4e.1 h] at hp; cases hp
  exact z7g h (by omega)
theorem j1b {c0_0:Int} {l:List Pc} (p:Pc→Bool) (hl:l.length < 9223372036854775807) (hf:∀ a∈l,Rn E V1 [.agg a.d,.ptr 0 0] [some (.cells [.c (.i64 c0_0)])] (.c (.bool (p a))) [some (.cells [.c (.i64 c0_0)])]) :
    Rn E A6 [.c (.list (Ps l)),.fn V1 [.ptr 0 0]] [some (.cells [.c (.i64 c0_0)])] (.c (.i64 (ix p l))) [some (.cells [.c (.i64 c0_0)])]:=by
 have hq:=z3q l
 have h:=I3 (l:=l) (fun _ a=>p a) (fun i=>K4 (Ps l) ((Ps l).length:Int) (i:Nat) c0_0) (fun j _ o s=>o=.ret∧s=z3h c0_0 (j:Int)) (y6y (by omega))
  (fun i a ha hb o s ih=>by
   have hi:=C1 ha; have hc:=hf a (List.mem_of_getElem? ha); rw [show p a=false from hb] at hc
   exact y8v (by omega) (by omega) (A5 (X6 ha)) hc (wi (by omega)) ih)
  (fun i a ha hb=>by
   have hi:=C1 ha; have hc:=hf a (List.mem_of_getElem? ha); rw [show p a=true from hb] at hc
   exact ⟨_,_,⟨rfl,rfl⟩,y6x (by omega) (by omega) (A5 (X6 ha)) hc⟩) l.length 0 (by omega)
 rcases h with ⟨h1,h2⟩ | ⟨j,a,o,s,h1,h2,h3,h4,⟨rfl,rfl⟩,h5⟩
 · rw [z7m fun j a hj h=>h1 j a hj h]; exact z9k h2
 · rw [z7n h2 h3 fun j a hj hk h=>h4 j a hj hk h]; exact z9j h5
theorem j1e {c0_0:BA} {c0_1:Int} {c0_2:RW} {c0_3:BA} {c0_4:BA} {c0_5:Int} {c0_6:Int} {c1_0:RW} {c1_1:RW} {c1_2:RW} {l:List Sw} (p:Sw→Bool) (hl:l.length < 9223372036854775807) (hf:∀ a∈l,Rn E H0 [.agg a.d,.ptr 0 0,.ptr 1 0] [some (.cells [.c (.str c0_0),.c (.i64 c0_1),.c (.list c0_2),.c (.str c0_3),.c (.str c0_4),.c (.i64 c0_5),.c (.i64 c0_6)]),some (.cells [.c (.list c1_0),.c (.list c1_1),.c (.list c1_2)])] (.c (.bool (p a))) [some (.cells [.c (.str c0_0),.c (.i64 c0_1),.c (.list c0_2),.c (.str c0_3),.c (.str c0_4),.c (.i64 c0_5),.c (.i64 c0_6)]),some (.cells [.c (.list c1_0),.c (.list c1_1),.c (.list c1_2)])]) :
    Rn E B8 [.c (.list (Ss l)),.fn H0 [.ptr 0 0,.ptr 1 0]] [some (.cells [.c (.str c0_0),.c (.i64 c0_1),.c (.list c0_2),.c (.str c0_3),.c (.str c0_4),.c (.i64 c0_5),.c (.i64 c0_6)]),some (.cells [.c (.list c1_0),.c (.list c1_1),.c (.list c1_2)])] (.c (.i64 (ix p l))) [some (.cells [.c (.str c0_0),.c (.i64 c0_1),.c (.list c0_2),.c (.str c0_3),.c (.str c0_4),.c (.i64 c0_5),.c (.i64 c0_6)]),some (.cells [.c (.list c1_0),.c (.list c1_1),.c (.list c1_2)])]:=by
 have hq:=y5y l
 have h:=I3 (l:=l) (fun _ a=>p a) (fun i=>P3 (Ss l) ((Ss l).length:Int) (i:Nat) c0_0 c0_1 c0_2 c0_3 c0_4 c0_5 c0_6 c1_0 c1_1 c1_2) (fun j _ o s=>o=.ret∧s=z5u c0_0 c0_1 c0_2 c0_3 c0_4 c0_5 c0_6 c1_0 c1_1 c1_2 (j:Int)) (x0i (by omega))
  (fun i a ha hb o s ih=>by
   have hi:=C1 ha; have hc:=hf a (List.mem_of_getElem? ha); rw [show p a=false from hb] at hc
   exact x1v (by omega) (by omega) (A5 (z0c ha)) hc (wi (by omega)) ih)
  (fun i a ha hb=>by
   have hi:=C1 ha; have hc:=hf a (List.mem_of_getElem? ha); rw [show p a=true from hb] at hc
   exact ⟨_,_,⟨rfl,rfl⟩,x0h (by omega) (by omega) (A5 (z0c ha)) hc⟩) l.length 0 (by omega)
 rcases h with ⟨h1,h2⟩ | ⟨j,a,o,s,h1,h2,h3,h4,⟨rfl,rfl⟩,h5⟩
 · rw [z7m fun j a hj h=>h1 j a hj h]; exact y0z h2
 · rw [z7n h2 h3 fun j a hj hk h=>h4 j a hj hk h]; exact y0y h5
theorem j0r {c0_0:BA} {c0_1:Int} {c0_2:RW} {c0_3:BA} {c0_4:BA} {c0_5:Int} {c0_6:Int} {c1_0:RW} {c1_1:RW} {c1_2:RW} {l:List Sw} (p:Sw→Bool) (hl:l.length < 9223372036854775807) (hf:∀ a∈l,Rn E H0 [.agg a.d,.ptr 0 0,.ptr 1 0] [some (.cells [.c (.str c0_0),.c (.i64 c0_1),.c (.list c0_2),.c (.str c0_3),.c (.str c0_4),.c (.i64 c0_5),.c (.i64 c0_6)]),some (.cells [.c (.list c1_0),.c (.list c1_1),.c (.list c1_2)])] (.c (.bool (p a))) [some (.cells [.c (.str c0_0),.c (.i64 c0_1),.c (.list c0_2),.c (.str c0_3),.c (.str c0_4),.c (.i64 c0_5),.c (.i64 c0_6)]),some (.cells [.c (.list c1_0),.c (.list c1_1),.c (.list c1_2)])]) :
    Rn E z1d [.c (.list (Ss l)),.fn H0 [.ptr 0 0,.ptr 1 0]] [some (.cells [.c (.str c0_0),.c (.i64 c0_1),.c (.list c0_2),.c (.str c0_3),.c (.str c0_4),.c (.i64 c0_5),.c (.i64 c0_6)]),some (.cells [.c (.list c1_0),.c (.list c1_1),.c (.list c1_2)])] (.c (.bool (l.any p))) [some (.cells [.c (.str c0_0),.c (.i64 c0_1),.c (.list c0_2),.c (.str c0_3),.c (.str c0_4),.c (.i64 c0_5),.c (.i64 c0_6)]),some (.cells [.c (.list c1_0),.c (.list c1_1),.c (.list c1_2)])]:=by
 have h:=j1e p hl hf
 cases hp:l.any p with
 | false=>exact z8h h (by have:=z4e.2 hp; omega)
 | true =>
  have hn:¬ ix p l < 0:=fun h=>by rw [z4e.1 h] at hp; cases hp
  exact z8g h (by omega)
theorem x7w {c1_0:Int} {l:List Pc} (p:Pc→Bool) (hl:l.length < 9223372036854775807) (hf:∀ a∈l,Rn E J3 [.agg a.d,.ptr 0 0,.ptr 1 0] [some (.cells [.fn C6 []]),some (.cells [.c (.i64 c1_0)])] (.c (.bool (p a))) [some (.cells [.fn C6 []]),some (.cells [.c (.i64 c1_0)])]) :
    Rn E A6 [.c (.list (Ps l)),.fn J3 [.ptr 0 0,.ptr 1 0]] [some (.cells [.fn C6 []]),some (.cells [.c (.i64 c1_0)])] (.c (.i64 (ix p l))) [some (.cells [.fn C6 []]),some (.cells [.c (.i64 c1_0)])]:=by
 have hq:=z3q l
 have h:=I3 (l:=l) (fun _ a=>p a) (fun i=>K5 (Ps l) ((Ps l).length:Int) (i:Nat) c1_0) (fun j _ o s=>o=.ret∧s=z3i c1_0 (j:Int)) (y7a (by omega))
  (fun i a ha hb o s ih=>by
   have hi:=C1 ha; have hc:=hf a (List.mem_of_getElem? ha); rw [show p a=false from hb] at hc
   exact y8w (by omega) (by omega) (A5 (X6 ha)) hc (wi (by omega)) ih)
  (fun i a ha hb=>by
   have hi:=C1 ha; have hc:=hf a (List.mem_of_getElem? ha); rw [show p a=true from hb] at hc
   exact ⟨_,_,⟨rfl,rfl⟩,y6z (by omega) (by omega) (A5 (X6 ha)) hc⟩) l.length 0 (by omega)
 rcases h with ⟨h1,h2⟩ | ⟨j,a,o,s,h1,h2,h3,h4,⟨rfl,rfl⟩,h5⟩
 · rw [z7m fun j a hj h=>h1 j a hj h]; exact z7f h2
 · rw [z7n h2 h3 fun j a hj hk h=>h4 j a hj hk h]; exact z7e h5
theorem k3b {c1_0:Int} {l:List Hd} (p:Hd→Bool) (hl:l.length < 9223372036854775807) (hf:∀ a∈l,Rn E N1 [.agg a.d,.ptr 0 0,.ptr 1 0] [some (.cells [.fn F3 []]),some (.cells [.c (.i64 c1_0)])] (.c (.bool (p a))) [some (.cells [.fn F3 []]),some (.cells [.c (.i64 c1_0)])]) :
    Rn E B1 [.c (.list (Hs l)),.fn N1 [.ptr 0 0,.ptr 1 0]] [some (.cells [.fn F3 []]),some (.cells [.c (.i64 c1_0)])] (.c (.i64 (ix p l))) [some (.cells [.fn F3 []]),some (.cells [.c (.i64 c1_0)])]:=by
 have hq:=z0k l
 have h:=I3 (l:=l) (fun _ a=>p a) (fun i=>N6 (Hs l) ((Hs l).length:Int) (i:Nat) c1_0) (fun j _ o s=>o=.ret∧s=z4n c1_0 (j:Int)) (y8t (by omega))
  (fun i a ha hb o s ih=>by
   have hi:=C1 ha; have hc:=hf a (List.mem_of_getElem? ha); rw [show p a=false from hb] at hc
   exact x0y (by omega) (by omega) (A5 (z0b ha)) hc (wi (by omega)) ih)
  (fun i a ha hb=>by
   have hi:=C1 ha; have hc:=hf a (List.mem_of_getElem? ha); rw [show p a=true from hb] at hc
   exact ⟨_,_,⟨rfl,rfl⟩,y8s (by omega) (by omega) (A5 (z0b ha)) hc⟩) l.length 0 (by omega)
 rcases h with ⟨h1,h2⟩ | ⟨j,a,o,s,h1,h2,h3,h4,⟨rfl,rfl⟩,h5⟩
 · rw [z7m fun j a hj h=>h1 j a hj h]; exact z9i h2
 · rw [z7n h2 h3 fun j a hj hk h=>h4 j a hj hk h]; exact z9h h5
theorem v3p {c1_0:Int} {l:List Sw} {w0:RW} (hw:∀ (i:Nat) a,l[i]?=some a→w0[i]?=some (a.d)) (p:Sw→Bool) (hl:l.length < 9223372036854775807) (hf:∀ a∈l,Rn E M8 [.agg a.d,.ptr 1 0] [some (.vec F2 w0),some (.cells [.c (.i64 c1_0)])] (.c (.bool (p a))) [some (.vec F2 w0),some (.cells [.c (.i64 c1_0)])]) :
    Rn E B8 [.vec 0 l.length,.fn M8 [.ptr 1 0]] [some (.vec F2 w0),some (.cells [.c (.i64 c1_0)])] (.c (.i64 (ix p l))) [some (.vec F2 w0),some (.cells [.c (.i64 c1_0)])]:=by
 have h:=I3 (l:=l) (fun _ a=>p a) (fun i=>N8 l.length ((l.length:Nat):Int) (i:Nat) w0 c1_0) (fun j _ o s=>o=.ret∧s=z4p w0 c1_0 (j:Int)) (y9a (by omega))
  (fun i a ha hb o s ih=>by
   have hi:=C1 ha; have hc:=hf a (List.mem_of_getElem? ha); rw [show p a=false from hb] at hc
   exact x1c (by omega) (⟨by omega,by omega⟩) (A5 (hw _ _ ha)) hc (wi (by omega)) ih)
  (fun i a ha hb=>by
   have hi:=C1 ha; have hc:=hf a (List.mem_of_getElem? ha); rw [show p a=true from hb] at hc
   exact ⟨_,_,⟨rfl,rfl⟩,y8z (by omega) (⟨by omega,by omega⟩) (A5 (hw _ _ ha)) hc⟩) l.length 0 (by omega)
 rcases h with ⟨h1,h2⟩ | ⟨j,a,o,s,h1,h2,h3,h4,⟨rfl,rfl⟩,h5⟩
 · rw [z7m fun j a hj h=>h1 j a hj h]; exact y4d h2
 · rw [z7n h2 h3 fun j a hj hk h=>h4 j a hj hk h]; exact y4c h5
end Gev
namespace Gev
open Go Gb
variable {E:Env}
theorem ix_ge {α:Type} {p:α→Bool} {l:List α}:-1≤ix p l:=by
 unfold ix
 split
 · omega
 · exact Int.le_refl _
theorem w2m {α:Type} {p:α→Bool} {l:List α} (h:¬ ix p l < 0):∀ (j:Nat) a,j < (ix p l).toNat→l[j]?=some a→p a=false:=by
 unfold ix at h ⊢
 cases h2:l.findIdx? p with
 | none=>rw [h2] at h; exact absurd (by decide) h
 | some i =>
  obtain ⟨h3,h4,h5⟩:=List.findIdx?_eq_some_iff_getElem.1 h2
  intro j a hj ha
  have hj:j < i:=by simpa using hj
  have:=h5 j hj
  rw [(List.getElem?_eq_some_iff.1 ha).2] at this
  simpa using this
theorem w6c {α:Type} {f:α→List DV} {n:Nat} {w:RW} (h:∀ j,j < n→∃ a:α,w[j]?=some (f a)):n≤w.length:=by
 by_cases e:n=0
 · omega
 · obtain ⟨a,ha⟩:=h (n - 1) (by omega)
   have:=(List.getElem?_eq_some_iff.1 ha).1
   omega
theorem u1i {α:Type} {f:α→List DV} {l:List α} {w:RW} (hw:∀ (i:Nat) a,l[i]?=some a→w[i]?=some (f a)):l.length≤w.length :=
 w6c fun j hj=>⟨l[j],hw j _ (List.getElem?_eq_getElem hj)⟩
theorem j8a {α:Type} (f:α→List DV) {l:List α} {w:RW} (hw:∀ (i:Nat) a,l[i]?=some a→w[i]?=some (f a)):w.take l.length=l.map f:=by
 apply List.ext_getElem?
 intro i
 rw [List.getElem?_take,List.getElem?_map]
 by_cases h:i < l.length
 · rw [if_pos h,List.getElem?_eq_getElem h,hw i _ (List.getElem?_eq_getElem h)]; rfl
 · rw [if_neg h,List.getElem?_eq_none (by omega)]; rfl
theorem q7o {c1_0:Int} {l:List Sw} {w0:RW} (hw:∀ (i:Nat) a,l[i]?=some a→w0[i]?=some (a.d)) (p:Sw→Bool) (hl:l.length < 9223372036854775807)
    (hf:∀ a∈l,∀ objs:Objs,lk objs 1=some (.cells [.c (.i64 c1_0)])→Rn E M8 [.agg a.d,.ptr 1 0] objs (.c (.bool (p a))) objs) :
    ∃ w k,Rn E G1 [.vec 0 l.length,.fn M8 [.ptr 1 0]] [some (.vec F2 w0),some (.cells [.c (.i64 c1_0)])] (.vec 0 k) [some (.vec F2 w),some (.cells [.c (.i64 c1_0)])]∧w.take k=Ss (l.filter fun a=>!p a)∧k≤w.length:=by
 have h0:=v3p hw p hl fun a ha=>hf a ha _ rfl
 by_cases hx:ix p l=-1
 · rw [hx] at h0
   refine ⟨w0,l.length,y3p h0 rfl,?_,u1i hw⟩
   have hn:l.any p=false:=z4e.1 (by omega)
   rw [List.any_eq_false] at hn
   rw [List.filter_eq_self.2 fun a ha=>by simpa using hn a ha]
   exact j8a Sw.d hw
 · have hx0:¬ ix p l < 0:=fun h=>by
    have:=ix_ge (p:=p) (l:=l)
    omega
   obtain ⟨a0,ha0,hp0⟩:=q8m hx0
   have hlt:=C1 ha0
   have hfst:=w2m hx0
   obtain ⟨n,hn⟩:∃ n:Nat,ix p l=(n:Int):=⟨(ix p l).toNat,by omega⟩
   rw [hn] at h0 hlt ha0 hfst hx
   rw [Int.toNat_natCast] at hlt ha0 hfst
   have hgo:=I9 (l:=l) (n:=2) (F:=G1) (k:=0) (fun (b:RW × Nat) a=>if p a then b else (b.1.set b.2 a.d,b.2+1))
    (fun i b=>b.2≤i∧(∀ j a,i≤j→l[j]?=some a→b.1[j]?=some a.d)∧(∀ j,j < l.length→∃ a:Sw,b.1[j]?=some a.d)∧b.1.take b.2=Ss ((l.take i).filter fun a=>!p a))
    (fun i b=>N4 l.length (b.2:Nat) (i:Nat) b.1 c1_0) (oe:=.exit 0) (fin:=fun b=>z4l l.length c1_0 (b.2:Nat) b.1)
    (fun b hb=>y8p (by omega))
    (fun i a b ha hb=>by
     have hi:=C1 ha
     obtain ⟨h1,h2,h3,h4⟩:=hb
     have hc:=hf a (List.mem_of_getElem? ha) [some (.vec F2 b.1),some (.cells [.c (.i64 c1_0)]),some (.cells (a.d.map .c))] rfl
     have ht:l.take (i+1)=l.take i++[a]:=by rw [List.take_add_one,ha]; rfl
     cases hp:p a with
     | true =>
      rw [hp] at hc
      rw [if_pos rfl]
      refine ⟨⟨by omega,fun j a' hj hg=>h2 j a' (by omega) hg,h3,?_⟩,fun o s ih=>x0v (by omega) ⟨by omega,by omega⟩ (A5 (h2 i a (Nat.le_refl _) ha)) hc (wi (by omega)) ih⟩
      rw [h4,ht,List.filter_append]; simp [hp]
     | false =>
      rw [hp] at hc
      rw [if_neg (by simp)]
      obtain ⟨a1,ha1⟩:=h3 b.2 (by omega)
      refine ⟨⟨Nat.succ_le_succ h1,fun j a' hj hg=>?_,fun j hj=>?_,?_⟩,fun o s ih=>x0w (by omega) ⟨by omega,by omega⟩ (A5 (h2 i a (Nat.le_refl _) ha)) hc ⟨by omega,by omega⟩ (A5 ha1) (by rw [Int.toNat_natCast]; rfl) (wi (by omega)) (wi (by omega)) ih⟩
      · show (b.1.set b.2 a.d)[j]?=_
        rw [List.getElem?_set_ne (by omega)]; exact h2 j a' (by omega) hg
      · by_cases e:j=b.2
        · subst e; exact ⟨a,List.getElem?_set_self (List.getElem?_eq_some_iff.1 ha1).1⟩
        · obtain ⟨a2,h⟩:=h3 j hj
          exact ⟨a2,(List.getElem?_set_ne (by omega)).trans h⟩
      · show (b.1.set b.2 a.d).take (b.2+1)=_
        rw [List.take_add_one,List.getElem?_set_self (List.getElem?_eq_some_iff.1 ha1).1,List.take_set_of_le (Nat.le_refl _),h4,ht,List.filter_append]
        simp [hp,Ss])
    (l.length - (n+1)) (n+1) (w0,n) (by omega) ⟨by simp,fun j a hj h=>hw j a h,fun j hj=>⟨l[j],hw j _ (List.getElem?_eq_getElem hj)⟩,?_⟩
   · obtain ⟨⟨h1,h2,h3,h4⟩,h5⟩:=hgo
     generalize hb:(List.foldl _ _ _:RW × Nat)=b at h1 h2 h3 h4 h5
     refine ⟨_,b.2,y3q h0 (by omega) h5 ⟨by omega,by omega,by omega⟩ ⟨by omega,by omega⟩ (wi (by omega)) rfl (Int.toNat_natCast _),?_,?_⟩
     rotate_left
     · rw [Int.toNat_natCast,List.append_assoc,List.length_append,List.length_take]
       have hlb:l.length≤b.1.length:=w6c h3
       omega
     rw [Int.toNat_natCast,List.append_assoc,List.take_append_of_le_length (by
      rw [List.length_take]
      obtain ⟨a,ha⟩:=h3 (b.2 - 1) (by omega)
      have:=(List.getElem?_eq_some_iff.1 ha).1
      omega),List.take_take,Nat.min_self,h4,List.take_length]
   · show w0.take n=_
     have ht:l.take (n+1)=l.take n++[a0]:=by rw [List.take_add_one,ha0]; rfl
     rw [ht,List.filter_append,List.filter_eq_self.2 fun a ha=>by
      obtain ⟨j,hj⟩:=List.mem_iff_getElem?.1 ha
      rw [List.getElem?_take] at hj
      split at hj
      · rename_i hjn; rw [hfst j a hjn hj]; rfl
      · cases hj]
     rw [show [a0].filter (fun a=>!p a)=[] by simp [hp0],List.append_nil]
     have:=j8a Sw.d (l:=l.take n) (w:=w0) (fun i a h=>by
      rw [List.getElem?_take] at h
      split at h
      · exact hw i a h
      · cases h)
     rwa [List.length_take,Nat.min_eq_left (by omega)] at this
theorem j0v {c1_0:BA} {l:List Ru} {w0:RW} (hw:∀ (i:Nat) a,l[i]?=some a→w0[i]?=some (a.d)) (p:Ru→Bool) (hl:l.length < 9223372036854775807)
    (hf:∀ a∈l,∀ objs:Objs,lk objs 1=some (.cells [.c (.str c1_0)])→Rn E G2 [.agg a.d,.ptr 1 0] objs (.c (.bool (p a))) objs) :
    ∃ w k,Rn E F4 [.vec 0 l.length,.fn G2 [.ptr 1 0]] [some (.vec D1 w0),some (.cells [.c (.str c1_0)])] (.vec 0 k) [some (.vec D1 w),some (.cells [.c (.str c1_0)])]∧w.take k=Rs (l.filter fun a=>!p a)∧k≤w.length:=by
 have h0:=j4h hw p hl fun a ha=>hf a ha _ rfl
 by_cases hx:ix p l=-1
 · rw [hx] at h0
   refine ⟨w0,l.length,y0r h0 rfl,?_,u1i hw⟩
   have hn:l.any p=false:=z4e.1 (by omega)
   rw [List.any_eq_false] at hn
   rw [List.filter_eq_self.2 fun a ha=>by simpa using hn a ha]
   exact j8a Ru.d hw
 · have hx0:¬ ix p l < 0:=fun h=>by
    have:=ix_ge (p:=p) (l:=l)
    omega
   obtain ⟨a0,ha0,hp0⟩:=q8m hx0
   have hlt:=C1 ha0
   have hfst:=w2m hx0
   obtain ⟨n,hn⟩:∃ n:Nat,ix p l=(n:Int):=⟨(ix p l).toNat,by omega⟩
   rw [hn] at h0 hlt ha0 hfst hx
   rw [Int.toNat_natCast] at hlt ha0 hfst
   have hgo:=I9 (l:=l) (n:=2) (F:=F4) (k:=0) (fun (b:RW × Nat) a=>if p a then b else (b.1.set b.2 a.d,b.2+1))
    (fun i b=>b.2≤i∧(∀ j a,i≤j→l[j]?=some a→b.1[j]?=some a.d)∧(∀ j,j < l.length→∃ a:Ru,b.1[j]?=some a.d)∧b.1.take b.2=Rs ((l.take i).filter fun a=>!p a))
    (fun i b=>N3 l.length (b.2:Nat) (i:Nat) b.1 c1_0) (oe:=.exit 0) (fin:=fun b=>z4k l.length c1_0 (b.2:Nat) b.1)
    (fun b hb=>y8o (by omega))
    (fun i a b ha hb=>by
     have hi:=C1 ha
     obtain ⟨h1,h2,h3,h4⟩:=hb
     have hc:=hf a (List.mem_of_getElem? ha) [some (.vec D1 b.1),some (.cells [.c (.str c1_0)]),some (.cells (a.d.map .c))] rfl
     have ht:l.take (i+1)=l.take i++[a]:=by rw [List.take_add_one,ha]; rfl
     cases hp:p a with
     | true =>
      rw [hp] at hc
      rw [if_pos rfl]
      refine ⟨⟨by omega,fun j a' hj hg=>h2 j a' (by omega) hg,h3,?_⟩,fun o s ih=>x0t (by omega) ⟨by omega,by omega⟩ (A5 (h2 i a (Nat.le_refl _) ha)) hc (wi (by omega)) ih⟩
      rw [h4,ht,List.filter_append]; simp [hp]
     | false =>
      rw [hp] at hc
      rw [if_neg (by simp)]
      obtain ⟨a1,ha1⟩:=h3 b.2 (by omega)
      refine ⟨⟨Nat.succ_le_succ h1,fun j a' hj hg=>?_,fun j hj=>?_,?_⟩,fun o s ih=>x0u (by omega) ⟨by omega,by omega⟩ (A5 (h2 i a (Nat.le_refl _) ha)) hc ⟨by omega,by omega⟩ (A5 ha1) (by rw [Int.toNat_natCast]; rfl) (wi (by omega)) (wi (by omega)) ih⟩
      · show (b.1.set b.2 a.d)[j]?=_
        rw [List.getElem?_set_ne (by omega)]; exact h2 j a' (by omega) hg
      · by_cases e:j=b.2
        · subst e; exact ⟨a,List.getElem?_set_self (List.getElem?_eq_some_iff.1 ha1).1⟩
        · obtain ⟨a2,h⟩:=h3 j hj
          exact ⟨a2,(List.getElem?_set_ne (by omega)).trans h⟩
      · show (b.1.set b.2 a.d).take (b.2+1)=_
        rw [List.take_add_one,List.getElem?_set_self (List.getElem?_eq_some_iff.1 ha1).1,List.take_set_of_le (Nat.le_refl _),h4,ht,List.filter_append]
        simp [hp,Rs])
    (l.length - (n+1)) (n+1) (w0,n) (by omega) ⟨by simp,fun j a hj h=>hw j a h,fun j hj=>⟨l[j],hw j _ (List.getElem?_eq_getElem hj)⟩,?_⟩
   · obtain ⟨⟨h1,h2,h3,h4⟩,h5⟩:=hgo
     generalize hb:(List.foldl _ _ _:RW × Nat)=b at h1 h2 h3 h4 h5
     refine ⟨_,b.2,y0s h0 (by omega) h5 ⟨by omega,by omega,by omega⟩ ⟨by omega,by omega⟩ (wi (by omega)) rfl (Int.toNat_natCast _),?_,?_⟩
     rotate_left
     · rw [Int.toNat_natCast,List.append_assoc,List.length_append,List.length_take]
       have hlb:l.length≤b.1.length:=w6c h3
       omega
     rw [Int.toNat_natCast,List.append_assoc,List.take_append_of_le_length (by
      rw [List.length_take]
      obtain ⟨a,ha⟩:=h3 (b.2 - 1) (by omega)
      have:=(List.getElem?_eq_some_iff.1 ha).1
      omega),List.take_take,Nat.min_self,h4,List.take_length]
   · show w0.take n=_
     have ht:l.take (n+1)=l.take n++[a0]:=by rw [List.take_add_one,ha0]; rfl
     rw [ht,List.filter_append,List.filter_eq_self.2 fun a ha=>by
      obtain ⟨j,hj⟩:=List.mem_iff_getElem?.1 ha
      rw [List.getElem?_take] at hj
      split at hj
      · rename_i hjn; rw [hfst j a hjn hj]; rfl
      · cases hj]
     rw [show [a0].filter (fun a=>!p a)=[] by simp [hp0],List.append_nil]
     have:=j8a Ru.d (l:=l.take n) (w:=w0) (fun i a h=>by
      rw [List.getElem?_take] at h
      split at h
      · exact hw i a h
      · cases h)
     rwa [List.length_take,Nat.min_eq_left (by omega)] at this
end Gev
namespace Gev
open Go
variable {P:Program} {D:Tab} {B0:Nat} {Gd:World→Prop}
def inBs (n:Nat) (sm:Objs):Bool:=sm.all fun o=>match o with | some o=>o.inB n | none=>true
theorem q6h {n:Nat} {sm:Objs} (h:inBs n sm=true) (i:Nat) (o:Ob) (hi:lk sm i=some o):o.inB n=true:=by
 have hil:=z6q hi
 have e:sm[i]?=some (some o):=by
  unfold lk at hi
  rw [List.getD_eq_getElem?_getD,List.getElem?_eq_getElem hil] at hi
  rw [List.getElem?_eq_getElem hil]; exact congrArg some hi
 unfold inBs at h
 rw [List.all_eq_true] at h
 exact h _ (List.mem_of_getElem? e)
theorem RunOk.put {f:Nat} {args:List AV} {sm sm':Objs} {r:AV} (h:RunOk P D B0 Gd f args sm r sm') (ls:List Nat) (hn:ls.Nodup) (hlen:ls.length=sm.length) (hlen':sm'.length=sm.length) {big big':Objs}
    (hs:∀ i,i < sm.length→lk big (ls.getD i 0)=(lk sm i).map (Ob.ren fun i=>ls.getD i 0)) (hs':∀ i,i < sm.length→lk big' (ls.getD i 0)=(lk sm' i).map (Ob.ren fun i=>ls.getD i 0)) (hrest:∀ l,(∀ i,i < sm.length→ls.getD i 0≠l)→lk big' l=lk big l)
    (hp:inBs sm.length sm=true) (hp':inBs sm.length sm'=true) (ha:args.all (AV.inB sm.length)=true) (hr:r.inB sm.length=true) :
    RunOk P D B0 Gd f (args.map (AV.ren fun i=>ls.getD i 0)) big (r.ren fun i=>ls.getD i 0) big':=by
 refine h.frameG (fun i=>ls.getD i 0) big big' (fun i j hi hj e=>?_) (Nat.le_of_eq hlen'.symm) hs (fun i h1 h2=>by omega) (by rw [hlen']; exact hs') (by rw [hlen']; exact hrest) (q6h hp) (by rw [hlen']; exact q6h hp') (fun a hx=>by simp only [List.all_eq_true] at ha; exact ha a hx) (by rw [hlen']; exact hr)
 have e2:ls.getD i 0=ls.getD j 0:=e
 simp only [List.getD_eq_getElem?_getD] at e2
 rw [List.getElem?_eq_getElem (by omega),List.getElem?_eq_getElem (by omega)] at e2
 have e':ls[i]?=ls[j]?:=by
  rw [List.getElem?_eq_getElem (by omega),List.getElem?_eq_getElem (by omega)]
  exact congrArg some e2
 exact (List.getElem?_inj (by omega) hn).1 e'
theorem RunOk.putN {f:Nat} {args:List AV} {sm sm':Objs} {r:AV} (h:RunOk P D B0 Gd f args sm r sm') (ls:List Nat) (hn:ls.Nodup) (hlen:ls.length=sm'.length) (hle:sm.length≤sm'.length) {big big':Objs}
    (hs:∀ i,i < sm.length→lk big (ls.getD i 0)=(lk sm i).map (Ob.ren fun i=>ls.getD i 0)) (hnew:∀ i,sm.length≤i→i < sm'.length→lk big (ls.getD i 0)=none)
    (hs':∀ i,i < sm'.length→lk big' (ls.getD i 0)=(lk sm' i).map (Ob.ren fun i=>ls.getD i 0)) (hrest:∀ l,(∀ i,i < sm'.length→ls.getD i 0≠l)→lk big' l=lk big l)
    (hp:inBs sm.length sm=true) (hp':inBs sm'.length sm'=true) (ha:args.all (AV.inB sm.length)=true) (hr:r.inB sm'.length=true) :
    RunOk P D B0 Gd f (args.map (AV.ren fun i=>ls.getD i 0)) big (r.ren fun i=>ls.getD i 0) big':=by
 refine h.frameG (fun i=>ls.getD i 0) big big' (fun i j hi hj e=>?_) hle hs hnew hs' hrest (q6h hp) (q6h hp') (fun a hx=>by simp only [List.all_eq_true] at ha; exact ha a hx) hr
 have e2:ls.getD i 0=ls.getD j 0:=e
 simp only [List.getD_eq_getElem?_getD] at e2
 rw [List.getElem?_eq_getElem (by omega),List.getElem?_eq_getElem (by omega)] at e2
 have e':ls[i]?=ls[j]?:=by
  rw [List.getElem?_eq_getElem (by omega),List.getElem?_eq_getElem (by omega)]
  exact congrArg some e2
 exact (List.getElem?_inj (by omega) hn).1 e'
theorem RunOk.swap {f:Nat} {args:List AV} {a b a' b':Ob} {r:AV} (h:RunOk P D B0 Gd f args [some a,some b] r [some a',some b']) (hp:inBs 2 [some a,some b]=true) (hp':inBs 2 [some a',some b']=true) (ha:args.all (AV.inB 2)=true) (hr:r.inB 2=true) :
    RunOk P D B0 Gd f (args.map (AV.ren fun i=>[1,0].getD i 0)) [some (b.ren fun i=>[1,0].getD i 0),some (a.ren fun i=>[1,0].getD i 0)] (r.ren fun i=>[1,0].getD i 0) [some (b'.ren fun i=>[1,0].getD i 0),some (a'.ren fun i=>[1,0].getD i 0)] :=
 h.put [1,0] (by decide) rfl rfl (by intro i hi; match i,hi with | 0,_=>rfl | 1,_=>rfl) (by intro i hi; match i,hi with | 0,_=>rfl | 1,_=>rfl) (by
  intro l hl
  match l with
  | 0=>exact absurd rfl (hl 1 (by simp))
  | 1=>exact absurd rfl (hl 0 (by simp))
  | l+2=>rfl) hp hp' ha hr
end Gev
namespace Gev
open Go Gb
variable {E:Env}
attribute [local irreducible] Sz
structure Cs (E:Env):Prop where
 sw:∀ l:List Sw,l.length≤1000→Rn E X2 [.c (.list (Ss l))] [] (.vec 0 l.length) [some (.vec F2 (Ss l))]
 pc:∀ l:List Pc,l.length≤1000→Rn E z5y [.c (.list (Ps l))] [] (.vec 0 l.length) [some (.vec x7m (Ps l))]
 hd:∀ l:List Hd,l.length≤1000→Rn E z7j [.c (.list (Hs l))] [] (.vec 0 l.length) [some (.vec j0d (Hs l))]
 ru:∀ l:List Ru,l.length≤1000→Rn E z7k [.c (.list (Rs l))] [] (.vec 0 l.length) [some (.vec D1 (Rs l))]
 ra:∀ l:List (List UInt8),l.length≤1000→Rn E z8v [.c (.list (R1 l))] [] (.vec 0 l.length) [some (.vec A2 (R1 l))]
noncomputable def rdv (p:List UInt8):Rat:=(rd p).getD 0
theorem w2u {l:List UInt8} (h:ok1 l=true):∃ q,l=decQ q:=by
 obtain ⟨x,hx⟩:=Option.isSome_iff_exists.1 h
 exact ⟨x,q6o hx⟩
theorem w8g (q:Rat):rdv (decQ q)=q:=by unfold rdv; rw [k5z]; rfl
theorem v8u {l:List UInt8} (h:ok1 l=true):decQ (rdv l)=l:=by
 obtain ⟨q,rfl⟩:=w2u h
 rw [w8g]
theorem z2w {x:List UInt8} {K:Nat} (h:ok1 x=true) (k:x.length≤K):Sz (rdv x) K:=by
 obtain ⟨u,rfl⟩:=w2u h
 rw [w8g]
 exact Sz.of_len k
theorem y1u {x:List UInt8} (h:ok1 x=true):Sq (rdv x)=.c (.str (B x)):=by unfold Sq; rw [v8u h]
theorem x2f:200000≤Lim:=by rw [Y9]; omega
theorem y3w (hlib:Lib E) {x:List UInt8} (h:ok1 x=true) (k:x.length≤40):Fn E z0y [.c (.str (B x))] (.c (.i64 (cmpQ (rdv x) 0))):=by
 have:=v3c hlib (z2w h k) (by have:=x2f; omega)
 rwa [y1u h] at this
theorem k2i (hlib:Lib E) {l:List (List UInt8)} (hl:l.length < 1000) (hb:∀ x∈l,x.length≤Lim):Fn E z4q [.c (.list (R1 l))] (.c (.bool (l.all ok1))):=by
 have:=v3e (j8i (fun x=>!ok1 x) (by omega) fun x hx=>q2s (y6f hlib (hb x hx)))
 rwa [show (!l.any fun x=>!ok1 x)=l.all ok1 from by rw [List.all_eq_not_any_not]] at this
theorem x8y {ps:List Pc} {hs:RW} {id:Int} (hl:ps.length < 9223372036854775807):Fn E y5p [.agg [.list (Ps ps),.list hs],.c (.i64 id)] (.c (.i64 (ix (fun p=>p.id == id) ps))):=by
 have h:=x7w (E:=E) (l:=ps) (c1_0:=id) (fun p=>p.id == id) hl fun a _=>by
  by_cases e:a.id=id
  · rw [show (a.id == id)=true by simp [e]]; exact x9m x5q e
  · rw [show (a.id == id)=false by simp [e]]; exact x9n x5q e
 exact q7b (y3v (h.swap rfl rfl rfl rfl))
theorem x4s {hs:List Hd} {ps:RW} {id:Int} (hl:hs.length < 9223372036854775807):Fn E y2p [.agg [.list ps,.list (Hs hs)],.c (.i64 id)] (.c (.i64 (ix (fun p=>p.id == id) hs))):=by
 have h:=k3b (E:=E) (l:=hs) (c1_0:=id) (fun p=>p.id == id) hl fun a _=>by
  by_cases e:a.id=id
  · rw [show (a.id == id)=true by simp [e]]; exact k7a k2g e
  · rw [show (a.id == id)=false by simp [e]]; exact k7b k2g e
 exact v8i (y7h (h.swap rfl rfl rfl rfl))
def inH (l:List Sw) (h:Int):List Sw:=l.filter fun a=>a.ho == h
theorem q1t (hc:Cs E) {l:List Sw} {h:Int} (hl:l.length≤1000):Fn E x7i [.c (.list (Ss l)),.c (.i64 h)] (.c (.list (Ss (inH l h)))):=by
 obtain ⟨w,k,h1,h2,_⟩:=q7o (E:=E) (c1_0:=h) (l:=l) (w0:=Ss l) (fun i a ha=>z0c ha) (fun a=>!(a.ho == h)) (by omega) fun a _ objs ho=>by
  by_cases e:a.ho=h
  · rw [show (!(a.ho == h))=false by simp [e]]
    exact (v8k (E:=E) (i1:=a.pa) (i2:=a.un) e).sub [1] (by decide) rfl (by intro i hi; match i,hi with | 0,_=>exact ho) (by simp [Ob.plain]) rfl rfl
  · rw [show (!(a.ho == h))=true by simp [e]]
    exact (v8j (E:=E) (i1:=a.pa) (i2:=a.un) e).sub [1] (by decide) rfl (by intro i hi; match i,hi with | 0,_=>exact ho) (by simp [Ob.plain]) rfl rfl
 exact w5q (hc.sw l hl) (h1.swap rfl rfl rfl rfl) (by rw [h2]; unfold inH; simp only [Bool.not_not])
def unS (l:List Sw) (id:Int):Int:=(l.map fun a=>if a.pa=id then a.un else 0).sum
theorem q7c {l:List Sw} {id:Int} (hl:l.length≤1000) (hu:∀ a∈l,-9≤a.un∧a.un≤1000000000):Fn E U6 [.c (.list (Ss l)),.c (.i64 id)] (.c (.i64 (unS l id))):=by
 have hq:=y5y l
 have h:=I9 (E:=E) (l:=l) (n:=0) (F:=U6) (k:=0) (fun (b:Int) a=>b+if a.pa=id then a.un else 0) (fun i b=>-9*i≤b∧b≤1000000000*i)
  (fun i b=>z5i id b (Ss l) ((Ss l).length:Int) (i:Nat)) (oe:=.exit 0) (fin:=fun b=>y7v b) (fun b hb=>k7d (by omega))
  (fun i a b ha hb=>by
   have hi:=C1 ha
   have hu:=hu a (List.mem_of_getElem? ha)
   by_cases e:a.pa=id
   · rw [if_pos e]
     exact ⟨by omega,fun o s ih=>j3p (by omega) (by omega) (A5 (z0c ha)) e (wi (by omega)) (wi (by omega)) ih⟩
   · rw [if_neg e]
     exact ⟨by omega,fun o s ih=>by
      rw [Int.add_zero] at ih
      exact j3q (by omega) (by omega) (A5 (z0c ha)) e (wi (by omega)) ih⟩)
  l.length 0 0 (by omega) ⟨by omega,by omega⟩
 have e:∀ (l:List Sw) b,l.foldl (fun (b:Int) a=>b+if a.pa=id then a.un else 0) b=b+unS l id:=by
  intro l
  induction l with
  | nil=>intro b; show b=b+0; omega
  | cons a l ih=>intro b; rw [List.foldl_cons,ih]; unfold unS; rw [List.map_cons,List.sum_cons]; omega
 rw [List.drop_zero,e,Int.zero_add] at h
 exact v3d h.2
def ordS (a b:Sw):Int:=if cmpI a.ho b.ho=0 then cmpI a.pa b.pa else cmpI a.ho b.ho
theorem u3x {x y:Int}:Fn E z2e [.c (.list [[.i64 x],[.i64 y]])] (.c (.i64 (if x=0 then y else x))):=by
 have h0:(0:Int) < (([[.i64 x],[.i64 y]]:RW).length:Int):=by simp
 have h1:(1:Int) < (([[.i64 x],[.i64 y]]:RW).length:Int):=by simp
 have h2:¬ (2:Int) < (([[.i64 x],[.i64 y]]:RW).length:Int):=by simp
 by_cases hx:x=0
 · rw [if_pos hx]
   by_cases hy:y=0
   · rw [hy] at h0 h1 h2 ⊢
     exact v8q (y7w (wi (m:=1) (by omega)) h0 (by decide) rfl hx (y7w (wi (m:=2) (by omega)) h1 (by decide) rfl rfl (j0m h2)))
   · exact j3w (y7w (wi (m:=1) (by omega)) h0 (by decide) rfl hx (x2h h1 (by decide) rfl hy))
 · rw [if_neg hx]
   exact j3w (x2h h0 (by decide) rfl hx)
theorem q7a (a b:Sw):Fn E y9e [.agg a.d,.agg b.d] (.c (.i64 (ordS a b))):=v3b (v8r _ _) (v8r _ _) u3x rfl
end Gev
namespace Gev
open Go Gb
variable {E:Env}
attribute [local irreducible] Sz
def fE {α:Type} (f:Nat→α→Int):Nat→List α→Int
 | _,[]=>0
 | i,a::l=>if f i a=0 then fE f (i+1) l else f i a
theorem x5t {α:Type} {n F k:Nat} {l:List α} (f:Nat→α→Int) (st:Nat→St) {oe:Out} {fin:St} {G:Int→St} (hend:Lp E n F k (st l.length) oe fin)
    (hstep:∀ i a,l[i]?=some a→(f i a=0→∀ o s,Lp E n F k (st (i+1)) o s→Lp E n F k (st i) o s)∧(f i a≠0→Lp E n F k (st i) .ret (G (f i a)))):∀ d i:Nat,i+d=l.length →
    (fE f i (l.drop i)=0∧Lp E n F k (st i) oe fin)∨(fE f i (l.drop i)≠0∧Lp E n F k (st i) .ret (G (fE f i (l.drop i))))
 | 0,i,hi=>by
  have e:i=l.length:=by omega
  rw [e,List.drop_length]; exact .inl ⟨rfl,hend⟩
 | d+1,i,hi=>by
  obtain ⟨a,ha⟩:=z1g (l:=l) (i:=i) (by omega)
  rw [j4k ha]
  show (fE f i (a::l.drop (i+1))=0∧_)∨_
  unfold fE
  by_cases h0:f i a=0
  · rw [if_pos h0]
    rcases x5t f st hend hstep d (i+1) (by omega) with ⟨h1,h2⟩ | ⟨h1,h2⟩
    · exact .inl ⟨h1,(hstep i a ha).1 h0 _ _ h2⟩
    · exact .inr ⟨h1,(hstep i a ha).1 h0 _ _ h2⟩
  · rw [if_neg h0]; exact .inr ⟨h0,(hstep i a ha).2 h0⟩
theorem x7t {α:Type} {f:Nat→α→Int}:∀ {l:List α} {i:Nat},fE f i l=0→∀ (j:Nat) a,l[j]?=some a→f (i+j) a=0
 | [],i,_,j,a,h=>by simp at h
 | b::l,i,h0,j,a,h=>by
  unfold fE at h0
  split at h0
  · rename_i h1
    match j,h with
    | 0,h=>cases h; exact h1
    | j+1,h=>have:=x7t h0 j a h; rwa [Nat.add_right_comm] at this
  · rename_i h1; exact absurd h0 h1
noncomputable def okP (p:Pc):Bool:=[p.ma,p.vo,p.wo].all ok1
noncomputable def okH (h:Hd):Bool:=[h.ro,h.mo,h.x,h.y,h.z].all ok1
def ShP (p:Pc):Prop:=p.ma.length≤40∧p.vo.length≤40∧p.wo.length≤40
def ShH (h:Hd):Prop:=h.ro.length≤40∧h.mo.length≤40∧h.x.length≤40∧h.y.length≤40∧h.z.length≤40
structure Sh (ps:List Pc) (hs:List Hd):Prop where
 np:ps.length≤7
 nh:hs.length≤7
 p:∀ p∈ps,ShP p
 h:∀ h∈hs,ShH h
noncomputable def fP (l:List Pc) (i:Nat) (p:Pc):Int :=
 if 1≤p.id∧p.id≤1073741824 then (if 1≤p.un∧p.un≤9 then (if 1≤p.cl∧p.cl≤9 then (if cmpQ (rdv p.ma) 0≤0 then 2 else if cmpQ (rdv p.vo) 0≤0 then 2 else if cmpQ (rdv p.wo) 0 < 0 then 2 else
  if nmB p.nm=true then (if 0 < i then (if ((l[i - 1]?).map Pc.id).getD 0≥p.id then 5 else 0) else 0) else 4) else 2) else 2) else 2
noncomputable def fH (l:List Hd) (i:Nat) (p:Hd):Int :=
 if 1≤p.id∧p.id≤1073741824 then (if cmpQ (rdv p.ro) 0 < 0 then 2 else if cmpQ (rdv p.mo) 0 < 0 then 2 else
  if nmB p.nm=true then (if 0 < i then (if ((l[i - 1]?).map Hd.id).getD 0≥p.id then 5 else 0) else 0) else 4) else 2
noncomputable def chkC (ps:List Pc) (hs:List Hd):Int :=
 if ps.all okP=true∧hs.all okH=true then (if ps.length > 6∨hs.length > 6 then 8 else if fE (fP ps) 0 ps=0 then fE (fH hs) 0 hs else fE (fP ps) 0 ps) else 1
theorem j8f {a b:Int} (h:1≤a∧a≤b):Fn E O2 [.c (.i64 a),.c (.i64 b)] (.c (.bool true)):=by have:=x8z (E:=E) (a:=a) (b:=b); rwa [decide_eq_true h] at this
theorem j8e {a b:Int} (h:¬ (1≤a∧a≤b)):Fn E O2 [.c (.i64 a),.c (.i64 b)] (.c (.bool false)):=by have:=x8z (E:=E) (a:=a) (b:=b); rwa [decide_eq_false h] at this
theorem q6k {s:List UInt8} {b:Bool} (h:nmB s=b):Fn E Z8 [.c (.str (B s))] (.c (.bool b)):=h ▸ q6y
theorem chk_L0 (hlib:Lib E) {ps:List Pc} {hs:RW} (hp:∀ p∈ps,ShP p) (hl:ps.length < 1000) :
    (ps.all okP=true∧Lp E 1 B2 0 (z1e (Ps ps) ((Ps ps).length:Int) 0 (Ps ps) hs) (.exit 0) (y7p (Ps ps) hs)) ∨
    (¬ ps.all okP=true∧Lp E 1 B2 0 (z1e (Ps ps) ((Ps ps).length:Int) 0 (Ps ps) hs) .ret (y2r (Ps ps) hs)):=by
 have hq:=z3q ps
 have hv:∀ p∈ps,Fn E z4q [.c (.list ([[.str (B p.ma)],[.str (B p.vo)],[.str (B p.wo)]]:RW))] (.c (.bool (okP p))):=fun p h=>by
  have hs:=hp p h
  have:=x2f
  exact k2i hlib (l:=[p.ma,p.vo,p.wo]) (by simp) (by simp; unfold ShP at hs; omega)
 have h:=I3 (E:=E) (l:=ps) (fun _ a=>!okP a) (fun i=>z1e (Ps ps) ((Ps ps).length:Int) (i:Nat) (Ps ps) hs) (fun _ _ o s=>o=.ret∧s=y2r (Ps ps) hs) (k6h (by omega))
  (fun i a ha hb o s ih=>by
   have hi:=C1 ha; have hc:=hv a (List.mem_of_getElem? ha); have e:okP a=true:=by simpa using hb
   rw [e] at hc
   exact j3i (by omega) (by omega) (A5 (X6 ha)) hc rfl (wi (by omega)) ih)
  (fun i a ha hb=>by
   have hi:=C1 ha; have hc:=hv a (List.mem_of_getElem? ha); have e:okP a=false:=by simpa using hb
   rw [e] at hc
   exact ⟨_,_,⟨rfl,rfl⟩,k6g (by omega) (by omega) (A5 (X6 ha)) hc rfl⟩) ps.length 0 (by omega)
 rcases h with ⟨h1,h2⟩ | ⟨j,a,o,s,h1,h2,h3,h4,⟨rfl,rfl⟩,h5⟩
 · exact .inl ⟨List.all_eq_true.2 (fun a ha=>(List.mem_iff_getElem?.1 ha).elim fun j hj=>by simpa using h1 j a (Nat.zero_le _) hj),h2⟩
 · exact .inr ⟨fun h=>by { rw [List.all_eq_true.1 h a (List.mem_of_getElem? h2)] at h3; cases h3 },h5⟩
theorem chk_L1 (hlib:Lib E) {hs:List Hd} {ps:RW} (hp:∀ p∈hs,ShH p) (hl:hs.length < 1000) :
    (hs.all okH=true∧Lp E 1 B2 1 (z1f (Hs hs) ((Hs hs).length:Int) 0 ps (Hs hs)) (.exit 2) (y7q ps (Hs hs))) ∨
    (¬ hs.all okH=true∧Lp E 1 B2 1 (z1f (Hs hs) ((Hs hs).length:Int) 0 ps (Hs hs)) .ret (y2s ps (Hs hs))):=by
 have hq:=z0k hs
 have hv:∀ p∈hs,Fn E z4q [.c (.list ([[.str (B p.ro)],[.str (B p.mo)],[.str (B p.x)],[.str (B p.y)],[.str (B p.z)]]:RW))] (.c (.bool (okH p))):=fun p h=>by
  have hs:=hp p h
  have:=x2f
  exact k2i hlib (l:=[p.ro,p.mo,p.x,p.y,p.z]) (by simp) (by simp; unfold ShH at hs; omega)
 have h:=I3 (E:=E) (l:=hs) (fun _ a=>!okH a) (fun i=>z1f (Hs hs) ((Hs hs).length:Int) (i:Nat) ps (Hs hs)) (fun _ _ o s=>o=.ret∧s=y2s ps (Hs hs)) (k6j (by omega))
  (fun i a ha hb o s ih=>by
   have hi:=C1 ha; have hc:=hv a (List.mem_of_getElem? ha); have e:okH a=true:=by simpa using hb
   rw [e] at hc
   exact j3j (by omega) (by omega) (A5 (z0b ha)) hc rfl (wi (by omega)) ih)
  (fun i a ha hb=>by
   have hi:=C1 ha; have hc:=hv a (List.mem_of_getElem? ha); have e:okH a=false:=by simpa using hb
   rw [e] at hc
   exact ⟨_,_,⟨rfl,rfl⟩,k6i (by omega) (by omega) (A5 (z0b ha)) hc rfl⟩) hs.length 0 (by omega)
 rcases h with ⟨h1,h2⟩ | ⟨j,a,o,s,h1,h2,h3,h4,⟨rfl,rfl⟩,h5⟩
 · exact .inl ⟨List.all_eq_true.2 (fun a ha=>(List.mem_iff_getElem?.1 ha).elim fun j hj=>by simpa using h1 j a (Nat.zero_le _) hj),h2⟩
 · exact .inr ⟨fun h=>by { rw [List.all_eq_true.1 h a (List.mem_of_getElem? h2)] at h3; cases h3 },h5⟩
theorem outp {P Q:Prop} {v:Int} (hv:v≠0) (h:Q):(v=0→P)∧(v≠0→Q):=⟨fun e=>absurd e hv,fun _=>h⟩
theorem inp {P Q:Prop} (h:P):((0:Int)=0→P)∧((0:Int)≠0→Q):=⟨fun _=>h,fun e=>absurd rfl e⟩
theorem chk_L2 (hlib:Lib E) {ps:List Pc} {hs:RW} (hp:∀ p∈ps,ShP p) (ho:ps.all okP=true) (hl:ps.length < 1000) :
    (fE (fP ps) 0 ps=0∧Lp E 1 B2 2 (I5 (Ps ps) ((Ps ps).length:Int) 0 (Ps ps) hs) (.exit 4) (y7r (Ps ps) hs)) ∨
    (fE (fP ps) 0 ps≠0∧Lp E 1 B2 2 (I5 (Ps ps) ((Ps ps).length:Int) 0 (Ps ps) hs) .ret (U1 (Ps ps) hs (fE (fP ps) 0 ps))):=by
 have hq:=z3q ps
 refine x5t (E:=E) (l:=ps) (fP ps) (fun i=>I5 (Ps ps) ((Ps ps).length:Int) (i:Nat) (Ps ps) hs) (G:=fun v=>U1 (Ps ps) hs v) (k6s (by omega)) (fun i a ha=>?_) ps.length 0 (by omega)
 have hi:=C1 ha
 have hm:=List.mem_of_getElem? ha
 have hs1:=hp a hm
 have ho:=List.all_eq_true.1 ho a hm
 unfold okP at ho
 simp only [List.all_cons,List.all_nil,Bool.and_true,Bool.and_eq_true] at ho
 have s1:=y3w hlib ho.1 hs1.1
 have s2:=y3w hlib ho.2.1 hs1.2.1
 have s3:=y3w hlib ho.2.2 hs1.2.2
 have g:=A5 (X6 ha)
 have b1:(i:Int) < ((Ps ps).length:Int):=by omega
 have b2:(0:Int)≤(i:Int):=by omega
 unfold fP
 by_cases c1:1≤a.id∧a.id≤1073741824
 rotate_left
 · rw [if_neg c1]; exact outp (by decide) (k6r b1 b2 g (j8e c1))
 have w1:=j8f (E:=E) c1
 rw [if_pos c1]
 by_cases c2:1≤a.un∧a.un≤9
 rotate_left
 · rw [if_neg c2]; exact outp (by decide) (k6q b1 b2 g w1 (j8e c2))
 have w2:=j8f (E:=E) c2
 rw [if_pos c2]
 by_cases c3:1≤a.cl∧a.cl≤9
 rotate_left
 · rw [if_neg c3]; exact outp (by decide) (k6p b1 b2 g w1 w2 (j8e c3))
 have w3:=j8f (E:=E) c3
 rw [if_pos c3]
 by_cases c4:cmpQ (rdv a.ma) 0≤0
 · rw [if_pos c4]; exact outp (by decide) (k6k b1 b2 g w1 w2 w3 s1 c4)
 rw [if_neg c4]
 by_cases c5:cmpQ (rdv a.vo) 0≤0
 · rw [if_pos c5]; exact outp (by decide) (k6l b1 b2 g w1 w2 w3 s1 c4 s2 c5)
 rw [if_neg c5]
 by_cases c6:cmpQ (rdv a.wo) 0 < 0
 · rw [if_pos c6]; exact outp (by decide) (k6m b1 b2 g w1 w2 w3 s1 c4 s2 c5 s3 c6)
 rw [if_neg c6]
 cases c7:nmB a.nm with
 | false=>rw [if_neg (by simp)]; exact outp (by decide) (k6o b1 b2 g w1 w2 w3 s1 c4 s2 c5 s3 c6 (q6k c7))
 | true =>
  rw [if_pos rfl]
  have w7:=q6k (E:=E) c7
  by_cases c8:0 < i
  · rw [if_pos c8]
    obtain ⟨q,hq'⟩:=z1g (l:=ps) (i:=i - 1) (by omega)
    rw [hq']
    show (((if q.id≥a.id then (5:Int) else 0)=0)→_)∧_
    by_cases c9:q.id≥a.id
    · rw [show ((if ((some q).map Pc.id).getD 0≥a.id then (5:Int) else 0))=5 from if_pos c9,if_pos c9]; exact outp (by decide) (k6n b1 b2 g w1 w2 w3 s1 c4 s2 c5 s3 c6 w7 (by omega) (by omega) (A5 (X6 hq')) c9 (wi (by omega)))
    · rw [show ((if ((some q).map Pc.id).getD 0≥a.id then (5:Int) else 0))=0 from if_neg c9,if_neg c9]; exact inp fun o s ih=>j3k b1 b2 g w1 w2 w3 s1 c4 s2 c5 s3 c6 w7 (by omega) (by omega) (A5 (X6 hq')) c9 (wi (by omega)) (wi (by omega)) ih
  · rw [if_neg c8]
    exact inp fun o s ih=>j3l b1 b2 g w1 w2 w3 s1 c4 s2 c5 s3 c6 w7 (by omega) (wi (by omega)) ih
theorem chk_L3 (hlib:Lib E) {hs:List Hd} {ps:RW} (hp:∀ p∈hs,ShH p) (ho:hs.all okH=true) (hl:hs.length < 1000) :
    (fE (fH hs) 0 hs=0∧Lp E 1 B2 3 (M5 (Hs hs) ((Hs hs).length:Int) 0 ps (Hs hs)) (.exit 6) (y7s ps (Hs hs))) ∨
    (fE (fH hs) 0 hs≠0∧Lp E 1 B2 3 (M5 (Hs hs) ((Hs hs).length:Int) 0 ps (Hs hs)) .ret (z0q ps (Hs hs) (fE (fH hs) 0 hs))):=by
 have hq:=z0k hs
 refine x5t (E:=E) (l:=hs) (fH hs) (fun i=>M5 (Hs hs) ((Hs hs).length:Int) (i:Nat) ps (Hs hs)) (G:=fun v=>z0q ps (Hs hs) v) (k6y (by omega)) (fun i a ha=>?_) hs.length 0 (by omega)
 have hi:=C1 ha
 have hm:=List.mem_of_getElem? ha
 have hs1:=hp a hm
 have ho:=List.all_eq_true.1 ho a hm
 unfold okH at ho
 simp only [List.all_cons,List.all_nil,Bool.and_true,Bool.and_eq_true] at ho
 have s1:=y3w hlib ho.1 hs1.1
 have s2:=y3w hlib ho.2.1 hs1.2.1
 have g:=A5 (z0b ha)
 have b1:(i:Int) < ((Hs hs).length:Int):=by omega
 have b2:(0:Int)≤(i:Int):=by omega
 unfold fH
 by_cases c1:1≤a.id∧a.id≤1073741824
 rotate_left
 · rw [if_neg c1]; exact outp (by decide) (k6x b1 b2 g (j8e c1))
 have w1:=j8f (E:=E) c1
 rw [if_pos c1]
 by_cases c4:cmpQ (rdv a.ro) 0 < 0
 · rw [if_pos c4]; exact outp (by decide) (k6t b1 b2 g w1 s1 c4)
 rw [if_neg c4]
 by_cases c5:cmpQ (rdv a.mo) 0 < 0
 · rw [if_pos c5]; exact outp (by decide) (k6u b1 b2 g w1 s1 c4 s2 c5)
 rw [if_neg c5]
 cases c7:nmB a.nm with
 | false=>rw [if_neg (by simp)]; exact outp (by decide) (k6w b1 b2 g w1 s1 c4 s2 c5 (q6k c7))
 | true =>
  rw [if_pos rfl]
  have w7:=q6k (E:=E) c7
  by_cases c8:0 < i
  · rw [if_pos c8]
    obtain ⟨q,hq'⟩:=z1g (l:=hs) (i:=i - 1) (by omega)
    rw [hq']
    show (((if q.id≥a.id then (5:Int) else 0)=0)→_)∧_
    by_cases c9:q.id≥a.id
    · rw [show ((if ((some q).map Hd.id).getD 0≥a.id then (5:Int) else 0))=5 from if_pos c9,if_pos c9]; exact outp (by decide) (k6v b1 b2 g w1 s1 c4 s2 c5 w7 (by omega) (by omega) (A5 (z0b hq')) c9 (wi (by omega)))
    · rw [show ((if ((some q).map Hd.id).getD 0≥a.id then (5:Int) else 0))=0 from if_neg c9,if_neg c9]; exact inp fun o s ih=>j3m b1 b2 g w1 s1 c4 s2 c5 w7 (by omega) (by omega) (A5 (z0b hq')) c9 (wi (by omega)) (wi (by omega)) ih
  · rw [if_neg c8]
    exact inp fun o s ih=>j3n b1 b2 g w1 s1 c4 s2 c5 w7 (by omega) (wi (by omega)) ih
theorem k1t (hlib:Lib E) {ps:List Pc} {hs:List Hd} (h:Sh ps hs):Fn E B2 [.agg [.list (Ps ps),.list (Hs hs)]] (.c (.i64 (chkC ps hs))):=by
 obtain ⟨n1,n2,hp,hh⟩:=h
 have l1:=z3q ps
 have l2:=z0k hs
 unfold chkC
 rcases chk_L0 hlib (hs:=Hs hs) hp (by omega) with ⟨o1,h1⟩ | ⟨o1,h1⟩
 rotate_left
 · rw [if_neg fun h=>o1 h.1]; exact v2p h1
 rcases chk_L1 hlib (ps:=Ps ps) hh (by omega) with ⟨o2,h2⟩ | ⟨o2,h2⟩
 rotate_left
 · rw [if_neg fun h=>o2 h.2]; exact v2q h1 h2
 rw [if_pos ⟨o1,o2⟩]
 by_cases c1:ps.length > 6
 · rw [if_pos (.inl c1)]; exact v2r h1 h2 (by omega)
 by_cases c2:hs.length > 6
 · rw [if_pos (.inr c2)]; exact v2s h1 h2 (by omega) (by omega)
 rw [if_neg (fun h=>h.elim c1 c2)]
 rcases chk_L2 hlib (hs:=Hs hs) hp o1 (by omega) with ⟨o3,h3⟩ | ⟨o3,h3⟩
 rotate_left
 · rw [if_neg o3]; exact v2t h1 h2 (by omega) (by omega) h3
 rw [if_pos o3]
 rcases chk_L3 hlib (ps:=Ps ps) hh o2 (by omega) with ⟨o4,h4⟩ | ⟨o4,h4⟩
 · rw [o4]; exact v2v h1 h2 (by omega) (by omega) h3 h4
 · exact v2u h1 h2 (by omega) (by omega) h3 h4
end Gev
namespace Gev
open Go Gb
variable {E:Env}
attribute [local irreducible] Sz
theorem j0o {α:Type} {n F k:Nat} {l:List α} (f:Nat→α→Int) (st:Nat→St) {oe:Out} {fin:St} {G:Int→St} (hend:Lp E n F k (st l.length) oe fin)
    (hstep:∀ i a,l[i]?=some a→(∀ j b,j < i→l[j]?=some b→f j b=0)→(f i a=0→∀ o s,Lp E n F k (st (i+1)) o s→Lp E n F k (st i) o s)∧(f i a≠0→Lp E n F k (st i) .ret (G (f i a)))):∀ d i:Nat,i+d=l.length→(∀ j b,j < i→l[j]?=some b→f j b=0) →
    (fE f i (l.drop i)=0∧Lp E n F k (st i) oe fin)∨(fE f i (l.drop i)≠0∧Lp E n F k (st i) .ret (G (fE f i (l.drop i))))
 | 0,i,hi,_=>by
  have e:i=l.length:=by omega
  rw [e,List.drop_length]; exact .inl ⟨rfl,hend⟩
 | d+1,i,hi,hp=>by
  obtain ⟨a,ha⟩:=z1g (l:=l) (i:=i) (by omega)
  rw [j4k ha]
  show (fE f i (a::l.drop (i+1))=0∧_)∨_
  unfold fE
  by_cases h0:f i a=0
  · rw [if_pos h0]
    have hp':∀ j b,j < i+1→l[j]?=some b→f j b=0:=fun j b hj hb=>by
     by_cases e:j=i
     · rw [e] at hb ⊢; rw [ha] at hb; cases hb; exact h0
     · exact hp j b (by omega) hb
    rcases j0o f st hend hstep d (i+1) (by omega) hp' with ⟨h1,h2⟩ | ⟨h1,h2⟩
    · exact .inl ⟨h1,(hstep i a ha hp).1 h0 _ _ h2⟩
    · exact .inr ⟨h1,(hstep i a ha hp).1 h0 _ _ h2⟩
  · rw [if_neg h0]; exact .inr ⟨h0,(hstep i a ha hp).2 h0⟩
def ixP (ps:List Pc) (id:Int):Int:=ix (fun p=>p.id == id) ps
def ixH (hs:List Hd) (id:Int):Int:=ix (fun p=>p.id == id) hs
def pcAt (ps:List Pc) (id:Int):Pc:=(ps[(ixP ps id).toNat]?).getD ⟨0,0,0,[],[],[],[]⟩
def hdAt (hs:List Hd) (id:Int):Hd:=(hs[(ixH hs id).toNat]?).getD ⟨0,[],[],[],[],[],[]⟩
theorem z3b {ps:List Pc} {id:Int} (h:¬ ixP ps id < 0):ps[(ixP ps id).toNat]?=some (pcAt ps id):=by
 obtain ⟨a,h1,h2⟩:=q8m h
 unfold pcAt ixP
 rw [h1]; rfl
theorem j4d {hs:List Hd} {id:Int} (h:¬ ixH hs id < 0):hs[(ixH hs id).toNat]?=some (hdAt hs id):=by
 obtain ⟨a,h1,h2⟩:=q8m h
 unfold hdAt ixH
 rw [h1]; rfl
def fS (ps:List Pc) (hs:List Hd) (l:List Sw) (i:Nat) (s:Sw):Int :=
 if ixP ps s.pa < 0 then 7 else if ixH hs s.ho < 0 then 7 else if s.un < 1 then 2 else if 0 < i∧ordS ((l[i - 1]?).getD ⟨0,0,0⟩) s≥0 then 5 else
 if s.un > (pcAt ps s.pa).un then 12 else if unS (l.take (i+1)) s.pa > (pcAt ps s.pa).un then 12 else 0
noncomputable def stwC (ps:List Pc) (hs:List Hd) (l:List Sw):Int:=if chkC ps hs=0 then fE (fS ps hs l) 0 l else 1
theorem k5l {ps:List Pc} {hs:List Hd} (h:chkC ps hs=0):ps.all okP=true∧hs.all okH=true∧ps.length≤6∧hs.length≤6∧fE (fP ps) 0 ps=0∧fE (fH hs) 0 hs=0:=by
 unfold chkC at h
 by_cases c:ps.all okP=true∧hs.all okH=true
 · rw [if_pos c] at h
   by_cases c2:ps.length > 6∨hs.length > 6
   · rw [if_pos c2] at h; cases h
   · rw [if_neg c2] at h
     by_cases c3:fE (fP ps) 0 ps=0
     · rw [if_pos c3] at h; exact ⟨c.1,c.2,by omega,by omega,c3,h⟩
     · rw [if_neg c3] at h; exact absurd h c3
 · rw [if_neg c] at h; cases h
theorem u4h {l:List Pc} {i:Nat} {p:Pc} (h:fP l i p=0):(1≤p.id∧p.id≤1073741824)∧(1≤p.un∧p.un≤9)∧(1≤p.cl∧p.cl≤9):=by
 unfold fP at h
 by_cases c1:1≤p.id∧p.id≤1073741824
 · rw [if_pos c1] at h
   by_cases c2:1≤p.un∧p.un≤9
   · rw [if_pos c2] at h
     by_cases c3:1≤p.cl∧p.cl≤9
     · exact ⟨c1,c2,c3⟩
     · rw [if_neg c3] at h; cases h
   · rw [if_neg c2] at h; cases h
 · rw [if_neg c1] at h; cases h
theorem j0l {ps:List Pc} {hs:List Hd} (h:chkC ps hs=0) {p:Pc} (hp:p∈ps):(1≤p.id∧p.id≤1073741824)∧(1≤p.un∧p.un≤9)∧(1≤p.cl∧p.cl≤9):=by
 obtain ⟨j,hj⟩:=List.mem_iff_getElem?.1 hp
 exact u4h (x7t (k5l h).2.2.2.2.1 j p hj)
theorem v9c {ps:List Pc} {hs:List Hd} {l:List Sw} {i:Nat} {s:Sw} (h:fS ps hs l i s=0):¬ ixP ps s.pa < 0∧¬ ixH hs s.ho < 0∧1≤s.un∧s.un≤(pcAt ps s.pa).un:=by
 unfold fS at h
 by_cases c1:ixP ps s.pa < 0
 · rw [if_pos c1] at h; cases h
 rw [if_neg c1] at h
 by_cases c2:ixH hs s.ho < 0
 · rw [if_pos c2] at h; cases h
 rw [if_neg c2] at h
 by_cases c3:s.un < 1
 · rw [if_pos c3] at h; cases h
 rw [if_neg c3] at h
 by_cases c4:0 < i∧ordS ((l[i - 1]?).getD ⟨0,0,0⟩) s≥0
 · rw [if_pos c4] at h; cases h
 rw [if_neg c4] at h
 by_cases c5:s.un > (pcAt ps s.pa).un
 · rw [if_pos c5] at h; cases h
 exact ⟨c1,c2,by omega,by omega⟩
theorem u3t (l:List Sw) (n:Nat):(Ss l).take n=Ss (l.take n):=by unfold Ss; rw [List.map_take]
theorem x0m (hlib:Lib E) {ps:List Pc} {hs:List Hd} {l:List Sw} (h:Sh ps hs) (hl:l.length≤1000) (hu:∀ a∈l,-9223372036854775808≤a.un∧a.un≤9223372036854775807):Fn E F8 [.agg [.list (Ps ps),.list (Hs hs)],.c (.list (Ss l))] (.c (.i64 (stwC ps hs l))):=by
 have hC:=k1t hlib h
 unfold stwC
 by_cases c0:chkC ps hs=0
 rotate_left
 · rw [if_neg c0]; exact q6v hC c0
 rw [if_pos c0]
 have hq:=y5y l
 have n1:=h.np
 have n2:=h.nh
 have:=j0o (E:=E) (l:=l) (fS ps hs l) (fun i=>I8 (Ss l) (Ss l) ((Ss l).length:Int) (i:Nat) (Ps ps) (Hs hs)) (G:=fun v=>V3 (Ps ps) (Hs hs) v) (n:=1) (F:=F8) (k:=0) (oe:=.exit 0) (fin:=y5z (Ps ps) (Hs hs)) (k2f (by omega)) (fun i a ha hpre=>?_) l.length 0 (by omega) (fun j b hj=>by omega)
 · rcases this with ⟨h1,h2⟩ | ⟨h1,h2⟩
   · rw [List.drop_zero] at h1; rw [h1]; exact q6x hC c0 h2
   · rw [List.drop_zero] at h2; exact q6w hC c0 h2
 have hi:=C1 ha
 have g:=A5 (z0c ha)
 have b1:(i:Int) < ((Ss l).length:Int):=by omega
 have b2:(0:Int)≤(i:Int):=by omega
 have p1:=x8y (E:=E) (ps:=ps) (hs:=Hs hs) (id:=a.pa) (by omega)
 have p2:=x4s (E:=E) (hs:=hs) (ps:=Ps ps) (id:=a.ho) (by omega)
 unfold fS
 by_cases c1:ixP ps a.pa < 0
 · rw [if_pos c1]; exact outp (by decide) (k1x b1 b2 g p1 c1)
 rw [if_neg c1]
 by_cases c2:ixH hs a.ho < 0
 · rw [if_pos c2]; exact outp (by decide) (k1y b1 b2 g p1 c1 p2 c2)
 rw [if_neg c2]
 by_cases c3:a.un < 1
 · rw [if_pos c3]; exact outp (by decide) (k1z b1 b2 g p1 c1 p2 c2 c3)
 rw [if_neg c3]
 have gp:=X6 (z3b c1)
 have hun:=j0l c0 (List.mem_of_getElem? (z3b c1))
 have hu2:a.un≤(pcAt ps a.pa).un→∀ b∈l.take (i+1),-9≤b.un∧b.un≤1000000000:=fun hle b hb=>by
  obtain ⟨j,hj⟩:=List.mem_iff_getElem?.1 hb
  rw [List.getElem?_take] at hj
  split at hj
  · rename_i hji
    by_cases e:j=i
    · rw [e,ha] at hj; cases hj; omega
    · have:=v9c (hpre j b (by omega) hj)
      have h2:=j0l c0 (List.mem_of_getElem? (z3b this.1))
      omega
  · cases hj
 have hu3:a.un≤(pcAt ps a.pa).un→Fn E U6 [.c (.list (Ss (l.take (i+1)))),.c (.i64 a.pa)] (.c (.i64 (unS (l.take (i+1)) a.pa))):=fun hle=>q7c (by rw [List.length_take]; omega) (hu2 hle)
 have hsl:(0:Int)≤0∧(0:Int)≤((i+1:Nat):Int)∧((i+1:Nat):Int)≤(Ss l).length∧∀ x∈Ss l,x.length=3:=⟨by omega,by omega,by omega,fun x hx=>by obtain ⟨y,_,rfl⟩:=List.mem_map.1 hx; rfl⟩
 have htk:List.drop 0 ((Ss l).take (Int.toNat ((i+1:Nat):Int)))=Ss (l.take (i+1)):=by rw [List.drop_zero,Int.toNat_natCast,u3t]
 by_cases c8:0 < i
 · obtain ⟨q,hq'⟩:=z1g (l:=l) (i:=i - 1) (by omega)
   have po:=q7a (E:=E) q a
   rw [hq']
   by_cases c4:ordS q a≥0
   · rw [if_pos ⟨c8,c4⟩]; exact outp (by decide) (k2a b1 b2 g p1 c1 p2 c2 c3 (by omega) (by omega) (A5 (z0c hq')) po c4 (wi (by omega)))
   rw [if_neg fun h=>c4 h.2]
   by_cases c5:a.un > (pcAt ps a.pa).un
   · rw [if_pos c5]; exact outp (by decide) (k2b b1 b2 g p1 c1 p2 c2 c3 (by omega) (by omega) (A5 (z0c hq')) po c4 (by unfold ixP at c1; omega) gp c5 (wi (by omega)))
   rw [if_neg c5]
   by_cases c6:unS (l.take (i+1)) a.pa > (pcAt ps a.pa).un
   · rw [if_pos c6]; exact outp (by decide) (k2c b1 b2 g p1 c1 p2 c2 c3 (by omega) (by omega) (A5 (z0c hq')) po c4 (by unfold ixP at c1; omega) gp c5 hsl (hu3 (by omega)) c6 (wi (by omega)) (wi (by omega)) htk)
   · rw [if_neg c6]; exact inp fun o s ih=>j0i b1 b2 g p1 c1 p2 c2 c3 (by omega) (by omega) (A5 (z0c hq')) po c4 (by unfold ixP at c1; omega) gp c5 hsl (hu3 (by omega)) c6 (wi (by omega)) (wi (by omega)) htk ih
 · rw [if_neg fun h=>c8 h.1]
   by_cases c5:a.un > (pcAt ps a.pa).un
   · rw [if_pos c5]; exact outp (by decide) (k2d b1 b2 g p1 c1 p2 c2 c3 (by omega) (by unfold ixP at c1; omega) gp c5)
   rw [if_neg c5]
   by_cases c6:unS (l.take (i+1)) a.pa > (pcAt ps a.pa).un
   · rw [if_pos c6]; exact outp (by decide) (k2e b1 b2 g p1 c1 p2 c2 c3 (by omega) (by unfold ixP at c1; omega) gp c5 hsl (hu3 (by omega)) c6 (wi (by omega)) htk)
   · rw [if_neg c6]; exact inp fun o s ih=>j0j b1 b2 g p1 c1 p2 c2 c3 (by omega) (by unfold ixP at c1; omega) gp c5 hsl (hu3 (by omega)) c6 (wi (by omega)) htk ih
end Gev
namespace Gev
open Go Gb
variable {E:Env}
attribute [local irreducible] Sz
structure LD where
 (m v w x y z:Rat)
def LD.d (t:LD):List DV:=[.str (B (decQ t.m)),.str (B (decQ t.v)),.str (B (decQ t.w)),.str (B (decQ t.x)),.str (B (decQ t.y)),.str (B (decQ t.z))]
def LD.o:LD:=⟨0,0,0,0,0,0⟩
noncomputable def ladN (ps:List Pc) (hs:List Hd) (t:LD) (s:Sw):LD :=
 ⟨t.m+(s.un:Rat)*rdv (pcAt ps s.pa).ma,t.v+(s.un:Rat)*rdv (pcAt ps s.pa).vo,t.w+(s.un:Rat)*rdv (pcAt ps s.pa).wo,
  t.x+(s.un:Rat)*rdv (pcAt ps s.pa).ma*rdv (hdAt hs s.ho).x,t.y+(s.un:Rat)*rdv (pcAt ps s.pa).ma*rdv (hdAt hs s.ho).y,t.z+(s.un:Rat)*rdv (pcAt ps s.pa).ma*rdv (hdAt hs s.ho).z⟩
noncomputable def lad (ps:List Pc) (hs:List Hd) (l:List Sw):LD:=l.foldl (ladN ps hs) LD.o
def LD.Z (t:LD) (K:Nat):Prop:=Sz t.m K∧Sz t.v K∧Sz t.w K∧Sz t.x K∧Sz t.y K∧Sz t.z K
structure Rg (ps:List Pc) (hs:List Hd) (l:List Sw):Prop where
 sh:Sh ps hs
 ok:chkC ps hs=0
 st:∀ s∈l,¬ ixP ps s.pa < 0∧¬ ixH hs s.ho < 0∧1≤s.un∧s.un≤9
 ln:l.length≤1000
theorem Rg.of {ps:List Pc} {hs:List Hd} {l:List Sw} (h:Sh ps hs) (hl:l.length≤1000) (h0:stwC ps hs l=0):Rg ps hs l:=by
 unfold stwC at h0
 by_cases c:chkC ps hs=0
 · rw [if_pos c] at h0
   refine ⟨h,c,fun s hs'=>?_,hl⟩
   obtain ⟨j,hj⟩:=List.mem_iff_getElem?.1 hs'
   have:=v9c (x7t h0 j s hj)
   have h2:=j0l c (List.mem_of_getElem? (z3b this.1))
   exact ⟨this.1,this.2.1,by omega,by omega⟩
 · rw [if_neg c] at h0; cases h0
theorem Rg.filter {ps:List Pc} {hs:List Hd} {l:List Sw} (h:Rg ps hs l) (p:Sw→Bool):Rg ps hs (l.filter p) :=
 ⟨h.sh,h.ok,fun s hs=>h.st s (List.mem_filter.1 hs).1,Nat.le_trans (List.length_filter_le p l) h.ln⟩
theorem u1v {ps:List Pc} {hs:List Hd} (h:chkC ps hs=0) {p:Pc} (hp:p∈ps):ok1 p.ma=true∧ok1 p.vo=true∧ok1 p.wo=true:=by
 have:=List.all_eq_true.1 (k5l h).1 p hp
 unfold okP at this
 simpa using this
theorem w6f {ps:List Pc} {hs:List Hd} (h:chkC ps hs=0) {p:Hd} (hp:p∈hs):ok1 p.ro=true∧ok1 p.mo=true∧ok1 p.x=true∧ok1 p.y=true∧ok1 p.z=true:=by
 have:=List.all_eq_true.1 (k5l h).2.1 p hp
 unfold okH at this
 simpa using this
theorem q2r (hlib:Lib E) {z:Int} (h:-9223372036854775808≤z∧z≤9223372036854775807):Fn E x2a [.c (.i64 z)] (Sq (z:Rat)):=by
 have:=q6z (hlib.itoa z h)
 rwa [show decZ z=decQ (z:Rat) from (x7r z).symm] at this
theorem w1k {ps:List Pc} {hs:List Hd} {l:List Sw} (h:Rg ps hs l) {s:Sw} (hs':s∈l) :
    (ok1 (pcAt ps s.pa).ma=true∧ok1 (pcAt ps s.pa).vo=true∧ok1 (pcAt ps s.pa).wo=true∧ok1 (hdAt hs s.ho).x=true∧ok1 (hdAt hs s.ho).y=true∧ok1 (hdAt hs s.ho).z=true)∧Sz (s.un:Rat) 1 ∧
    Sz (rdv (pcAt ps s.pa).ma) 40∧Sz (rdv (pcAt ps s.pa).vo) 40∧Sz (rdv (pcAt ps s.pa).wo) 40∧Sz (rdv (hdAt hs s.ho).x) 40∧Sz (rdv (hdAt hs s.ho).y) 40∧Sz (rdv (hdAt hs s.ho).z) 40:=by
 obtain ⟨h1,h2,h3,h4⟩:=h.st s hs'
 have m1:=List.mem_of_getElem? (z3b h1)
 have m2:=List.mem_of_getElem? (j4d h2)
 obtain ⟨a1,a2,a3⟩:=u1v h.ok m1
 obtain ⟨_,_,b1,b2,b3⟩:=w6f h.ok m2
 have s1:=h.sh.p _ m1
 have s2:=h.sh.h _ m2
 exact ⟨⟨a1,a2,a3,b1,b2,b3⟩,Sz.int (by decide) (by omega),z2w a1 s1.1,z2w a2 s1.2.1,z2w a3 s1.2.2,z2w b1 s2.2.2.1,z2w b2 s2.2.2.2.1,z2w b3 s2.2.2.2.2⟩
theorem v9e {ps:List Pc} {hs:List Hd} {l:List Sw} (h:Rg ps hs l) {s:Sw} (hs':s∈l) {t:LD} {K:Nat} (ht:t.Z K):(ladN ps hs t s).Z (K+100):=by
 obtain ⟨_,u,m,v,w,x,y,z⟩:=w1k h hs'
 obtain ⟨t1,t2,t3,t4,t5,t6⟩:=ht
 exact ⟨(t1.add (u.mul m)).mono (by omega),(t2.add (u.mul v)).mono (by omega),(t3.add (u.mul w)).mono (by omega),(t4.add ((u.mul m).mul x)).mono (by omega),(t5.add ((u.mul m).mul y)).mono (by omega),(t6.add ((u.mul m).mul z)).mono (by omega)⟩
theorem u1g {ps:List Pc} {hs:List Hd} {l:List Sw} (h:Rg ps hs l):∀ (r:List Sw) (t:LD) (K:Nat),(∀ s∈r,s∈l)→t.Z K→(r.foldl (ladN ps hs) t).Z (K+100*r.length)
 | [],t,K,_,ht=>ht
 | s::r,t,K,hr,ht=>by
  have:=u1g h r (ladN ps hs t s) (K+100) (fun x hx=>hr x (List.mem_cons_of_mem _ hx)) (v9e h (hr s List.mem_cons_self) ht)
  rw [List.foldl_cons,List.length_cons]
  rwa [show K+100*(r.length+1)=K+100+100*r.length by omega]
theorem LD.o_sz:LD.o.Z 1:=⟨Sz.zero,Sz.zero,Sz.zero,Sz.zero,Sz.zero,Sz.zero⟩
theorem k2h (hlib:Lib E) {ps:List Pc} {hs:List Hd} {l:List Sw} (h:Rg ps hs l):Fn E z0v [.agg [.list (Ps ps),.list (Hs hs)],.c (.list (Ss l))] (.agg (lad ps hs l).d):=by
 have hq:=y5y l
 have n1:=h.sh.np
 have n2:=h.sh.nh
 have hln:=h.ln
 have hL:=x2f
 have hz:(B (decQ 0))=(⟨#[48]⟩:BA):=by rw [j8j]; rfl
 have:=I9 (E:=E) (l:=l) (n:=3) (F:=z0v) (k:=0) (ladN ps hs) (fun i t=>t.Z (1+100*i))
  (fun i t=>z2x (Ss l) ((Ss l).length:Int) (i:Nat) (Ps ps) (Hs hs) ⟨#[]⟩ ⟨#[]⟩ ⟨#[]⟩ ⟨#[]⟩ ⟨#[]⟩ ⟨#[]⟩ (B (decQ t.m)) (B (decQ t.v)) (B (decQ t.w)) (B (decQ t.x)) (B (decQ t.y)) (B (decQ t.z))) (oe:=.exit 0)
  (fin:=fun t=>y7u (Ps ps) (Hs hs) ⟨#[]⟩ ⟨#[]⟩ ⟨#[]⟩ ⟨#[]⟩ ⟨#[]⟩ ⟨#[]⟩ (B (decQ t.m)) (B (decQ t.v)) (B (decQ t.w)) (B (decQ t.x)) (B (decQ t.y)) (B (decQ t.z))) (fun t _=>k7c (by omega))
  (fun i a t ha ht=>by
   have hi:=C1 ha
   have hm:=List.mem_of_getElem? ha
   refine ⟨by have:=v9e h hm ht; rwa [show 1+100*(i+1)=1+100*i+100 by omega],fun o s ih=>?_⟩
   obtain ⟨t1,t2,t3,t4,t5,t6⟩:=ht
   obtain ⟨h1,h2,h3,h4⟩:=h.st a hm
   obtain ⟨⟨k1,k2,k3,k4,k5,k6⟩,u,m,v,w,x,y,z⟩:=w1k h hm
   have p1:=x8y (E:=E) (ps:=ps) (hs:=Hs hs) (id:=a.pa) (by omega)
   have p2:=x4s (E:=E) (hs:=hs) (ps:=Ps ps) (id:=a.ho) (by omega)
   have g1:=X6 (z3b h1)
   have g2:=z0b (j4d h2)
   have nu:=q2r hlib (z:=a.un) (by omega)
   have q1:=y2u hlib u m (by omega)
   have q2:=y2u hlib u v (by omega)
   have q3:=y2u hlib u w (by omega)
   have q4:=y2u hlib (u.mul m) x (by omega)
   have q5:=y2u hlib (u.mul m) y (by omega)
   have q6:=y2u hlib (u.mul m) z (by omega)
   rw [y1u k1] at q1
   rw [y1u k2] at q2
   rw [y1u k3] at q3
   rw [y1u k4] at q4
   rw [y1u k5] at q5
   rw [y1u k6] at q6
   exact j3o (by omega) (by omega) (A5 (z0c ha)) p1 (by unfold ixP at h1; omega) g1 p2 (by unfold ixH at h2; omega) g2 nu q1 (y2t hlib t1 (u.mul m) (by omega)) q2 (y2t hlib t2 (u.mul v) (by omega)) q3 (y2t hlib t3 (u.mul w) (by omega))
    q4 (y2t hlib t4 ((u.mul m).mul x) (by omega)) q5 (y2t hlib t5 ((u.mul m).mul y) (by omega)) q6 (y2t hlib t6 ((u.mul m).mul z) (by omega)) (wi (by omega)) ih)
  l.length 0 LD.o (by omega) LD.o_sz
 rw [List.drop_zero] at this
 have h2:=this.2
 show Fn E z0v _ (.agg (LD.d (l.foldl (ladN ps hs) LD.o)))
 have e:(fun i:Nat=>z2x (Ss l) ((Ss l).length:Int) (i:Nat) (Ps ps) (Hs hs) ⟨#[]⟩ ⟨#[]⟩ ⟨#[]⟩ ⟨#[]⟩ ⟨#[]⟩ ⟨#[]⟩ (B (decQ LD.o.m)) (B (decQ LD.o.v)) (B (decQ LD.o.w)) (B (decQ LD.o.x)) (B (decQ LD.o.y)) (B (decQ LD.o.z))) 0=z2x (Ss l) ((Ss l).length:Int) 0 (Ps ps) (Hs hs) ⟨#[]⟩ ⟨#[]⟩ ⟨#[]⟩ ⟨#[]⟩ ⟨#[]⟩ ⟨#[]⟩ ⟨#[48]⟩ ⟨#[48]⟩ ⟨#[48]⟩ ⟨#[48]⟩ ⟨#[48]⟩ ⟨#[48]⟩:=by
  show z2x _ _ _ _ _ _ _ _ _ _ _ (B (decQ 0)) (B (decQ 0)) (B (decQ 0)) (B (decQ 0)) (B (decQ 0)) (B (decQ 0))=_
  rw [hz]; rfl
 exact v2x (e ▸ h2)
end Gev
namespace Gev
open Go Gb
variable {E:Env}
attribute [local irreducible] Sz
theorem w7s {hs:List Hd} {h:Hd} (hh:h∈hs):¬ ixH hs h.id < 0:=fun e=>by
 have:=z4e.1 e
 rw [List.any_eq_false] at this
 exact this h hh (by simp)
theorem y4e:1000000000≤Lim:=by rw [Y9]; omega
theorem j8u {ps:List Pc} {hs:List Hd} {l:List Sw} (h:Rg ps hs l) (id:Int):Rg ps hs (inH l id):=h.filter _
theorem v2w (hlib:Lib E) (hc:Cs E) {ps:List Pc} {hs:List Hd} {l:List Sw} (h:Rg ps hs l) (h0:stwC ps hs l=0) (hu:∀ a∈l,-9223372036854775808≤a.un∧a.un≤9223372036854775807) {id:Int} (hi:¬ ixH hs id < 0) :
    Fn E x7h [.agg [.list (Ps ps),.list (Hs hs)],.c (.list (Ss l)),.c (.i64 id)] (.tup [.agg (lad ps hs (inH l id)).d,.c (.i64 0)]):=by
 have n2:=h.sh.nh
 have hS:=x0m hlib h.sh h.ln hu
 exact v8h hS h0 (x4s (by omega)) hi (q1t hc h.ln) (k2h hlib (j8u h id))
noncomputable def ovH (ps:List Pc) (hs:List Hd) (l:List Sw) (h:Hd):Bool:=decide (cmpQ (lad ps hs (inH l h.id)).m (rdv h.mo) > 0∨cmpQ (lad ps hs (inH l h.id)).v (rdv h.ro) > 0)
theorem w7t {ps:List Pc} {hs:List Hd} {l:List Sw} (h:Rg ps hs l):(lad ps hs l).Z 100001:=by
 have:=u1g h l LD.o 1 (fun s hs=>hs) LD.o_sz
 have hl:=h.ln
 obtain ⟨t1,t2,t3,t4,t5,t6⟩:=this
 have e:1+100*l.length≤100001:=by omega
 exact ⟨t1.mono e,t2.mono e,t3.mono e,t4.mono e,t5.mono e,t6.mono e⟩
theorem k6z (hlib:Lib E) (hc:Cs E) {ps:List Pc} {hs:List Hd} {l:List Sw} (h:Sh ps hs) (hl:l.length≤1000) (hu:∀ a∈l,-9223372036854775808≤a.un∧a.un≤9223372036854775807) :
    Fn E z8q [.agg [.list (Ps ps),.list (Hs hs)],.c (.list (Ss l))] (if stwC ps hs l=0 then .tup [.c (.i64 (ix (ovH ps hs l) hs)),.c (.i64 0)] else .tup [.c (.i64 0),.c (.i64 1)]):=by
 have hS:=x0m hlib h hl hu
 by_cases h0:stwC ps hs l=0
 · rw [if_pos h0]
   have hr:=Rg.of h hl h0
   have n2:=h.nh
   have hL:=x2f
   refine j0h hS h0 (x9x (ovH ps hs l) (by omega) fun a ha=>?_)
   obtain ⟨a1,a2,_⟩:=w6f hr.ok ha
   have sz:=h.h a ha
   have z:=w7t (j8u hr a.id)
   have e1:=q1t hc (h:=a.id) hl
   have e2:=k2h hlib (j8u hr a.id)
   have k1:=y7t hlib z.1 (z2w a2 sz.2.1) (by omega)
   have k2:=y7t hlib z.2.1 (z2w a1 sz.1) (by omega)
   rw [y1u a2] at k1
   rw [y1u a1] at k2
   unfold ovH
   by_cases c1:cmpQ (lad ps hs (inH l a.id)).m (rdv a.mo) > 0
   · rw [decide_eq_true (.inl c1)]; exact k1u e1 e2 k1 c1
   by_cases c2:cmpQ (lad ps hs (inH l a.id)).v (rdv a.ro) > 0
   · rw [decide_eq_true (.inr c2)]; exact k1v e1 e2 k1 c1 k2 c2
   · rw [decide_eq_false fun h=>h.elim c1 c2]; exact k1w e1 e2 k1 c1 k2 c2
 · rw [if_neg h0]; exact j0g hS h0
end Gev
namespace Gev
open Go Gb
variable {E:Env}
attribute [local irreducible] Sz
theorem j3a (hlib:Lib E) {x y:List UInt8} (h:ok1 x=true) (k:x.length≤1000) (h':ok1 y=true) (k':y.length≤1000):Fn E O4 [.c (.str (B x)),.c (.str (B y))] (.c (.i64 (cmpQ (rdv x) (rdv y)))):=by
 have:=x4h (y3o hlib (z2w h k) (z2w h' k') (by have:=x2f; omega))
 rwa [v8u h,v8u h'] at this
noncomputable def emp (x:List UInt8):Bool:=x.isEmpty || ok1 x
theorem G6 {x:List UInt8}:B x=(⟨#[]⟩:BA)↔x=[]:=by exact ⟨fun h=>y5o (h.trans u0e.symm),fun h=>by rw [h]; rfl⟩
theorem x7c (hlib:Lib E) {x:List UInt8} (h:x.length≤40):Fn E z3p [.c (.str (B x))] (.c (.bool (emp x))):=by
 unfold emp
 cases x with
 | nil=>exact q5b rfl
 | cons a x=>exact q5c (fun e=>by cases G6.1 e) (y6f hlib (by have:=x2f; omega))
def clB (n:Int):Bool:=decide (1≤n∧n≤9)
theorem z0t {n:Int} {b:Bool} (h:clB n=b):Fn E M1 [.c (.i64 n)] (.c (.bool b)):=by
 subst h
 unfold clB
 by_cases h1:n≥1
 · by_cases h2:n≤9
   · rw [decide_eq_true ⟨h1,h2⟩]; exact j7q h1 h2
   · rw [decide_eq_false fun h=>h2 h.2]; exact j7r h1 h2
 · rw [decide_eq_false fun h=>h1 h.1]; exact j7s h1
def fO (ps:List Pc) (hs:List Hd) (r:Ru):Int :=
 if r.kd=2 then (if r.a≥r.b then 2 else if clB r.a=true then (if clB r.b=true then 0 else 2) else 2) else if r.kd=3 then (if clB r.a=true then (if (hs.any fun h=>h.id == r.b)=true then 0 else 7) else 2) else
 if r.b=0 then (if (ps.any fun p=>p.id == r.a)=true then 0 else 7) else 2
theorem q1h {ps:List Pc} {hs:List Hd} {rs:RW} {r:Ru} (n1:ps.length≤1000) (n2:hs.length≤1000):Fn E P7 [.agg [.list (Ps ps),.list (Hs hs),.list rs],.agg r.d] (.c (.i64 (fO ps hs r))):=by
 unfold fO
 by_cases k2:r.kd=2
 · rw [if_pos k2]
   by_cases c1:r.a≥r.b
   · rw [if_pos c1]; exact q5o k2 c1
   rw [if_neg c1]
   cases c2:clB r.a with
   | false=>rw [if_neg (by simp)]; exact q5r k2 c1 (z0t c2)
   | true =>
    rw [if_pos rfl]
    cases c3:clB r.b with
    | false=>rw [if_neg (by simp)]; exact q5q k2 c1 (z0t c2) (z0t c3)
    | true=>rw [if_pos rfl]; exact q5p k2 c1 (z0t c2) (z0t c3)
 rw [if_neg k2]
 by_cases k3:r.kd=3
 · rw [if_pos k3]
   have h:=(j0s (E:=E) (c0_0:=B r.nm) (c0_1:=r.kd) (c0_2:=R1 r.fs) (c0_3:=B r.lo) (c0_4:=B r.hi) (c0_5:=r.a) (c0_6:=r.b) (l:=hs) (fun h=>h.id == r.b) (by omega) fun a _=>by
    by_cases e:a.id=r.b
    · rw [show (a.id == r.b)=true by simp [e]]; exact j7t e
    · rw [show (a.id == r.b)=false by simp [e]]; exact j7u e).sub [1] (by decide) rfl (objs:=[some (.cells [.c (.list (Ps ps)),.c (.list (Hs hs)),.c (.list rs)]),some (.cells [.c (.str (B r.nm)),.c (.i64 r.kd),.c (.list (R1 r.fs)),.c (.str (B r.lo)),.c (.str (B r.hi)),.c (.i64 r.a),.c (.i64 r.b)])]) (by intro i hi; match i,hi with | 0,_=>rfl) (by simp [Ob.plain]) rfl rfl
   cases c2:clB r.a with
   | false=>rw [if_neg (by simp)]; exact q5u k2 k3 (z0t c2)
   | true =>
    rw [if_pos rfl]
    cases c3:(hs.any fun h=>h.id == r.b) with
    | false=>rw [c3] at h; rw [if_neg (by simp)]; exact q5t k2 k3 (z0t c2) h
    | true=>rw [c3] at h; rw [if_pos rfl]; exact q5s k2 k3 (z0t c2) h
 rw [if_neg k3]
 by_cases c1:r.b=0
 · rw [if_pos c1]
   have h:=(j0t (E:=E) (c0_0:=B r.nm) (c0_1:=r.kd) (c0_2:=R1 r.fs) (c0_3:=B r.lo) (c0_4:=B r.hi) (c0_5:=r.a) (c0_6:=r.b) (l:=ps) (fun h=>h.id == r.a) (by omega) fun a _=>by
    by_cases e:a.id=r.a
    · rw [show (a.id == r.a)=true by simp [e]]; exact j7v e
    · rw [show (a.id == r.a)=false by simp [e]]; exact j7w e).sub [1] (by decide) rfl (objs:=[some (.cells [.c (.list (Ps ps)),.c (.list (Hs hs)),.c (.list rs)]),some (.cells [.c (.str (B r.nm)),.c (.i64 r.kd),.c (.list (R1 r.fs)),.c (.str (B r.lo)),.c (.str (B r.hi)),.c (.i64 r.a),.c (.i64 r.b)])]) (by intro i hi; match i,hi with | 0,_=>rfl) (by simp [Ob.plain]) rfl rfl
   cases c3:(ps.any fun h=>h.id == r.a) with
   | false=>rw [c3] at h; rw [if_neg (by simp)]; exact q5x k2 k3 c1 h
   | true=>rw [c3] at h; rw [if_pos rfl]; exact q5w k2 k3 c1 h
 · rw [if_neg c1]; exact q5v k2 k3 c1
noncomputable def fR (ps:List Pc) (hs:List Hd) (rs:List Ru) (i:Nat) (r:Ru):Int :=
 if r.fs.all ok1=true∧emp r.lo=true∧emp r.hi=true then (if nmB r.nm=true then (if (rs.take i).any (fun x=>x.nm == r.nm)=true then 6 else if r.kd < 1∨r.kd > 4 then 2 else
  if r.kd=1 then (if r.fs.length=hs.length∧r.a=0∧r.b=0 then (if r.lo=[]∧r.hi=[] then 2 else if r.lo≠[]∧r.hi≠[]∧cmpQ (rdv r.lo) (rdv r.hi) > 0 then 2 else 0) else 10) else
  if r.fs.length > 0∨r.lo≠[]∨r.hi≠[] then 10 else fO ps hs r) else 4) else 1
def ShR (r:Ru):Prop:=r.fs.length≤8∧(∀ x∈r.fs,x.length≤40)∧r.lo.length≤40∧r.hi.length≤40∧r.nm.length≤70
theorem u3s (l:List Ru) (n:Nat):(Rs l).take n=Rs (l.take n):=by unfold Rs; rw [List.map_take]
theorem x7s {x:List UInt8} (h:emp x=true) (hx:x≠[]):ok1 x=true:=by
 unfold emp at h
 cases x with
 | nil=>exact absurd rfl hx
 | cons a x=>exact h
theorem q1e (hlib:Lib E) {ps:List Pc} {hs:List Hd} {rs:List Ru} {i:Nat} {r:Ru} (n1:ps.length≤1000) (n2:hs.length≤1000) (n3:rs.length≤1000) (hi:rs[i]?=some r) (hr:ShR r):Fn E F6 [.agg [.list (Ps ps),.list (Hs hs),.list (Rs rs)],.c (.i64 (i:Nat))] (.c (.i64 (fR ps hs rs i r))):=by
 have hlt:=C1 hi
 have b1:(0:Int)≤(i:Nat):=by omega
 have g:=A5 (z5h hi)
 have l2:=z0k hs
 have l3:=y0n rs
 have hnm:=U5 r.nm
 have hL:=x2f
 have v:=j0p (E:=E) (l:=r.fs) (fun x=>!ok1 x) (by have:=hr.1; omega) fun x hx=>j7j (y6f hlib (by have:=hr.2.1 x hx; omega))
 rw [show (r.fs.any fun x=>!ok1 x)=!r.fs.all ok1 from by rw [List.all_eq_not_any_not,Bool.not_not]] at v
 have v1:=x7c hlib hr.2.2.1
 have v2:=x7c hlib hr.2.2.2.1
 unfold fR
 cases c1:r.fs.all ok1 with
 | false=>rw [c1] at v; rw [if_neg (by simp)]; exact q5d b1 g v
 | true =>
 rw [c1] at v
 cases c2:emp r.lo with
 | false=>rw [c2] at v1; rw [if_neg (by simp)]; exact q1d b1 g v v1
 | true =>
 rw [c2] at v1
 cases c3:emp r.hi with
 | false=>rw [c3] at v2; rw [if_neg (by simp)]; exact q1c b1 g v v1 v2
 | true =>
 rw [c3] at v2
 rw [if_pos ⟨rfl,rfl,rfl⟩]
 by_cases c4:r.nm.length < 1
 · rw [if_neg (by unfold nmB; simp; omega)]; exact q5e b1 g v v1 v2 (by omega)
 by_cases c5:r.nm.length > 64
 · rw [if_neg (by unfold nmB; simp; omega)]; exact q5f b1 g v v1 v2 (by omega) (by omega)
 rw [if_pos (by unfold nmB; simp; omega)]
 have d1:¬ ((B r.nm).size:Int) < 1:=by omega
 have d2:¬ ((B r.nm).size:Int) > 64:=by omega
 have hsl:(0:Int)≤0∧(0:Int)≤((i:Nat):Int)∧((i:Nat):Int)≤(Rs rs).length∧∀ x∈Rs rs,x.length=7:=⟨by omega,by omega,by omega,fun x hx=>by obtain ⟨y,_,rfl⟩:=List.mem_map.1 hx; rfl⟩
 have htk:List.drop 0 ((Rs rs).take (Int.toNat ((i:Nat):Int)))=Rs (rs.take i):=by rw [List.drop_zero,Int.toNat_natCast,u3s]
 have t:=(j0q (E:=E) (c0_0:=B r.nm) (c0_1:=r.kd) (c0_2:=R1 r.fs) (c0_3:=B r.lo) (c0_4:=B r.hi) (c0_5:=r.a) (c0_6:=r.b) (l:=rs.take i) (fun x=>x.nm == r.nm) (by rw [List.length_take]; omega) fun a _=>by
     by_cases e:a.nm=r.nm
     · rw [show (a.nm == r.nm)=true by simp [e]]; exact j7k (by rw [e])
     · rw [show (a.nm == r.nm)=false by simp [e]]; exact j7l (fun h=>e (y5o h))).sub [1] (by decide) rfl (objs:=[some (.cells [.c (.list (Ps ps)),.c (.list (Hs hs)),.c (.list (Rs rs))]),some (.cells [.c (.str (B r.nm)),.c (.i64 r.kd),.c (.list (R1 r.fs)),.c (.str (B r.lo)),.c (.str (B r.hi)),.c (.i64 r.a),.c (.i64 r.b)])]) (by intro i hi; match i,hi with | 0,_=>rfl) (by simp [Ob.plain]) rfl rfl
 cases c6:(rs.take i).any (fun x=>x.nm == r.nm) with
 | true=>rw [c6] at t; rw [if_pos rfl]; exact q5g b1 g v v1 v2 d1 d2 hsl t htk
 | false =>
 rw [c6] at t
 rw [if_neg (by simp)]
 by_cases c7:r.kd < 1
 · rw [if_pos (.inl c7)]; exact q5h b1 g v v1 v2 d1 d2 hsl t c7 htk
 by_cases c8:r.kd > 4
 · rw [if_pos (.inr c8)]; exact q5i b1 g v v1 v2 d1 d2 hsl t c7 c8 htk
 rw [if_neg fun h=>h.elim c7 c8]
 have hf:=z6g r.fs
 by_cases c9:r.kd=1
 · rw [if_pos c9]
   by_cases c10:r.fs.length=hs.length
   rotate_left
   · rw [if_neg fun h=>c10 h.1]; exact q5j b1 g v v1 v2 d1 d2 hsl t c7 c8 c9 (by omega) htk
   have c10':((R1 r.fs).length:Int)=((Hs hs).length:Int):=by omega
   by_cases c11:r.a=0
   rotate_left
   · rw [if_neg fun h=>c11 h.2.1]; exact q5k b1 g v v1 v2 d1 d2 hsl t c7 c8 c9 c10' c11 htk
   by_cases c12:r.b=0
   rotate_left
   · rw [if_neg fun h=>c12 h.2.2]; exact q5l b1 g v v1 v2 d1 d2 hsl t c7 c8 c9 c10' c11 c12 htk
   rw [if_pos ⟨c10,c11,c12⟩]
   by_cases c13:r.lo=[]
   · by_cases c14:r.hi=[]
     · rw [if_pos ⟨c13,c14⟩]; exact q5m b1 g v v1 v2 d1 d2 hsl t c7 c8 c9 c10' c11 c12 (G6.2 c13) (G6.2 c14) htk
     · rw [if_neg fun h=>c14 h.2,if_neg fun h=>h.1 c13]; exact q0u b1 g v v1 v2 d1 d2 hsl t c7 c8 c9 c10' c11 c12 (G6.2 c13) (fun h=>c14 (G6.1 h)) htk
   · rw [if_neg fun h=>c13 h.1]
     by_cases c14:r.hi=[]
     · rw [if_neg fun h=>h.2.1 c14]; exact q0x b1 g v v1 v2 d1 d2 hsl t c7 c8 c9 c10' c11 c12 (fun h=>c13 (G6.1 h)) (G6.2 c14) htk
     · have k:=j3a hlib (x7s c2 c13) (by have:=hr.2.2.1; omega) (x7s c3 c14) (by have:=hr.2.2.2.1; omega)
       by_cases c15:cmpQ (rdv r.lo) (rdv r.hi) > 0
       · rw [if_pos ⟨c13,c14,c15⟩]; exact q0v b1 g v v1 v2 d1 d2 hsl t c7 c8 c9 c10' c11 c12 (fun h=>c13 (G6.1 h)) (fun h=>c14 (G6.1 h)) k c15 htk
       · rw [if_neg fun h=>c15 h.2.2]; exact q0w b1 g v v1 v2 d1 d2 hsl t c7 c8 c9 c10' c11 c12 (fun h=>c13 (G6.1 h)) (fun h=>c14 (G6.1 h)) k c15 htk
 rw [if_neg c9]
 by_cases c10:r.fs.length > 0
 · rw [if_pos (.inl c10)]; exact q0y b1 g v v1 v2 d1 d2 hsl t c7 c8 c9 (by omega) htk
 by_cases c11:r.lo=[]
 rotate_left
 · rw [if_pos (.inr (.inl c11))]; exact q0z b1 g v v1 v2 d1 d2 hsl t c7 c8 c9 (by omega) (fun h=>c11 (G6.1 h)) htk
 by_cases c12:r.hi=[]
 rotate_left
 · rw [if_pos (.inr (.inr c12))]; exact q1a b1 g v v1 v2 d1 d2 hsl t c7 c8 c9 (by omega) (G6.2 c11) (fun h=>c12 (G6.1 h)) htk
 rw [if_neg fun h=>h.elim c10 fun h=>h.elim (fun h=>h c11) fun h=>h c12]
 exact q1b b1 g v v1 v2 d1 d2 hsl t c7 c8 c9 (by omega) (G6.2 c11) (G6.2 c12) (q1h n1 n2) htk
end Gev
