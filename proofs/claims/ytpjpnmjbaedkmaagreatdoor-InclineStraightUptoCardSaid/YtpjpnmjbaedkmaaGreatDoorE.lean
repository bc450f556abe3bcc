/- A part of the proof: see the last text of this claim. -/
import Derived.Test.YtpjpnmjbaedkmaaGreatDoorD
import Derived.Shelf.Strings.Builder1
import Derived.Shelf.Strings.Builder2
import Derived.Shelf.Small.Wraps
import Derived.Shelf.Strings.BuilderF
import Derived.Shelf.Strings.BuilderK
import Derived.Shelf.Strconv.Itoa0
import Derived.Shelf.Strconv.Itoa1
import Derived.Shelf.LaysM
import Derived.Shelf.Strconv.Itoa2
import Derived.Shelf.Strconv.Itoa3
import Derived.Shelf.Strconv.Itoa4
import Derived.Shelf.Strconv.ParseIntEmpty
import Derived.Shelf.Strconv.Clone
import Derived.Shelf.Strconv.SyntaxError
import Derived.Shelf.LaysC
import Derived.Shelf.Strconv.ToError
import Derived.Shelf.Strconv.Lower
import Derived.Shelf.Strconv.ParseUint10
import Derived.Shelf.Strconv.ParseUint10Empty
import Derived.Shelf.Strconv.ParseUint10Any
import Derived.Shelf.Strconv.ParseInt10
import Derived.Shelf.Strconv.RangeError
import Derived.Shelf.Strconv.ToErrorRange
import Derived.Shelf.Strconv.ParseUintEmpty
import Derived.Shelf.Strconv.ParseUint10b64
import Derived.Shelf.Strconv.ParseUint10b32
import Derived.Shelf.Strconv.ParseUint10b16
import Derived.Shelf.Strconv.ParseUint10b8
import Derived.Shelf.Strconv.ParseUint10At
import Derived.Shelf.Strconv.ParseInt10At64
import Derived.Shelf.Strconv.ParseInt10At32
import Derived.Shelf.Strconv.ParseInt10At16
import Derived.Shelf.Strconv.ParseInt10At8
import Derived.Shelf.Strconv.ParseInt10All
import Derived.Shelf.Strconv.ParseIntPublic10
import Derived.Ground.MpProg
import Derived.Shelf.Pu.ParseUintPublic10
import Derived.Shelf.Strings.Search1
import Derived.Shelf.Strings.Search2
import Derived.Shelf.Strings.Cut
import Derived.Shelf.Strings.Shaped
import Derived.Shelf.Strings.Prefix
import Derived.Shelf.Bits.Mul64
import Derived.Shelf.Strings.Repeat
import Derived.Ground.Names2Prog
import Derived.Shelf.Slices.SearchI
import Derived.Test.YtpjpnmjbaedkmaaGreatDoorProg
import Derived.Lib.Walk
import Derived.Lib.ItoaMem
import Derived.WalkKit
import Derived.BigCall
import Derived.BigGuard
import Derived.RangeFuncNested
import Derived.RangeFuncBound
import Derived.RangeFuncCalls
import Derived.RangeFuncLeaves
import Derived.Shelf.Abstract
import Derived.Shelf.RegionOpen
import Derived.OwnWalkIn
import Derived.TacticsInMore
import Derived.LoopNIn
import Derived.LoopIn
import Derived.RangeFuncFrom
import Derived.RangeFuncBox
import Derived.MapKept
import Derived.RangeFuncRecord
import Derived.Deep.RegionWith
import Derived.RegionTactic
import Derived.ChangeAlike
set_option linter.unusedSectionVars false
set_option linter.unusedVariables false
set_option linter.unusedSimpArgs false
namespace Gev
open Go Gb
variable {E : Env}
theorem r1_guess {sc w2 w4 : List (List DV)} {lq lu k j ln : Nat} {u v : List Int} (D : Dv u v lu k j) (hln : j + k < ln) (hls : ln < 35184372088832) :
    ∀ (t : Nat) (g rest : Int), 0 ≤ g → g < t → g ≤ 1000000001 → 0 ≤ rest ∧ rest < 2000000000 → g * v.getD (k - 1) 0 + rest = u.getD (j + k) 0 * 1000000000 + u.getD (j + k - 1) 0 → wv (u.drop j) < (g + 1) * wv v → (g = 1000000001 → rest + v.getD (k - 1) 0 < 1000000000) → (rest ≥ 1000000000 → g < 1000000000) →
    ∃ g', Lp E 5 F_ref01_Over 1 (ref01_Over_L1 k sc (Wr v) ln lq j g rest w2 (Wr u) w4) (.exit 2) (ref01_Over_L1e0 k sc (Wr v) ln lq j w2 (Wr u) w4 g') ∧ (0 ≤ g' ∧ g' < 1000000000) ∧ wv (u.drop j) < (g' + 1) * wv v ∧ (g' - 1) * wv v ≤ wv (u.drop j)
 | 0, g, rest, h0, ht, _, _, _, _, _, _ => by omega
 | t + 1, g, rest, h0, ht, hg, hr, he, hX, hbig, hrg => by
  have h2 := D.two
  have hjk := D.jk
  have hsm := D.small
  have hlu := D.elu
  have hlv := D.elv
  have a1 := D.hv.getD (k - 1)
  have a2 := D.hv.getD (k - 2)
  have b2 := D.hu.getD (j + k - 2)
  have b1 := D.hu.getD (j + k - 1)
  have b0 := D.hu.getD (j + k)
  have hnorm := D.norm
  have eV := split_two D.elv D.two
  have eX := split_three (u := u) (j := j) (k := k) D.two (by omega) D.zero
  have vl0 := val_nonneg (D.hv.take (k - 2))
  have vl1 := D.hv.val_take_lt (k - 2) (by omega)
  have xl0 := val_nonneg ((D.hu.drop j).take (k - 2))
  have xl1 := (D.hu.drop j).val_take_lt (k - 2) (by simp; omega)
  have hP := pw_pos (k - 2)
  have gk1 : (Wr v)[Int.toNat ((k : Int) - 1)]? = some [.u32 (v.getD (k - 1) 0)] := by
   rw [show Int.toNat ((k : Int) - 1) = k - 1 by omega]; exact Wr_getD (by omega)
  have gk2 : (Wr v)[Int.toNat ((k : Int) - 2)]? = some [.u32 (v.getD (k - 2) 0)] := by
   rw [show Int.toNat ((k : Int) - 2) = k - 2 by omega]; exact Wr_getD (by omega)
  have gu : (Wr u)[Int.toNat ((j : Int) + k - 2)]? = some [.u32 (u.getD (j + k - 2) 0)] := by
   rw [show Int.toNat ((j : Int) + k - 2) = j + k - 2 by omega]; exact Wr_getD (by omega)
  obtain ⟨v1, e1⟩ : ∃ x, x = v.getD (k - 1) 0 := ⟨_, rfl⟩
  obtain ⟨v2, e2⟩ : ∃ x, x = v.getD (k - 2) 0 := ⟨_, rfl⟩
  obtain ⟨u2, e3⟩ : ∃ x, x = u.getD (j + k - 2) 0 := ⟨_, rfl⟩
  obtain ⟨top, e4⟩ : ∃ x, x = u.getD (j + k) 0 * 1000000000 + u.getD (j + k - 1) 0 := ⟨_, rfl⟩
  rw [← e1] at a1 hnorm eV gk1 he hbig
  rw [← e2] at a2 eV gk2
  rw [← e3] at b2 eX gu
  rw [← e4] at eX he
  have hg2 : 0 ≤ g * v2 ∧ g * v2 ≤ 1000000001 * 999999999 := ⟨Int.mul_nonneg h0 a2.1, Int.mul_le_mul hg (by omega) a2.1 (by decide)⟩
  by_cases c0 : rest ≥ 1000000000
  · have hgB := hrg c0
    refine ⟨g, ref01_Over_L1e0_x1 (by omega), ⟨h0, hgB⟩, hX, ?_⟩
    refine guess_high hP ⟨vl0, vl1⟩ xl0 eV eX he ⟨h0, hgB⟩ ?_ hnorm a2.1
    have h5 : g * v2 ≤ 999999999 * 999999999 := Int.mul_le_mul (by omega) (by omega) a2.1 (by decide)
    omega
  · have down : 1 ≤ g → wv (u.drop j) < g * wv v → (g ≤ 1000000000 ∨ rest + v1 < 1000000000) →
        ∃ g', Lp E 5 F_ref01_Over 1 (ref01_Over_L1 k sc (Wr v) ln lq j (g - 1) (rest + v1) w2 (Wr u) w4) (.exit 2) (ref01_Over_L1e0 k sc (Wr v) ln lq j w2 (Wr u) w4 g') ∧ (0 ≤ g' ∧ g' < 1000000000) ∧ wv (u.drop j) < (g' + 1) * wv v ∧ (g' - 1) * wv v ≤ wv (u.drop j) := by
     intro hg1 hlt hb
     have hmul : (g - 1) * v1 + (rest + v1) = top := by
      have : (g - 1) * v1 = g * v1 - v1 := by grind
      omega
     refine r1_guess D hln hls t (g - 1) (rest + v1) (by omega) (by omega) (by omega) (by omega) ?_ (by rw [show g - 1 + 1 = g by omega]; exact hlt) (fun h => by omega) (fun h => by omega)
     rw [← e1, ← e4]; exact hmul
    by_cases c1 : g ≥ 1000000000
    · have hlt : wv (u.drop j) < g * wv v := by
       have h6 := val_drop u j (by omega)
       have h7 := D.hu.getD j
       have h8 := D.low
       have h9 : 1000000000 * wv v ≤ g * wv v := Int.mul_le_mul_of_nonneg_right c1 (by have := D.vpos; omega)
       omega
      have hb : g ≤ 1000000000 ∨ rest + v1 < 1000000000 := by
       rcases Int.lt_or_le 1000000000 g with h | h
       · exact .inr (hbig (by omega))
       · exact .inl h
      obtain ⟨g', d3, d4⟩ := down (by omega) hlt hb
      exact ⟨g', ref01_Over_L1_r0 (v2 := (k : Int) - 1) (v3 := v1) (v4 := v1) (wu (by omega)) (wi (by omega)) (wu (by omega)) (wu (by omega)) (by omega) c1 (by omega) gk1 d3, d4⟩
    · by_cases c3 : g * v2 > rest * 1000000000 + u2
      · have hlt := guess_low hP vl0 xl1 eV eX he h0 c3
        have hg1 : 1 ≤ g := by
         rcases Int.lt_or_le g 1 with h | h
         · have : g = 0 := by omega
           subst this
           rw [Int.zero_mul] at c3
           omega
         · exact h
        obtain ⟨g', d3, d4⟩ := down hg1 hlt (.inl (by omega))
        exact ⟨g', ref01_Over_L1_r1 (v1 := (k : Int) - 2) (v2 := v2) (v3 := v2) (v4 := g * v2) (v5 := rest * 1000000000) (v6 := (j : Int) + k) (v7 := (j : Int) + k - 2) (v8 := u2) (v9 := u2) (v10 := rest * 1000000000 + u2) (v12 := (k : Int) - 1) (v13 := v1) (v14 := v1)
         (wi (by omega)) (wu (by omega)) (wu (by omega)) (wu (by omega)) (wi (by omega)) (wi (by omega)) (wu (by omega)) (wu (by omega)) (wu (by omega)) (wi (by omega)) (wu (by omega)) (wu (by omega)) (by omega) c1 (by omega) gk2 (by omega) gu c3 (by omega) gk1 d3, d4⟩
      · refine ⟨g, ref01_Over_L1e0_x0 (v1 := (k : Int) - 2) (v2 := v2) (v3 := v2) (v4 := g * v2) (v5 := rest * 1000000000) (v6 := (j : Int) + k) (v7 := (j : Int) + k - 2) (v8 := u2) (v9 := u2) (v10 := rest * 1000000000 + u2)
            (wi (by omega)) (wu (by omega)) (wu (by omega)) (wu (by omega)) (wi (by omega)) (wi (by omega)) (wu (by omega)) (wu (by omega)) (by omega) c1 (by omega) gk2 (by omega) gu c3, ⟨h0, by omega⟩, hX, ?_⟩
        exact guess_high hP ⟨vl0, vl1⟩ xl0 eV eX he ⟨h0, by omega⟩ (by omega) hnorm a2.1
theorem first_guess {lu k j : Nat} {u v : List Int} (D : Dv u v lu k j) {top : Int} (et : top = u.getD (j + k) 0 * 1000000000 + u.getD (j + k - 1) 0) :
    0 ≤ top ∧ 0 ≤ top / v.getD (k - 1) 0 ∧ top / v.getD (k - 1) 0 ≤ 1000000001 ∧ (0 ≤ top % v.getD (k - 1) 0 ∧ top % v.getD (k - 1) 0 < v.getD (k - 1) 0) ∧ top / v.getD (k - 1) 0 * v.getD (k - 1) 0 + top % v.getD (k - 1) 0 = top ∧ wv (u.drop j) < (top / v.getD (k - 1) 0 + 1) * wv v ∧ (top / v.getD (k - 1) 0 = 1000000001 → top % v.getD (k - 1) 0 + v.getD (k - 1) 0 < 1000000000) := by
 have h2 := D.two
 have hjk := D.jk
 have hlu := D.elu
 have hlv := D.elv
 have hnorm := D.norm
 have hV := D.vpos
 have a1 := D.hv.getD (k - 1)
 have b1 := D.hu.getD (j + k - 1)
 have b0 := D.hu.getD (j + k)
 have hlow := D.low
 have hz := D.zero
 obtain ⟨v1, e1⟩ : ∃ x, x = v.getD (k - 1) 0 := ⟨_, rfl⟩
 obtain ⟨u0, e3⟩ : ∃ x, x = u.getD (j + k) 0 := ⟨_, rfl⟩
 obtain ⟨u1', e4⟩ : ∃ x, x = u.getD (j + k - 1) 0 := ⟨_, rfl⟩
 have hX3 := split_three (u := u) (j := j) (k := k) h2 (by omega) hz
 have hV2 := split_two hlv h2
 rw [← e3, ← e4] at et hX3
 rw [← et] at hX3
 rw [← e1] at a1 hnorm hV2 ⊢
 rw [← e3] at b0
 rw [← e4] at b1
 have htop : 0 ≤ top := by omega
 have hdm := Int.emod_add_mul_ediv top v1
 have hr0 := Int.emod_nonneg top (show v1 ≠ 0 by omega)
 have hr1 := Int.emod_lt_of_pos top (show 0 < v1 by omega)
 have hg0 : 0 ≤ top / v1 := Int.ediv_nonneg htop (by omega)
 have hmul : top / v1 * v1 + top % v1 = top := by rw [Int.mul_comm]; omega
 have a2 := D.hv.getD (k - 2)
 have vl1 := D.hv.val_take_lt (k - 2) (by omega)
 have xl0 := val_nonneg ((D.hu.drop j).take (k - 2))
 have hP := pw_pos (k - 2)
 have b2 := D.hu.getD (j + k - 2)
 have hu0 : u0 ≤ v1 := by
  rcases Int.lt_or_le v1 u0 with h | h
  · exfalso
    have e5 := val_take_drop (u.drop (j + 1)) (k - 1) (by simp; omega)
    rw [List.drop_drop, show j + 1 + (k - 1) = j + k by omega, val_drop u (j + k) (by omega), hz, ← e3] at e5
    have h6 := val_nonneg ((D.hu.drop (j + 1)).take (k - 1))
    have e7 := val_take_drop v (k - 1) (by omega)
    rw [val_drop v (k - 1) (by omega), ← e1, show k - 1 + 1 = k by omega, List.drop_eq_nil_of_le (by omega), show wv [] = 0 from rfl] at e7
    have h8 := D.hv.val_take_lt (k - 1) (by omega)
    have h9 : pw (k - 1) * (v1 + 1) ≤ pw (k - 1) * u0 := Int.mul_le_mul_of_nonneg_left (by omega) (by have := pw_pos (k - 1); omega)
    rw [Int.mul_add, Int.mul_one] at h9
    simp at e5 e7
    omega
  · exact h
 refine ⟨htop, hg0, ?_, ⟨hr0, hr1⟩, hmul, ?_, fun h => by rw [h] at hmul; omega⟩
 · have : top / v1 < 1000000002 := Int.ediv_lt_of_lt_mul (by omega) (by omega)
   omega
 · have h5 : top + 1 ≤ (top / v1 + 1) * v1 := by
    have : (top / v1 + 1) * v1 = top / v1 * v1 + v1 := by grind
    omega
   have h6 := Int.mul_le_mul_of_nonneg_right h5 (show 0 ≤ 1000000000 * pw (k - 2) by omega)
   have h7 : (top / v1 + 1) * (v1 * (1000000000 * pw (k - 2))) ≤ (top / v1 + 1) * wv v := by
    refine Int.mul_le_mul_of_nonneg_left ?_ (by omega)
    have h8 : (v1 * 1000000000 + v.getD (k - 2) 0) * pw (k - 2) = v1 * (1000000000 * pw (k - 2)) + v.getD (k - 2) 0 * pw (k - 2) := by grind
    have h9 : 0 ≤ v.getD (k - 2) 0 * pw (k - 2) := Int.mul_nonneg a2.1 (by omega)
    have h10 := val_nonneg (D.hv.take (k - 2))
    omega
   have h8 : (top / v1 + 1) * v1 * (1000000000 * pw (k - 2)) = (top / v1 + 1) * (v1 * (1000000000 * pw (k - 2))) := by grind
   have h9 : (top + 1) * (1000000000 * pw (k - 2)) = top * 1000000000 * pw (k - 2) + 1000000000 * pw (k - 2) := by grind
   have h10 : (top * 1000000000 + u.getD (j + k - 2) 0) * pw (k - 2) = top * 1000000000 * pw (k - 2) + u.getD (j + k - 2) 0 * pw (k - 2) := by grind
   have h11 : u.getD (j + k - 2) 0 * pw (k - 2) ≤ 999999999 * pw (k - 2) := Int.mul_le_mul_of_nonneg_right (by omega) (by omega)
   have h12 := (D.hu.drop j).val_take_lt (k - 2) (by simp; omega)
   omega
theorem r1_over_loop {sc w2 : List (List DV)} {lq lu k ln : Nat} {v : List Int} (hv : Wd v) (hlv : v.length = k) (h2 : 2 ≤ k) (hn : 1000000000 ≤ 2 * v.getD (k - 1) 0) (hsm : lu < 35184372088832) (hlnu : ln ≤ lu) :
    ∀ j u q, Wd u → u.length = lu → Wd q → q.length = lq → j ≤ lq → (0 < j → j - 1 + k < ln) → wv (u.drop j) < wv v →
    ∃ u' q', Lp E 5 F_ref01_Over 0 (ref01_Over_L0 k sc (Wr v) ln lq ((j : Int) - 1) w2 (Wr u) (Wr q)) (.exit 0) (ref01_Over_L0e0 k sc ln lq w2 (Wr u') (Wr q')) ∧ Wd u' ∧ u'.length = lu ∧ Wd q' ∧ q'.length = lq ∧ wv u' < wv v ∧ wv u' + wv v * wv q' = wv u + wv v * (pw j * wv (q.drop j))
 | 0, u, q, hu, hlu, hq, hlq, _, _, hlow => ⟨u, q, ref01_Over_L0e0_x0 (by omega), hu, hlu, hq, hlq, by simpa using hlow, by simp [pw_zero]⟩
 | j + 1, u, q, hu, hlu, hq, hlq, hj, hjk, hlow => by
  have hjk' := hjk (by omega)
  have D : Dv u v lu k j := ⟨hu, hv, hlu, hlv, h2, hn, by omega, hsm, hlow⟩
  rw [show ((j + 1 : Nat) : Int) - 1 = (j : Int) by omega]
  have a1 := hv.getD (k - 1)
  have b1 := hu.getD (j + k - 1)
  have b0 := hu.getD (j + k)
  obtain ⟨top, et⟩ : ∃ x, x = u.getD (j + k) 0 * 1000000000 + u.getD (j + k - 1) 0 := ⟨_, rfl⟩
  obtain ⟨f1, f2, f3, f4, f5, f6, f7⟩ := first_guess D et
  obtain ⟨g, k1, k2, k3, k4⟩ := r1_guess (E := E) (sc := sc) (w2 := w2) (w4 := Wr q) (lq := lq) (ln := ln) D (by omega) (by omega) 1000000002 _ _ f2 (by omega) f3 (by omega) (by rw [← et]; exact f5) f6 f7 (by omega)
  obtain ⟨u1, qd, r1, r2, r3, r4, r5, r6, r7⟩ := r1_reduce (E := E) (ln := ln) D (by omega) (by omega) k2 k3 k4
  obtain ⟨u', q', s1, s2, s3, s4, s5, s6, s7⟩ := r1_over_loop hv hlv h2 hn hsm hlnu j u1 (q.set j qd) r3 r4 (hq.set _ r2.1 r2.2) (by simpa using hlq) (by omega) (fun h => by omega) r7
  refine ⟨u', q', ?_, s2, s3, s4, s5, s6, ?_⟩
  · have hred := r1.at rfl rfl rfl rfl (objs := [some .dead, some .dead, some (.vec T_uint32 w2), some (.vec T_uint32 (Wr u)), some (.vec T_uint32 (Wr q))]) (l := 3) rfl
    exact ref01_Over_L0_r0 (v1 := ((j + k : Nat) : Int)) (v2 := u.getD (j + k) 0) (v3 := u.getD (j + k) 0) (v4 := u.getD (j + k) 0 * 1000000000) (v5 := ((j + k - 1 : Nat) : Int)) (v6 := u.getD (j + k - 1) 0) (v7 := u.getD (j + k - 1) 0) (v8 := top) (v9 := ((k - 1 : Nat) : Int)) (v10 := v.getD (k - 1) 0) (v11 := v.getD (k - 1) 0) (v12 := top / v.getD (k - 1) 0) (v13 := top % v.getD (k - 1) 0) (v14 := g) (v15 := Wr u1) (v16 := qd) (v17 := q.getD j 0) (v18 := Wr (q.set j qd)) (v19 := (j : Int) - 1)
     (wi (by omega)) (wu (by omega)) (wu (by omega)) (wi (by omega)) (wu (by omega)) (wu (by omega)) (wi (by omega)) (wu (by omega)) (wu ⟨tdv f1 rfl, f2, by omega⟩) (tmd f1 rfl) (by rw [Int.toNat_natCast, Wr_set]) (wi (by omega))
     (by omega) (by omega) (Wr_getD (by omega)) (by omega) (Wr_getD (by omega)) (by omega) (Wr_getD (by omega)) (by omega) k1 hred (by omega) (Wr_getD (by omega)) s1
  · have hd : (q.set j qd).drop (j + 1) = q.drop (j + 1) := List.drop_set_of_lt (Nat.lt_succ_self j)
    rw [s7, r5, wv_drop (q.set j qd) j, getD_set_same (by omega), hd, pw_succ]
    grind
theorem trimN_zeros (xs : List Int) : ∀ k, trimN (xs ++ List.replicate k 0) (xs.length + k) = trimN xs xs.length
 | 0 => by simp
 | k + 1 => by
  have ih := trimN_zeros xs k
  have h0 : (xs ++ List.replicate (k + 1) 0).getD (xs.length + k) 0 = 0 := by
   rw [List.getD_eq_getElem?_getD, List.getElem?_append_right (by omega), List.getElem?_replicate]; split <;> rfl
  have hpre : ∀ m, m ≤ xs.length + k → trimN (xs ++ List.replicate (k + 1) 0) m = trimN (xs ++ List.replicate k 0) m := by
   intro m hm
   induction m with
   | zero => rfl
   | succ m ih =>
    have e : (xs ++ List.replicate (k + 1) 0).getD m 0 = (xs ++ List.replicate k 0).getD m 0 := by
     rw [List.getD_eq_getElem?_getD, List.getD_eq_getElem?_getD, List.replicate_succ', ← List.append_assoc, List.getElem?_append_left (by simp; omega)]
    unfold trimN
    rw [e, ih (by omega)]
  show trimN (xs ++ List.replicate (k + 1) 0) (xs.length + k + 1) = _
  have step : trimN (xs ++ List.replicate (k + 1) 0) (xs.length + k + 1) = trimN (xs ++ List.replicate (k + 1) 0) (xs.length + k) := by
   conv => lhs; unfold trimN
   rw [if_pos h0]
  rw [step, hpre _ (Nat.le_refl _), ih]
theorem trimN_canon {n : Nat} : trimN (words n) (words n).length = (words n).length := by
 have h := trimN_words (words_wd n) (Nat.le_refl (words n).length)
 rw [List.take_length, words_val, Int.toNat_natCast] at h
 have h2 := congrArg List.length h
 rw [List.length_take] at h2
 have := trimN_le (words n) (words n).length
 omega
theorem r1_Over {m n : Nat} (hm0 : m ≠ 0) (hl : (words n).length < 1099511627776) : Fn E F_ref01_Over [.c (.list (Wr (words n))), .c (.list (Wr (words m)))] (.tup [.c (.list (Wr (words (n / m)))), .c (.list (Wr (words (n % m))))]) := by
 have hc := r1_Cmp (E := E) (m := n) (n := m) (by omega)
 by_cases h1 : n < m
 · rw [Nat.div_eq_of_lt h1, Nat.mod_eq_of_lt h1, words_zero]
   exact ref01_Over_0 hc (cmpI_lt.2 (by omega))
 · have hc' : ¬ cmpI n m < 0 := fun h => h1 (by have := cmpI_lt.1 h; omega)
   have hmne : words m ≠ [] := fun h => hm0 (words_nil.1 h)
   have hmp := len_pos hmne
   by_cases h3 : (words m).length = 1
   · have hm1 : m < 1000000000 := by
      have := val_lt (words_wd m)
      rw [words_val, h3, show pw 1 = 1000000000 by decide] at this
      omega
     have e : words m = [(m : Int)] := by
      rcases words_two (n := m) (by omega) with ⟨_, h⟩ | ⟨e, _, _⟩ | ⟨_, h⟩
      · exact absurd h hm0
      · exact e
      · omega
     have hs := r1_small (E := E) (n := n) (w := m) ⟨by omega, hm1⟩ (by omega)
     have hr := Nat.mod_lt n (show 0 < m by omega)
     exact ref01_Over_1 (v2 := (m : Int)) hc hc' (by rw [Wr_len, h3]; rfl) (by rw [e]; rfl) hs (r1_Small (by omega))
   · have hlm : (words m).length ≤ (words n).length := (words_tr m).length_le (words_wd m) (words_wd n) (by rw [words_val, words_val]; omega)
     obtain ⟨k, hk⟩ : ∃ k, k = (words m).length := ⟨_, rfl⟩
     rw [← hk] at hlm h3 hmp
     have hk2 : 2 ≤ k := by omega
     have ht := (words_wd m).getD (k - 1)
     obtain ⟨t, et⟩ : ∃ t, t = (words m).getD (k - 1) 0 := ⟨_, rfl⟩
     rw [← et] at ht
     obtain ⟨f, hf⟩ : ∃ f : Nat, (f : Int) = 1000000000 / (t + 1) := ⟨(1000000000 / (t + 1)).toNat, by have : 0 ≤ 1000000000 / (t + 1) := Int.ediv_nonneg (by decide) (by omega); omega⟩
     obtain ⟨f1, f2, lv, nv⟩ := norm_factor (n := m) rfl hk.symm (by omega) (f := f) (by rw [← et]; exact hf)
     have hfl : (words f).length ≤ 1 := words_length_le (by rw [show pw 1 = 1000000000 by decide]; omega)
     have hfe : words f = [(f : Int)] := by
      rcases words_two (n := f) (by omega) with ⟨_, h⟩ | ⟨e, _, _⟩ | ⟨_, h⟩
      · omega
      · exact e
      · omega
     have hnf : n ≤ n * f := by have := Nat.mul_le_mul_left n f1; omega
     have hun := (words_tr n).length_le (words_wd n) (words_wd (n * f)) (by rw [words_val, words_val]; omega)
     have hnp : (n : Int) < pw (words n).length := by have := val_lt (words_wd n); rwa [words_val] at this
     have hun2 : (words (n * f)).length ≤ (words n).length + 1 := by
      refine words_length_le ?_
      rw [pw_succ, Int.natCast_mul, Int.mul_comm]
      have h5 : (f : Int) * n ≤ 1000000000 * n := Int.mul_le_mul_of_nonneg_right (by omega) (by omega)
      have h6 : 1000000000 * (n : Int) < 1000000000 * pw (words n).length := Int.mul_lt_mul_of_pos_left hnp (by decide)
      omega
     obtain ⟨L, hL⟩ : ∃ L, L = (words (n * f)).length := ⟨_, rfl⟩
     rw [← hL] at hun hun2
     have hu0 : Wd (words (n * f) ++ [0, 0]) := (words_wd _).append (Wd.cons (by omega) (by omega) (Wd.cons (by omega) (by omega) Wd.nil))
     have hu0l : (words (n * f) ++ [0, 0]).length = L + 2 := by simp [hL]
     have hval0 : wv (words (n * f) ++ [0, 0]) = ((n * f : Nat) : Int) := by rw [val_append, words_val]; simp [wv]
     have hvv : wv (words (m * f)) = ((m * f : Nat) : Int) := words_val _
     have hlow : wv ((words (n * f) ++ [0, 0]).drop ((words n).length + 1 - k)) < wv (words (m * f)) := by
      have e5 := val_take_drop (words (n * f) ++ [0, 0]) ((words n).length + 1 - k) (by rw [hu0l]; omega)
      have h6 := val_nonneg (hu0.take ((words n).length + 1 - k))
      rw [hval0] at e5
      rw [hvv]
      have h7 : pw (k - 1) ≤ m := by have := (words_tr m).val_ge (words_wd m) hmne; rwa [words_val, ← hk] at this
      have h8 : pw (words n).length = pw ((words n).length + 1 - k) * pw (k - 1) := by rw [← pw_add]; congr 1; omega
      have h9 : ((n * f : Nat) : Int) < pw ((words n).length + 1 - k) * ((m * f : Nat) : Int) := by
       rw [Int.natCast_mul, Int.natCast_mul]
       have h10 : (n : Int) * f < pw (words n).length * f := Int.mul_lt_mul_of_pos_right hnp (by omega)
       have h11 : pw ((words n).length + 1 - k) * (pw (k - 1) * f) ≤ pw ((words n).length + 1 - k) * ((m : Int) * f) :=
        Int.mul_le_mul_of_nonneg_left (Int.mul_le_mul_of_nonneg_right h7 (by omega)) (by have := pw_pos ((words n).length + 1 - k); omega)
       rw [h8, Int.mul_assoc] at h10
       omega
      have hp := pw_pos ((words n).length + 1 - k)
      rcases Int.lt_or_le (wv ((words (n * f) ++ [0, 0]).drop ((words n).length + 1 - k))) ((m * f : Nat) : Int) with h | h
      · exact h
      · have := Int.mul_le_mul_of_nonneg_left h (show 0 ≤ pw ((words n).length + 1 - k) by omega)
        omega
     obtain ⟨u', q', r1, r2, r3, r4, r5, r6, r7⟩ := r1_over_loop (E := E) (sc := Wr (words f)) (w2 := [[.u32 0], [.u32 0]]) (lq := (words n).length + 1 - k) (lu := L + 2) (ln := (words n).length + 1) (words_wd (m * f)) lv hk2 nv (by omega) (by omega) ((words n).length + 1 - k) (words (n * f) ++ [0, 0]) (List.replicate ((words n).length + 1 - k) 0) hu0 hu0l (Wd.replicate _) (by simp) (Nat.le_refl _) (fun _ => by omega) hlow
     rw [drop_nil (by simp), hval0, hvv, show wv [] = 0 from rfl] at r7
     rw [hvv] at r6
     have hq0 := val_nonneg r4
     have hr0 := val_nonneg r2
     obtain ⟨Q, hQ⟩ : ∃ Q : Nat, wv q' = Q := ⟨(wv q').toNat, by omega⟩
     obtain ⟨R, hR⟩ : ∃ R : Nat, wv u' = R := ⟨(wv u').toNat, by omega⟩
     rw [hQ, hR] at r7
     rw [hR] at r6
     have e1 : n * f = Q * (m * f) + R := by
      have : ((n * f : Nat) : Int) = ((Q * (m * f) + R : Nat) : Int) := by
       rw [Int.natCast_add, Int.natCast_mul Q]
       have : ((Q : Int)) * ((m * f : Nat) : Int) = ((m * f : Nat) : Int) * Q := Int.mul_comm _ _
       simp at r7
       simp at this ⊢
       omega
      omega
     have hfR : f ∣ R := by
      have h5 : f ∣ Q * (m * f) := ⟨Q * m, by rw [← Nat.mul_assoc, Nat.mul_comm]⟩
      exact (Nat.dvd_add_right h5).1 (by rw [← e1]; exact ⟨n, Nat.mul_comm _ _⟩)
     obtain ⟨R', hR'⟩ := hfR
     have e2 : n = Q * m + R' := by
      have : f * n = f * (Q * m + R') := by
       rw [Nat.mul_add, ← hR', Nat.mul_comm f n, e1, ← Nat.mul_assoc, Nat.mul_comm f]
      exact Nat.eq_of_mul_eq_mul_left (by omega) this
     have e3 : R' < m := by
      have : f * R' < f * m := by rw [← hR', Nat.mul_comm f m]; omega
      exact Nat.lt_of_mul_lt_mul_left this
     obtain ⟨d1, d2⟩ := divmod_unique e2 e3
     have hRf : R / f = R' := by rw [hR', Nat.mul_div_cancel_left _ (by omega)]
     have hvk := val_lt (words_wd (m * f))
     rw [lv, hvv] at hvk
     have hul : wv (u'.take k) = R := by
      have h5 := val_take_drop u' k (by omega)
      have h6 := val_nonneg (r2.take k)
      have h7 := val_nonneg (r2.drop k)
      rcases Int.lt_or_le 0 (wv (u'.drop k)) with h | h
      · have h8 : pw k * 1 ≤ pw k * wv (u'.drop k) := Int.mul_le_mul_of_nonneg_left (by omega) (by have := pw_pos k; omega)
        omega
      · have : wv (u'.drop k) = 0 := by omega
        rw [this, Int.mul_zero] at h5
        omega
     have t0 := (r1_trim (E := E) (ws := words (n * f) ++ [0, 0]) (k := L + 2) (by omega) (by omega)).at (args := []) rfl rfl rfl rfl (objs := [some .dead, some .dead, some (.vec T_uint32 [[.u32 0], [.u32 0]]), some (.vec T_uint32 (Wr (words (n * f) ++ [0, 0])))]) (l := 3) rfl
     have ht0 : trimN (words (n * f) ++ [0, 0]) (L + 2) = L := by
      have := trimN_zeros (words (n * f)) 2
      rw [← hL, show List.replicate 2 (0 : Int) = [0, 0] from rfl] at this
      rw [this, hL, trimN_canon]
     rw [ht0] at t0
     have t1 := (r1_trim (E := E) (ws := u') (k := k) (by omega) (by omega)).at (args := []) rfl rfl rfl rfl (objs := [some .dead, some .dead, some (.vec T_uint32 [[.u32 0], [.u32 0]]), some (.vec T_uint32 (Wr u')), some (.vec T_uint32 (Wr q'))]) (l := 3) rfl
     have t2 := (r1_trim (E := E) (ws := q') (k := (words n).length + 1 - k) (by omega) (by omega)).at (args := []) rfl rfl rfl rfl (objs := [some .dead, some .dead, some (.vec T_uint32 [[.u32 0], [.u32 0]]), some (.fro (Wr u')), some (.vec T_uint32 (Wr q'))]) (l := 4) rfl
     have w1 := trimN_words r2 (k := k) (by omega)
     rw [hul, Int.toNat_natCast] at w1
     have w2 := trimN_words r4 (k := (words n).length + 1 - k) (by omega)
     rw [← r5, List.take_length, hQ, r5, Int.toNat_natCast] at w2
     have hRl : (words R).length < 35184372088000 := by
      have := congrArg List.length w1
      rw [List.length_take] at this
      have := trimN_le u' k
      omega
     have hby := r1_small (E := E) (n := R) (w := f) ⟨by omega, by omega⟩ hRl
     rw [hRf, show words R = u'.take (trimN u' k) from w1.symm, ← Wr_take] at hby
     rw [d1, d2]
     have hTm := r1_Times (E := E) (m := m) (n := f) (by omega)
     have hTn := r1_Times (E := E) (m := n) (n := f) (by omega)
     have hWl : ((Wr (words m)).length : Int) = k := by rw [Wr_len, ← hk]
     have hlq : (((words n).length + 1 - k : Nat) : Int) = (words n).length + 1 - k := by omega
     exact ref01_Over_2 (v2 := (k : Int) - 1) (v3 := t) (v4 := t) (v5 := t + 1) (v6 := (f : Int)) (v7 := (f : Int)) (v8 := Wr (words f)) (v9 := Wr (words (m * f))) (v10 := Wr (words (n * f))) (v11 := Wr (words (n * f))) (v12 := L) (v13 := Wr (words (n * f) ++ [0, 0])) (v14 := L + 2) (v15 := ((words n).length : Int) + 1) (v16 := L) (v17 := ((words n).length : Int) + 1) (v18 := (words n).length + 1) (v19 := (((words n).length + 1 - k : Nat) : Int)) (v20 := (words n).length + 1 - k) (v21 := Wr (List.replicate ((words n).length + 1 - k) 0)) (v22 := (((words n).length + 1 - k : Nat) : Int) - 1) (v23 := Wr u') (v24 := Wr q') (v25 := k) (v26 := trimN u' k) (v27 := (f : Int)) (v31 := trimN q' ((words n).length + 1 - k))
      (wi (by rw [hWl]; omega)) (wi (by omega)) (wi (by omega)) (wi ⟨tdv (by omega) hf.symm, by omega, by omega⟩) (w32 (by omega)) rfl (by rw [Wr_len, ← hL, Nat.zero_add]) (by
       rw [Wr_take, hL, List.take_length]
       show Wr (words (n * f)) ++ Wr [0, 0] = _
       exact Wr_append _ _) rfl (wi (by rw [Wr_len]; omega)) (by split <;> omega) (by omega) (wi (by rw [hWl]; omega)) (Int.toNat_natCast _) (Wr_replicate _ _) (wi (by omega)) (by rw [hWl, Int.toNat_natCast]) rfl (by rw [Wr_take, w2])
      hc hc' (by rw [hWl]; omega) (by omega) (by rw [show Int.toNat ((k : Int) - 1) = k - 1 by omega, et]; exact Wr_getD (by omega)) (by omega) (r1_Small (by omega)) hTm hTn (Wr_one _) (by rw [Wr_len]; omega) (by omega) t0 (by omega) (by omega) (by rw [hWl]; exact r1) (by rw [hWl]; omega) t1 (by rw [hfe]; rfl) hby t2
theorem r1_gcd_small : ∀ (t y x : Nat), y < t → Lp E 0 F_ref01_Common 1 (ref01_Common_L1 x y) (.exit 2) (ref01_Common_L1e0 (Nat.gcd x y : Nat))
 | 0, y, x, h => by omega
 | t + 1, y, x, h => by
  by_cases h0 : y = 0
  · subst h0
    rw [Nat.gcd_zero_right]
    exact ref01_Common_L1e0_x0 rfl
  · have hm := Nat.mod_lt x (show 0 < y by omega)
    have e : Nat.gcd x y = Nat.gcd y (x % y) := (Nat.gcd_comm x y).trans ((Nat.gcd_rec y x).trans (Nat.gcd_comm _ _))
    rw [e]
    exact ref01_Common_L1_r0 (v1 := ((x % y : Nat) : Int)) (tmd (by omega) rfl) (by omega) (by omega) (r1_gcd_small t (x % y) y (by omega))
theorem r1_gcd_loop {L : Nat} (hL : L < 1099511627776) : ∀ (t n m : Nat), n < t → (words m).length ≤ L → (words n).length ≤ L →
    (Lp E 0 F_ref01_Common 0 (ref01_Common_L0 (Wr (words m)) (Wr (words n))) .ret (ref01_Common_L0e0 (Wr (words (Nat.gcd m n))))) ∨
    (Lp E 0 F_ref01_Common 0 (ref01_Common_L0 (Wr (words m)) (Wr (words n))) (.exit 0) (ref01_Common_L0e1 (Wr (words (Nat.gcd m n)))))
 | 0, n, m, h, _, _ => by omega
 | t + 1, n, m, h, hm, hn => by
  by_cases h0 : n = 0
  · subst h0
    rw [Nat.gcd_zero_right, words_zero]
    exact .inr (ref01_Common_L0e1_x0 (by simp [Wr]))
  · have hpos : ((Wr (words n)).length : Int) > 0 := by
     have : words n ≠ [] := fun h => h0 (words_nil.1 h)
     have := len_pos this
     rw [Wr_len]; omega
    have hr := Nat.mod_lt m (show 0 < n by omega)
    have e : Nat.gcd m n = Nat.gcd n (m % n) := (Nat.gcd_comm m n).trans ((Nat.gcd_rec n m).trans (Nat.gcd_comm _ _))
    have hrl : (words (m % n)).length ≤ L := Nat.le_trans ((words_tr _).length_le (words_wd _) (words_wd n) (by rw [words_val, words_val]; omega)) hn
    have hd := r1_Over (E := E) (m := n) (n := m) h0 (by omega)
    by_cases s1 : (words m).length ≤ 2
    · by_cases s2 : (words n).length ≤ 2
      · have hg : Nat.gcd m n ≤ n := Nat.gcd_le_right m (by omega)
        have hn2 := words_len.1 s2
        exact .inl (ref01_Common_L0e0_x0 hpos (by rw [Wr_len]; omega) (by rw [Wr_len]; omega) (r1_word s1) (r1_word s2) (r1_gcd_small (n + 1) n m (by omega)) (r1_wide (by omega)))
      · rw [e]
        rcases r1_gcd_loop hL t (m % n) n (by omega) hn hrl with ih | ih
        · exact .inl (ref01_Common_L0_r0 hpos (by rw [Wr_len]; omega) (by rw [Wr_len]; omega) hd ih)
        · exact .inr (ref01_Common_L0_r0 hpos (by rw [Wr_len]; omega) (by rw [Wr_len]; omega) hd ih)
    · rw [e]
      rcases r1_gcd_loop hL t (m % n) n (by omega) hn hrl with ih | ih
      · exact .inl (ref01_Common_L0_r1 hpos (by rw [Wr_len]; omega) hd ih)
      · exact .inr (ref01_Common_L0_r1 hpos (by rw [Wr_len]; omega) hd ih)
theorem r1_Common {m n L : Nat} (hL : L < 1099511627776) (hm : (words m).length ≤ L) (hn : (words n).length ≤ L) : Fn E F_ref01_Common [.c (.list (Wr (words m))), .c (.list (Wr (words n)))] (.c (.list (Wr (words (Nat.gcd m n))))) := by
 rcases r1_gcd_loop (E := E) hL (n + 1) n m (by omega) hm hn with h | h
 · exact ref01_Common_0 h
 · exact ref01_Common_1 h
end Gev
namespace Gev
open Go Gb
variable {E : Env}
def Br (l : List UInt8) : List (List DV) := l.map fun c => [.u8 (c.toNat : Int)]
theorem Br_take (l : List UInt8) (n : Nat) : (Br l).take n = Br (l.take n) := by simp [Br, List.map_take]
theorem Br_snoc (l : List UInt8) (c : UInt8) : Br l ++ [[.u8 (c.toNat : Int)]] = Br (l ++ [c]) := by simp [Br]
theorem Br_set (l : List UInt8) (n : Nat) (c : UInt8) : (Br l).set n [.u8 (c.toNat : Int)] = Br (l.set n c) := by simp [Br, List.map_set]
theorem Br_get {l : List UInt8} {i : Nat} {c : UInt8} (h : l[i]? = some c) : (Br l)[i]? = some [.u8 (c.toNat : Int)] := by simp [Br, h]
theorem Br_byte (l : List UInt8) : ∀ x ∈ Br l, IsByte x := by intro x hx; simp [Br] at hx; obtain ⟨_, _, rfl⟩ := hx; trivial
theorem Br_text (l : List UInt8) : ByteArray.mk (((Br l).map byteOf).toArray) = B l := by
 have : (Br l).map byteOf = l := by
  unfold Br
  rw [List.map_map]
  conv => rhs; rw [← List.map_id l]
  refine List.map_congr_left fun c _ => ?_
  show UInt8.ofNat (Int.toNat (c.toNat : Int)) = c
  rw [Int.toNat_natCast]
  exact UInt8.ofNat_toNat
 rw [this]; rfl
def rdig (m : Nat) : List UInt8 := if m = 0 then [] else (dec m).reverse
theorem rdig_step {m : Nat} (h : m ≠ 0) : rdig m = UInt8.ofNat (48 + m % 10) :: rdig (m / 10) := by
 unfold rdig
 rw [if_neg h]
 by_cases h1 : m < 10
 · rw [dec_small h1, if_pos (by omega), Nat.mod_eq_of_lt h1]; rfl
 · rw [dec_big (by omega), if_neg (by omega), List.reverse_append]; rfl
theorem r1_digits {x0 : List (List DV)} {i : Nat} {last : Bool} (hlast : if last then (i : Int) + 1 = x0.length else (i : Int) + 1 < x0.length) (hx : x0.length < 4611686018427387904) {H T : Nat} (hH : if last then H = 0 else 0 < H) (hT : T < 35184372088832) :
    ∀ (d k w : Nat) (out : List UInt8), k + d = 9 → w < 10 ^ d → out.length + (rdig (w + 10 ^ d * H)).length = T →
    ∃ out', Lp E 1 F_ref01_To 1 (ref01_To_L1a x0 out.length i w k (Br out)) (.exit 2) (ref01_To_L1ae0 x0 i out'.length (Br out')) ∧ out' ++ rdig H = out ++ rdig (w + 10 ^ d * H)
 | 0, k, w, out, hk, hw, _ => by
  have : w = 0 := by simpa using hw
  subst this
  exact ⟨out, ref01_To_L1ae0_x1 (by omega), by simp⟩
 | d + 1, k, w, out, hk, hw, hT' => by
  obtain ⟨m, em⟩ : ∃ m, m = w + 10 ^ (d + 1) * H := ⟨_, rfl⟩
  rw [← em] at hT' ⊢
  have e10 : 10 ^ (d + 1) * H = 10 * (10 ^ d * H) := by rw [Nat.pow_succ]; grind
  by_cases hstop : m = 0
  · -- nothing is left
    have hw0 : w = 0 := by omega
    have hlt : last = true := by
     cases last with
     | true => rfl
     | false =>
      simp only [Bool.false_eq_true, if_false] at hH
      have : 0 < 10 ^ (d + 1) * H := Nat.mul_pos (Nat.pow_pos (by decide)) hH
      omega
    subst hlt
    simp only [if_true] at hlast hH
    refine ⟨out, ref01_To_L1ae0_x0 (v1 := (i : Int) + 1) (wi (by omega)) (by omega) (by omega) (by omega), ?_⟩
    rw [hH, hstop]
  · have hrs := rdig_step hstop
    have hm10 : m % 10 = w % 10 := by omega
    have hmd : m / 10 = w / 10 + 10 ^ d * H := by omega
    rw [hm10, hmd] at hrs
    have hlen : out.length + 1 ≤ T := by rw [hrs] at hT'; simp at hT'; omega
    obtain ⟨out', k1, k2⟩ := r1_digits hlast hx hH hT d (k + 1) (w / 10) (out ++ [UInt8.ofNat (48 + w % 10)]) (by omega) (by rw [Nat.pow_succ] at hw; omega) (by rw [hrs] at hT'; simp at hT' ⊢; omega)
    refine ⟨out', ?_, by rw [k2, hrs]; simp⟩
    have hdt : (UInt8.ofNat (48 + w % 10)).toNat = 48 + w % 10 := digit_toNat _ (by omega)
    have hbr : ((Br out).take out.length) ++ [[DV.u8 ((48 : Int) + ((w % 10 : Nat) : Int))]] = Br (out ++ [UInt8.ofNat (48 + w % 10)]) := by
     rw [Br_take, List.take_length, ← Br_snoc, hdt]
     have : ((48 + w % 10 : Nat) : Int) = 48 + ((w % 10 : Nat) : Int) := by omega
     rw [this]
    have hwb : w < 1000000000 := by
     have : (10 : Nat) ^ (d + 1) ≤ 10 ^ 9 := Nat.pow_le_pow_right (by decide) (by omega)
     rw [ten_nine] at this
     omega
    rw [show (out ++ [UInt8.ofNat (48 + w % 10)]).length = out.length + 1 by simp] at k1
    have hcap : (out.length + 1) * 1 ≤ 140737488355328 ∧ out.length + 1 ≤ 140737488355328 := by omega
    cases last with
    | true =>
     simp only [if_true] at hlast hH
     have hwp : w ≠ 0 := by rw [hH] at em; simp at em; omega
     exact ref01_To_L1a_r1 (v1 := (i : Int) + 1) (v2 := ((w % 10 : Nat) : Int)) (v3 := 48 + ((w % 10 : Nat) : Int)) (v4 := 48 + ((w % 10 : Nat) : Int)) (v7 := ((w / 10 : Nat) : Int)) (v8 := ((k + 1 : Nat) : Int)) (wi (by omega)) (tmd (by omega) (by omega)) (w32 (by omega)) (w8 (by omega)) hbr rfl (w32 ⟨tdv (by omega) (by omega), by omega, by omega⟩) (wi (by omega)) (by omega) (by omega) (by omega) hcap k1
    | false =>
     simp only [Bool.false_eq_true, if_false] at hlast
     exact ref01_To_L1a_r0 (v1 := (i : Int) + 1) (v2 := ((w % 10 : Nat) : Int)) (v3 := 48 + ((w % 10 : Nat) : Int)) (v4 := 48 + ((w % 10 : Nat) : Int)) (v7 := ((w / 10 : Nat) : Int)) (v8 := ((k + 1 : Nat) : Int)) (wi (by omega)) (tmd (by omega) (by omega)) (w32 (by omega)) (w8 (by omega)) hbr rfl (w32 ⟨tdv (by omega) (by omega), by omega, by omega⟩) (wi (by omega)) (by omega) (by omega) hcap k1
theorem words_drop {n i : Nat} (hi : i < (words n).length) : ∃ H : Nat, wv ((words n).drop (i + 1)) = H ∧ (i + 1 < (words n).length → 0 < H) ∧ (i + 1 = (words n).length → H = 0) := by
 have h0 := val_nonneg ((words_wd n).drop (i + 1))
 refine ⟨(wv ((words n).drop (i + 1))).toNat, by omega, fun h => ?_, fun h => ?_⟩
 · have ht : Gb.Tr ((words n).drop (i + 1)) := by
    have := words_tr n
    unfold Gb.Tr at this ⊢
    rw [List.getLast?_drop, if_neg (by omega)]
    exact this
   have hp := ht.val_pos ((words_wd n).drop (i + 1)) (by intro e; have := congrArg List.length e; simp at this; omega)
   omega
 · rw [List.drop_eq_nil_of_le (by omega)]; rfl
theorem r1_to_loop {n T : Nat} (hT : T < 35184372088832) (hl : (words n).length < 4611686018427387904) : ∀ (d i m : Nat) (out : List UInt8), i + d = (words n).length → wv ((words n).drop i) = m → out.length + (rdig m).length = T →
    ∃ out', Lp E 0 F_ref01_To 0 (ref01_To_L0 (Wr (words n)) out.length i (Br out)) (.exit 0) (ref01_To_L0e0 out'.length (Br out')) ∧ out' = out ++ rdig m
 | 0, i, m, out, hi, hm, hT' => by
  rw [List.drop_eq_nil_of_le (by omega)] at hm
  have : m = 0 := by simp [wv] at hm; omega
  subst this
  exact ⟨out, ref01_To_L0e0_x0 (by rw [Wr_len]; omega), by simp [rdig]⟩
 | d + 1, i, m, out, hi, hm, hT' => by
  obtain ⟨H, hH, hpos, hz⟩ := words_drop (n := n) (i := i) (by omega)
  have hw := (words_wd n).getD i
  obtain ⟨w, ew⟩ : ∃ w : Nat, (words n).getD i 0 = w := ⟨((words n).getD i 0).toNat, by omega⟩
  rw [ew] at hw
  rw [wv_drop, ew, hH] at hm
  have em : m = w + 10 ^ 9 * H := by rw [ten_nine]; omega
  have hcl : (if decide (i + 1 = (words n).length) then (i : Int) + 1 = (Wr (words n)).length else (i : Int) + 1 < (Wr (words n)).length) := by
   rw [Wr_len]; split <;> rename_i h <;> simp at h <;> omega
  have hch : (if decide (i + 1 = (words n).length) then H = 0 else 0 < H) := by
   split <;> rename_i h <;> simp at h
   · exact hz h
   · exact hpos (by omega)
  obtain ⟨out1, k1, k2⟩ := r1_digits (E := E) (x0 := Wr (words n)) (i := i) hcl (by rw [Wr_len]; omega) hch hT 9 0 w out (by omega) (by rw [ten_nine]; omega) (by rw [← em]; exact hT')
  rw [← em] at k2
  have hl1 : out1.length + (rdig H).length = T := by
   have := congrArg List.length k2
   simp at this
   omega
  obtain ⟨out2, g1, g2⟩ := r1_to_loop hT hl d (i + 1) H out1 (by omega) hH hl1
  refine ⟨out2, ?_, by rw [g2, k2]⟩
  exact ref01_To_L0_r0 (v1 := (w : Int)) (v4 := ((i + 1 : Nat) : Int)) (wi (by omega)) (by rw [Wr_len]; omega) (by omega) (by rw [← ew]; exact Wr_getD (by omega)) k1 g1
theorem rev_loop {o : List UInt8} {L : Nat} (hL : o.length = L) (hb : L < 35184372088832) : ∀ (t i : Nat) (cur : List UInt8), L ≤ t + 2 * i → 2 * i ≤ L + 1 → cur.length = L →
    (∀ j, j < L → cur[j]? = if j < i ∨ L - 1 - i < j then o[L - 1 - j]? else o[j]?) →
    ∃ cur', Lp E 1 F_ref01_To 2 (ref01_To_L2 L i ((L : Int) - 1 - i) (Br cur)) (.exit 4) (ref01_To_L2e0 L (Br cur')) ∧ cur' = o.reverse
 | t, i, cur, ht, hi, hc, hinv => by
  by_cases hend : (i : Int) < (L : Int) - 1 - i
  · cases t with
    | zero => omega
    | succ t =>
     have hk : L - 1 - i < L := by omega
     have e1 : (L : Int) - 1 - i = ((L - 1 - i : Nat) : Int) := by omega
     obtain ⟨a, ha⟩ : ∃ a, cur[i]? = some a := ⟨cur[i], List.getElem?_eq_getElem (by omega)⟩
     obtain ⟨b, hb'⟩ : ∃ b, cur[L - 1 - i]? = some b := ⟨cur[L - 1 - i], List.getElem?_eq_getElem (by omega)⟩
     have hoa : o[i]? = some a := by
      have := hinv i (by omega)
      rw [ha, if_neg (by omega)] at this
      exact this.symm
     have hob : o[L - 1 - i]? = some b := by
      have := hinv (L - 1 - i) hk
      rw [hb', if_neg (by omega)] at this
      exact this.symm
     obtain ⟨cur', k1, k2⟩ := rev_loop hL hb t (i + 1) ((cur.set i b).set (L - 1 - i) a) (by omega) (by omega) (by simpa using hc) (fun j hj => by
      rw [List.getElem?_set, List.getElem?_set]
      by_cases c1 : L - 1 - i = j
      · subst c1
        rw [if_pos rfl, if_pos (by simp; omega), if_pos (by omega), show L - 1 - (L - 1 - i) = i by omega]
        exact hoa.symm
      · rw [if_neg c1]
        by_cases c2 : i = j
        · subst c2
          rw [if_pos rfl, if_pos (by omega), if_pos (by omega)]
          exact hob.symm
        · rw [if_neg c2, hinv j hj]
          by_cases c3 : j < i ∨ L - 1 - i < j
          · rw [if_pos c3, if_pos (by omega)]
          · rw [if_neg c3, if_neg (by omega)])
     refine ⟨cur', ?_, k2⟩
     have g1 : (Br cur)[Int.toNat (i : Int)]? = some [.u8 (a.toNat : Int)] := by rw [Int.toNat_natCast]; exact Br_get ha
     have g2 : (Br cur)[Int.toNat ((L : Int) - 1 - i)]? = some [.u8 (b.toNat : Int)] := by rw [e1, Int.toNat_natCast]; exact Br_get hb'
     obtain ⟨c, hcc⟩ : ∃ c, (cur.set i b)[L - 1 - i]? = some c := ⟨(cur.set i b)[L - 1 - i]'(by simp; omega), List.getElem?_eq_getElem _⟩
     exact ref01_To_L2_r0 (v1 := (b.toNat : Int)) (v2 := (a.toNat : Int)) (v3 := Br (cur.set i b)) (v4 := (c.toNat : Int)) (v5 := Br ((cur.set i b).set (L - 1 - i) a)) (v6 := ((i + 1 : Nat) : Int)) (v7 := (L : Int) - 1 - ((i + 1 : Nat) : Int))
      (by rw [Int.toNat_natCast, Br_set]) (by rw [e1, Int.toNat_natCast, Br_set]) (wi (by omega)) (wi (by omega)) (by omega) (by omega) g2 (by omega) g1 (by rw [e1, Int.toNat_natCast]; exact Br_get hcc) k1
  · refine ⟨cur, ref01_To_L2e0_x0 (by omega), ?_⟩
    apply List.ext_getElem?
    intro j
    rcases Nat.lt_or_ge j L with hj | hj
    · rw [hinv j hj, List.getElem?_reverse (by omega), hL]
      by_cases c : j < i ∨ L - 1 - i < j
      · rw [if_pos c]
      · rw [if_neg c]
        have : L - 1 - j = j := by omega
        rw [this]
    · rw [List.getElem?_eq_none (by omega), List.getElem?_eq_none (by simp; omega)]
theorem r1_To {n K : Nat} (h : n < 10 ^ K) (hK : K ≤ Lim + Lim) : Fn E F_ref01_To [.c (.list (Wr (words n)))] (.c (.str (B (dec n)))) := by
 have h1 := dec_le h
 have h2 := words_le h
 rw [Lim_val] at hK
 by_cases h0 : n = 0
 · subst h0
   rw [words_zero, dec_zero]
   exact ref01_To_0 rfl
 · have hne : words n ≠ [] := fun h => h0 (words_nil.1 h)
   have hp := len_pos hne
   have hr : rdig n = (dec n).reverse := by unfold rdig; rw [if_neg h0]
   obtain ⟨out, k1, k2⟩ := r1_to_loop (E := E) (n := n) (T := (dec n).length) (by omega) (by omega) (words n).length 0 n [] (by omega) (by rw [List.drop_zero, words_val]) (by rw [hr]; simp)
   rw [List.nil_append, hr] at k2
   have hol : out.length = (dec n).length := by rw [k2]; simp
   obtain ⟨cur, g1, g2⟩ := rev_loop (E := E) (o := out) (L := out.length) rfl (by omega) out.length 0 out (by omega) (by omega) rfl (fun j hj => by rw [if_neg (by omega)])
   rw [show (out.length : Int) - 1 - ((0 : Nat) : Int) = (out.length : Int) - 1 by omega] at g1
   have hcur : cur = dec n := by rw [g2, k2, List.reverse_reverse]
   refine ref01_To_1 (v1 := out.length) (v2 := Br out) (v3 := (out.length : Int) - 1) (v4 := Br cur) (wi (by omega)) ?_ (by rw [Wr_len]; omega) k1 g1 ?_
   · rw [Br_take, List.take_of_length_le (by rw [hcur]; omega), hcur, Br_text]
   · rw [Br_take]; exact Br_byte _
end Gev
namespace Gev
open Go Gb
variable {E : Env}
def Zr (z : Int) : List DV := [.bool (decide (z < 0)), .list (Wr (words z.natAbs))]
theorem Zr_nat (n : Nat) : Zr (n : Int) = [.bool false, .list (Wr (words n))] := by unfold Zr; rw [decide_eq_false (by omega), Int.natAbs_natCast]
theorem Wr_pos {n : Nat} : ((Wr (words n)).length : Int) > 0 ↔ n ≠ 0 := by
 rw [Wr_len]
 constructor
 · rintro h rfl; rw [words_zero] at h; simp at h
 · intro h
   have := len_pos (fun e => h (words_nil.1 e) : words n ≠ [])
   omega
theorem r2_Make (neg : Bool) (n : Nat) : Fn E F_ref02_Make [.c (.bool neg), .c (.list (Wr (words n)))] (.agg (Zr (sgn neg n))) := by
 cases neg with
 | false =>
  have : Zr (sgn false n) = [.bool false, .list (Wr (words n))] := by unfold sgn; simp [Zr_nat]
  rw [this]; exact ref02_Make_2
 | true =>
  by_cases h : n = 0
  · subst h
    have : Zr (sgn true 0) = [.bool false, .list (Wr (words 0))] := by unfold Zr sgn; simp
    rw [this]; exact ref02_Make_1 (fun x => Wr_pos.1 x rfl)
  · have : Zr (sgn true n) = [.bool true, .list (Wr (words n))] := by
     unfold Zr sgn
     simp only [if_true, Int.natAbs_neg, Int.natAbs_natCast]
     rw [decide_eq_true (by omega)]
    rw [this]; exact ref02_Make_0 (Wr_pos.2 h)
theorem sgn_opp (z : Int) : sgn (!decide (z < 0)) z.natAbs = -z := by unfold sgn; split <;> rename_i h <;> simp at h <;> omega
theorem sgn_mul (a b : Int) : sgn (!(decide (a < 0) == decide (b < 0))) (a.natAbs * b.natAbs) = a * b := by
 unfold sgn
 have ea : (a.natAbs : Int) = if a < 0 then -a else a := by split <;> omega
 have eb : (b.natAbs : Int) = if b < 0 then -b else b := by split <;> omega
 rw [Int.natCast_mul, ea, eb]
 by_cases c : a < 0 <;> by_cases d : b < 0 <;> simp [c, d] <;> grind
theorem sgn_mul_nat (a : Int) (b : Nat) : sgn (decide (a < 0)) (a.natAbs * b) = a * b := by
 unfold sgn
 have ea : (a.natAbs : Int) = if a < 0 then -a else a := by split <;> omega
 rw [Int.natCast_mul, ea]
 by_cases c : a < 0 <;> simp [c] <;> grind
theorem r2_Opposite (z : Int) : Fn E F_ref02_Opposite [.agg (Zr z)] (.agg (Zr (-z))) := by
 have := r2_Make (E := E) (!decide (z < 0)) z.natAbs
 rw [sgn_opp] at this
 exact ref02_Opposite_0 this
theorem wl {n K : Nat} (h : n < 10 ^ K) : (words n).length ≤ K := words_le h
theorem r2_Times {a b : Int} {K L : Nat} (ha : a.natAbs < 10 ^ K) (hb : b.natAbs < 10 ^ L) (h : K + L ≤ 4 * Lim) : Fn E F_ref02_Times [.agg (Zr a), .agg (Zr b)] (.agg (Zr (a * b))) := by
 rw [Lim_val] at h
 have h1 := wl ha
 have h2 := wl hb
 have hm := r2_Make (E := E) (!(decide (a < 0) == decide (b < 0))) (a.natAbs * b.natAbs)
 rw [sgn_mul] at hm
 exact ref02_Times_0 rfl (r1_Times (by omega)) hm
theorem r2_Plus {a b : Int} {K L : Nat} (ha : a.natAbs < 10 ^ K) (hb : b.natAbs < 10 ^ L) (hK : K ≤ 4 * Lim) (hL : L ≤ 4 * Lim) : Fn E F_ref02_Plus [.agg (Zr a), .agg (Zr b)] (.agg (Zr (a + b))) := by
 rw [Lim_val] at hK hL
 have h1 := wl ha
 have h2 := wl hb
 by_cases hs : decide (a < 0) = decide (b < 0)
 · have hw := r2_Make (E := E) (decide (a < 0)) (a.natAbs + b.natAbs)
   have e : sgn (decide (a < 0)) (a.natAbs + b.natAbs) = a + b := by
    unfold sgn
    rw [decide_eq_decide] at hs
    by_cases c : a < 0
    · have := hs.1 c; rw [decide_eq_true c, if_pos rfl]; omega
    · have : ¬ b < 0 := fun x => c (hs.2 x)
      rw [decide_eq_false c, if_neg (by simp)]; omega
   rw [e] at hw
   exact ref02_Plus_0 hs (r1_Plus (by omega) (by omega)) hw
 · have hc := r1_Cmp (E := E) (m := a.natAbs) (n := b.natAbs) (by omega)
   have hs' : ¬ (a < 0 ↔ b < 0) := fun h => hs (decide_eq_decide.2 h)
   by_cases c : a.natAbs < b.natAbs
   · have hw := r2_Make (E := E) (decide (b < 0)) (b.natAbs - a.natAbs)
     have e : sgn (decide (b < 0)) (b.natAbs - a.natAbs) = a + b := by
      unfold sgn
      by_cases d : b < 0
      · have : ¬ a < 0 := fun x => hs' ⟨fun _ => d, fun _ => x⟩
        rw [decide_eq_true d, if_pos rfl]; omega
      · have : a < 0 := Classical.byContradiction fun x => hs' ⟨fun y => absurd y x, fun y => absurd y d⟩
        rw [decide_eq_false d, if_neg (by simp)]; omega
     rw [e] at hw
     exact ref02_Plus_2 hs hc (by have := (cmpI_lt (a := (a.natAbs : Int)) (b := b.natAbs)).2 (by omega); omega) (r1_Minus (by omega) (by omega)) hw
   · have hw := r2_Make (E := E) (decide (a < 0)) (a.natAbs - b.natAbs)
     have e : sgn (decide (a < 0)) (a.natAbs - b.natAbs) = a + b := by
      unfold sgn
      by_cases d : a < 0
      · have : ¬ b < 0 := fun x => hs' ⟨fun _ => x, fun _ => d⟩
        rw [decide_eq_true d, if_pos rfl]; omega
      · have : b < 0 := Classical.byContradiction fun x => hs' ⟨fun y => absurd y d, fun y => absurd y x⟩
        rw [decide_eq_false d, if_neg (by simp)]; omega
     rw [e] at hw
     refine ref02_Plus_1 hs hc ?_ (r1_Minus (by omega) (by omega)) hw
     have : ¬ cmpI (a.natAbs : Int) b.natAbs < 0 := fun x => by have := cmpI_lt.1 x; omega
     omega
theorem r2_Minus {a b : Int} {K L : Nat} (ha : a.natAbs < 10 ^ K) (hb : b.natAbs < 10 ^ L) (hK : K ≤ 4 * Lim) (hL : L ≤ 4 * Lim) : Fn E F_ref02_Minus [.agg (Zr a), .agg (Zr b)] (.agg (Zr (a - b))) := by
 rw [Int.sub_eq_add_neg]
 exact ref02_Minus_0 (r2_Opposite b) (r2_Plus ha (b := -b) (by rw [Int.natAbs_neg]; exact hb) hK hL)
theorem r2_Signum (z : Int) : Fn E F_ref02_Signum [.agg (Zr z)] (.c (.i64 (cmpI z 0))) := by
 rcases Int.lt_trichotomy z 0 with c | c | c
 · have : Zr z = [.bool true, .list (Wr (words z.natAbs))] := by unfold Zr; rw [decide_eq_true c]
   have e : cmpI z 0 = -1 := by unfold cmpI; rw [if_pos c]
   rw [this, e]; exact ref02_Signum_0
 · subst c
   have e : cmpI 0 0 = 0 := rfl
   rw [e]; exact ref02_Signum_2 (fun h => Wr_pos.1 h rfl)
 · have : Zr z = [.bool false, .list (Wr (words z.natAbs))] := by unfold Zr; rw [decide_eq_false (by omega)]
   have e : cmpI z 0 = 1 := by unfold cmpI; rw [if_neg (by omega), if_pos (by omega)]
   rw [this, e]; exact ref02_Signum_1 (Wr_pos.2 (by omega))
theorem r2_Cmp {a b : Int} {K L : Nat} (ha : a.natAbs < 10 ^ K) (hb : b.natAbs < 10 ^ L) (hK : K ≤ 4 * Lim) (hL : L ≤ 4 * Lim) : Fn E F_ref02_Cmp [.agg (Zr a), .agg (Zr b)] (.c (.i64 (cmpI a b))) := by
 have h := r2_Signum (E := E) (a - b)
 rw [Int.sub_eq_add_neg, cmpI_sub] at h
 rw [← Int.sub_eq_add_neg] at h
 exact ref02_Cmp_0 (r2_Minus ha hb hK hL) h
theorem r2_Small {z : Int} (h : z.natAbs < 4294967296) : Fn E F_ref02_Small [.c (.i64 z)] (.agg (Zr z)) := by
 have hs := r1_Small (E := E) h
 by_cases c : z < 0
 · have hm := r2_Make (E := E) true z.natAbs
   rw [show sgn true z.natAbs = z by unfold sgn; simp; omega] at hm
   exact ref02_Small_0 (v1 := z.natAbs) (v2 := z.natAbs) (wi (by omega)) (w32 (by omega)) c hs hm
 · have hm := r2_Make (E := E) false z.natAbs
   rw [show sgn false z.natAbs = z by unfold sgn; simp; omega] at hm
   exact ref02_Small_1 (v1 := z.natAbs) (w32 (by omega)) c hs hm
theorem head0 (c : UInt8) (m : List UInt8) : (((B (c :: m)).data.toList.getD 0 0).toNat : Int) = (c.toNat : Int) := by rw [B_list]; rfl
theorem r2_Valid (l : List UInt8) (hl : l.length < 9223372036854775807) : Fn E F_ref02_Valid [.c (.str (B l))] (.c (.bool (intB l))) := by
 unfold intB
 match l, hl with
 | [], hl => exact ref02_Valid_3 (by rw [B_size]; decide) (r1_Valid [] hl)
 | [c], hl =>
  have h0 := ref02_Valid_3 (a0 := B [c]) (by rw [B_size]; simp) (r1_Valid (E := E) [c] hl)
  rw [pre45]
  by_cases hc : c = 45
  · subst hc; exact h0
  · rw [beq_eq_false_iff_ne.2 hc]; exact h0
 | c :: d :: m, hl =>
  rw [pre45]
  simp only [List.length_cons] at hl
  by_cases hc : c = 45
  · subst hc
    simp only [beq_self_eq_true, if_true, List.drop_succ_cons, List.drop_zero]
    by_cases h48 : d :: m = [48]
    · rw [h48]
      exact ref02_Valid_1 (head0 _ _) (by rw [B_size]; decide) (by rw [B_size]; decide) (by decide) rfl
    · rw [beq_eq_false_iff_ne.2 h48, Bool.not_false, Bool.and_true]
      refine ref02_Valid_0 (v2 := B (d :: m)) (head0 _ _) ?_ (by rw [B_size]; simp; omega) (by rw [B_size]; simp; omega) (by decide) (fun e => h48 ?_) (by rw [B_size]; simp; omega) (r1_Valid (d :: m) (by simp; omega))
      · rw [B_size, Int.toNat_natCast, B_extract, List.take_length]; rfl
      · have := B_inj (l := 45 :: d :: m) (m := [45, 48]) e
        exact (List.cons.inj this).2
  · rw [beq_eq_false_iff_ne.2 hc]
    exact ref02_Valid_2 (head0 _ _) (by rw [B_size]; simp; omega) (by rw [B_size]; simp; omega) (fun e => hc (UInt8.toNat_inj.1 (by simpa using Int.ofNat.inj e))) (r1_Valid (c :: d :: m) (by simp; omega))
theorem r2_Read {z : Int} {K : Nat} (hz : z.natAbs < 10 ^ K) (hK : K ≤ Lim) : Fn E F_ref02_Read [.c (.str (B (decZ z)))] (.agg (Zr z)) := by
 have hf := r1_From_dec (E := E) hz hK
 by_cases c : z < 0
 · have : Zr z = [.bool true, .list (Wr (words z.natAbs))] := by unfold Zr; rw [decide_eq_true c]
   rw [this, decZ_neg c]
   refine ref02_Read_0 (v2 := B (dec z.natAbs)) (head0 _ _) ?_ (by rw [B_size]; simp) (by decide) (by rw [B_size]; simp; omega) hf
   rw [B_size, Int.toNat_natCast, B_extract, List.take_length]; rfl
 · have : Zr z = [.bool false, .list (Wr (words z.natAbs))] := by unfold Zr; rw [decide_eq_false c]
   rw [this, decZ_nonneg (by omega)]
   cases hd : dec z.natAbs with
   | nil => exact absurd hd (dec_ne _)
   | cons d m =>
    rw [hd] at hf
    refine ref02_Read_1 (head0 _ _) (by rw [B_size]; simp) (fun e => ?_) hf
    have := dec_dg z.natAbs d (by rw [hd]; simp)
    omega
theorem r2_To {z : Int} {K : Nat} (hz : z.natAbs < 10 ^ K) (hK : K ≤ Lim + Lim) : Fn E F_ref02_To [.agg (Zr z)] (.c (.str (B (decZ z)))) := by
 have ht := r1_To (E := E) hz hK
 have h1 := dec_le hz
 rw [Lim_val] at hK
 by_cases c : z < 0
 · have : Zr z = [.bool true, .list (Wr (words z.natAbs))] := by unfold Zr; rw [decide_eq_true c]
   rw [this, decZ_neg c]
   exact ref02_To_0 (by rw [B45, B_append]; rfl) ht (by rw [B45, B_size, B_size]; simp; omega)
 · have : Zr z = [.bool false, .list (Wr (words z.natAbs))] := by unfold Zr; rw [decide_eq_false c]
   rw [this, decZ_nonneg (by omega)]
   exact ref02_To_1 ht
end Gev
namespace Gev
open Go Gb
variable {E : Env}
def Qr (q : Rat) : List DV := [.bool (decide (q.num < 0)), .list (Wr (words q.num.natAbs)), .list (Wr (words q.den))]
theorem abs_cast (n : Nat) : (n : Int).natAbs = n := Int.natAbs_natCast n
theorem words_one : words 1 = [1] := by rw [words_pos (by decide)]; rw [show 1 / 1000000000 = 0 from rfl, words_zero]; rfl
theorem sgn_div (z : Int) {g : Nat} (hg : g ≠ 0) (hd : (g : Int) ∣ z) : sgn (decide (z < 0)) (z.natAbs / g) = z / (g : Int) := by
 obtain ⟨k, rfl⟩ := hd
 rw [Int.mul_ediv_cancel_left _ (by omega), Int.natAbs_mul, abs_cast, Nat.mul_div_cancel_left _ (by omega)]
 unfold sgn
 have hs : (g : Int) * k < 0 ↔ k < 0 := by
  constructor
  · intro h
    refine Classical.byContradiction fun c => ?_
    have := Int.mul_nonneg (show 0 ≤ (g : Int) by omega) (show 0 ≤ k by omega)
    omega
  · intro h; exact Int.mul_neg_of_pos_of_neg (by omega) h
 by_cases c : k < 0
 · rw [decide_eq_true (hs.2 c), if_pos rfl]; omega
 · rw [decide_eq_false (fun x => c (hs.1 x)), if_neg (by simp)]; omega
theorem r3_lowest {z : Int} {d K L : Nat} (hz : z.natAbs < 10 ^ K) (hd : d < 10 ^ L) (hK : K ≤ 4 * Lim) (hL : L ≤ 4 * Lim) (h0 : d ≠ 0) : Fn E F_ref03_lowest [.agg (Zr z), .c (.list (Wr (words d)))] (.agg (Qr (mkRat z d))) := by
 have w1 := wl hz
 have w2 := wl hd
 rw [Lim_val] at hK hL
 have hc := r1_Common (E := E) (m := z.natAbs) (n := d) (L := max K L) (by omega) (by omega) (by omega)
 have e : Qr (mkRat z d) = [.bool (decide (z / (Nat.gcd z.natAbs d : Nat) < 0)), .list (Wr (words (z / (Nat.gcd z.natAbs d : Nat)).natAbs)), .list (Wr (words (d / Nat.gcd z.natAbs d)))] := by
  unfold Qr; rw [mkRat_num h0, mkRat_den h0]
 have hg : Nat.gcd z.natAbs d ≠ 0 := gcd_ne h0
 have hdv : ((Nat.gcd z.natAbs d : Nat) : Int) ∣ z := by
  have := Int.gcd_dvd_left z d
  exact this
 rw [e]
 generalize Nat.gcd z.natAbs d = g at *
 have hm := r2_Make (E := E) (decide (z < 0)) (z.natAbs / g)
 rw [sgn_div z hg hdv] at hm
 have o1 := r1_Over (E := E) (m := g) (n := z.natAbs) hg (by omega)
 have o2 := r1_Over (E := E) (m := g) (n := d) hg (by omega)
 by_cases h1 : g = 1
 · subst h1
   rw [show ((1 : Nat) : Int) = 1 from rfl, Int.ediv_one, Nat.div_one]
   exact ref03_lowest_0 (v2 := 1) hc (by rw [words_one]; rfl) (by rw [words_one]; rfl) rfl
 · by_cases hl : ((Wr (words g)).length : Int) = 1
   · rw [Wr_len] at hl
     obtain ⟨w, hw⟩ : ∃ w, words g = [w] := by
      cases hx : words g with
      | nil => rw [hx] at hl; simp at hl
      | cons w m =>
       rw [hx] at hl
       cases m with
       | nil => exact ⟨w, rfl⟩
       | cons => simp at hl; omega
     refine ref03_lowest_1 (v2 := w) hc (by rw [Wr_len]; exact hl) (by rw [hw]; rfl) (fun e => h1 ?_) o1 o2 hm
     have := words_val g
     rw [hw, e] at this
     have hv : wv [(1 : Int)] = 1 := by decide
     omega
   · exact ref03_lowest_2 hc hl o1 o2 hm
theorem r3_Int {z : Int} (h : z.natAbs < 4294967296) : Fn E F_ref03_Int [.c (.i64 z)] (.agg (Qr (z : Rat))) := by
 have e : Qr (z : Rat) = [.bool (decide (z < 0)), .list (Wr (words z.natAbs)), .list (Wr (words 1))] := by unfold Qr; rw [Rat.num_intCast, Rat.den_intCast]
 rw [e]
 exact ref03_Int_0 (r2_Small h) (r1_Small (n := 1) (by decide))
theorem r3_Neg (q : Rat) : Fn E F_ref03_Neg [.agg (Qr q)] (.agg (Qr (-q))) := by
 have e : Qr (-q) = [.bool (decide (-q.num < 0)), .list (Wr (words (-q.num).natAbs)), .list (Wr (words q.den))] := by unfold Qr; rw [Rat.neg_num, Rat.neg_den]
 rw [e]
 exact ref03_Neg_0 (r2_Opposite q.num)
theorem r3_Mul {x y : Rat} {K L : Nat} (hx : Sz x K) (hy : Sz y L) (h : K + L ≤ 4 * Lim) : Fn E F_ref03_Mul [.agg (Qr x), .agg (Qr y)] (.agg (Qr (x * y))) := by
 rw [Rat.mul_def']
 have w1 := wl hx.2
 have w2 := wl hy.2
 have hl : Lim = 1000000000 := rfl
 exact ref03_Mul_0 (r2_Times hx.1 hy.1 h) (r1_Times (by omega)) (r3_lowest (abs_mul_lt hx.1 hy.1) (mul_lt_pow hx.2 hy.2) (by omega) (by omega) (Nat.mul_ne_zero x.den_nz y.den_nz))
theorem r3_cross {x y : Rat} {K L : Nat} (hx : Sz x K) (hy : Sz y L) (h : K + L ≤ 4 * Lim) : Fn E F_ref01_Times [.c (.list (Wr (words x.num.natAbs))), .c (.list (Wr (words y.den)))] (.c (.list (Wr (words (x.num.natAbs * y.den))))) ∧ Fn E F_ref02_Make [.c (.bool (decide (x.num < 0))), .c (.list (Wr (words (x.num.natAbs * y.den))))] (.agg (Zr (x.num * y.den))) := by
 have w1 := wl hx.1
 have w2 := wl hy.2
 have hl : Lim = 1000000000 := rfl
 have hm := r2_Make (E := E) (decide (x.num < 0)) (x.num.natAbs * y.den)
 rw [sgn_mul_nat] at hm
 exact ⟨r1_Times (by omega), hm⟩
theorem cmpI_nat {m n : Nat} : cmpI m n = 0 ↔ m = n := by rw [cmpI_zero]; omega
theorem r3_Add {x y : Rat} {K L : Nat} (hx : Sz x K) (hy : Sz y L) (h : K + L + 1 ≤ 4 * Lim) : Fn E F_ref03_Add [.agg (Qr x), .agg (Qr y)] (.agg (Qr (x + y))) := by
 have w1 := wl hx.2
 have w2 := wl hy.2
 have hl : Lim = 1000000000 := rfl
 have hc := r1_Cmp (E := E) (m := x.den) (n := y.den) (by omega)
 by_cases c : x.den = y.den
 · have hp := r2_Plus (E := E) hx.1 hy.1 (by omega) (by omega)
   have e : x + y = mkRat (x.num + y.num) x.den := by
    rw [Rat.add_def', ← c, ← Int.add_mul]
    have := Rat.mkRat_mul_right (n := x.num + y.num) (d := x.den) (a := x.den) x.den_nz
    exact this
   rw [e]
   exact ref03_Add_0 hc (cmpI_nat.2 c) hp (r3_lowest (abs_add_lt (pow_mono_lt hx.1 (show K ≤ max K L by omega)) (pow_mono_lt hy.1 (show L ≤ max K L by omega))) hx.2 (by omega) (by omega) x.den_nz)
 · rw [Rat.add_def']
   obtain ⟨t1, m1⟩ := r3_cross (E := E) hx hy (by omega)
   obtain ⟨t2, m2⟩ := r3_cross (E := E) hy hx (by omega)
   have a1 := abs_mul_lt (b := (y.den : Int)) hx.1 (show (y.den : Int).natAbs < 10 ^ L from hy.2)
   have a2 := abs_mul_lt (b := (x.den : Int)) hy.1 (show (x.den : Int).natAbs < 10 ^ K from hx.2)
   exact ref03_Add_1 hc (fun e => c (cmpI_nat.1 e)) t1 m1 t2 m2 (r2_Plus a1 a2 (by omega) (by omega)) (r1_Times (by omega)) (r3_lowest (abs_add_lt a1 (by rw [Nat.add_comm K L]; exact a2)) (mul_lt_pow hx.2 hy.2) (by omega) (by omega) (Nat.mul_ne_zero x.den_nz y.den_nz))
theorem r3_Sub {x y : Rat} {K L : Nat} (hx : Sz x K) (hy : Sz y L) (h : K + L + 1 ≤ 4 * Lim) : Fn E F_ref03_Sub [.agg (Qr x), .agg (Qr y)] (.agg (Qr (x - y))) := by
 rw [Rat.sub_eq_add_neg]
 exact ref03_Sub_0 (r3_Neg y) (r3_Add hx hy.neg h)
theorem r3_Inv {x : Rat} (h : x ≠ 0) : Fn E F_ref03_Inv [.agg (Qr x)] (.agg (Qr x⁻¹)) := by
 have hn : x.num ≠ 0 := fun e => h (Rat.num_eq_zero.1 e)
 have hd := Nat.pos_of_ne_zero x.den_nz
 have hm := r2_Make (E := E) (decide (x.num < 0)) x.den
 have e1 : sgn (decide (x.num < 0)) x.den = x.num.sign * x.den := by
  unfold sgn
  by_cases c : x.num < 0
  · rw [decide_eq_true c, if_pos rfl, Int.sign_eq_neg_one_of_neg c]; omega
  · rw [decide_eq_false c, if_neg (by simp), Int.sign_eq_one_of_pos (by omega)]; omega
 rw [e1] at hm
 have e : Qr x⁻¹ = [.bool (decide (x.num.sign * x.den < 0)), .list (Wr (words (x.num.sign * x.den).natAbs)), .list (Wr (words x.num.natAbs))] := by
  unfold Qr; rw [Rat.num_inv, Rat.den_inv, if_neg hn]
 rw [e]
 exact ref03_Inv_0 hm
theorem r3_Div {x y : Rat} {K L : Nat} (hx : Sz x K) (hy : Sz y L) (h : K + L ≤ 4 * Lim) (h0 : y ≠ 0) : Fn E F_ref03_Div [.agg (Qr x), .agg (Qr y)] (.agg (Qr (x / y))) := by
 rw [Rat.div_def]
 exact ref03_Div_0 (r3_Inv h0) (r3_Mul hx hy.inv h)
theorem r3_Sign (x : Rat) : Fn E F_ref03_Sign [.agg (Qr x)] (.c (.i64 (cmpI x.num 0))) := ref03_Sign_0 (r2_Signum x.num)
theorem r3_Cmp {x y : Rat} {K L : Nat} (hx : Sz x K) (hy : Sz y L) (h : K + L ≤ 4 * Lim) : Fn E F_ref03_Cmp [.agg (Qr x), .agg (Qr y)] (.c (.i64 (cmpQ x y))) := by
 have s1 := r3_Sign (E := E) x
 have s2 := r3_Sign (E := E) y
 by_cases hs : cmpI x.num 0 = cmpI y.num 0
 · obtain ⟨t1, m1⟩ := r3_cross (E := E) hx hy (by omega)
   obtain ⟨t2, m2⟩ := r3_cross (E := E) hy hx (by omega)
   have a1 := abs_mul_lt (b := (y.den : Int)) hx.1 (show (y.den : Int).natAbs < 10 ^ L from hy.2)
   have a2 := abs_mul_lt (b := (x.den : Int)) hy.1 (show (x.den : Int).natAbs < 10 ^ K from hx.2)
   exact ref03_Cmp_2 s1 s2 hs t1 m1 t2 m2 (r2_Cmp a1 a2 (by omega) (by omega))
 · rw [cmpQ_signs hs]
   by_cases c : cmpI x.num 0 < cmpI y.num 0
   · rw [if_pos c]; exact ref03_Cmp_0 s1 s2 hs c
   · rw [if_neg c]; exact ref03_Cmp_1 s1 s2 hs c
theorem r3_Less {x y : Rat} {K L : Nat} (hx : Sz x K) (hy : Sz y L) (h : K + L ≤ 4 * Lim) : Fn E F_ref03_Less [.agg (Qr x), .agg (Qr y)] (.c (.bool (decide (x < y)))) := by
 have hc := r3_Cmp (E := E) hx hy h
 by_cases c : x < y
 · rw [decide_eq_true c]; exact ref03_Less_0 hc (cmpQ_lt.2 c)
 · rw [decide_eq_false c]; exact ref03_Less_1 hc (fun e => c (cmpQ_lt.1 e))
theorem r3_Least {x y : Rat} {K L : Nat} (hx : Sz x K) (hy : Sz y L) (h : K + L ≤ 4 * Lim) : Fn E F_ref03_Least [.agg (Qr x), .agg (Qr y)] (.agg (Qr (if y < x then y else x))) := by
 have hc := r3_Cmp (E := E) hx hy h
 by_cases c : y < x
 · rw [if_pos c]; exact ref03_Least_1 hc (by have := cmpQ_gt.2 c; omega)
 · rw [if_neg c]; exact ref03_Least_0 hc (by have : ¬ cmpQ x y > 0 := fun e => c (cmpQ_gt.1 e); omega)
theorem r3_Most {x y : Rat} {K L : Nat} (hx : Sz x K) (hy : Sz y L) (h : K + L ≤ 4 * Lim) : Fn E F_ref03_Most [.agg (Qr x), .agg (Qr y)] (.agg (Qr (if x < y then y else x))) := by
 have hc := r3_Cmp (E := E) hx hy h
 by_cases c : x < y
 · rw [if_pos c]; exact ref03_Most_1 hc (by have := cmpQ_lt.2 c; omega)
 · rw [if_neg c]; exact ref03_Most_0 hc (by have : ¬ cmpQ x y < 0 := fun e => c (cmpQ_lt.1 e); omega)
theorem r3_To {q : Rat} {K : Nat} (h : Sz q K) (hK : K ≤ Lim + Lim) : Fn E F_ref03_To [.agg (Qr q)] (.c (.str (B (decQ q)))) := by
 have h1 := decZ_le h.1
 have h2 := den_lt h
 have t1 := r2_To (E := E) h.1 hK
 have t2 := r1_To (E := E) h.2 hK
 rw [Lim_val] at hK
 by_cases hd : q.den = 1
 · rw [decQ_int hd]
   exact ref03_To_1 t1 t2 (by rw [hd, dec_one]; rfl)
 · rw [decQ_frac hd]
   exact ref03_To_0 (v3 := B (47 :: dec q.den)) (by rw [B47, B_append]; rfl) (by rw [B_append]) t1 t2 (fun e => hd (by rw [B49] at e; exact dec_eq_one.1 (B_inj e))) (by rw [B47, B_size, B_size]; simp; omega) (by rw [B_size, B_size]; simp; omega)
theorem getD_byte {l : List UInt8} {i : Nat} {c : UInt8} (h : l[i]? = some c) : (((B l).data.toList.getD (Int.toNat (i : Int)) 0).toNat : Int) = (c.toNat : Int) := by
 rw [B_list, Int.toNat_natCast, List.getD_eq_getElem?_getD, h]; rfl
theorem split_no {l : List UInt8} (h : (47 : UInt8) ∉ l) (hl : l.length < 9223372036854775807) : ∀ d i, i + d = l.length → Lp E 0 F_ref03_split 0 (ref03_split_L0 (B l) (i : Nat)) (.exit 0) (ref03_split_L0e1 (B l))
 | 0, i, hi => ref03_split_L0e1_x0 (by rw [B_size]; omega)
 | d + 1, i, hi => by
  obtain ⟨c, hc⟩ : ∃ c, l[i]? = some c := ⟨l[i]'(by omega), List.getElem?_eq_getElem _⟩
  refine ref03_split_L0_r0 (v2 := ((i + 1 : Nat) : Int)) (getD_byte hc) (wi (by omega)) (by rw [B_size]; omega) (by rw [B_size]; omega) (fun e => h ?_) (split_no h hl d (i + 1) (by omega))
  have : c = 47 := UInt8.toNat_inj.1 (by simpa using Int.ofNat.inj e)
  subst this
  exact List.mem_of_getElem? hc
theorem split_yes {p r : List UInt8} (h : (47 : UInt8) ∉ p) (hl : (p ++ 47 :: r).length < 9223372036854775807) : ∀ d i, i + d = p.length → Lp E 0 F_ref03_split 0 (ref03_split_L0 (B (p ++ 47 :: r)) (i : Nat)) .ret (ref03_split_L0e0 (B p) (B r))
 | 0, i, hi => by
  simp only [List.length_append, List.length_cons] at hl
  have hc : (p ++ 47 :: r)[i]? = some 47 := by rw [List.getElem?_append_right (by omega), show i - p.length = 0 by omega]; rfl
  refine ref03_split_L0e0_x0 (v3 := ((i + 1 : Nat) : Int)) (getD_byte hc) ?_ (wi (by omega)) ?_ (by rw [B_size]; simp; omega) (by rw [B_size]; simp; omega) (by decide) (by rw [B_size]; simp; omega) (by rw [B_size]; simp; omega)
  · rw [B_extract, Int.toNat_natCast, List.drop_zero, show i = p.length by omega, List.take_left]
  · rw [B_extract, B_size, Int.toNat_natCast, Int.toNat_natCast, List.take_length, show i + 1 = p.length + 1 by omega, List.drop_append, List.drop_eq_nil_of_le (by omega)]
    rw [show p.length + 1 - p.length = 1 by omega]; rfl
 | d + 1, i, hi => by
  have hl' := hl
  simp only [List.length_append, List.length_cons] at hl'
  obtain ⟨c, hc⟩ : ∃ c, p[i]? = some c := ⟨p[i]'(by omega), List.getElem?_eq_getElem _⟩
  have hc' : (p ++ 47 :: r)[i]? = some c := by rw [List.getElem?_append_left (by omega)]; exact hc
  refine ref03_split_L0_r0 (v2 := ((i + 1 : Nat) : Int)) (getD_byte hc') (wi (by omega)) (by rw [B_size]; simp; omega) (by rw [B_size]; simp; omega) (fun e => h ?_) (split_yes h hl d (i + 1) (by omega))
  have : c = 47 := UInt8.toNat_inj.1 (by simpa using Int.ofNat.inj e)
  subst this
  exact List.mem_of_getElem? hc
theorem cmp_one (n : Nat) : (cmpI n 1 > 0 ↔ 1 < n) ∧ (cmpI n 1 = 0 ↔ n = 1) := by
 constructor
 · rw [cmpI_gt]; omega
 · rw [cmpI_zero]; omega
theorem r3_From {l : List UInt8} (hl : l.length ≤ Lim) : Fn E F_ref03_From [.c (.str (B l))] (.tup [.agg (Qr ((rd l).getD 0)), .c (.bool (rd l).isSome)]) := by
 have hl' := hl
 rw [Lim_val] at hl'
 have hz := r3_Int (E := E) (z := 0) (by decide)
 rw [show ((0 : Int) : Rat) = 0 from rfl] at hz
 have h1 := r1_Small (E := E) (n := 1) (by decide)
 by_cases hs : (47 : UInt8) ∈ l
 · obtain ⟨p, r, rfl, hp⟩ := first_slash l hs
   have hll := hl
   simp only [List.length_append, List.length_cons] at hl hl'
   have hc := ref03_split_0 (split_yes (E := E) (p := p) (r := r) hp (by simp; omega) p.length 0 (by omega))
   have hv := r2_Valid (E := E) p (by omega)
   have hnv := r1_Valid (E := E) r (by omega)
   have none_of : (∀ q, p ++ 47 :: r ≠ decQ q) → rd (p ++ 47 :: r) = none := fun hq => by
    cases e : rd (p ++ 47 :: r) with
    | none => rfl
    | some q => exact absurd (rd_some e) (hq q)
   have shape : ∀ q, p ++ 47 :: r = decQ q → p = decZ q.num ∧ r = dec q.den ∧ q.den ≠ 1 := by
    intro q e
    by_cases hd : q.den = 1
    · rw [decQ_int hd] at e
      exact absurd (show (47 : UInt8) ∈ decZ q.num by rw [← e]; simp) (not_mem_decZ _)
    · rw [decQ_frac hd] at e
      have := cut_inj e hp (not_mem_decZ _)
      exact ⟨this.1, this.2, hd⟩
   cases hi : intB p with
   | false =>
    rw [none_of (fun q e => by rw [(shape q e).1, intB_decZ] at hi; cases hi)]
    rw [hi] at hv
    exact ref03_From_6 hc hv hz
   | true =>
    rw [hi] at hv
    cases hn : natB r with
    | false =>
     rw [none_of (fun q e => by rw [(shape q e).2.1, natB_dec] at hn; cases hn)]
     rw [hn] at hnv
     exact ref03_From_5 hc hv hnv hz
    | true =>
     rw [hn] at hnv
     obtain ⟨z, rfl⟩ := (intB_iff.1 hi).eq_decZ
     obtain ⟨n, rfl⟩ : ∃ n, r = dec n := ⟨_, (natB_iff.1 hn).eq_dec⟩
     have hzl : z.natAbs < 10 ^ (decZ z).length := pow_mono_lt (lt_dec_length _) (dec_len_abs z)
     have hnl := lt_dec_length n
     have r1 := r2_Read (E := E) hzl (by omega)
     have r2 := r1_From_dec (E := E) hnl (by omega)
     have w1 := wl hzl
     have w2 := wl hnl
     have c1 := r1_Cmp (E := E) (m := n) (n := 1) (by omega)
     have sg := r2_Signum (E := E) z
     have uq : ∀ q, decZ z ++ 47 :: dec n = decQ q → z = q.num ∧ n = q.den ∧ q.den ≠ 1 := fun q e => ⟨decZ_inj (shape q e).1, dec_inj (shape q e).2.1, (shape q e).2.2⟩
     by_cases hn1 : 1 < n
     · by_cases hz0 : z = 0
       · rw [none_of (fun q e => by
          obtain ⟨e1, e2, e3⟩ := uq q e
          have hr := q.reduced
          rw [← e1, hz0] at hr
          simp at hr
          exact e3 hr)]
         exact ref03_From_2 hc hv hnv r1 r2 h1 c1 ((cmp_one n).1.2 hn1) sg (by rw [cmpI_zero]; exact hz0) hz
       · have g := r1_Common (E := E) (m := z.natAbs) (n := n) (L := max (decZ z).length (dec n).length) (by omega) (by omega) (by omega)
         have hgl : Nat.gcd z.natAbs n < 10 ^ (dec n).length := Nat.lt_of_le_of_lt (Nat.gcd_le_right _ (by omega)) hnl
         have c2 := r1_Cmp (E := E) (m := Nat.gcd z.natAbs n) (n := 1) (by have := wl hgl; omega)
         by_cases hg1 : Nat.gcd z.natAbs n = 1
         · obtain ⟨q, e1, e2, e3⟩ := decQ_mk z n hn1 hg1
           rw [← e3, rd_decQ, e3]
           have eq : Qr q = [.bool (decide (z < 0)), .list (Wr (words z.natAbs)), .list (Wr (words n))] := by unfold Qr; rw [e1, e2]
           show Fn E F_ref03_From _ (.tup [.agg (Qr q), .c (.bool true)])
           rw [eq]
           exact ref03_From_0 hc hv hnv r1 r2 h1 c1 ((cmp_one n).1.2 hn1) sg (by rw [cmpI_zero]; exact hz0) g c2 ((cmp_one _).2.2 hg1)
         · rw [none_of (fun q e => by
            obtain ⟨e1, e2, e3⟩ := uq q e
            have hr := q.reduced
            rw [← e1, ← e2] at hr
            exact hg1 hr)]
           exact ref03_From_1 hc hv hnv r1 r2 h1 c1 ((cmp_one n).1.2 hn1) sg (by rw [cmpI_zero]; exact hz0) g c2 (fun e => hg1 ((cmp_one _).2.1 e)) hz
     · rw [none_of (fun q e => by
        obtain ⟨e1, e2, e3⟩ := uq q e
        have := q.den_nz
        omega)]
       exact ref03_From_3 hc hv hnv r1 r2 h1 c1 (fun e => hn1 ((cmp_one n).1.1 e)) hz
 · have hc := ref03_split_1 (split_no (E := E) hs (by omega) l.length 0 (by omega))
   have hv := r2_Valid (E := E) l (by omega)
   have hnv := r1_Valid (E := E) [49] (by decide)
   rw [show natB [49] = true from by decide] at hnv
   cases hi : intB l with
   | false =>
    have : rd l = none := by
     cases e : rd l with
     | none => rfl
     | some q =>
      have e2 := rd_some e
      by_cases hd : q.den = 1
      · rw [decQ_int hd] at e2; rw [e2, intB_decZ] at hi; cases hi
      · rw [decQ_frac hd] at e2; exact absurd (by rw [e2]; simp) hs
    rw [this]
    rw [hi] at hv
    exact ref03_From_6 hc hv hz
   | true =>
    obtain ⟨z, rfl⟩ := (intB_iff.1 hi).eq_decZ
    rw [hi] at hv
    have hzl : z.natAbs < 10 ^ (decZ z).length := pow_mono_lt (lt_dec_length _) (dec_len_abs z)
    have r2 := r1_From_dec (E := E) (n := 1) (K := 1) (by decide) (by rw [Lim_val]; omega)
    rw [dec_one] at r2
    have e : rd (decZ z) = some (z : Rat) := by rw [← decQ_intCast, rd_decQ]
    rw [e]
    have eq : Qr ((some (z : Rat)).getD 0) = [.bool (decide (z < 0)), .list (Wr (words z.natAbs)), .list (Wr (words 1))] := by
     show Qr (z : Rat) = _
     unfold Qr; rw [Rat.num_intCast, Rat.den_intCast]
    rw [eq]
    exact ref03_From_4 hc hv hnv (r2_Read hzl (by omega)) r2
theorem r3_Valid {l : List UInt8} (hl : l.length ≤ Lim) : Fn E F_ref03_Valid [.c (.str (B l))] (.c (.bool (rd l).isSome)) := ref03_Valid_0 (r3_From hl)
theorem r47_Num {l : List UInt8} (hl : l.length ≤ Lim) : Fn E F_ref47_Num [.c (.str (B l))] (.agg (Qr ((rd l).getD 0))) := ref47_Num_0 (r3_From hl)
end Gev
namespace Gev
open Go Gb
variable {E : Env}
abbrev Sq (q : Rat) : AV := .c (.str (B (decQ q)))
def R1 (l : List (List UInt8)) : List (List DV) := l.map fun p => [.str (B p)]
def R2 (l : List (List UInt8 × List UInt8)) : List (List DV) := l.map fun p => [.str (B p.1), .str (B p.2)]
def Q2 (l : List (Rat × Rat)) : List (List DV) := l.map fun p => [.str (B (decQ p.1)), .str (B (decQ p.2))]
def Q1 (l : List Rat) : List (List DV) := l.map fun p => [.str (B (decQ p))]
theorem R1_len (l : List (List UInt8)) : (R1 l).length = l.length := by simp [R1]
theorem R2_len (l : List (List UInt8 × List UInt8)) : (R2 l).length = l.length := by simp [R2]
theorem Q2_len (l : List (Rat × Rat)) : (Q2 l).length = l.length := by simp [Q2]
theorem Q1_len (l : List Rat) : (Q1 l).length = l.length := by simp [Q1]
theorem R1_get {l : List (List UInt8)} {i : Nat} {x} (h : l[i]? = some x) : (R1 l)[i]? = some [.str (B x)] := by simp [R1, h]
theorem R2_get {l : List (List UInt8 × List UInt8)} {i : Nat} {x} (h : l[i]? = some x) : (R2 l)[i]? = some [.str (B x.1), .str (B x.2)] := by simp [R2, h]
theorem Q2_get {l : List (Rat × Rat)} {i : Nat} {x} (h : l[i]? = some x) : (Q2 l)[i]? = some [.str (B (decQ x.1)), .str (B (decQ x.2))] := by simp [Q2, h]
theorem Q1_get {l : List Rat} {i : Nat} {x} (h : l[i]? = some x) : (Q1 l)[i]? = some [.str (B (decQ x))] := by simp [Q1, h]
noncomputable def ok1 (l : List UInt8) : Bool := (rd l).isSome
noncomputable def ok2 (p : List UInt8 × List UInt8) : Bool := ok1 p.1 && ok1 p.2
theorem ok1_dec (q : Rat) : ok1 (decQ q) = true := by unfold ok1; rw [rd_decQ]; rfl
theorem get_ex {α : Type} {l : List α} {i : Nat} (h : i < l.length) : ∃ c, l[i]? = some c := ⟨l[i], List.getElem?_eq_getElem h⟩
theorem drop_get {α : Type} {l : List α} {i : Nat} {c : α} (h : l[i]? = some c) : l.drop i = c :: l.drop (i + 1) := by
 obtain ⟨h1, h2⟩ := List.getElem?_eq_some_iff.1 h
 rw [← h2]; exact List.drop_eq_getElem_cons h1
theorem take_get {α : Type} {l : List α} {i : Nat} {c : α} (h : l[i]? = some c) : l.take (i + 1) = l.take i ++ [c] := by
 rw [List.take_add_one, h]; rfl
theorem inc_add (hlib : Lib E) {a b : Rat} {K L : Nat} (ha : Sz a K) (hb : Sz b L) (h : K + L + 1 ≤ Lim) : Fn E F_incline_add [Sq a, Sq b] (Sq (a + b)) := incline_add_0 (rational_Add_ok hlib ha hb h)
theorem inc_sub (hlib : Lib E) {a b : Rat} {K L : Nat} (ha : Sz a K) (hb : Sz b L) (h : K + L + 1 ≤ Lim) : Fn E F_incline_sub [Sq a, Sq b] (Sq (a - b)) := incline_sub_0 (rational_Sub_ok hlib ha hb h)
theorem inc_mul (hlib : Lib E) {a b : Rat} {K L : Nat} (ha : Sz a K) (hb : Sz b L) (h : K + L ≤ Lim) : Fn E F_incline_mul [Sq a, Sq b] (Sq (a * b)) := incline_mul_0 (rational_Mul_ok hlib ha hb h)
theorem inc_div (hlib : Lib E) {a b : Rat} {K L : Nat} (ha : Sz a K) (hb : Sz b L) (h : K + L ≤ Lim) (h0 : b ≠ 0) : Fn E F_incline_div [Sq a, Sq b] (Sq (a / b)) := incline_div_0 (rational_Div_ok hlib ha hb h h0)
theorem inc_compare (hlib : Lib E) {a b : Rat} {K L : Nat} (ha : Sz a K) (hb : Sz b L) (h : K + L ≤ Lim) : Fn E F_incline_compare [Sq a, Sq b] (.c (.i64 (cmpQ a b))) := incline_compare_0 (rational_Compare_ok hlib ha hb h)
theorem cell_zero : (AV.c (.str (⟨#[48]⟩ : ByteArray))) = Sq 0 := by unfold Sq; rw [decQ_zero]; rfl
theorem cell_one : (AV.c (.str (⟨#[49]⟩ : ByteArray))) = Sq 1 := by unfold Sq; rw [decQ_int rfl, show (1 : Rat).num = ((1 : Nat) : Int) from rfl, decZ_nat, dec_one]; rfl
theorem inc_sign (hlib : Lib E) {a : Rat} {K : Nat} (ha : Sz a K) (h : K + 1 ≤ Lim) : Fn E F_incline_sign [Sq a] (.c (.i64 (cmpQ a 0))) := by
 have := inc_compare hlib ha Sz.zero h
 rw [← cell_zero] at this
 exact incline_sign_0 this
theorem index_Rat_loop (hlib : Lib E) {l : List (List UInt8)} (hl : l.length < 9223372036854775807) (hf : ∀ x ∈ l, Fn E F_incline_valid_1 [.c (.str (B x))] (.c (.bool (!ok1 x)))) : ∀ d i : Nat, i + d = l.length →
    (l.drop i).all ok1 = true ∧ Lp E 0 F_slices_IndexFunc_Rat 0 (slices_IndexFunc_Rat_L0 (R1 l) (l.length : Nat) (i : Nat)) (.exit 0) slices_IndexFunc_Rat_L0e1 ∨
    (l.drop i).all ok1 = false ∧ ∃ v : Int, v ≥ 0 ∧ Lp E 0 F_slices_IndexFunc_Rat 0 (slices_IndexFunc_Rat_L0 (R1 l) (l.length : Nat) (i : Nat)) .ret (slices_IndexFunc_Rat_L0e0 v)
 | 0, i, hi => .inl ⟨by rw [List.drop_eq_nil_of_le (by omega)]; rfl, slices_IndexFunc_Rat_L0e1_x0 (by omega)⟩
 | d + 1, i, hi => by
  obtain ⟨c, hc⟩ := get_ex (l := l) (i := i) (by omega)
  have g := R1_get hc
  rw [← Int.toNat_natCast i] at g
  have hx := hf c (List.mem_of_getElem? hc)
  rw [drop_get hc, List.all_cons]
  cases ho : ok1 c with
  | false =>
   rw [ho] at hx
   exact .inr ⟨rfl, i, by omega, slices_IndexFunc_Rat_L0e0_x0 (by omega) (by omega) g hx⟩
  | true =>
   rw [ho] at hx
   rw [Bool.true_and]
   have st : ∀ {o s}, Lp E 0 F_slices_IndexFunc_Rat 0 (slices_IndexFunc_Rat_L0 (R1 l) (l.length : Nat) ((i + 1 : Nat) : Int)) o s → Lp E 0 F_slices_IndexFunc_Rat 0 (slices_IndexFunc_Rat_L0 (R1 l) (l.length : Nat) (i : Nat)) o s := fun h => slices_IndexFunc_Rat_L0_r0 (wi (by omega)) (by omega) (by omega) g hx h
   rcases index_Rat_loop hlib hl hf d (i + 1) (by omega) with ⟨h1, h2⟩ | ⟨h1, v, h2, h3⟩
   · exact .inl ⟨h1, st h2⟩
   · exact .inr ⟨h1, v, h2, st h3⟩
theorem contains_Rat (hlib : Lib E) {l : List (List UInt8)} (hl : l.length < 9223372036854775807) (hf : ∀ x ∈ l, Fn E F_incline_valid_1 [.c (.str (B x))] (.c (.bool (!ok1 x)))) : Fn E F_slices_ContainsFunc_Rat [.c (.list (R1 l)), .fn F_incline_valid_1 []] (.c (.bool (!l.all ok1))) := by
 have h := index_Rat_loop hlib hl hf l.length 0 (by omega)
 rw [List.drop_zero, ← R1_len l] at h
 rcases h with ⟨h1, h2⟩ | ⟨h1, v, h2, h3⟩
 · rw [h1]; exact slices_ContainsFunc_Rat__incline_valid_1_1 (slices_IndexFunc_Rat__incline_valid_1_1 h2) (by decide)
 · rw [h1]; exact slices_ContainsFunc_Rat__incline_valid_1_0 (slices_IndexFunc_Rat__incline_valid_1_0 h3) h2
theorem inc_valid (hlib : Lib E) {l : List (List UInt8)} (hl : l.length < 9223372036854775807) (hb : ∀ x ∈ l, x.length ≤ Lim) : Fn E F_incline_valid [.c (.list (R1 l))] (.c (.bool (l.all ok1))) := by
 have := incline_valid_0 (contains_Rat hlib hl fun x hx => incline_valid_1_0 (rational_Valid_ok hlib (hb x hx)))
 rwa [Bool.not_not] at this
theorem inc_valid2 (hlib : Lib E) {a b : List UInt8} (ha : a.length ≤ Lim) (hb : b.length ≤ Lim) : Fn E F_incline_valid [.c (.list [[.str (B a)], [.str (B b)]])] (.c (.bool (ok2 (a, b)))) := by
 have := inc_valid hlib (l := [a, b]) (by simp) (by simp [ha, hb])
 rw [show [a, b].all ok1 = ok2 (a, b) by unfold ok2; simp] at this
 exact this
theorem index_Shift_loop (hlib : Lib E) {l : List (List UInt8 × List UInt8)} (hl : l.length < 9223372036854775807) (hf : ∀ x ∈ l, Fn E F_incline_right_1 [.agg [.str (B x.1), .str (B x.2)]] (.c (.bool (!ok2 x)))) : ∀ d i : Nat, i + d = l.length →
    (l.drop i).all ok2 = true ∧ Lp E 0 F_slices_IndexFunc_Shift 0 (slices_IndexFunc_Shift_L0 (R2 l) (l.length : Nat) (i : Nat)) (.exit 0) slices_IndexFunc_Shift_L0e1 ∨
    (l.drop i).all ok2 = false ∧ ∃ v : Int, v ≥ 0 ∧ Lp E 0 F_slices_IndexFunc_Shift 0 (slices_IndexFunc_Shift_L0 (R2 l) (l.length : Nat) (i : Nat)) .ret (slices_IndexFunc_Shift_L0e0 v)
 | 0, i, hi => .inl ⟨by rw [List.drop_eq_nil_of_le (by omega)]; rfl, slices_IndexFunc_Shift_L0e1_x0 (by omega)⟩
 | d + 1, i, hi => by
  obtain ⟨c, hc⟩ := get_ex (l := l) (i := i) (by omega)
  have g := R2_get hc
  rw [← Int.toNat_natCast i] at g
  have hx := hf c (List.mem_of_getElem? hc)
  rw [drop_get hc, List.all_cons]
  cases ho : ok2 c with
  | false =>
   rw [ho] at hx
   exact .inr ⟨rfl, i, by omega, slices_IndexFunc_Shift_L0e0_x0 (by omega) (by omega) g hx⟩
  | true =>
   rw [ho] at hx
   rw [Bool.true_and]
   have st : ∀ {o s}, Lp E 0 F_slices_IndexFunc_Shift 0 (slices_IndexFunc_Shift_L0 (R2 l) (l.length : Nat) ((i + 1 : Nat) : Int)) o s → Lp E 0 F_slices_IndexFunc_Shift 0 (slices_IndexFunc_Shift_L0 (R2 l) (l.length : Nat) (i : Nat)) o s := fun h => slices_IndexFunc_Shift_L0_r0 (wi (by omega)) (by omega) (by omega) g hx h
   rcases index_Shift_loop hlib hl hf d (i + 1) (by omega) with ⟨h1, h2⟩ | ⟨h1, v, h2, h3⟩
   · exact .inl ⟨h1, st h2⟩
   · exact .inr ⟨h1, v, h2, st h3⟩
theorem contains_Shift (hlib : Lib E) {l : List (List UInt8 × List UInt8)} (hl : l.length < 9223372036854775807) (hf : ∀ x ∈ l, Fn E F_incline_right_1 [.agg [.str (B x.1), .str (B x.2)]] (.c (.bool (!ok2 x)))) : Fn E F_slices_ContainsFunc_Shift [.c (.list (R2 l)), .fn F_incline_right_1 []] (.c (.bool (!l.all ok2))) := by
 have h := index_Shift_loop hlib hl hf l.length 0 (by omega)
 rw [List.drop_zero, ← R2_len l] at h
 rcases h with ⟨h1, h2⟩ | ⟨h1, v, h2, h3⟩
 · rw [h1]; exact slices_ContainsFunc_Shift__incline_right_1_1 (slices_IndexFunc_Shift__incline_right_1_1 h2) (by decide)
 · rw [h1]; exact slices_ContainsFunc_Shift__incline_right_1_0 (slices_IndexFunc_Shift__incline_right_1_0 h3) h2
theorem inc_right (hlib : Lib E) {l : List (List UInt8 × List UInt8)} (hl : l.length < 9223372036854775807) (hb : ∀ x ∈ l, x.1.length ≤ Lim ∧ x.2.length ≤ Lim) : Fn E F_incline_right [.c (.list (R2 l))] (.c (.bool (l.all ok2))) := by
 have := incline_right_0 (contains_Shift hlib hl fun x hx => incline_right_1_0 rfl (inc_valid2 hlib (hb x hx).1 (hb x hx).2))
 rwa [Bool.not_not] at this
theorem index_Lump_loop (hlib : Lib E) {l : List (List UInt8 × List UInt8)} (hl : l.length < 9223372036854775807) (hf : ∀ x ∈ l, Fn E F_incline_Correct_1 [.agg [.str (B x.1), .str (B x.2)]] (.c (.bool (!ok2 x)))) : ∀ d i : Nat, i + d = l.length →
    (l.drop i).all ok2 = true ∧ Lp E 0 F_slices_IndexFunc_Lump 0 (slices_IndexFunc_Lump_L0 (R2 l) (l.length : Nat) (i : Nat)) (.exit 0) slices_IndexFunc_Lump_L0e1 ∨
    (l.drop i).all ok2 = false ∧ ∃ v : Int, v ≥ 0 ∧ Lp E 0 F_slices_IndexFunc_Lump 0 (slices_IndexFunc_Lump_L0 (R2 l) (l.length : Nat) (i : Nat)) .ret (slices_IndexFunc_Lump_L0e0 v)
 | 0, i, hi => .inl ⟨by rw [List.drop_eq_nil_of_le (by omega)]; rfl, slices_IndexFunc_Lump_L0e1_x0 (by omega)⟩
 | d + 1, i, hi => by
  obtain ⟨c, hc⟩ := get_ex (l := l) (i := i) (by omega)
  have g := R2_get hc
  rw [← Int.toNat_natCast i] at g
  have hx := hf c (List.mem_of_getElem? hc)
  rw [drop_get hc, List.all_cons]
  cases ho : ok2 c with
  | false =>
   rw [ho] at hx
   exact .inr ⟨rfl, i, by omega, slices_IndexFunc_Lump_L0e0_x0 (by omega) (by omega) g hx⟩
  | true =>
   rw [ho] at hx
   rw [Bool.true_and]
   have st : ∀ {o s}, Lp E 0 F_slices_IndexFunc_Lump 0 (slices_IndexFunc_Lump_L0 (R2 l) (l.length : Nat) ((i + 1 : Nat) : Int)) o s → Lp E 0 F_slices_IndexFunc_Lump 0 (slices_IndexFunc_Lump_L0 (R2 l) (l.length : Nat) (i : Nat)) o s := fun h => slices_IndexFunc_Lump_L0_r0 (wi (by omega)) (by omega) (by omega) g hx h
   rcases index_Lump_loop hlib hl hf d (i + 1) (by omega) with ⟨h1, h2⟩ | ⟨h1, v, h2, h3⟩
   · exact .inl ⟨h1, st h2⟩
   · exact .inr ⟨h1, v, h2, st h3⟩
theorem contains_Lump (hlib : Lib E) {l : List (List UInt8 × List UInt8)} (hl : l.length < 9223372036854775807) (hf : ∀ x ∈ l, Fn E F_incline_Correct_1 [.agg [.str (B x.1), .str (B x.2)]] (.c (.bool (!ok2 x)))) : Fn E F_slices_ContainsFunc_Lump [.c (.list (R2 l)), .fn F_incline_Correct_1 []] (.c (.bool (!l.all ok2))) := by
 have h := index_Lump_loop hlib hl hf l.length 0 (by omega)
 rw [List.drop_zero, ← R2_len l] at h
 rcases h with ⟨h1, h2⟩ | ⟨h1, v, h2, h3⟩
 · rw [h1]; exact slices_ContainsFunc_Lump__incline_Correct_1_1 (slices_IndexFunc_Lump__incline_Correct_1_1 h2) (by decide)
 · rw [h1]; exact slices_ContainsFunc_Lump__incline_Correct_1_0 (slices_IndexFunc_Lump__incline_Correct_1_0 h3) h2
def qsum {α : Type} (g : α → Rat) : List α → Rat
 | [] => 0
 | a :: l => g a + qsum g l
theorem qsum_snoc {α : Type} (g : α → Rat) (l : List α) (a : α) : qsum g (l ++ [a]) = qsum g l + g a := by
 induction l with
 | nil => show g a + 0 = 0 + g a; rw [Rat.add_zero, Rat.zero_add]
 | cons b l ih => show g b + qsum g (l ++ [a]) = g b + qsum g l + g a; rw [ih, Rat.add_assoc]
theorem Sz_qsum {α : Type} {g : α → Rat} {K : Nat} : ∀ {l : List α}, (∀ a ∈ l, Sz (g a) K) → Sz (qsum g l) (1 + l.length * (K + 1))
 | [], _ => by rw [List.length_nil, Nat.zero_mul]; exact Sz.zero
 | a :: l, h => by
  have h1 := h a (by simp)
  have h2 := Sz_qsum (g := g) (K := K) (l := l) (fun b hb => h b (by simp [hb]))
  refine (h1.add h2).mono ?_
  rw [List.length_cons, Nat.add_mul]; omega
theorem sum_step (hlib : Lib E) {qs : List (Rat × Rat)} {g : Rat × Rat → Rat} {K i : Nat} {q : Rat × Rat} (hq : qs[i]? = some q) (hK : ∀ q ∈ qs, Sz (g q) K) (hb : 2 + K + qs.length * (K + 1) ≤ Lim) : Fn E F_incline_add [Sq (qsum g (qs.take i)), Sq (g q)] (Sq (qsum g (qs.take (i + 1)))) := by
 rw [take_get hq, qsum_snoc]
 refine inc_add hlib (Sz_qsum fun a ha => hK a (List.mem_of_mem_take ha)) (hK q (List.mem_of_getElem? hq)) ?_
 have : (qs.take i).length * (K + 1) ≤ qs.length * (K + 1) := Nat.mul_le_mul_right _ (by rw [List.length_take]; omega)
 omega
theorem sum_x_loop (hlib : Lib E) {qs : List (Rat × Rat)} {g : Rat × Rat → Rat} {K : Nat} (hK : ∀ q ∈ qs, Sz (g q) K) (hb : 2 + K + qs.length * (K + 1) ≤ Lim) (hf : ∀ q ∈ qs, Fn E F_incline_Fit_1 [.agg [.str (B (decQ q.1)), .str (B (decQ q.2))]] (Sq (g q))) : ∀ d i : Nat, i + d = qs.length → Lp E 0 F_incline_sum 0 (incline_sum_L0 (B (decQ (qsum g (qs.take i)))) (Q2 qs) (qs.length : Nat) (i : Nat)) (.exit 0) (incline_sum_L0e0 (B (decQ (qsum g qs))))
 | 0, i, hi => by
  rw [List.take_of_length_le (by omega)]
  exact incline_sum_L0e0_x0 (by omega)
 | d + 1, i, hi => by
  obtain ⟨q, hc⟩ := get_ex (l := qs) (i := i) (by omega)
  have hl := hb
  have : qs.length ≤ qs.length * (K + 1) := Nat.le_mul_of_pos_right _ (by omega)
  rw [Lim_val] at hl
  exact incline_sum_L0_r0 (wi (by omega)) (by omega) (by omega) (by rw [Int.toNat_natCast]; exact Q2_get hc) (hf q (List.mem_of_getElem? hc)) (sum_step hlib hc hK hb) (sum_x_loop hlib hK hb hf d (i + 1) (by omega))
theorem sum_x (hlib : Lib E) {qs : List (Rat × Rat)} {g : Rat × Rat → Rat} {K : Nat} (hK : ∀ q ∈ qs, Sz (g q) K) (hb : 2 + K + qs.length * (K + 1) ≤ Lim) (hf : ∀ q ∈ qs, Fn E F_incline_Fit_1 [.agg [.str (B (decQ q.1)), .str (B (decQ q.2))]] (Sq (g q))) : Fn E F_incline_sum [.c (.list (Q2 qs)), .fn F_incline_Fit_1 []] (Sq (qsum g qs)) := by
 have h := sum_x_loop hlib hK hb hf qs.length 0 (by omega)
 rw [← Q2_len qs, List.take_zero, show qsum g [] = 0 from rfl, decQ_zero] at h
 exact incline_sum__incline_Fit_1_0 h
theorem sum_y_loop (hlib : Lib E) {qs : List (Rat × Rat)} {g : Rat × Rat → Rat} {K : Nat} (hK : ∀ q ∈ qs, Sz (g q) K) (hb : 2 + K + qs.length * (K + 1) ≤ Lim) (hf : ∀ q ∈ qs, Fn E F_incline_Fit_2 [.agg [.str (B (decQ q.1)), .str (B (decQ q.2))]] (Sq (g q))) : ∀ d i : Nat, i + d = qs.length → Lp E 0 F_incline_sum 0 (incline_sum_L0a (B (decQ (qsum g (qs.take i)))) (Q2 qs) (qs.length : Nat) (i : Nat)) (.exit 0) (incline_sum_L0ae0 (B (decQ (qsum g qs))))
 | 0, i, hi => by
  rw [List.take_of_length_le (by omega)]
  exact incline_sum_L0ae0_x0 (by omega)
 | d + 1, i, hi => by
  obtain ⟨q, hc⟩ := get_ex (l := qs) (i := i) (by omega)
  have hl := hb
  have : qs.length ≤ qs.length * (K + 1) := Nat.le_mul_of_pos_right _ (by omega)
  rw [Lim_val] at hl
  exact incline_sum_L0a_r0 (wi (by omega)) (by omega) (by omega) (by rw [Int.toNat_natCast]; exact Q2_get hc) (hf q (List.mem_of_getElem? hc)) (sum_step hlib hc hK hb) (sum_y_loop hlib hK hb hf d (i + 1) (by omega))
theorem sum_y (hlib : Lib E) {qs : List (Rat × Rat)} {g : Rat × Rat → Rat} {K : Nat} (hK : ∀ q ∈ qs, Sz (g q) K) (hb : 2 + K + qs.length * (K + 1) ≤ Lim) (hf : ∀ q ∈ qs, Fn E F_incline_Fit_2 [.agg [.str (B (decQ q.1)), .str (B (decQ q.2))]] (Sq (g q))) : Fn E F_incline_sum [.c (.list (Q2 qs)), .fn F_incline_Fit_2 []] (Sq (qsum g qs)) := by
 have h := sum_y_loop hlib hK hb hf qs.length 0 (by omega)
 rw [← Q2_len qs, List.take_zero, show qsum g [] = 0 from rfl, decQ_zero] at h
 exact incline_sum__incline_Fit_2_0 h
theorem sum_xx_loop (hlib : Lib E) {qs : List (Rat × Rat)} {g : Rat × Rat → Rat} {K : Nat} {c : ByteArray} (hK : ∀ q ∈ qs, Sz (g q) K) (hb : 2 + K + qs.length * (K + 1) ≤ Lim) (hf : ∀ q ∈ qs, Rn E F_incline_Fit_3 [.agg [.str (B (decQ q.1)), .str (B (decQ q.2))], .ptr 0 0] [some (.cells [.c (.str c)])] (Sq (g q)) [some (.cells [.c (.str c)])]) : ∀ d i : Nat, i + d = qs.length → Lp E 1 F_incline_sum 0 (incline_sum_L0b (B (decQ (qsum g (qs.take i)))) (Q2 qs) (qs.length : Nat) (i : Nat) c) (.exit 0) (incline_sum_L0be0 c (B (decQ (qsum g qs))))
 | 0, i, hi => by
  rw [List.take_of_length_le (by omega)]
  exact incline_sum_L0be0_x0 (by omega)
 | d + 1, i, hi => by
  obtain ⟨q, hc⟩ := get_ex (l := qs) (i := i) (by omega)
  have hl := hb
  have : qs.length ≤ qs.length * (K + 1) := Nat.le_mul_of_pos_right _ (by omega)
  rw [Lim_val] at hl
  exact incline_sum_L0b_r0 (wi (by omega)) (by omega) (by omega) (by rw [Int.toNat_natCast]; exact Q2_get hc) ((hf q (List.mem_of_getElem? hc)).sub [0] (by decide) rfl (objs := [some (.cells [.c (.str c)]), some (.cells [.c (.str (B (decQ q.1))), .c (.str (B (decQ q.2)))])]) (by intro i hi; match i, hi with | 0, _ => rfl ) (by simp [Ob.plain]) rfl rfl) (sum_step hlib hc hK hb) (sum_xx_loop hlib hK hb hf d (i + 1) (by omega))
theorem sum_xx (hlib : Lib E) {qs : List (Rat × Rat)} {g : Rat × Rat → Rat} {K : Nat} {c : ByteArray} (hK : ∀ q ∈ qs, Sz (g q) K) (hb : 2 + K + qs.length * (K + 1) ≤ Lim) (hf : ∀ q ∈ qs, Rn E F_incline_Fit_3 [.agg [.str (B (decQ q.1)), .str (B (decQ q.2))], .ptr 0 0] [some (.cells [.c (.str c)])] (Sq (g q)) [some (.cells [.c (.str c)])]) : Rn E F_incline_sum [.c (.list (Q2 qs)), .fn F_incline_Fit_3 [.ptr 0 0]] [some (.cells [.c (.str c)])] (Sq (qsum g qs)) [some (.cells [.c (.str c)])] := by
 have h := sum_xx_loop hlib hK hb hf qs.length 0 (by omega)
 rw [← Q2_len qs, List.take_zero, show qsum g [] = 0 from rfl, decQ_zero] at h
 exact incline_sum__incline_Fit_3_0 h
theorem sum_xy_loop (hlib : Lib E) {qs : List (Rat × Rat)} {g : Rat × Rat → Rat} {K : Nat} {c c1 : ByteArray} (hK : ∀ q ∈ qs, Sz (g q) K) (hb : 2 + K + qs.length * (K + 1) ≤ Lim) (hf : ∀ q ∈ qs, Rn E F_incline_Fit_4 [.agg [.str (B (decQ q.1)), .str (B (decQ q.2))], .ptr 0 0, .ptr 1 0] [some (.cells [.c (.str c)]), some (.cells [.c (.str c1)])] (Sq (g q)) [some (.cells [.c (.str c)]), some (.cells [.c (.str c1)])]) : ∀ d i : Nat, i + d = qs.length → Lp E 2 F_incline_sum 0 (incline_sum_L0c (B (decQ (qsum g (qs.take i)))) (Q2 qs) (qs.length : Nat) (i : Nat) c c1) (.exit 0) (incline_sum_L0ce0 c c1 (B (decQ (qsum g qs))))
 | 0, i, hi => by
  rw [List.take_of_length_le (by omega)]
  exact incline_sum_L0ce0_x0 (by omega)
 | d + 1, i, hi => by
  obtain ⟨q, hc⟩ := get_ex (l := qs) (i := i) (by omega)
  have hl := hb
  have : qs.length ≤ qs.length * (K + 1) := Nat.le_mul_of_pos_right _ (by omega)
  rw [Lim_val] at hl
  exact incline_sum_L0c_r0 (wi (by omega)) (by omega) (by omega) (by rw [Int.toNat_natCast]; exact Q2_get hc) ((hf q (List.mem_of_getElem? hc)).sub [0, 1] (by decide) rfl (objs := [some (.cells [.c (.str c)]), some (.cells [.c (.str c1)]), some (.cells [.c (.str (B (decQ q.1))), .c (.str (B (decQ q.2)))])]) (by intro i hi; match i, hi with | 0, _ => rfl | 1, _ => rfl ) (by simp [Ob.plain]) rfl rfl) (sum_step hlib hc hK hb) (sum_xy_loop hlib hK hb hf d (i + 1) (by omega))
theorem sum_xy (hlib : Lib E) {qs : List (Rat × Rat)} {g : Rat × Rat → Rat} {K : Nat} {c c1 : ByteArray} (hK : ∀ q ∈ qs, Sz (g q) K) (hb : 2 + K + qs.length * (K + 1) ≤ Lim) (hf : ∀ q ∈ qs, Rn E F_incline_Fit_4 [.agg [.str (B (decQ q.1)), .str (B (decQ q.2))], .ptr 0 0, .ptr 1 0] [some (.cells [.c (.str c)]), some (.cells [.c (.str c1)])] (Sq (g q)) [some (.cells [.c (.str c)]), some (.cells [.c (.str c1)])]) : Rn E F_incline_sum [.c (.list (Q2 qs)), .fn F_incline_Fit_4 [.ptr 0 0, .ptr 1 0]] [some (.cells [.c (.str c)]), some (.cells [.c (.str c1)])] (Sq (qsum g qs)) [some (.cells [.c (.str c)]), some (.cells [.c (.str c1)])] := by
 have h := sum_xy_loop hlib hK hb hf qs.length 0 (by omega)
 rw [← Q2_len qs, List.take_zero, show qsum g [] = 0 from rfl, decQ_zero] at h
 exact incline_sum__incline_Fit_4_0 h
theorem sum_sq_loop (hlib : Lib E) {qs : List (Rat × Rat)} {g : Rat × Rat → Rat} {K : Nat} (hK : ∀ q ∈ qs, Sz (g q) K) (hb : 2 + K + qs.length * (K + 1) ≤ Lim) (hf : ∀ q ∈ qs, Fn E F_incline_Through_1 [.agg [.str (B (decQ q.1)), .str (B (decQ q.2))]] (Sq (g q))) : ∀ d i : Nat, i + d = qs.length → Lp E 0 F_incline_sum 0 (incline_sum_L0d (B (decQ (qsum g (qs.take i)))) (Q2 qs) (qs.length : Nat) (i : Nat)) (.exit 0) (incline_sum_L0de0 (B (decQ (qsum g qs))))
 | 0, i, hi => by
  rw [List.take_of_length_le (by omega)]
  exact incline_sum_L0de0_x0 (by omega)
 | d + 1, i, hi => by
  obtain ⟨q, hc⟩ := get_ex (l := qs) (i := i) (by omega)
  have hl := hb
  have : qs.length ≤ qs.length * (K + 1) := Nat.le_mul_of_pos_right _ (by omega)
  rw [Lim_val] at hl
  exact incline_sum_L0d_r0 (wi (by omega)) (by omega) (by omega) (by rw [Int.toNat_natCast]; exact Q2_get hc) (hf q (List.mem_of_getElem? hc)) (sum_step hlib hc hK hb) (sum_sq_loop hlib hK hb hf d (i + 1) (by omega))
theorem sum_sq (hlib : Lib E) {qs : List (Rat × Rat)} {g : Rat × Rat → Rat} {K : Nat} (hK : ∀ q ∈ qs, Sz (g q) K) (hb : 2 + K + qs.length * (K + 1) ≤ Lim) (hf : ∀ q ∈ qs, Fn E F_incline_Through_1 [.agg [.str (B (decQ q.1)), .str (B (decQ q.2))]] (Sq (g q))) : Fn E F_incline_sum [.c (.list (Q2 qs)), .fn F_incline_Through_1 []] (Sq (qsum g qs)) := by
 have h := sum_sq_loop hlib hK hb hf qs.length 0 (by omega)
 rw [← Q2_len qs, List.take_zero, show qsum g [] = 0 from rfl, decQ_zero] at h
 exact incline_sum__incline_Through_1_0 h
theorem sum_pr_loop (hlib : Lib E) {qs : List (Rat × Rat)} {g : Rat × Rat → Rat} {K : Nat} (hK : ∀ q ∈ qs, Sz (g q) K) (hb : 2 + K + qs.length * (K + 1) ≤ Lim) (hf : ∀ q ∈ qs, Fn E F_incline_Through_2 [.agg [.str (B (decQ q.1)), .str (B (decQ q.2))]] (Sq (g q))) : ∀ d i : Nat, i + d = qs.length → Lp E 0 F_incline_sum 0 (incline_sum_L0e (B (decQ (qsum g (qs.take i)))) (Q2 qs) (qs.length : Nat) (i : Nat)) (.exit 0) (incline_sum_L0ee0 (B (decQ (qsum g qs))))
 | 0, i, hi => by
  rw [List.take_of_length_le (by omega)]
  exact incline_sum_L0ee0_x0 (by omega)
 | d + 1, i, hi => by
  obtain ⟨q, hc⟩ := get_ex (l := qs) (i := i) (by omega)
  have hl := hb
  have : qs.length ≤ qs.length * (K + 1) := Nat.le_mul_of_pos_right _ (by omega)
  rw [Lim_val] at hl
  exact incline_sum_L0e_r0 (wi (by omega)) (by omega) (by omega) (by rw [Int.toNat_natCast]; exact Q2_get hc) (hf q (List.mem_of_getElem? hc)) (sum_step hlib hc hK hb) (sum_pr_loop hlib hK hb hf d (i + 1) (by omega))
theorem sum_pr (hlib : Lib E) {qs : List (Rat × Rat)} {g : Rat × Rat → Rat} {K : Nat} (hK : ∀ q ∈ qs, Sz (g q) K) (hb : 2 + K + qs.length * (K + 1) ≤ Lim) (hf : ∀ q ∈ qs, Fn E F_incline_Through_2 [.agg [.str (B (decQ q.1)), .str (B (decQ q.2))]] (Sq (g q))) : Fn E F_incline_sum [.c (.list (Q2 qs)), .fn F_incline_Through_2 []] (Sq (qsum g qs)) := by
 have h := sum_pr_loop hlib hK hb hf qs.length 0 (by omega)
 rw [← Q2_len qs, List.take_zero, show qsum g [] = 0 from rfl, decQ_zero] at h
 exact incline_sum__incline_Through_2_0 h
theorem sum_line_loop (hlib : Lib E) {qs : List (Rat × Rat)} {g : Rat × Rat → Rat} {K : Nat} {c c1 c2 : ByteArray} (hK : ∀ q ∈ qs, Sz (g q) K) (hb : 2 + K + qs.length * (K + 1) ≤ Lim) (hf : ∀ q ∈ qs, Rn E F_incline_line_1 [.agg [.str (B (decQ q.1)), .str (B (decQ q.2))], .ptr 0 0] [some (.cells [.c (.str c), .c (.str c1), .c (.str c2)])] (Sq (g q)) [some (.cells [.c (.str c), .c (.str c1), .c (.str c2)])]) : ∀ d i : Nat, i + d = qs.length → Lp E 1 F_incline_sum 0 (incline_sum_L0f (B (decQ (qsum g (qs.take i)))) (Q2 qs) (qs.length : Nat) (i : Nat) c c1 c2) (.exit 0) (incline_sum_L0fe0 c c1 c2 (B (decQ (qsum g qs))))
 | 0, i, hi => by
  rw [List.take_of_length_le (by omega)]
  exact incline_sum_L0fe0_x0 (by omega)
 | d + 1, i, hi => by
  obtain ⟨q, hc⟩ := get_ex (l := qs) (i := i) (by omega)
  have hl := hb
  have : qs.length ≤ qs.length * (K + 1) := Nat.le_mul_of_pos_right _ (by omega)
  rw [Lim_val] at hl
  exact incline_sum_L0f_r0 (wi (by omega)) (by omega) (by omega) (by rw [Int.toNat_natCast]; exact Q2_get hc) ((hf q (List.mem_of_getElem? hc)).sub [0] (by decide) rfl (objs := [some (.cells [.c (.str c), .c (.str c1), .c (.str c2)]), some (.cells [.c (.str (B (decQ q.1))), .c (.str (B (decQ q.2)))])]) (by intro i hi; match i, hi with | 0, _ => rfl ) (by simp [Ob.plain]) rfl rfl) (sum_step hlib hc hK hb) (sum_line_loop hlib hK hb hf d (i + 1) (by omega))
theorem sum_line (hlib : Lib E) {qs : List (Rat × Rat)} {g : Rat × Rat → Rat} {K : Nat} {c c1 c2 : ByteArray} (hK : ∀ q ∈ qs, Sz (g q) K) (hb : 2 + K + qs.length * (K + 1) ≤ Lim) (hf : ∀ q ∈ qs, Rn E F_incline_line_1 [.agg [.str (B (decQ q.1)), .str (B (decQ q.2))], .ptr 0 0] [some (.cells [.c (.str c), .c (.str c1), .c (.str c2)])] (Sq (g q)) [some (.cells [.c (.str c), .c (.str c1), .c (.str c2)])]) : Rn E F_incline_sum [.c (.list (Q2 qs)), .fn F_incline_line_1 [.ptr 0 0]] [some (.cells [.c (.str c), .c (.str c1), .c (.str c2)])] (Sq (qsum g qs)) [some (.cells [.c (.str c), .c (.str c1), .c (.str c2)])] := by
 have h := sum_line_loop hlib hK hb hf qs.length 0 (by omega)
 rw [← Q2_len qs, List.take_zero, show qsum g [] = 0 from rfl, decQ_zero] at h
 exact incline_sum__incline_line_1_0 h
end Gev
namespace Gev
open Go Gb
variable {E : Env}
attribute [local irreducible] Sz
theorem b16 {n K : Nat} (hn : n ≤ 16) (h : 2 + K + 16 * (K + 1) ≤ Lim) : 2 + K + n * (K + 1) ≤ Lim := by
 have := Nat.mul_le_mul_right (K + 1) hn
 omega
theorem Sz16 {α : Type} {g : α → Rat} {K M : Nat} {l : List α} (hn : l.length ≤ 16) (h : ∀ a ∈ l, Sz (g a) K) (hM : 1 + 16 * (K + 1) ≤ M) : Sz (qsum g l) M := by
 refine (Sz_qsum h).mono ?_
 have := Nat.mul_le_mul_right (K + 1) hn
 omega
def In (qs : List (Rat × Rat)) : Prop := ∀ q ∈ qs, Sz q.1 4000 ∧ Sz q.2 4000
def dif (a b : Rat) (q : Rat × Rat) : Rat := q.2 - (b + a * q.1)
def ssq (a b : Rat) (qs : List (Rat × Rat)) : Rat := qsum (fun q => dif a b q * dif a b q) qs
def Line (a b : Rat) (qs : List (Rat × Rat)) : AV := .agg [.str (B (decQ a)), .str (B (decQ b)), .str (B (decQ (ssq a b qs)))]
def noLine : AV := .agg [.str ⟨#[]⟩, .str ⟨#[]⟩, .str ⟨#[]⟩]
theorem Sz_dif {a b : Rat} {q : Rat × Rat} {K L : Nat} (ha : Sz a K) (hb : Sz b L) (hq : Sz q.1 4000 ∧ Sz q.2 4000) : Sz (dif a b q) (K + L + 8002) := (hq.2.sub (hb.add (ha.mul hq.1))).mono (by omega)
theorem inc_difference (hlib : Lib E) {a b : Rat} {s : ByteArray} {q : Rat × Rat} {K L : Nat} (ha : Sz a K) (hb : Sz b L) (hq : Sz q.1 4000 ∧ Sz q.2 4000) (hKL : K + L ≤ 100000000) : Fn E F_incline_difference [.agg [.str (B (decQ q.1)), .str (B (decQ q.2))], .agg [.str (B (decQ a)), .str (B (decQ b)), .str s]] (Sq (dif a b q)) := by
 have hl := Lim_val
 exact incline_difference_0 (inc_mul hlib ha hq.1 (by omega)) (inc_add hlib hb (ha.mul hq.1) (by omega)) (inc_sub hlib hq.2 (hb.add (ha.mul hq.1)) (by omega))
theorem inc_line (hlib : Lib E) {qs : List (Rat × Rat)} {a b : Rat} {K L : Nat} (hq : In qs) (hn : qs.length ≤ 16) (ha : Sz a K) (hb : Sz b L) (hKL : K + L ≤ 10000000) : Fn E F_incline_line [.c (.list (Q2 qs)), Sq a, Sq b] (Line a b qs) := by
 have hl := Lim_val
 have hd : ∀ q ∈ qs, Sz (dif a b q * dif a b q) (K + L + 8002 + (K + L + 8002)) := fun q h => (Sz_dif ha hb (hq q h)).mul (Sz_dif ha hb (hq q h))
 have h := sum_line hlib (qs := qs) (g := fun q => dif a b q * dif a b q) (c := B (decQ a)) (c1 := B (decQ b)) (c2 := ⟨#[]⟩) hd (b16 hn (by omega)) (fun q h => incline_line_1_0 (inc_difference hlib ha hb (hq q h) (by omega)) (inc_mul hlib (Sz_dif ha hb (hq q h)) (Sz_dif ha hb (hq q h)) (by omega)))
 exact incline_line_0 (h.sub [1] (by decide) rfl (objs := [some (.cells [.c (.str ⟨#[]⟩), .c (.str ⟨#[]⟩), .c (.str ⟨#[]⟩)]), some (.cells [.c (.str (B (decQ a))), .c (.str (B (decQ b))), .c (.str ⟨#[]⟩)])]) (by intro i hi; match i, hi with | 0, _ => rfl) (by simp [Ob.plain]) rfl rfl)
noncomputable def startI (l : List (List UInt8 × List UInt8)) : Int := if l.all ok2 then (if l.length < 2 then 9 else if 16 < l.length then 8 else 0) else 1
def Few (l : List (List UInt8 × List UInt8)) : Prop := l.length < 1000 ∧ ∀ x ∈ l, x.1.length ≤ 4000 ∧ x.2.length ≤ 4000
theorem Few.lim {l : List (List UInt8 × List UInt8)} (h : Few l) : ∀ x ∈ l, x.1.length ≤ Lim ∧ x.2.length ≤ Lim := fun x hx => by
 have := h.2 x hx
 have := Lim_val
 omega
theorem inc_start (hlib : Lib E) {l : List (List UInt8 × List UInt8)} (hf : Few l) : Fn E F_incline_start [.c (.list (R2 l))] (.c (.i64 (startI l))) := by
 have hl := hf.1
 have h := inc_right hlib (l := l) (by omega) hf.lim
 unfold startI
 cases ho : l.all ok2 with
 | false => rw [ho] at h; exact incline_start_3 h
 | true =>
  rw [ho] at h
  rw [if_pos rfl]
  by_cases h2 : l.length < 2
  · rw [if_pos h2]; exact incline_start_0 h (by rw [R2_len]; omega)
  · rw [if_neg h2]
    by_cases h3 : 16 < l.length
    · rw [if_pos h3]; exact incline_start_1 h (by rw [R2_len]; omega) (by rw [R2_len]; omega)
    · rw [if_neg h3]; exact incline_start_2 h (by rw [R2_len]; omega) (by rw [R2_len]; omega)
def Tx (qs : List (Rat × Rat)) : List (List UInt8 × List UInt8) := qs.map fun q => (decQ q.1, decQ q.2)
theorem Tx_R2 (qs : List (Rat × Rat)) : R2 (Tx qs) = Q2 qs := by unfold R2 Tx Q2; rw [List.map_map]; rfl
theorem Tx_len (qs : List (Rat × Rat)) : (Tx qs).length = qs.length := by simp [Tx]
theorem Tx_of : ∀ {l : List (List UInt8 × List UInt8)}, l.all ok2 = true → ∃ qs, l = Tx qs
 | [], _ => ⟨[], rfl⟩
 | p :: l, h => by
  rw [List.all_cons, Bool.and_eq_true] at h
  obtain ⟨qs, rfl⟩ := Tx_of h.2
  have h1 := h.1
  unfold ok2 ok1 at h1
  rw [Bool.and_eq_true] at h1
  obtain ⟨x, hx⟩ := Option.isSome_iff_exists.1 h1.1
  obtain ⟨y, hy⟩ := Option.isSome_iff_exists.1 h1.2
  refine ⟨(x, y) :: qs, ?_⟩
  show p :: Tx qs = (decQ x, decQ y) :: Tx qs
  rw [← rd_some hx, ← rd_some hy]
theorem Tx_ok (qs : List (Rat × Rat)) : (Tx qs).all ok2 = true := by
 unfold Tx
 rw [List.all_map, List.all_eq_true]
 intro q _
 show (ok1 (decQ q.1) && ok1 (decQ q.2)) = true
 rw [ok1_dec, ok1_dec]; rfl
theorem Tx_in {qs : List (Rat × Rat)} (h : Few (Tx qs)) : In qs := fun q hq => by
 have := h.2 (decQ q.1, decQ q.2) (List.mem_map_of_mem (f := fun q : Rat × Rat => (decQ q.1, decQ q.2)) hq)
 exact ⟨Sz.of_len this.1, Sz.of_len this.2⟩
theorem rat_len_ne {n : Nat} (h : n ≠ 0) : ((n : Int) : Rat) ≠ 0 := fun e => h (by
 have := congrArg Rat.num e
 rw [Rat.num_intCast] at this
 have h0 : (0 : Rat).num = 0 := rfl
 omega)
theorem cmpQ_ne {a : Rat} : cmpQ a 0 = 0 ↔ a = 0 := cmpQ_zero
theorem Sz_len {n : Nat} (h : n ≤ 16) : Sz ((n : Int) : Rat) 2 := Sz.int (by omega) (by rw [Int.natAbs_natCast]; omega)
theorem inc_number (hlib : Lib E) {n : Nat} (h : n ≤ 1000) : Fn E F_incline_number [.c (.i64 n)] (Sq ((n : Int) : Rat)) := by
 have := hlib.itoa (n : Int) (by omega)
 unfold Sq
 rw [decQ_intCast]
 exact incline_number_0 this
def mx (qs : List (Rat × Rat)) : Rat := qsum (·.1) qs / ((qs.length : Int) : Rat)
def my (qs : List (Rat × Rat)) : Rat := qsum (·.2) qs / ((qs.length : Int) : Rat)
def sxx (qs : List (Rat × Rat)) : Rat := qsum (fun q => (q.1 - mx qs) * (q.1 - mx qs)) qs
def sxy (qs : List (Rat × Rat)) : Rat := qsum (fun q => (q.1 - mx qs) * (q.2 - my qs)) qs
def fitI (qs : List (Rat × Rat)) : Option (Rat × Rat) := if sxx qs = 0 then none else some (sxy qs / sxx qs, my qs - sxy qs / sxx qs * mx qs)
def FitRes (qs : List (Rat × Rat)) : Option (Rat × Rat) → AV
 | none => .tup [noLine, .c (.i64 18)]
 | some (a, b) => .tup [Line a b qs, .c (.i64 0)]
theorem Sz_mx {qs : List (Rat × Rat)} (hq : In qs) (hn : qs.length ≤ 16) : Sz (mx qs) 64019 := by
 have h := Sz16 (M := 64017) hn (K := 4000) (g := fun q : Rat × Rat => q.1) (fun q h => (hq q h).1) (by omega)
 exact (h.div (Sz_len hn)).mono (by omega)
theorem Sz_my {qs : List (Rat × Rat)} (hq : In qs) (hn : qs.length ≤ 16) : Sz (my qs) 64019 := by
 have h := Sz16 (M := 64017) hn (K := 4000) (g := fun q : Rat × Rat => q.2) (fun q h => (hq q h).2) (by omega)
 exact (h.div (Sz_len hn)).mono (by omega)
theorem Sz_dx {qs : List (Rat × Rat)} (hq : In qs) (hn : qs.length ≤ 16) {q} (h : q ∈ qs) : Sz (q.1 - mx qs) 68100 := ((hq q h).1.sub (Sz_mx hq hn)).mono (by omega)
theorem Sz_dy {qs : List (Rat × Rat)} (hq : In qs) (hn : qs.length ≤ 16) {q} (h : q ∈ qs) : Sz (q.2 - my qs) 68100 := ((hq q h).2.sub (Sz_my hq hn)).mono (by omega)
theorem Sz_sxx {qs : List (Rat × Rat)} (hq : In qs) (hn : qs.length ≤ 16) : Sz (sxx qs) 2179217 := Sz16 hn (K := 136200) (fun _ h => (Sz_dx hq hn h).mul (Sz_dx hq hn h)) (by omega)
theorem Sz_sxy {qs : List (Rat × Rat)} (hq : In qs) (hn : qs.length ≤ 16) : Sz (sxy qs) 2179217 := Sz16 hn (K := 136200) (fun _ h => (Sz_dx hq hn h).mul (Sz_dy hq hn h)) (by omega)
theorem Sz_fitI {qs : List (Rat × Rat)} (hq : In qs) (hn : qs.length ≤ 16) {a b : Rat} (h : fitI qs = some (a, b)) : Sz a 5000000 ∧ Sz b 5000000 := by
 unfold fitI at h
 split at h
 · cases h
 · cases h
   have h1 := (Sz_sxy hq hn).div (Sz_sxx hq hn)
   exact ⟨h1.mono (by omega), ((Sz_my hq hn).sub (h1.mul (Sz_mx hq hn))).mono (by omega)⟩
theorem inc_Fit_ok (hlib : Lib E) {qs : List (Rat × Rat)} (hf : Few (Tx qs)) (h2 : 2 ≤ qs.length) (hn : qs.length ≤ 16) : Fn E F_incline_Fit [.c (.list (Q2 qs))] (FitRes qs (fitI qs)) := by
 have hl := Lim_val
 have hq := Tx_in hf
 have hs := inc_start hlib hf
 have e0 : startI (Tx qs) = 0 := by unfold startI; rw [Tx_ok, Tx_len, if_pos rfl, if_neg (by omega), if_neg (by omega)]
 rw [e0, Tx_R2] at hs
 have hnum := inc_number hlib (n := qs.length) (by omega)
 have hnz := rat_len_ne (n := qs.length) (by omega)
 have s1 := sum_x hlib (qs := qs) (g := (·.1)) (K := 4000) (fun q h => (hq q h).1) (b16 hn (by omega)) (fun q _ => incline_Fit_1_0)
 have s2 := sum_y hlib (qs := qs) (g := (·.2)) (K := 4000) (fun q h => (hq q h).2) (b16 hn (by omega)) (fun q _ => incline_Fit_2_0)
 have d1 := inc_div hlib (Sz16 (M := 64017) hn (K := 4000) (g := fun q : Rat × Rat => q.1) (fun q h => (hq q h).1) (by omega)) (Sz_len hn) (by omega) hnz
 have d2 := inc_div hlib (Sz16 (M := 64017) hn (K := 4000) (g := fun q : Rat × Rat => q.2) (fun q h => (hq q h).2) (by omega)) (Sz_len hn) (by omega) hnz
 have s3 := sum_xx hlib (qs := qs) (g := fun q => (q.1 - mx qs) * (q.1 - mx qs)) (K := 136200) (c := B (decQ (mx qs))) (fun q h => (Sz_dx hq hn h).mul (Sz_dx hq hn h)) (b16 hn (by omega)) (fun q h => incline_Fit_3_0 (inc_sub hlib (hq q h).1 (Sz_mx hq hn) (by omega)) (inc_mul hlib (Sz_dx hq hn h) (Sz_dx hq hn h) (by omega)))
 have s4 := sum_xy hlib (qs := qs) (g := fun q => (q.1 - mx qs) * (q.2 - my qs)) (K := 136200) (c := B (decQ (mx qs))) (c1 := B (decQ (my qs))) (fun q h => (Sz_dx hq hn h).mul (Sz_dy hq hn h)) (b16 hn (by omega)) (fun q h => incline_Fit_4_0 (inc_sub hlib (hq q h).1 (Sz_mx hq hn) (by omega)) (inc_sub hlib (hq q h).2 (Sz_my hq hn) (by omega)) (inc_mul hlib (Sz_dx hq hn h) (Sz_dy hq hn h) (by omega)))
 have s3' := s3.sub [1] (by decide) rfl (objs := [some (.cells [.c (.str ⟨#[]⟩), .c (.str ⟨#[]⟩), .c (.str ⟨#[]⟩)]), some (.cells [.c (.str (B (decQ (mx qs))))]), some (.cells [.c (.str (B (decQ (my qs))))])]) (by intro i hi; match i, hi with | 0, _ => rfl) (by simp [Ob.plain]) rfl rfl
 have s4' := s4.sub [1, 2] (by decide) rfl (objs := [some (.cells [.c (.str ⟨#[]⟩), .c (.str ⟨#[]⟩), .c (.str ⟨#[]⟩)]), some (.cells [.c (.str (B (decQ (mx qs))))]), some (.cells [.c (.str (B (decQ (my qs))))])]) (by intro i hi; match i, hi with | 0, _ => rfl | 1, _ => rfl) (by simp [Ob.plain]) rfl rfl
 have sg := inc_sign hlib (Sz_sxx hq hn) (by omega)
 rw [← Q2_len qs] at hnum
 have d1' : Fn E F_incline_div [Sq (qsum (·.1) qs), Sq (((Q2 qs).length : Int) : Rat)] (Sq (mx qs)) := by rw [Q2_len]; exact d1
 have d2' : Fn E F_incline_div [Sq (qsum (·.2) qs), Sq (((Q2 qs).length : Int) : Rat)] (Sq (my qs)) := by rw [Q2_len]; exact d2
 by_cases hz : sxx qs = 0
 · have : fitI qs = none := by unfold fitI; rw [if_pos hz]
   rw [this]
   exact incline_Fit_1 hs rfl hnum s1 d1' s2 d2' s3' sg (cmpQ_ne.2 hz)
 · have hfi : fitI qs = some (sxy qs / sxx qs, my qs - sxy qs / sxx qs * mx qs) := by unfold fitI; rw [if_neg hz]
   have hsz := Sz_fitI hq hn hfi
   have hsl := (Sz_sxy hq hn).div (Sz_sxx hq hn)
   rw [hfi]
   exact incline_Fit_2 hs rfl hnum s1 d1' s2 d2' s3' sg (fun e => hz (cmpQ_ne.1 e)) s4' (inc_div hlib (Sz_sxy hq hn) (Sz_sxx hq hn) (by omega) hz) (inc_mul hlib hsl (Sz_mx hq hn) (by omega)) (inc_sub hlib (Sz_my hq hn) (hsl.mul (Sz_mx hq hn)) (by omega)) (inc_line hlib hq hn hsz.1 hsz.2 (by omega))
def tq (qs : List (Rat × Rat)) : Rat := qsum (fun q => q.1 * q.1) qs
def tp (qs : List (Rat × Rat)) : Rat := qsum (fun q => q.1 * q.2) qs
def throughI (qs : List (Rat × Rat)) : Option (Rat × Rat) := if tq qs = 0 then none else some (tp qs / tq qs, 0)
theorem Sz_tq {qs : List (Rat × Rat)} (hq : In qs) (hn : qs.length ≤ 16) : Sz (tq qs) 128017 := Sz16 hn (K := 8000) (fun q h => (hq q h).1.mul (hq q h).1) (by omega)
theorem Sz_tp {qs : List (Rat × Rat)} (hq : In qs) (hn : qs.length ≤ 16) : Sz (tp qs) 128017 := Sz16 hn (K := 8000) (fun q h => (hq q h).1.mul (hq q h).2) (by omega)
theorem inc_Through_ok (hlib : Lib E) {qs : List (Rat × Rat)} (hf : Few (Tx qs)) (h2 : 2 ≤ qs.length) (hn : qs.length ≤ 16) : Fn E F_incline_Through [.c (.list (Q2 qs))] (FitRes qs (throughI qs)) := by
 have hl := Lim_val
 have hq := Tx_in hf
 have hs := inc_start hlib hf
 have e0 : startI (Tx qs) = 0 := by unfold startI; rw [Tx_ok, Tx_len, if_pos rfl, if_neg (by omega), if_neg (by omega)]
 rw [e0, Tx_R2] at hs
 have s1 := sum_sq hlib (qs := qs) (g := fun q => q.1 * q.1) (K := 8000) (fun q h => (hq q h).1.mul (hq q h).1) (b16 hn (by omega)) (fun q h => incline_Through_1_0 (inc_mul hlib (hq q h).1 (hq q h).1 (by omega)))
 have s2 := sum_pr hlib (qs := qs) (g := fun q => q.1 * q.2) (K := 8000) (fun q h => (hq q h).1.mul (hq q h).2) (b16 hn (by omega)) (fun q h => incline_Through_2_0 (inc_mul hlib (hq q h).1 (hq q h).2 (by omega)))
 have sg := inc_sign hlib (Sz_tq hq hn) (by omega)
 by_cases hz : tq qs = 0
 · have : throughI qs = none := by unfold throughI; rw [if_pos hz]
   rw [this]
   exact incline_Through_1 hs rfl s1 sg (cmpQ_ne.2 hz)
 · have : throughI qs = some (tp qs / tq qs, 0) := by unfold throughI; rw [if_neg hz]
   rw [this]
   have hln := inc_line hlib hq hn ((Sz_tp hq hn).div (Sz_tq hq hn)) Sz.zero (by omega)
   rw [← cell_zero] at hln
   exact incline_Through_2 hs rfl s1 sg (fun e => hz (cmpQ_ne.1 e)) s2 (inc_div hlib (Sz_tp hq hn) (Sz_tq hq hn) (by omega) hz) hln
noncomputable def nums (l : List (List UInt8 × List UInt8)) : List (Rat × Rat) := l.map fun p => ((rd p.1).getD 0, (rd p.2).getD 0)
theorem nums_Tx (qs : List (Rat × Rat)) : nums (Tx qs) = qs := by
 unfold nums Tx
 rw [List.map_map]
 conv => rhs; rw [← List.map_id qs]
 refine List.map_congr_left fun q _ => ?_
 show ((rd (decQ q.1)).getD 0, (rd (decQ q.2)).getD 0) = q
 rw [rd_decQ, rd_decQ]; rfl
noncomputable def ansI (f : List (Rat × Rat) → Option (Rat × Rat)) (l : List (List UInt8 × List UInt8)) : AV := if startI l = 0 then FitRes (nums l) (f (nums l)) else .tup [noLine, .c (.i64 (startI l))]
theorem start_zero {l : List (List UInt8 × List UInt8)} (h : startI l = 0) : ∃ qs, l = Tx qs ∧ 2 ≤ qs.length ∧ qs.length ≤ 16 := by
 unfold startI at h
 split at h
 · rename_i ho
   obtain ⟨qs, rfl⟩ := Tx_of ho
   rw [Tx_len] at h
   split at h
   · omega
   · split at h
     · omega
     · exact ⟨qs, rfl, by omega, by omega⟩
 · omega
theorem inc_Fit (hlib : Lib E) {l : List (List UInt8 × List UInt8)} (hf : Few l) : Fn E F_incline_Fit [.c (.list (R2 l))] (ansI fitI l) := by
 unfold ansI
 by_cases h0 : startI l = 0
 · rw [if_pos h0]
   obtain ⟨qs, rfl, h2, hn⟩ := start_zero h0
   rw [Tx_R2, nums_Tx]; exact inc_Fit_ok hlib hf h2 hn
 · rw [if_neg h0]; exact incline_Fit_0 (inc_start hlib hf) h0
theorem inc_Through (hlib : Lib E) {l : List (List UInt8 × List UInt8)} (hf : Few l) : Fn E F_incline_Through [.c (.list (R2 l))] (ansI throughI l) := by
 unfold ansI
 by_cases h0 : startI l = 0
 · rw [if_pos h0]
   obtain ⟨qs, rfl, h2, hn⟩ := start_zero h0
   rw [Tx_R2, nums_Tx]; exact inc_Through_ok hlib hf h2 hn
 · rw [if_neg h0]; exact incline_Through_0 (inc_start hlib hf) h0
end Gev
namespace Gev
open Go Gb
variable {E : Env}
attribute [local irreducible] Sz
theorem cmp_le {a : Rat} : cmpQ a 0 ≤ 0 ↔ ¬ 0 < a := by
 rw [← cmpQ_gt]; omega
theorem ok1_some {l : List UInt8} (h : ok1 l = true) : ∃ q, l = decQ q := by
 obtain ⟨x, hx⟩ := Option.isSome_iff_exists.1 h
 exact ⟨x, rd_some hx⟩
noncomputable def heightI (p e : List UInt8) : Int × List UInt8 :=
 if ok2 (p, e) then (if 0 < (rd p).getD 0 ∧ 0 < (rd e).getD 0 then (0, decQ ((rd e).getD 0 * (rd p).getD 0)⁻¹) else (2, [])) else (1, [])
def Tc (r : Int × List UInt8) : AV := .tup [.c (.str (B r.2)), .c (.i64 r.1)]
theorem inc_Height (hlib : Lib E) {p e : List UInt8} {s t : ByteArray} (hp : p.length ≤ 20000000) (he : e.length ≤ 4000) : Fn E F_incline_Height [.agg [.str (B p), .str s, .str t], .c (.str (B e))] (Tc (heightI p e)) := by
 have hl := Lim_val
 have hv := inc_valid2 hlib (a := p) (b := e) (by omega) (by omega)
 unfold heightI
 cases ho : ok2 (p, e) with
 | false =>
  rw [ho] at hv
  exact incline_Height_3 rfl hv
 | true =>
  rw [ho] at hv
  rw [if_pos rfl]
  unfold ok2 at ho
  rw [Bool.and_eq_true] at ho
  obtain ⟨a, ea⟩ := ok1_some ho.1
  obtain ⟨x, ex⟩ := ok1_some ho.2
  have ea : p = decQ a := ea
  have ex : e = decQ x := ex
  subst ea ex
  rw [rd_decQ, rd_decQ]
  show Fn E _ _ (Tc (if 0 < a ∧ 0 < x then (0, decQ (x * a)⁻¹) else (2, [])))
  have za := Sz.of_len hp
  have zx := Sz.of_len he
  have s1 := inc_sign hlib za (by omega)
  have s2 := inc_sign hlib zx (by omega)
  by_cases h1 : 0 < a
  · by_cases h2 : 0 < x
    · rw [if_pos ⟨h1, h2⟩]
      have hm := inc_mul hlib zx za (by omega)
      have hne : x * a ≠ 0 := fun e => by
       rcases Rat.mul_eq_zero.1 e with e | e
       · rw [e] at h2; exact Rat.lt_irrefl h2
       · rw [e] at h1; exact Rat.lt_irrefl h1
      have hd := inc_div hlib Sz.one (zx.mul za) (by omega) hne
      rw [← cell_one, Rat.div_def, Rat.one_mul] at hd
      exact incline_Height_2 rfl hv s1 (fun h => cmp_le.1 h h1) s2 (fun h => cmp_le.1 h h2) hm hd
    · rw [if_neg (fun h => h2 h.2)]
      exact incline_Height_1 rfl hv s1 (fun h => cmp_le.1 h h1) s2 (cmp_le.2 h2)
  · rw [if_neg (fun h => h1 h.1)]
    exact incline_Height_0 rfl hv s1 (cmp_le.2 h1)
noncomputable def diffI (l : List (List UInt8 × List UInt8)) (p e : List UInt8) : Int × List Rat :=
 if l.all ok2 && ok2 (p, e) then (if 16 < l.length then (8, []) else (0, (nums l).map (dif ((rd p).getD 0) ((rd e).getD 0)))) else (1, [])
def Lc (r : Int × List Rat) : AV := .tup [.c (.list (Q1 r.2)), .c (.i64 r.1)]
theorem inc_diff_loop (hlib : Lib E) {qs : List (Rat × Rat)} {a b : Rat} {s : ByteArray} {w : List (List DV)} (hq : In qs) (hn : qs.length ≤ 16) (ha : Sz a 20000000) (hb : Sz b 20000000) : ∀ d i : Nat, i + d = qs.length →
    Lp E 2 F_incline_Differences 0 (incline_Differences_L0 i (Q2 qs) (qs.length : Nat) (i : Nat) (B (decQ a)) (B (decQ b)) s w (Q1 ((qs.take i).map (dif a b)))) (.exit 0) (incline_Differences_L0e0 (B (decQ a)) (B (decQ b)) s w qs.length (Q1 (qs.map (dif a b))))
 | 0, i, hi => by
  have : i = qs.length := by omega
  subst this
  rw [List.take_length]
  exact incline_Differences_L0e0_x0 (by omega)
 | d + 1, i, hi => by
  obtain ⟨q, hc⟩ := get_ex (l := qs) (i := i) (by omega)
  refine incline_Differences_L0_r0 (v6 := ((i + 1 : Nat) : Int)) (v5 := i + 1) ?_ rfl (wi (by omega)) (by omega) (by omega) (by rw [Int.toNat_natCast]; exact Q2_get hc) (inc_difference hlib ha hb (hq q (List.mem_of_getElem? hc)) (by omega)) (by omega) (inc_diff_loop hlib hq hn ha hb d (i + 1) (by omega))
  rw [take_get hc, List.map_append, List.take_of_length_le (by rw [Q1_len, List.length_map, List.length_take]; omega)]
  unfold Q1
  rw [List.map_append]; rfl
theorem inc_Differences (hlib : Lib E) {l : List (List UInt8 × List UInt8)} {p e : List UInt8} {s : ByteArray} (hf : Few l) (hp : p.length ≤ 20000000) (he : e.length ≤ 20000000) : Fn E F_incline_Differences [.c (.list (R2 l)), .agg [.str (B p), .str (B e), .str s]] (Lc (diffI l p e)) := by
 have hl := Lim_val
 have hr := inc_right hlib (l := l) (by have := hf.1; omega) hf.lim
 have hv := inc_valid2 hlib (a := p) (b := e) (by omega) (by omega)
 unfold diffI
 cases ha : l.all ok2 with
 | false => rw [ha] at hr; exact incline_Differences_3 hr
 | true =>
  rw [ha] at hr
  rw [Bool.true_and]
  cases ho : ok2 (p, e) with
  | false => rw [ho] at hv; exact incline_Differences_2 rfl hr hv
  | true =>
   rw [ho] at hv
   rw [if_pos rfl]
   by_cases h16 : 16 < l.length
   · rw [if_pos h16]; exact incline_Differences_0 rfl hr hv (by rw [R2_len]; omega)
   · rw [if_neg h16]
     obtain ⟨qs, rfl⟩ := Tx_of ha
     unfold ok2 at ho
     rw [Bool.and_eq_true] at ho
     obtain ⟨a, ea⟩ := ok1_some ho.1
     obtain ⟨x, ex⟩ := ok1_some ho.2
     have ea : p = decQ a := ea
     have ex : e = decQ x := ex
     subst ea ex
     rw [rd_decQ, rd_decQ, nums_Tx]
     rw [Tx_len] at h16
     have hlp := inc_diff_loop hlib (s := s) (w := [[.str (B (decQ a))], [.str (B (decQ x))]]) (Tx_in hf) (by omega) (Sz.of_len hp) (Sz.of_len he) qs.length 0 (by omega)
     rw [Tx_R2] at hr ⊢
     rw [List.take_zero] at hlp
     have hlen : (Q2 qs).length = qs.length := Q2_len qs
     refine incline_Differences_1 (v4 := qs.length) (v5 := Q1 (qs.map (dif a x))) rfl ?_ hr hv (by rw [hlen]; omega) (by rw [hlen]; exact hlp)
     rw [List.take_of_length_le (by rw [Q1_len, List.length_map]; omega)]; rfl
noncomputable def centreI (f : List (Rat × Rat) → Option (Rat × Rat)) (l : List (List UInt8 × List UInt8)) (e d : List UInt8) : Int × List UInt8 :=
 if ok2 (e, d) then (if startI l = 0 then (match f (nums l) with
  | none => (18, [])
  | some (a, _) => if (heightI (decQ a) e).1 = 0 then (0, decQ ((rd d).getD 0 - (rd (heightI (decQ a) e).2).getD 0)) else ((heightI (decQ a) e).1, [])) else (startI l, [])) else (1, [])
theorem height_zero {p e : List UInt8} (h : (heightI p e).1 = 0) : ∃ a x, p = decQ a ∧ e = decQ x ∧ 0 < a ∧ 0 < x ∧ (heightI p e).2 = decQ (x * a)⁻¹ := by
 unfold heightI at h ⊢
 split at h
 · rename_i ho
   have ho' := ho
   unfold ok2 at ho
   rw [Bool.and_eq_true] at ho
   obtain ⟨a, ea⟩ := ok1_some ho.1
   obtain ⟨x, ex⟩ := ok1_some ho.2
   have ea : p = decQ a := ea
   have ex : e = decQ x := ex
   subst ea ex
   rw [rd_decQ, rd_decQ] at h ⊢
   rw [if_pos ho']
   split at h
   · rename_i hh
     exact ⟨a, x, rfl, rfl, hh.1, hh.2, by rw [if_pos hh]; rfl⟩
   · exact absurd h (by decide)
 · exact absurd h (by decide)
theorem inc_Centre (hlib : Lib E) {l : List (List UInt8 × List UInt8)} {e d : List UInt8} (hf : Few l) (he : e.length ≤ 4000) (hd : d.length ≤ 4000) : Fn E F_incline_Centre [.c (.list (R2 l)), .c (.str (B e)), .c (.str (B d))] (Tc (centreI fitI l e d)) := by
 have hl := Lim_val
 have hv := inc_valid2 hlib (a := e) (b := d) (by omega) (by omega)
 have hfit := inc_Fit hlib hf
 unfold centreI
 cases ho : ok2 (e, d) with
 | false => rw [ho] at hv; exact incline_Centre_3 rfl hv
 | true =>
  rw [ho] at hv
  rw [if_pos rfl]
  unfold ansI at hfit
  by_cases h0 : startI l = 0
  · rw [if_pos h0] at hfit ⊢
    obtain ⟨qs, rfl, h2, hn⟩ := start_zero h0
    rw [nums_Tx] at hfit ⊢
    cases hfi : fitI qs with
    | none =>
     rw [hfi] at hfit
     exact incline_Centre_0 rfl hv hfit (show ¬ (18 : Int) = 0 by decide)
    | some ab =>
     obtain ⟨a, b⟩ := ab
     rw [hfi] at hfit
     have hsz := Sz_fitI (Tx_in hf) hn hfi
     have hh := inc_Height hlib (p := decQ a) (e := e) (s := B (decQ b)) (t := B (decQ (ssq a b qs))) (by have := hsz.1.len; omega) he
     show Fn E _ _ (Tc (if (heightI (decQ a) e).1 = 0 then (0, decQ ((rd d).getD 0 - (rd (heightI (decQ a) e).2).getD 0)) else ((heightI (decQ a) e).1, [])))
     by_cases hz : (heightI (decQ a) e).1 = 0
     · rw [if_pos hz]
       obtain ⟨a', x, e1, e2, _, _, e3⟩ := height_zero hz
       have e1 := decQ_inj e1
       subst e1 e2
       unfold ok2 at ho
       rw [Bool.and_eq_true] at ho
       obtain ⟨y, ey⟩ := ok1_some ho.2
       have ey : d = decQ y := ey
       subst ey
       rw [e3, rd_decQ, rd_decQ]
       have hs := inc_sub hlib (Sz.of_len hd) (((Sz.of_len he).mul hsz.1).inv) (by omega)
       unfold Tc at hh
       rw [e3] at hh
       exact incline_Centre_2 rfl hv hfit rfl hh hz hs
     · rw [if_neg hz]
       exact incline_Centre_1 rfl hv hfit rfl hh hz
  · rw [if_neg h0] at hfit ⊢
    exact incline_Centre_0 rfl hv hfit h0
def wsum (a : Rat) (qs : List (Rat × Rat)) : Rat := a + qsum (·.1) qs
def msum (a b : Rat) (qs : List (Rat × Rat)) : Rat := a * b + qsum (fun q => q.1 * q.2) qs
noncomputable def correctI (p e : List UInt8) (l : List (List UInt8 × List UInt8)) : Int × List UInt8 × List UInt8 :=
 if ok2 (p, e) && l.all ok2 then (if 64 < l.length then (8, [], []) else
  if wsum ((rd p).getD 0) (nums l) = 0 then (16, [], []) else (0, decQ (wsum ((rd p).getD 0) (nums l)), decQ (msum ((rd p).getD 0) ((rd e).getD 0) (nums l) / wsum ((rd p).getD 0) (nums l)))) else (1, [], [])
def Pc (r : Int × List UInt8 × List UInt8) : AV := .tup [.agg [.str (B r.2.1), .str (B r.2.2)], .c (.i64 r.1)]
theorem Sz_add_qsum {α : Type} {g : α → Rat} {a : Rat} {l : List α} {K A N : Nat} (ha : Sz a A) (h : ∀ q ∈ l, Sz (g q) K) (hN : A + 2 + l.length * (K + 1) ≤ N) : Sz (a + qsum g l) N := (ha.add (Sz_qsum h)).mono (by omega)
theorem take_len_mul {α : Type} {l : List α} {i K n : Nat} (h : l.length ≤ n) : (l.take i).length * (K + 1) ≤ n * (K + 1) := Nat.mul_le_mul_right _ (by rw [List.length_take]; omega)
theorem Sz_w {a : Rat} {qs : List (Rat × Rat)} (hq : In qs) (hn : qs.length ≤ 64) (ha : Sz a 100000) (i : Nat) : Sz (wsum a (qs.take i)) 400000 := Sz_add_qsum ha (K := 4000) (fun q h => (hq q (List.mem_of_mem_take h)).1) (by have := take_len_mul (i := i) (K := 4000) hn; omega)
theorem Sz_m {a b : Rat} {qs : List (Rat × Rat)} (hq : In qs) (hn : qs.length ≤ 64) (ha : Sz a 100000) (hb : Sz b 100000) (i : Nat) : Sz (msum a b (qs.take i)) 800000 := Sz_add_qsum (ha.mul hb) (K := 8000) (fun q h => (hq q (List.mem_of_mem_take h)).1.mul (hq q (List.mem_of_mem_take h)).2) (by have := take_len_mul (i := i) (K := 8000) hn; omega)
theorem w_step {a : Rat} {qs : List (Rat × Rat)} {i : Nat} {q} (h : qs[i]? = some q) : wsum a (qs.take i) + q.1 = wsum a (qs.take (i + 1)) := by unfold wsum; rw [take_get h, qsum_snoc, Rat.add_assoc]
theorem m_step {a b : Rat} {qs : List (Rat × Rat)} {i : Nat} {q} (h : qs[i]? = some q) : msum a b (qs.take i) + q.1 * q.2 = msum a b (qs.take (i + 1)) := by unfold msum; rw [take_get h, qsum_snoc, Rat.add_assoc]
theorem inc_corr_loop (hlib : Lib E) {qs : List (Rat × Rat)} {a b : Rat} {s t : ByteArray} {w : List (List DV)} (hq : In qs) (hn : qs.length ≤ 64) (ha : Sz a 100000) (hb : Sz b 100000) : ∀ d i : Nat, i + d = qs.length →
    Lp E 2 F_incline_Correct 0 (incline_Correct_L0 (B (decQ (wsum a (qs.take i)))) (B (decQ (msum a b (qs.take i)))) (Q2 qs) (qs.length : Nat) (i : Nat) s t w) (.exit 0) (incline_Correct_L0e0 s t w (B (decQ (wsum a qs))) (B (decQ (msum a b qs))))
 | 0, i, hi => by
  rw [List.take_of_length_le (by omega)]
  exact incline_Correct_L0e0_x0 (by omega)
 | d + 1, i, hi => by
  have hl := Lim_val
  obtain ⟨q, hc⟩ := get_ex (l := qs) (i := i) (by omega)
  have hqq := hq q (List.mem_of_getElem? hc)
  have a1 := inc_add hlib (Sz_w hq hn ha i) hqq.1 (by omega)
  have a2 := inc_add hlib (Sz_m hq hn ha hb i) (hqq.1.mul hqq.2) (by omega)
  rw [w_step hc] at a1
  rw [m_step hc] at a2
  exact incline_Correct_L0_r0 (wi (by omega)) (by omega) (by omega) (by rw [Int.toNat_natCast]; exact Q2_get hc) a1 (inc_mul hlib hqq.1 hqq.2 (by omega)) a2 (inc_corr_loop hlib hq hn ha hb d (i + 1) (by omega))
theorem inc_Correct (hlib : Lib E) {p e : List UInt8} {l : List (List UInt8 × List UInt8)} (hf : Few l) (hp : p.length ≤ 100000) (he : e.length ≤ 100000) : Fn E F_incline_Correct [.c (.str (B p)), .c (.str (B e)), .c (.list (R2 l))] (Pc (correctI p e l)) := by
 have hl := Lim_val
 have hv := inc_valid2 hlib (a := p) (b := e) (by omega) (by omega)
 have hc := contains_Lump hlib (l := l) (by have := hf.1; omega) (fun x hx => incline_Correct_1_0 rfl (inc_valid2 hlib (hf.lim x hx).1 (hf.lim x hx).2))
 unfold correctI
 cases ho : ok2 (p, e) with
 | false => rw [ho] at hv; exact incline_Correct_4 rfl hv
 | true =>
  rw [ho] at hv
  rw [Bool.true_and]
  cases ha : l.all ok2 with
  | false => rw [ha] at hc; exact incline_Correct_0 rfl hv hc
  | true =>
   rw [ha] at hc
   rw [if_pos rfl]
   by_cases h64 : 64 < l.length
   · rw [if_pos h64]; exact incline_Correct_1 rfl hv hc (by rw [R2_len]; omega)
   · rw [if_neg h64]
     obtain ⟨qs, rfl⟩ := Tx_of ha
     unfold ok2 at ho
     rw [Bool.and_eq_true] at ho
     obtain ⟨a, ea⟩ := ok1_some ho.1
     obtain ⟨x, ex⟩ := ok1_some ho.2
     have ea : p = decQ a := ea
     have ex : e = decQ x := ex
     subst ea ex
     rw [rd_decQ, rd_decQ, nums_Tx]
     show Fn E _ _ (Pc (if wsum a qs = 0 then (16, [], []) else (0, decQ (wsum a qs), decQ (msum a x qs / wsum a qs))))
     rw [Tx_len] at h64
     have hq := Tx_in hf
     have za := Sz.of_len hp
     have zx := Sz.of_len he
     have hw := Sz_w hq (by omega) za qs.length
     have hm := Sz_m hq (by omega) za zx qs.length
     rw [List.take_length] at hw hm
     have hlp := inc_corr_loop hlib (s := ⟨#[]⟩) (t := ⟨#[]⟩) (w := [[.str (B (decQ a))], [.str (B (decQ x))]]) hq (by omega) za zx qs.length 0 (by omega)
     have e1 : wsum a (qs.take 0) = a := by unfold wsum; rw [List.take_zero]; show a + 0 = a; rw [Rat.add_zero]
     have e2 : msum a x (qs.take 0) = a * x := by unfold msum; rw [List.take_zero]; show a * x + 0 = _; rw [Rat.add_zero]
     rw [e1, e2] at hlp
     have sg := inc_sign hlib hw (by omega)
     rw [Tx_R2] at hc ⊢
     have hlen : (Q2 qs).length = qs.length := Q2_len qs
     rw [← hlen] at hlp h64
     by_cases hz : wsum a qs = 0
     · rw [if_pos hz]
       exact incline_Correct_2 rfl hv hc (by omega) (inc_mul hlib za zx (by omega)) hlp sg (cmpQ_ne.2 hz)
     · rw [if_neg hz]
       exact incline_Correct_3 rfl hv hc (by omega) (inc_mul hlib za zx (by omega)) hlp sg (fun h => hz (cmpQ_ne.1 h)) (inc_div hlib hm hw (by omega) hz)
end Gev
namespace Gev
open Go Gb
variable {E : Env}
attribute [local irreducible] Sz
abbrev q0 (q : Rat) : Bool := decide (q.num < 0)
abbrev q1 (q : Rat) : List (List DV) := Wr (words q.num.natAbs)
abbrev q2 (q : Rat) : List (List DV) := Wr (words q.den)
theorem r54_text {l : List UInt8} (hl : l.length ≤ Lim) : Fn E F_ref54_num [.c (.str (B l))] (.agg (Qr ((rd l).getD 0))) := ref54_num_0 (r47_Num hl)
theorem r54_num {q : Rat} {K : Nat} (h : Sz q K) (hK : K ≤ 100000000) : Fn E F_ref54_num [Sq q] (.agg (Qr q)) := by
 have := r54_text (E := E) (l := decQ q) (by have := h.len; have := Lim_val; omega)
 rw [rd_decQ] at this
 exact this
theorem r54_numbers_loop {l : List (List UInt8 × List UInt8)} (hf : Few l) : ∀ d i : Nat, i + d = l.length →
    (l.drop i).all ok2 = true ∧ Lp E 0 F_ref54_numbers 0 (ref54_numbers_L0 (R2 l) (i : Nat)) (.exit 0) ref54_numbers_L0e1 ∨
    (l.drop i).all ok2 = false ∧ Lp E 0 F_ref54_numbers 0 (ref54_numbers_L0 (R2 l) (i : Nat)) .ret ref54_numbers_L0e0
 | 0, i, hi => .inl ⟨by rw [List.drop_eq_nil_of_le (by omega)]; rfl, ref54_numbers_L0e1_x0 (by rw [R2_len]; omega)⟩
 | d + 1, i, hi => by
  have hl := hf.1
  obtain ⟨c, hc⟩ := get_ex (l := l) (i := i) (by omega)
  have g := R2_get hc
  rw [← Int.toNat_natCast i] at g
  have hb := hf.lim c (List.mem_of_getElem? hc)
  have v1 := r3_Valid (E := E) hb.1
  have v2 := r3_Valid (E := E) hb.2
  rw [drop_get hc, List.all_cons]
  show ((ok1 c.1 && ok1 c.2) && _) = _ ∧ _ ∨ ((ok1 c.1 && ok1 c.2) && _) = _ ∧ _
  have hb1 : (i : Int) < ((R2 l).length : Int) := by rw [R2_len]; omega
  cases h1 : ok1 c.1 with
  | false =>
   rw [show (rd c.1).isSome = false from h1] at v1
   exact .inr ⟨rfl, ref54_numbers_L0e0_x1 hb1 (by omega) g v1⟩
  | true =>
   rw [show (rd c.1).isSome = true from h1] at v1
   cases h2 : ok1 c.2 with
   | false =>
    rw [show (rd c.2).isSome = false from h2] at v2
    exact .inr ⟨rfl, ref54_numbers_L0e0_x0 hb1 (by omega) g v1 v2⟩
   | true =>
    rw [show (rd c.2).isSome = true from h2] at v2
    have st : ∀ {o s}, Lp E 0 F_ref54_numbers 0 (ref54_numbers_L0 (R2 l) ((i + 1 : Nat) : Int)) o s → Lp E 0 F_ref54_numbers 0 (ref54_numbers_L0 (R2 l) (i : Nat)) o s := fun h => ref54_numbers_L0_r0 (wi (by omega)) hb1 (by omega) g v1 v2 h
    rcases r54_numbers_loop hf d (i + 1) (by omega) with ⟨k1, k2⟩ | ⟨k1, k2⟩
    · exact .inl ⟨by rw [k1]; rfl, st k2⟩
    · exact .inr ⟨by rw [k1]; rfl, st k2⟩
theorem r54_numbers {l : List (List UInt8 × List UInt8)} (hf : Few l) : Fn E F_ref54_numbers [.c (.list (R2 l))] (.c (.bool (l.all ok2))) := by
 have h := r54_numbers_loop (E := E) hf l.length 0 (by omega)
 rw [List.drop_zero] at h
 rcases h with ⟨h1, h2⟩ | ⟨h1, h2⟩
 · rw [h1]; exact ref54_numbers_1 h2
 · rw [h1]; exact ref54_numbers_0 h2
theorem r54_ready {l : List (List UInt8 × List UInt8)} (hf : Few l) : Fn E F_ref54_ready [.c (.list (R2 l))] (.c (.i64 (startI l))) := by
 have hl := hf.1
 have h := r54_numbers (E := E) hf
 unfold startI
 cases ho : l.all ok2 with
 | false => rw [ho] at h; exact ref54_ready_3 h
 | true =>
  rw [ho] at h
  rw [if_pos rfl]
  by_cases h2 : l.length < 2
  · rw [if_pos h2]; exact ref54_ready_0 h (by rw [R2_len]; omega)
  · rw [if_neg h2]
    by_cases h3 : 16 < l.length
    · rw [if_pos h3]; exact ref54_ready_1 h (by rw [R2_len]; omega) (by rw [R2_len]; omega)
    · rw [if_neg h3]; exact ref54_ready_2 h (by rw [R2_len]; omega) (by rw [R2_len]; omega)
theorem r3_zero : Fn E F_ref03_Int [.c (.i64 0)] (.agg (Qr 0)) := r3_Int (z := 0) (by decide)
theorem Sz_take {g : Rat × Rat → Rat} {K M : Nat} {qs : List (Rat × Rat)} (hn : qs.length ≤ 16) (h : ∀ a ∈ qs, Sz (g a) K) (hM : 1 + 16 * (K + 1) ≤ M) (i : Nat) : Sz (qsum g (qs.take i)) M :=
 Sz16 (by rw [List.length_take]; omega) (fun a ha => h a (List.mem_of_mem_take ha)) hM
theorem q_step {g : Rat × Rat → Rat} {qs : List (Rat × Rat)} {i : Nat} {q} (h : qs[i]? = some q) : qsum g (qs.take i) + g q = qsum g (qs.take (i + 1)) := by rw [take_get h, qsum_snoc]
theorem r3_acc {g : Rat × Rat → Rat} {K : Nat} {qs : List (Rat × Rat)} (hn : qs.length ≤ 16) (h : ∀ a ∈ qs, Sz (g a) K) (hK : K ≤ 100000000) {i : Nat} {q} (hc : qs[i]? = some q) : Fn E F_ref03_Add [.agg (Qr (qsum g (qs.take i))), .agg (Qr (g q))] (.agg (Qr (qsum g (qs.take (i + 1))))) := by
 have hl := Lim_val
 rw [← q_step hc]
 exact r3_Add (Sz_take hn h (Nat.le_refl _) i) (h q (List.mem_of_getElem? hc)) (by omega)
def sx (qs : List (Rat × Rat)) : Rat := qsum (fun q => q.1) qs
def sy (qs : List (Rat × Rat)) : Rat := qsum (fun q => q.2) qs
theorem r54_sums_loop {qs : List (Rat × Rat)} (hq : In qs) (hn : qs.length ≤ 16) : ∀ d i : Nat, i + d = qs.length →
    Lp E 8 F_ref54_sums 0 (ref54_sums_L0 (Q2 qs) (i : Nat) false false false false (q0 (sx (qs.take i))) (q1 (sx (qs.take i))) (q2 (sx (qs.take i))) (q0 (sy (qs.take i))) (q1 (sy (qs.take i))) (q2 (sy (qs.take i))) (q0 (tq (qs.take i))) (q1 (tq (qs.take i))) (q2 (tq (qs.take i))) (q0 (tp (qs.take i))) (q1 (tp (qs.take i))) (q2 (tp (qs.take i)))) (.exit 0)
     (ref54_sums_L0e0 false false false false (q0 (sx qs)) (q1 (sx qs)) (q2 (sx qs)) (q0 (sy qs)) (q1 (sy qs)) (q2 (sy qs)) (q0 (tq qs)) (q1 (tq qs)) (q2 (tq qs)) (q0 (tp qs)) (q1 (tp qs)) (q2 (tp qs)))
 | 0, i, hi => by
  rw [List.take_of_length_le (by omega)]
  exact ref54_sums_L0e0_x0 (by rw [Q2_len]; omega)
 | d + 1, i, hi => by
  have hl := Lim_val
  obtain ⟨q, hc⟩ := get_ex (l := qs) (i := i) (by omega)
  have hqq := hq q (List.mem_of_getElem? hc)
  have a1 := r3_acc (E := E) (g := fun q => q.1) hn (fun q h => (hq q h).1) (by omega) hc
  have a2 := r3_acc (E := E) (g := fun q => q.2) hn (fun q h => (hq q h).2) (by omega) hc
  have a3 := r3_acc (E := E) (g := fun q => q.1 * q.1) hn (fun q h => (hq q h).1.mul (hq q h).1) (by omega) hc
  have a4 := r3_acc (E := E) (g := fun q => q.1 * q.2) hn (fun q h => (hq q h).1.mul (hq q h).2) (by omega) hc
  exact ref54_sums_L0_r0 (wi (by omega)) (by rw [Q2_len]; omega) (by omega) (by rw [Int.toNat_natCast]; exact Q2_get hc) (r54_num hqq.1 (by omega)) (r54_num hqq.2 (by omega)) a1 a2 (r3_Mul hqq.1 hqq.1 (by omega)) a3 (r3_Mul hqq.1 hqq.2 (by omega)) a4 (r54_sums_loop hq hn d (i + 1) (by omega))
theorem r54_sums {qs : List (Rat × Rat)} (hq : In qs) (hn : qs.length ≤ 16) : Fn E F_ref54_sums [.c (.list (Q2 qs))] (.tup [.agg (Qr (sx qs)), .agg (Qr (sy qs)), .agg (Qr (tq qs)), .agg (Qr (tp qs))]) := by
 have h := r54_sums_loop (E := E) hq hn qs.length 0 (by omega)
 rw [List.take_zero] at h
 exact ref54_sums_0 r3_zero h
theorem r54_difference {a b : Rat} {q : Rat × Rat} {K L : Nat} (ha : Sz a K) (hb : Sz b L) (hq : Sz q.1 4000 ∧ Sz q.2 4000) (hKL : K + L ≤ 100000000) : Fn E F_ref54_difference [.agg [.str (B (decQ q.1)), .str (B (decQ q.2))], .agg (Qr a), .agg (Qr b)] (.agg (Qr (dif a b q))) := by
 have hl := Lim_val
 exact ref54_difference_0 (r54_num hq.2 (by omega)) (r54_num hq.1 (by omega)) (r3_Mul ha hq.1 (by omega)) (r3_Add hb (ha.mul hq.1) (by omega)) (r3_Sub hq.2 (hb.add (ha.mul hq.1)) (by omega))
theorem r54_line_loop {qs : List (Rat × Rat)} {a b : Rat} {K L : Nat} (hq : In qs) (hn : qs.length ≤ 16) (ha : Sz a K) (hb : Sz b L) (hKL : K + L ≤ 10000000) : ∀ d i : Nat, i + d = qs.length →
    Lp E 4 F_ref54_line 0 (ref54_line_L0 (Q2 qs) (i : Nat) (q0 a) (q1 a) (q2 a) (q0 b) (q1 b) (q2 b) ⟨#[]⟩ ⟨#[]⟩ ⟨#[]⟩ (q0 (ssq a b (qs.take i))) (q1 (ssq a b (qs.take i))) (q2 (ssq a b (qs.take i)))) (.exit 0)
     (ref54_line_L0e0 (q0 a) (q1 a) (q2 a) (q0 b) (q1 b) (q2 b) ⟨#[]⟩ ⟨#[]⟩ ⟨#[]⟩ (q0 (ssq a b qs)) (q1 (ssq a b qs)) (q2 (ssq a b qs)))
 | 0, i, hi => by
  rw [List.take_of_length_le (by omega)]
  exact ref54_line_L0e0_x0 (by rw [Q2_len]; omega)
 | d + 1, i, hi => by
  have hl := Lim_val
  obtain ⟨q, hc⟩ := get_ex (l := qs) (i := i) (by omega)
  have hqq := hq q (List.mem_of_getElem? hc)
  have hd : ∀ q ∈ qs, Sz (dif a b q * dif a b q) (K + L + 8002 + (K + L + 8002)) := fun q h => (Sz_dif ha hb (hq q h)).mul (Sz_dif ha hb (hq q h))
  have a1 := r3_acc (E := E) (g := fun q => dif a b q * dif a b q) hn hd (by omega) hc
  exact ref54_line_L0_r0 (wi (by omega)) (by rw [Q2_len]; omega) (by omega) (by rw [Int.toNat_natCast]; exact Q2_get hc) (r54_difference ha hb hqq (by omega)) (r3_Mul (Sz_dif ha hb hqq) (Sz_dif ha hb hqq) (by omega)) a1 (r54_line_loop hq hn ha hb hKL d (i + 1) (by omega))
theorem r54_line {qs : List (Rat × Rat)} {a b : Rat} {K L : Nat} (hq : In qs) (hn : qs.length ≤ 16) (ha : Sz a K) (hb : Sz b L) (hKL : K + L ≤ 10000000) : Fn E F_ref54_line [.c (.list (Q2 qs)), .agg (Qr a), .agg (Qr b)] (Line a b qs) := by
 have hl := Lim_val
 have h := r54_line_loop (E := E) hq hn ha hb hKL qs.length 0 (by omega)
 rw [List.take_zero] at h
 have hs : Sz (ssq a b qs) (1 + 16 * (K + L + 8002 + (K + L + 8002) + 1)) := Sz16 hn (fun q h => (Sz_dif ha hb (hq q h)).mul (Sz_dif ha hb (hq q h))) (Nat.le_refl _)
 exact ref54_line_0 r3_zero h (r3_To ha (by omega)) (r3_To hb (by omega)) (r3_To hs (by omega))
abbrev len (qs : List (Rat × Rat)) : Rat := ((qs.length : Int) : Rat)
def fitD (qs : List (Rat × Rat)) : Rat := len qs * tq qs - sx qs * sx qs
def fitS (qs : List (Rat × Rat)) : Rat := (len qs * tp qs - sx qs * sy qs) / fitD qs
def fitR (qs : List (Rat × Rat)) : Option (Rat × Rat) := if fitD qs = 0 then none else some (fitS qs, (sy qs - fitS qs * sx qs) / len qs)
theorem Sz_sx {qs : List (Rat × Rat)} (hq : In qs) (hn : qs.length ≤ 16) : Sz (sx qs) 64017 := Sz16 hn (K := 4000) (fun q h => (hq q h).1) (by omega)
theorem Sz_sy {qs : List (Rat × Rat)} (hq : In qs) (hn : qs.length ≤ 16) : Sz (sy qs) 64017 := Sz16 hn (K := 4000) (fun q h => (hq q h).2) (by omega)
theorem sgn_zero {a : Rat} : cmpI a.num 0 = 0 ↔ a = 0 := by rw [cmpI_zero, Rat.num_eq_zero]
theorem r54_Fit_ok {qs : List (Rat × Rat)} (hf : Few (Tx qs)) (h2 : 2 ≤ qs.length) (hn : qs.length ≤ 16) : Fn E F_ref54_Fit [.c (.list (Q2 qs))] (FitRes qs (fitR qs)) := by
 have hl := Lim_val
 have hq := Tx_in hf
 have hs := r54_ready (E := E) hf
 have e0 : startI (Tx qs) = 0 := by unfold startI; rw [Tx_ok, Tx_len, if_pos rfl, if_neg (by omega), if_neg (by omega)]
 rw [e0, Tx_R2] at hs
 have hnz := rat_len_ne (n := qs.length) (by omega)
 have hi : Fn E F_ref03_Int [.c (.i64 ((Q2 qs).length : Nat))] (.agg (Qr (len qs))) := by
  rw [Q2_len]; exact r3_Int (by rw [Int.natAbs_natCast]; omega)
 have zn := Sz_len hn
 have z1 := Sz_sx hq hn
 have z2 := Sz_sy hq hn
 have z3 := Sz_tq hq hn
 have z4 := Sz_tp hq hn
 have zD : Sz (fitD qs) 300000 := ((zn.mul z3).sub (z1.mul z1)).mono (by omega)
 have m1 := r3_Mul (E := E) zn z3 (by omega)
 have m2 := r3_Mul (E := E) z1 z1 (by omega)
 have d1 : Fn E F_ref03_Sub [.agg (Qr (len qs * tq qs)), .agg (Qr (sx qs * sx qs))] (.agg (Qr (fitD qs))) := r3_Sub (zn.mul z3) (z1.mul z1) (by omega)
 by_cases hz : fitD qs = 0
 · have : fitR qs = none := by unfold fitR; rw [if_pos hz]
   rw [this]
   exact ref54_Fit_1 hs rfl (r54_sums hq hn) hi m1 m2 d1 (r3_Sign _) (sgn_zero.2 hz)
 · have : fitR qs = some (fitS qs, (sy qs - fitS qs * sx qs) / len qs) := by unfold fitR; rw [if_neg hz]
   rw [this]
   have zs : Sz (fitS qs) 600000 := (((zn.mul z4).sub (z1.mul z2)).div zD).mono (by omega)
   have ds : Fn E F_ref03_Div [.agg (Qr (len qs * tp qs - sx qs * sy qs)), .agg (Qr (fitD qs))] (.agg (Qr (fitS qs))) := r3_Div ((zn.mul z4).sub (z1.mul z2)) zD (by omega) hz
   exact ref54_Fit_2 hs rfl (r54_sums hq hn) hi m1 m2 d1 (r3_Sign _) (fun e => hz (sgn_zero.1 e)) (r3_Mul zn z4 (by omega)) (r3_Mul z1 z2 (by omega)) (r3_Sub (zn.mul z4) (z1.mul z2) (by omega)) ds (r3_Mul zs z1 (by omega)) (r3_Sub z2 (zs.mul z1) (by omega)) (r3_Div (z2.sub (zs.mul z1)) zn (by omega) hnz) (r54_line hq hn zs ((z2.sub (zs.mul z1)).div zn) (by omega))
theorem r54_Through_ok {qs : List (Rat × Rat)} (hf : Few (Tx qs)) (h2 : 2 ≤ qs.length) (hn : qs.length ≤ 16) : Fn E F_ref54_Through [.c (.list (Q2 qs))] (FitRes qs (throughI qs)) := by
 have hl := Lim_val
 have hq := Tx_in hf
 have hs := r54_ready (E := E) hf
 have e0 : startI (Tx qs) = 0 := by unfold startI; rw [Tx_ok, Tx_len, if_pos rfl, if_neg (by omega), if_neg (by omega)]
 rw [e0, Tx_R2] at hs
 have z3 := Sz_tq hq hn
 have z4 := Sz_tp hq hn
 by_cases hz : tq qs = 0
 · have : throughI qs = none := by unfold throughI; rw [if_pos hz]
   rw [this]
   exact ref54_Through_1 hs rfl (r54_sums hq hn) (r3_Sign _) (sgn_zero.2 hz)
 · have : throughI qs = some (tp qs / tq qs, 0) := by unfold throughI; rw [if_neg hz]
   rw [this]
   exact ref54_Through_2 hs rfl (r54_sums hq hn) (r3_Sign _) (fun e => hz (sgn_zero.1 e)) (r3_Div z4 z3 (by omega) hz) r3_zero (r54_line hq hn (z4.div z3) Sz.zero (by omega))
theorem r54_Fit {l : List (List UInt8 × List UInt8)} (hf : Few l) : Fn E F_ref54_Fit [.c (.list (R2 l))] (ansI fitR l) := by
 unfold ansI
 by_cases h0 : startI l = 0
 · rw [if_pos h0]
   obtain ⟨qs, rfl, h2, hn⟩ := start_zero h0
   rw [Tx_R2, nums_Tx]; exact r54_Fit_ok hf h2 hn
 · rw [if_neg h0]; exact ref54_Fit_0 (r54_ready hf) h0
theorem r54_Through {l : List (List UInt8 × List UInt8)} (hf : Few l) : Fn E F_ref54_Through [.c (.list (R2 l))] (ansI throughI l) := by
 unfold ansI
 by_cases h0 : startI l = 0
 · rw [if_pos h0]
   obtain ⟨qs, rfl, h2, hn⟩ := start_zero h0
   rw [Tx_R2, nums_Tx]; exact r54_Through_ok hf h2 hn
 · rw [if_neg h0]; exact ref54_Through_0 (r54_ready hf) h0
theorem len_cons (q : Rat × Rat) (qs : List (Rat × Rat)) : len (q :: qs) = len qs + 1 := by
 show (((q :: qs).length : Int) : Rat) = _
 rw [List.length_cons, Int.natCast_add, Rat.intCast_add]; rfl
theorem qsum_cons {α : Type} (g : α → Rat) (a : α) (l : List α) : qsum g (a :: l) = g a + qsum g l := rfl
theorem cross_sum (m k : Rat) : ∀ qs : List (Rat × Rat), qsum (fun q => (q.1 - m) * (q.2 - k)) qs = tp qs - k * sx qs - m * sy qs + len qs * (m * k)
 | [] => by show (0 : Rat) = 0 - k * 0 - m * 0 + (((0 : Nat) : Int) : Rat) * (m * k); have : (((0 : Nat) : Int) : Rat) = 0 := rfl; rw [this]; grind
 | q :: qs => by
  have ih := cross_sum m k qs
  rw [len_cons]
  unfold tp sx sy at ih ⊢
  simp only [qsum_cons]
  rw [ih]; grind
theorem square_sum (m : Rat) : ∀ qs : List (Rat × Rat), qsum (fun q => (q.1 - m) * (q.1 - m)) qs = tq qs - 2 * m * sx qs + len qs * (m * m)
 | [] => by show (0 : Rat) = 0 - 2 * m * 0 + (((0 : Nat) : Int) : Rat) * (m * m); have : (((0 : Nat) : Int) : Rat) = 0 := rfl; rw [this]; grind
 | q :: qs => by
  have ih := square_sum m qs
  rw [len_cons]
  unfold tq sx at ih ⊢
  simp only [qsum_cons]
  rw [ih]; grind
theorem fit_eq {qs : List (Rat × Rat)} (h : qs.length ≠ 0) : fitR qs = fitI qs := by
 have hn : len qs ≠ 0 := rat_len_ne h
 have e1 : sxx qs = tq qs - 2 * mx qs * sx qs + len qs * (mx qs * mx qs) := square_sum (mx qs) qs
 have e2 : sxy qs = tp qs - my qs * sx qs - mx qs * sy qs + len qs * (mx qs * my qs) := cross_sum (mx qs) (my qs) qs
 have e3 : sx qs = len qs * mx qs := by show sx qs = len qs * (sx qs / len qs); grind
 have e4 : sy qs = len qs * my qs := by show sy qs = len qs * (sy qs / len qs); grind
 have d1 : fitD qs = len qs * sxx qs := by unfold fitD; grind
 have d2 : len qs * tp qs - sx qs * sy qs = len qs * sxy qs := by grind
 unfold fitR fitI fitS
 rw [d1, d2]
 by_cases hz : sxx qs = 0
 · rw [if_pos (by rw [hz, Rat.mul_zero]), if_pos hz]
 · have hz' : len qs * sxx qs ≠ 0 := fun e => by
    rcases Rat.mul_eq_zero.1 e with e | e
    · exact hn e
    · exact hz e
   rw [if_neg hz', if_neg hz]
   have s : len qs * sxy qs / (len qs * sxx qs) = sxy qs / sxx qs := by grind
   rw [s]
   have i : (sy qs - sxy qs / sxx qs * sx qs) / len qs = my qs - sxy qs / sxx qs * mx qs := by
    generalize sxy qs / sxx qs = t at *
    grind
   rw [i]
theorem ans_eq {l : List (List UInt8 × List UInt8)} : ansI fitR l = ansI fitI l := by
 unfold ansI
 by_cases h0 : startI l = 0
 · rw [if_pos h0, if_pos h0]
   obtain ⟨qs, rfl, h2, hn⟩ := start_zero h0
   rw [nums_Tx, fit_eq (by omega)]
 · rw [if_neg h0, if_neg h0]
end Gev
namespace Gev
open Go Gb
variable {E : Env}
attribute [local irreducible] Sz
theorem sgn_le {a : Rat} : cmpI a.num 0 ≤ 0 ↔ ¬ 0 < a := by
 have h : 0 < a ↔ 0 < a.num := by
  rw [Rat.lt_iff, show (0 : Rat).num = 0 from rfl, show (0 : Rat).den = 1 from rfl]; omega
 rw [h, ← cmpI_gt]; omega
theorem r54_Height {p e : List UInt8} {s t : ByteArray} (hp : p.length ≤ 20000000) (he : e.length ≤ 4000) : Fn E F_ref54_Height [.agg [.str (B p), .str s, .str t], .c (.str (B e))] (Tc (heightI p e)) := by
 have hl := Lim_val
 have v1 := r3_Valid (E := E) (l := p) (by omega)
 have v2 := r3_Valid (E := E) (l := e) (by omega)
 unfold heightI
 show Fn E _ _ (Tc (if (ok1 p && ok1 e) = true then _ else _))
 cases h1 : ok1 p with
 | false => rw [show (rd p).isSome = false from h1] at v1; exact ref54_Height_4 v1
 | true =>
  rw [show (rd p).isSome = true from h1] at v1
  cases h2 : ok1 e with
  | false => rw [show (rd e).isSome = false from h2] at v2; exact ref54_Height_3 v1 v2
  | true =>
   rw [show (rd e).isSome = true from h2] at v2
   obtain ⟨a, ea⟩ := ok1_some h1
   obtain ⟨x, ex⟩ := ok1_some h2
   subst ea ex
   rw [rd_decQ, rd_decQ]
   show Fn E _ _ (Tc (if 0 < a ∧ 0 < x then (0, decQ (x * a)⁻¹) else (2, [])))
   have za := Sz.of_len hp
   have zx := Sz.of_len he
   have n1 := r54_num (E := E) za (by omega)
   have n2 := r54_num (E := E) zx (by omega)
   by_cases c1 : 0 < a
   · by_cases c2 : 0 < x
     · rw [if_pos ⟨c1, c2⟩]
       have hne : x * a ≠ 0 := fun e => by
        rcases Rat.mul_eq_zero.1 e with e | e
        · rw [e] at c2; exact Rat.lt_irrefl c2
        · rw [e] at c1; exact Rat.lt_irrefl c1
       exact ref54_Height_2 v1 v2 n1 (r3_Sign a) (fun h => sgn_le.1 h c1) n2 (r3_Sign x) (fun h => sgn_le.1 h c2) (r3_Mul zx za (by omega)) (r3_Inv hne) (r3_To (zx.mul za).inv (by omega))
     · rw [if_neg (fun h => c2 h.2)]
       exact ref54_Height_1 v1 v2 n1 (r3_Sign a) (fun h => sgn_le.1 h c1) n2 (r3_Sign x) (sgn_le.2 c2)
   · rw [if_neg (fun h => c1 h.1)]
     exact ref54_Height_0 v1 v2 n1 (r3_Sign a) (sgn_le.2 c1)
theorem r54_diff_loop {qs : List (Rat × Rat)} {a b : Rat} {s : ByteArray} (hq : In qs) (hn : qs.length ≤ 16) (ha : Sz a 40) (hb : Sz b 40) : ∀ d i : Nat, i + d = qs.length →
    Lp E 1 F_ref54_Differences 0 (ref54_Differences_L0 (Q2 qs) i (i : Nat) (B (decQ a)) (B (decQ b)) s (Q1 ((qs.take i).map (dif a b)))) (.exit 0) (ref54_Differences_L0e0 (B (decQ a)) (B (decQ b)) s qs.length (Q1 (qs.map (dif a b))))
 | 0, i, hi => by
  have : i = qs.length := by omega
  subst this
  rw [List.take_length]
  exact ref54_Differences_L0e0_x0 (by rw [Q2_len]; omega)
 | d + 1, i, hi => by
  have hl := Lim_val
  obtain ⟨q, hc⟩ := get_ex (l := qs) (i := i) (by omega)
  have hqq := hq q (List.mem_of_getElem? hc)
  refine ref54_Differences_L0_r0 (v15 := ((i + 1 : Nat) : Int)) (v14 := i + 1) ?_ rfl (wi (by omega)) (by rw [Q2_len]; omega) (by omega) (by rw [Int.toNat_natCast]; exact Q2_get hc) (r54_num ha (by omega)) (r54_num hb (by omega)) (r54_difference ha hb hqq (by omega)) (r3_To (Sz_dif ha hb hqq) (by omega)) (by omega) (r54_diff_loop hq hn ha hb d (i + 1) (by omega))
  rw [take_get hc, List.map_append, List.take_of_length_le (by rw [Q1_len, List.length_map, List.length_take]; omega)]
  unfold Q1
  rw [List.map_append]; rfl
theorem r54_Differences {l : List (List UInt8 × List UInt8)} {p e : List UInt8} {s : ByteArray} (hf : Few l) (hp : p.length ≤ 40) (he : e.length ≤ 40) : Fn E F_ref54_Differences [.c (.list (R2 l)), .agg [.str (B p), .str (B e), .str s]] (Lc (diffI l p e)) := by
 have hl := Lim_val
 have hr := r54_numbers (E := E) hf
 have v1 := r3_Valid (E := E) (l := p) (by omega)
 have v2 := r3_Valid (E := E) (l := e) (by omega)
 unfold diffI
 show Fn E _ _ (Lc (if (l.all ok2 && (ok1 p && ok1 e)) = true then _ else _))
 cases ha : l.all ok2 with
 | false => rw [ha] at hr; exact ref54_Differences_4 hr
 | true =>
  rw [ha] at hr
  rw [Bool.true_and]
  cases h1 : ok1 p with
  | false => rw [show (rd p).isSome = false from h1] at v1; exact ref54_Differences_3 hr v1
  | true =>
   rw [show (rd p).isSome = true from h1] at v1
   cases h2 : ok1 e with
   | false => rw [show (rd e).isSome = false from h2] at v2; exact ref54_Differences_2 hr v1 v2
   | true =>
    rw [show (rd e).isSome = true from h2] at v2
    rw [if_pos (show (true && true) = true from rfl)]
    by_cases h16 : 16 < l.length
    · rw [if_pos h16]; exact ref54_Differences_0 hr v1 v2 (by rw [R2_len]; omega)
    · rw [if_neg h16]
      obtain ⟨qs, rfl⟩ := Tx_of ha
      obtain ⟨a, ea⟩ := ok1_some h1
      obtain ⟨x, ex⟩ := ok1_some h2
      subst ea ex
      rw [rd_decQ, rd_decQ, nums_Tx]
      rw [Tx_len] at h16
      have hlp := r54_diff_loop (E := E) (s := s) (Tx_in hf) (by omega) (Sz.of_len hp) (Sz.of_len he) qs.length 0 (by omega)
      rw [Tx_R2] at hr ⊢
      rw [List.take_zero] at hlp
      refine ref54_Differences_1 (v4 := qs.length) (v5 := Q1 (qs.map (dif a x))) ?_ hr v1 v2 (by rw [Q2_len]; omega) hlp
      rw [List.take_of_length_le (by rw [Q1_len, List.length_map]; omega)]; rfl
theorem r54_Centre {l : List (List UInt8 × List UInt8)} {e d : List UInt8} (hf : Few l) (he : e.length ≤ 4000) (hd : d.length ≤ 4000) : Fn E F_ref54_Centre [.c (.list (R2 l)), .c (.str (B e)), .c (.str (B d))] (Tc (centreI fitI l e d)) := by
 have hl := Lim_val
 have v1 := r3_Valid (E := E) (l := e) (by omega)
 have v2 := r3_Valid (E := E) (l := d) (by omega)
 have hfit := r54_Fit (E := E) hf
 rw [ans_eq] at hfit
 unfold centreI
 show Fn E _ _ (Tc (if (ok1 e && ok1 d) = true then _ else _))
 cases h1 : ok1 e with
 | false => rw [show (rd e).isSome = false from h1] at v1; exact ref54_Centre_4 v1
 | true =>
  rw [show (rd e).isSome = true from h1] at v1
  cases hdd : ok1 d with
  | false => rw [show (rd d).isSome = false from hdd] at v2; exact ref54_Centre_3 v1 v2
  | true =>
   rw [show (rd d).isSome = true from hdd] at v2
   rw [if_pos (show (true && true) = true from rfl)]
   unfold ansI at hfit
   by_cases h0 : startI l = 0
   · rw [if_pos h0] at hfit ⊢
     obtain ⟨qs, rfl, h2, hn⟩ := start_zero h0
     rw [nums_Tx] at hfit ⊢
     cases hfi : fitI qs with
     | none =>
      rw [hfi] at hfit
      exact ref54_Centre_0 v1 v2 hfit (show ¬ (18 : Int) = 0 by decide)
     | some ab =>
      obtain ⟨a, b⟩ := ab
      rw [hfi] at hfit
      have hsz := Sz_fitI (Tx_in hf) hn hfi
      have hh := r54_Height (E := E) (p := decQ a) (e := e) (s := B (decQ b)) (t := B (decQ (ssq a b qs))) (by have := hsz.1.len; omega) he
      show Fn E _ _ (Tc (if (heightI (decQ a) e).1 = 0 then (0, decQ ((rd d).getD 0 - (rd (heightI (decQ a) e).2).getD 0)) else ((heightI (decQ a) e).1, [])))
      by_cases hz : (heightI (decQ a) e).1 = 0
      · rw [if_pos hz]
        obtain ⟨a', x, e1, e2, _, _, e3⟩ := height_zero hz
        have e1 := decQ_inj e1
        subst e1 e2
        obtain ⟨y, ey⟩ := ok1_some hdd
        subst ey
        rw [e3, rd_decQ, rd_decQ]
        unfold Tc at hh
        rw [e3] at hh
        have zh : Sz (x * a)⁻¹ 5004000 := ((Sz.of_len he).mul hsz.1).inv.mono (by omega)
        exact ref54_Centre_2 v1 v2 hfit rfl hh hz (r54_num (Sz.of_len hd) (by omega)) (r54_num zh (by omega)) (r3_Sub (Sz.of_len hd) zh (by omega)) (r3_To ((Sz.of_len hd).sub zh) (by omega))
      · rw [if_neg hz]
        exact ref54_Centre_1 v1 v2 hfit rfl hh hz
   · rw [if_neg h0] at hfit ⊢
     exact ref54_Centre_0 v1 v2 hfit h0
theorem r54_corr_valid {p e s t : ByteArray} {l : List (List UInt8 × List UInt8)} (hf : Few l) : ∀ (d i : Nat) (b : Bool), i + d = l.length →
    Lp E 1 F_ref54_Correct 0 (ref54_Correct_L0 p e (R2 l) b (i : Nat) s t) (.exit 0) (ref54_Correct_L0e0 p e (R2 l) s t (b && (l.drop i).all ok2))
 | 0, i, b, hi => by
  rw [List.drop_eq_nil_of_le (by omega), List.all_nil, Bool.and_true]
  exact ref54_Correct_L0e0_x0 (by rw [R2_len]; omega)
 | d + 1, i, b, hi => by
  have hl := hf.1
  obtain ⟨c, hc⟩ := get_ex (l := l) (i := i) (by omega)
  have g := R2_get hc
  rw [← Int.toNat_natCast i] at g
  have hb := hf.lim c (List.mem_of_getElem? hc)
  have v1 := r3_Valid (E := E) hb.1
  have v2 := r3_Valid (E := E) hb.2
  have hb1 : (i : Int) < ((R2 l).length : Int) := by rw [R2_len]; omega
  rw [drop_get hc, List.all_cons]
  show Lp E 1 _ 0 _ _ (ref54_Correct_L0e0 p e (R2 l) s t (b && ((ok1 c.1 && ok1 c.2) && (l.drop (i + 1)).all ok2)))
  cases b with
  | false => exact ref54_Correct_L0_r2 (wi (by omega)) hb1 (r54_corr_valid hf d (i + 1) false (by omega))
  | true =>
   rw [Bool.true_and]
   cases h1 : ok1 c.1 with
   | false =>
    rw [show (rd c.1).isSome = false from h1] at v1
    exact ref54_Correct_L0_r1 (wi (by omega)) hb1 (by omega) g v1 (r54_corr_valid hf d (i + 1) false (by omega))
   | true =>
    rw [show (rd c.1).isSome = true from h1] at v1
    exact ref54_Correct_L0_r0 (wi (by omega)) hb1 (by omega) g v1 v2 (r54_corr_valid hf d (i + 1) (ok1 c.2) (by omega))
theorem r54_corr_loop {qs : List (Rat × Rat)} {a b : Rat} {s t : ByteArray} (hq : In qs) (hn : qs.length ≤ 64) (ha : Sz a 100000) (hb : Sz b 100000) : ∀ d i : Nat, i + d = qs.length →
    Lp E 3 F_ref54_Correct 1 (ref54_Correct_L1 (Q2 qs) (i : Nat) s t (q0 (wsum a (qs.take i))) (q1 (wsum a (qs.take i))) (q2 (wsum a (qs.take i))) (q0 (msum a b (qs.take i))) (q1 (msum a b (qs.take i))) (q2 (msum a b (qs.take i)))) (.exit 2)
     (ref54_Correct_L1e0 s t (q0 (wsum a qs)) (q1 (wsum a qs)) (q2 (wsum a qs)) (q0 (msum a b qs)) (q1 (msum a b qs)) (q2 (msum a b qs)))
 | 0, i, hi => by
  rw [List.take_of_length_le (by omega)]
  exact ref54_Correct_L1e0_x0 (by rw [Q2_len]; omega)
 | d + 1, i, hi => by
  have hl := Lim_val
  obtain ⟨q, hc⟩ := get_ex (l := qs) (i := i) (by omega)
  have hqq := hq q (List.mem_of_getElem? hc)
  have a1 := r3_Add (E := E) (Sz_w hq hn ha i) hqq.1 (by omega)
  have a2 := r3_Add (E := E) (Sz_m hq hn ha hb i) (hqq.1.mul hqq.2) (by omega)
  rw [w_step hc] at a1
  rw [m_step hc] at a2
  exact ref54_Correct_L1_r0 (wi (by omega)) (by rw [Q2_len]; omega) (by omega) (by rw [Int.toNat_natCast]; exact Q2_get hc) (r54_num hqq.1 (by omega)) a1 (r54_num hqq.2 (by omega)) (r3_Mul hqq.1 hqq.2 (by omega)) a2 (r54_corr_loop hq hn ha hb d (i + 1) (by omega))
theorem r54_Correct {p e : List UInt8} {l : List (List UInt8 × List UInt8)} (hf : Few l) (hp : p.length ≤ 100000) (he : e.length ≤ 100000) : Fn E F_ref54_Correct [.c (.str (B p)), .c (.str (B e)), .c (.list (R2 l))] (Pc (correctI p e l)) := by
 have hl := Lim_val
 have v1 := r3_Valid (E := E) (l := p) (by omega)
 have v2 := r3_Valid (E := E) (l := e) (by omega)
 have hvl : ∀ b, Lp E 1 F_ref54_Correct 0 (ref54_Correct_L0 (B p) (B e) (R2 l) b 0 ⟨#[]⟩ ⟨#[]⟩) (.exit 0) (ref54_Correct_L0e0 (B p) (B e) (R2 l) ⟨#[]⟩ ⟨#[]⟩ (b && l.all ok2)) := fun b => r54_corr_valid (p := B p) (e := B e) (s := ⟨#[]⟩) (t := ⟨#[]⟩) hf l.length 0 b (by omega)
 unfold correctI
 show Fn E _ _ (Pc (if ((ok1 p && ok1 e) && l.all ok2) = true then _ else _))
 cases h1 : ok1 p with
 | false =>
  rw [show (rd p).isSome = false from h1] at v1
  exact ref54_Correct_7 v1 (hvl false)
 | true =>
  rw [show (rd p).isSome = true from h1] at v1
  have hv := hvl (ok1 e)
  rw [Bool.true_and]
  cases h2 : (ok1 e && l.all ok2) with
  | false =>
   rw [h2] at hv
   exact ref54_Correct_3 v1 v2 hv
  | true =>
   rw [h2] at hv
   rw [if_pos rfl]
   rw [Bool.and_eq_true] at h2
   by_cases h64 : 64 < l.length
   · rw [if_pos h64]; exact ref54_Correct_0 v1 v2 hv (by rw [R2_len]; omega)
   · rw [if_neg h64]
     obtain ⟨qs, rfl⟩ := Tx_of h2.2
     obtain ⟨a, ea⟩ := ok1_some h1
     obtain ⟨x, ex⟩ := ok1_some h2.1
     subst ea ex
     rw [rd_decQ, rd_decQ, nums_Tx]
     show Fn E _ _ (Pc (if wsum a qs = 0 then (16, [], []) else (0, decQ (wsum a qs), decQ (msum a x qs / wsum a qs))))
     rw [Tx_len] at h64
     have hq := Tx_in hf
     have za := Sz.of_len hp
     have zx := Sz.of_len he
     have hw := Sz_w hq (by omega) za qs.length
     have hm := Sz_m hq (by omega) za zx qs.length
     rw [List.take_length] at hw hm
     have hlp := r54_corr_loop (E := E) (s := ⟨#[]⟩) (t := ⟨#[]⟩) hq (by omega) za zx qs.length 0 (by omega)
     have e1 : wsum a (qs.take 0) = a := by unfold wsum; rw [List.take_zero]; show a + 0 = a; rw [Rat.add_zero]
     have e2 : msum a x (qs.take 0) = a * x := by unfold msum; rw [List.take_zero]; show a * x + 0 = _; rw [Rat.add_zero]
     rw [e1, e2] at hlp
     rw [Tx_R2] at hv ⊢
     have n1 := r54_num (E := E) za (by omega)
     have n2 := r54_num (E := E) zx (by omega)
     have hlen : ¬ ((Q2 qs).length : Int) > 64 := by rw [Q2_len]; omega
     by_cases hz : wsum a qs = 0
     · rw [if_pos hz]
       exact ref54_Correct_1 v1 v2 hv hlen n1 n2 (r3_Mul za zx (by omega)) hlp (r3_Sign _) (sgn_zero.2 hz)
     · rw [if_neg hz]
       exact ref54_Correct_2 v1 v2 hv hlen n1 n2 (r3_Mul za zx (by omega)) hlp (r3_Sign _) (fun h => hz (sgn_zero.1 h)) (r3_To hw (by omega)) (r3_Div hm hw (by omega) hz) (r3_To (hm.div hw) (by omega))
end Gev
namespace Go.Proofs
open Go.Shelf
def Tryz.lays169_ren : Go.Shelf.Ren := ⟨fun | 169 => 208 | n => n, fun | 70 => 213 | 9 => 9 | 0 => 0 | 72 => 215 | 37 => 119 | 127 => 236 | 3 => 3 | 5 => 5 | n => n, fun | n => n⟩
theorem Tryz.lays169 : Go.Proofs.Lays.n169 Tryz.prog Tryz.lays169_ren := {
 mixed := by kernel_rfl
 f169 := Tryz.func208.trans (congrArg some (by kernel_rfl))
 t0 := Tryz.underlying0
 a0 := Tryz.isAgg0
 z0 := Tryz.sizeOf0
 v0 := Tryz.zeroValue0
 t3 := Tryz.underlying3
 a3 := Tryz.isAgg3
 z3 := Tryz.sizeOf3
 v3 := Tryz.zeroValue3
 t9 := Tryz.underlying9
 a9 := Tryz.isAgg9
 z9 := Tryz.sizeOf9
 v9 := Tryz.zeroValue9
 t37 := Tryz.underlying119
 a37 := Tryz.isAgg119
 z37 := Tryz.sizeOf119
 v37 := Tryz.zeroValue119
 t70 := Tryz.underlying213
 a70 := Tryz.isAgg213
 z70 := Tryz.sizeOf213
 v70 := Tryz.zeroValue213
 t72 := Tryz.underlying215
 a72 := Tryz.isAgg215
 z72 := Tryz.sizeOf215
 v72 := Tryz.zeroValue215
 t127 := Tryz.underlying236
 a127 := Tryz.isAgg236
 z127 := Tryz.sizeOf236
 v127 := Tryz.zeroValue236 }
theorem Tryz.Builder_Extra_169 : Builder.Extra Tryz.prog Tryz.lays169_ren := {
 sizeBuilder := by kernel_rfl
 liesBuilder := by kernel_rfl
 t5 := Tryz.underlying5
 a5 := Tryz.isAgg5
 z5 := Tryz.sizeOf5
 v5 := Tryz.zeroValue5
 infoByte := by kernel_rfl
 cellsByte := by kernel_rfl
 sizeByte := by kernel_rfl
 neB5 := by decide }
def Tryz.lays103_ren : Go.Shelf.Ren := ⟨fun | 103 => 168 | 210 => 184 | 206 => 202 | n => n, fun | 9 => 9 | 4 => 4 | 24 => 180 | 3 => 3 | n => n, fun | n => n⟩
theorem Tryz.lays103 : Go.Proofs.Lays.n103 Tryz.prog Tryz.lays103_ren := {
 mixed := by kernel_rfl
 f103 := Tryz.func168.trans (congrArg some (by kernel_rfl))
 f206 := Tryz.func202.trans (congrArg some (by kernel_rfl))
 f210 := Tryz.func184.trans (congrArg some (by kernel_rfl))
 t3 := Tryz.underlying3
 a3 := Tryz.isAgg3
 z3 := Tryz.sizeOf3
 v3 := Tryz.zeroValue3
 t4 := Tryz.underlying4
 a4 := Tryz.isAgg4
 z4 := Tryz.sizeOf4
 v4 := Tryz.zeroValue4
 t9 := Tryz.underlying9
 a9 := Tryz.isAgg9
 z9 := Tryz.sizeOf9
 v9 := Tryz.zeroValue9
 t24 := Tryz.underlying180
 a24 := Tryz.isAgg180
 z24 := Tryz.sizeOf180
 v24 := Tryz.zeroValue180 }
open Go.RowKit in
theorem Tryz.strings_CutPrefix (s p : ByteArray) (w : World) :
    Calls Tryz.prog 168 #[.string s, .string p] w fun e w' => e = .returned (.tuple #[.string ⟨(Lib.trimPrefix s.data.toList p.data.toList).toArray⟩, .bool (Lib.hasPrefix s.data.toList p.data.toList)]) ∧ w' = w := Any.strings_CutPrefix Tryz.lays103 s p w
open Go.RowKit in
theorem Tryz.Builder_String_any_k (B b : Nat) (l : List UInt8) (w : World) (h : Lib.IsBuilderF 215 5 B b (Lib.byteCells l) w) (hBw : B ≤ w.heap.size) :
    Calls Tryz.prog 208 #[.pointer (some ⟨b, 0, none⟩)] w fun e w' => e = .returned (.string ⟨l.toArray⟩) ∧ (Lib.IsBuilderF 215 5 B b (Lib.byteCells l) w' ∧ Below B w w' ∧ Lib.OthersKept 5 (some b) w w') := Any.Builder_String_any_k Tryz.lays169 Tryz.Builder_Extra_169 B b l w h hBw
def Tryz.lays283_ren : Go.Shelf.Ren := ⟨fun | 283 => 141 | n => n, fun | 3 => 3 | 9 => 9 | 4 => 4 | n => n, fun | n => n⟩
theorem Tryz.lays283 : Go.Proofs.Lays.n283 Tryz.prog Tryz.lays283_ren := {
 mixed := by kernel_rfl
 f283 := Tryz.func141.trans (congrArg some (by kernel_rfl))
 t3 := Tryz.underlying3
 a3 := Tryz.isAgg3
 z3 := Tryz.sizeOf3
 v3 := Tryz.zeroValue3
 t4 := Tryz.underlying4
 a4 := Tryz.isAgg4
 z4 := Tryz.sizeOf4
 v4 := Tryz.zeroValue4
 t9 := Tryz.underlying9
 a9 := Tryz.isAgg9
 z9 := Tryz.sizeOf9
 v9 := Tryz.zeroValue9 }
open Go.Lib in
theorem Tryz.internal_strconv_small (i : Nat) (h : i < 100) (w : World) :
    Calls Tryz.prog 141 #[.int .i64 i] w fun e w' => e = .returned (.string ⟨(Lib.decDigits i).toArray⟩) ∧ w' = w := Any.internal_strconv_small Tryz.lays283 i h w
def Tryz.laysM284_ren : Go.Shelf.Ren := ⟨fun | 284 => 142 | 129 => 158 | 317 => 157 | 318 => 159 | n => n, fun | 53 => 121 | 3 => 3 | 212 => 174 | 0 => 0 | 4 => 4 | 46 => 177 | 5 => 5 | 9 => 9 | n => n, fun | 17 => 0 | n => n⟩
theorem Tryz.laysM284 : Go.Proofs.LaysM.n284 Tryz.prog Tryz.laysM284_ren := {
 mixed := by kernel_rfl
 f129 := Tryz.func158.trans (congrArg some (by kernel_rfl))
 f284 := Tryz.func142.trans (congrArg some (by kernel_rfl))
 f317 := Tryz.func157.trans (congrArg some (by kernel_rfl))
 f318 := Tryz.func159.trans (congrArg some (by kernel_rfl))
 t0 := Tryz.underlying0
 a0 := Tryz.isAgg0
 z0 := Tryz.sizeOf0
 v0 := Tryz.zeroValue0
 t3 := Tryz.underlying3
 a3 := Tryz.isAgg3
 z3 := Tryz.sizeOf3
 v3 := Tryz.zeroValue3
 t4 := Tryz.underlying4
 a4 := Tryz.isAgg4
 z4 := Tryz.sizeOf4
 v4 := Tryz.zeroValue4
 t5 := Tryz.underlying5
 a5 := Tryz.isAgg5
 z5 := Tryz.sizeOf5
 v5 := Tryz.zeroValue5
 t9 := Tryz.underlying9
 a9 := Tryz.isAgg9
 z9 := Tryz.sizeOf9
 v9 := Tryz.zeroValue9
 t46 := Tryz.underlying177
 a46 := Tryz.isAgg177
 z46 := Tryz.sizeOf177
 v46 := Tryz.zeroValue177
 t53 := Tryz.underlying121
 a53 := Tryz.isAgg121
 z53 := Tryz.sizeOf121
 v53 := Tryz.zeroValue121
 t212 := Tryz.underlying174
 a212 := Tryz.isAgg174
 z212 := Tryz.sizeOf174
 v212 := Tryz.zeroValue174
 g17 := by kernel_rfl
 i0 := by kernel_rfl
 i3 := by kernel_rfl
 i4 := by kernel_rfl
 i5 := by kernel_rfl
 i9 := by kernel_rfl
 i46 := by kernel_rfl
 i53 := by kernel_rfl
 i212 := by kernel_rfl
 m17 := by kernel_rfl }
open Go.Lib in
theorem Tryz.internal_strconv_numDigits (u : Nat) (h1 : 1 ≤ u) (h2 : u < 18446744073709551616) (w : World) (htab : Lib.TabIs Tryz.prog w "internal/strconv.uint64pow10" .u64 Lib.pow10Tab) :
    Calls Tryz.prog 142 #[.int .u64 u] w fun e w' => e = .returned (.int .i64 (Lib.nDigits u)) ∧ w' = w := Any.internal_strconv_numDigits Tryz.laysM284 u h1 h2 w htab
def Tryz.lays285_ren : Go.Shelf.Ren := ⟨fun | 285 => 143 | n => n, fun | 37 => 119 | 53 => 121 | 3 => 3 | 4 => 4 | 51 => 101 | 9 => 9 | 5 => 5 | 0 => 0 | n => n, fun | n => n⟩
theorem Tryz.lays285 : Go.Proofs.Lays.n285 Tryz.prog Tryz.lays285_ren := {
 mixed := by kernel_rfl
 f285 := Tryz.func143.trans (congrArg some (by kernel_rfl))
 t0 := Tryz.underlying0
 a0 := Tryz.isAgg0
 z0 := Tryz.sizeOf0
 v0 := Tryz.zeroValue0
 t3 := Tryz.underlying3
 a3 := Tryz.isAgg3
 z3 := Tryz.sizeOf3
 v3 := Tryz.zeroValue3
 t4 := Tryz.underlying4
 a4 := Tryz.isAgg4
 z4 := Tryz.sizeOf4
 v4 := Tryz.zeroValue4
 t5 := Tryz.underlying5
 a5 := Tryz.isAgg5
 z5 := Tryz.sizeOf5
 v5 := Tryz.zeroValue5
 t9 := Tryz.underlying9
 a9 := Tryz.isAgg9
 z9 := Tryz.sizeOf9
 v9 := Tryz.zeroValue9
 t37 := Tryz.underlying119
 a37 := Tryz.isAgg119
 z37 := Tryz.sizeOf119
 v37 := Tryz.zeroValue119
 t51 := Tryz.underlying101
 a51 := Tryz.isAgg101
 z51 := Tryz.sizeOf101
 v51 := Tryz.zeroValue101
 t53 := Tryz.underlying121
 a53 := Tryz.isAgg121
 z53 := Tryz.sizeOf121
 v53 := Tryz.zeroValue121 }
open Go.RowKit Go.Sort Go.Lib in
theorem Tryz.internal_strconv_formatBase10 (blk off cap : Nat) (u : Nat) (d : Array UInt8) (w : World) (hH : Holds (fun (b : UInt8) => Value.int .u8 (b.toNat : Int)) w blk off d) (hu : u < 10 ^ d.size) (hu64 : u < 18446744073709551616) (hsz : d.size < 4611686018427387904) :
    Calls Tryz.prog 143 #[.slice (some ⟨blk, off, none⟩) d.size cap, .int .u64 u] w fun e w' =>
     e = .returned (.tuple #[]) ∧ ∃ (n v' : Nat) (dk : Array UInt8), w' = (putRow (fun (b : UInt8) => Value.int .u8 (b.toNat : Int)) w blk off dk).drewN n ∧ FmtInv d.size u 0 v' dk := Any.internal_strconv_formatBase10 Tryz.lays285 blk off cap u d w hH hu hu64 hsz
def Tryz.laysM171_ren : Go.Shelf.Ren := ⟨fun | 171 => 92 | 243 => 115 | 246 => 127 | 283 => 141 | 284 => 142 | 285 => 143 | 286 => 144 | 129 => 158 | 317 => 157 | 318 => 159 | 319 => 160 | 320 => 161 | 337 => 177 | 338 => 178 | n => n, fun | 3 => 3 | 9 => 9 | 2 => 2 | 4 => 4 | 171 => 158 | 0 => 0 | 53 => 121 | 37 => 119 | 5 => 5 | 173 => 161 | 212 => 174 | 51 => 101 | 20 => 20 | 213 => 175 | 46 => 177 | 232 => 202 | 233 => 203 | n => n, fun | 17 => 0 | 18 => 2 | 19 => 3 | n => n⟩
theorem Tryz.laysM171 : Go.Proofs.LaysM.n171 Tryz.prog Tryz.laysM171_ren := {
 mixed := by kernel_rfl
 f129 := Tryz.func158.trans (congrArg some (by kernel_rfl))
 f171 := Tryz.func92.trans (congrArg some (by kernel_rfl))
 f243 := Tryz.func115.trans (congrArg some (by kernel_rfl))
 f246 := Tryz.func127.trans (congrArg some (by kernel_rfl))
 f283 := Tryz.func141.trans (congrArg some (by kernel_rfl))
 f284 := Tryz.func142.trans (congrArg some (by kernel_rfl))
 f285 := Tryz.func143.trans (congrArg some (by kernel_rfl))
 f286 := Tryz.func144.trans (congrArg some (by kernel_rfl))
 f317 := Tryz.func157.trans (congrArg some (by kernel_rfl))
 f318 := Tryz.func159.trans (congrArg some (by kernel_rfl))
 f319 := Tryz.func160.trans (congrArg some (by kernel_rfl))
 f320 := Tryz.func161.trans (congrArg some (by kernel_rfl))
 f337 := Tryz.func177.trans (congrArg some (by kernel_rfl))
 f338 := Tryz.func178.trans (congrArg some (by kernel_rfl))
 t0 := Tryz.underlying0
 a0 := Tryz.isAgg0
 z0 := Tryz.sizeOf0
 v0 := Tryz.zeroValue0
 t2 := Tryz.underlying2
 a2 := Tryz.isAgg2
 z2 := Tryz.sizeOf2
 v2 := Tryz.zeroValue2
 t3 := Tryz.underlying3
 a3 := Tryz.isAgg3
 z3 := Tryz.sizeOf3
 v3 := Tryz.zeroValue3
 t4 := Tryz.underlying4
 a4 := Tryz.isAgg4
 z4 := Tryz.sizeOf4
 v4 := Tryz.zeroValue4
 t5 := Tryz.underlying5
 a5 := Tryz.isAgg5
 z5 := Tryz.sizeOf5
 v5 := Tryz.zeroValue5
 t9 := Tryz.underlying9
 a9 := Tryz.isAgg9
 z9 := Tryz.sizeOf9
 v9 := Tryz.zeroValue9
 t20 := Tryz.underlying20
 a20 := Tryz.isAgg20
 z20 := Tryz.sizeOf20
 v20 := Tryz.zeroValue20
 t37 := Tryz.underlying119
 a37 := Tryz.isAgg119
 z37 := Tryz.sizeOf119
 v37 := Tryz.zeroValue119
 t46 := Tryz.underlying177
 a46 := Tryz.isAgg177
 z46 := Tryz.sizeOf177
 v46 := Tryz.zeroValue177
 t51 := Tryz.underlying101
 a51 := Tryz.isAgg101
 z51 := Tryz.sizeOf101
 v51 := Tryz.zeroValue101
 t53 := Tryz.underlying121
 a53 := Tryz.isAgg121
 z53 := Tryz.sizeOf121
 v53 := Tryz.zeroValue121
 t171 := Tryz.underlying158
 a171 := Tryz.isAgg158
 z171 := Tryz.sizeOf158
 v171 := Tryz.zeroValue158
 t173 := Tryz.underlying161
 a173 := Tryz.isAgg161
 z173 := Tryz.sizeOf161
 v173 := Tryz.zeroValue161
 t212 := Tryz.underlying174
 a212 := Tryz.isAgg174
 z212 := Tryz.sizeOf174
 v212 := Tryz.zeroValue174
 t213 := Tryz.underlying175
 a213 := Tryz.isAgg175
 z213 := Tryz.sizeOf175
 t232 := Tryz.underlying202
 a232 := Tryz.isAgg202
 z232 := Tryz.sizeOf202
 v232 := Tryz.zeroValue202
 t233 := Tryz.underlying203
 a233 := Tryz.isAgg203
 z233 := Tryz.sizeOf203
 v233 := Tryz.zeroValue203
 g17 := by kernel_rfl
 g18 := by kernel_rfl
 g19 := by kernel_rfl
 i0 := by kernel_rfl
 i2 := by kernel_rfl
 i3 := by kernel_rfl
 i4 := by kernel_rfl
 i5 := by kernel_rfl
 i9 := by kernel_rfl
 i20 := by kernel_rfl
 i37 := by kernel_rfl
 i46 := by kernel_rfl
 i51 := by kernel_rfl
 i53 := by kernel_rfl
 i171 := by kernel_rfl
 i173 := by kernel_rfl
 i212 := by kernel_rfl
 i232 := by kernel_rfl
 i233 := by kernel_rfl
 m17 := by kernel_rfl
 m18 := by kernel_rfl
 m19 := by kernel_rfl }
open Go.RowKit Go.Sort Go.Lib in
theorem Tryz.strconv_Itoa (n : Int) (h0 : -9223372036854775808 ≤ n) (h1 : n ≤ 9223372036854775807) (w : World) (htab : Lib.TabIs Tryz.prog w "internal/strconv.uint64pow10" .u64 Lib.pow10Tab) :
    Calls Tryz.prog 92 #[.int .i64 n] w fun e w' => e = .returned (.string ⟨(Lib.itoa n).toArray⟩) ∧ ∃ k os, w' = grow (w.drewN k) os := Any.strconv_Itoa Tryz.laysM171 n h0 h1 w htab
def Tryz.laysM173_ren : Go.Shelf.Ren := ⟨fun | 173 => 199 | 246 => 127 | 283 => 141 | 284 => 142 | 285 => 143 | 286 => 144 | 129 => 158 | 317 => 157 | 318 => 159 | 319 => 160 | 320 => 161 | 337 => 177 | 338 => 178 | n => n, fun | 2 => 2 | 3 => 3 | 9 => 9 | 4 => 4 | 171 => 158 | 0 => 0 | 53 => 121 | 37 => 119 | 5 => 5 | 173 => 161 | 212 => 174 | 51 => 101 | 20 => 20 | 213 => 175 | 46 => 177 | 232 => 202 | 233 => 203 | n => n, fun | 17 => 0 | 18 => 2 | 19 => 3 | n => n⟩
theorem Tryz.laysM173 : Go.Proofs.LaysM.n173 Tryz.prog Tryz.laysM173_ren := {
 mixed := by kernel_rfl
 f129 := Tryz.func158.trans (congrArg some (by kernel_rfl))
 f173 := Tryz.func199.trans (congrArg some (by kernel_rfl))
 f246 := Tryz.func127.trans (congrArg some (by kernel_rfl))
 f283 := Tryz.func141.trans (congrArg some (by kernel_rfl))
 f284 := Tryz.func142.trans (congrArg some (by kernel_rfl))
 f285 := Tryz.func143.trans (congrArg some (by kernel_rfl))
 f286 := Tryz.func144.trans (congrArg some (by kernel_rfl))
 f317 := Tryz.func157.trans (congrArg some (by kernel_rfl))
 f318 := Tryz.func159.trans (congrArg some (by kernel_rfl))
 f319 := Tryz.func160.trans (congrArg some (by kernel_rfl))
 f320 := Tryz.func161.trans (congrArg some (by kernel_rfl))
 f337 := Tryz.func177.trans (congrArg some (by kernel_rfl))
 f338 := Tryz.func178.trans (congrArg some (by kernel_rfl))
 t0 := Tryz.underlying0
 a0 := Tryz.isAgg0
 z0 := Tryz.sizeOf0
 v0 := Tryz.zeroValue0
 t2 := Tryz.underlying2
 a2 := Tryz.isAgg2
 z2 := Tryz.sizeOf2
 v2 := Tryz.zeroValue2
 t3 := Tryz.underlying3
 a3 := Tryz.isAgg3
 z3 := Tryz.sizeOf3
 v3 := Tryz.zeroValue3
 t4 := Tryz.underlying4
 a4 := Tryz.isAgg4
 z4 := Tryz.sizeOf4
 v4 := Tryz.zeroValue4
 t5 := Tryz.underlying5
 a5 := Tryz.isAgg5
 z5 := Tryz.sizeOf5
 v5 := Tryz.zeroValue5
 t9 := Tryz.underlying9
 a9 := Tryz.isAgg9
 z9 := Tryz.sizeOf9
 v9 := Tryz.zeroValue9
 t20 := Tryz.underlying20
 a20 := Tryz.isAgg20
 z20 := Tryz.sizeOf20
 v20 := Tryz.zeroValue20
 t37 := Tryz.underlying119
 a37 := Tryz.isAgg119
 z37 := Tryz.sizeOf119
 v37 := Tryz.zeroValue119
 t46 := Tryz.underlying177
 a46 := Tryz.isAgg177
 z46 := Tryz.sizeOf177
 v46 := Tryz.zeroValue177
 t51 := Tryz.underlying101
 a51 := Tryz.isAgg101
 z51 := Tryz.sizeOf101
 v51 := Tryz.zeroValue101
 t53 := Tryz.underlying121
 a53 := Tryz.isAgg121
 z53 := Tryz.sizeOf121
 v53 := Tryz.zeroValue121
 t171 := Tryz.underlying158
 a171 := Tryz.isAgg158
 z171 := Tryz.sizeOf158
 v171 := Tryz.zeroValue158
 t173 := Tryz.underlying161
 a173 := Tryz.isAgg161
 z173 := Tryz.sizeOf161
 v173 := Tryz.zeroValue161
 t212 := Tryz.underlying174
 a212 := Tryz.isAgg174
 z212 := Tryz.sizeOf174
 v212 := Tryz.zeroValue174
 t213 := Tryz.underlying175
 a213 := Tryz.isAgg175
 z213 := Tryz.sizeOf175
 t232 := Tryz.underlying202
 a232 := Tryz.isAgg202
 z232 := Tryz.sizeOf202
 v232 := Tryz.zeroValue202
 t233 := Tryz.underlying203
 a233 := Tryz.isAgg203
 z233 := Tryz.sizeOf203
 v233 := Tryz.zeroValue203
 g17 := by kernel_rfl
 g18 := by kernel_rfl
 g19 := by kernel_rfl
 i0 := by kernel_rfl
 i2 := by kernel_rfl
 i3 := by kernel_rfl
 i4 := by kernel_rfl
 i5 := by kernel_rfl
 i9 := by kernel_rfl
 i20 := by kernel_rfl
 i37 := by kernel_rfl
 i46 := by kernel_rfl
 i51 := by kernel_rfl
 i53 := by kernel_rfl
 i171 := by kernel_rfl
 i173 := by kernel_rfl
 i212 := by kernel_rfl
 i232 := by kernel_rfl
 i233 := by kernel_rfl
 m17 := by kernel_rfl
 m18 := by kernel_rfl
 m19 := by kernel_rfl }
open Go.RowKit Go.Sort Go.Lib in
theorem Tryz.strconv_FormatInt_10 (n : Int) (h0 : -9223372036854775808 ≤ n) (h1 : n ≤ 9223372036854775807) (w : World) (htab : Lib.TabIs Tryz.prog w "internal/strconv.uint64pow10" .u64 Lib.pow10Tab) :
    Calls Tryz.prog 199 #[.int .i64 n, .int .i64 10] w fun e w' => e = .returned (.string ⟨(Lib.itoa n).toArray⟩) ∧ ∃ k os, w' = grow (w.drewN k) os := Any.strconv_FormatInt_10 Tryz.laysM173 n h0 h1 w htab
def Tryz.laysC174_ren : Go.Shelf.Ren := ⟨fun | 174 => 198 | 247 => 215 | 245 => 216 | 287 => 218 | 279 => 228 | 280 => 229 | 281 => 230 | 282 => 231 | 321 => 232 | 322 => 233 | 316 => 238 | 171 => 92 | 205 => 239 | 243 => 115 | 246 => 127 | 283 => 141 | 284 => 142 | 285 => 143 | 286 => 144 | 129 => 158 | 317 => 157 | 318 => 159 | 319 => 160 | 320 => 161 | 337 => 177 | 338 => 178 | n => n, fun | 9 => 9 | 3 => 3 | 2 => 2 | 75 => 205 | 85 => 206 | 4 => 4 | 167 => 238 | 5 => 5 | 53 => 121 | 175 => 211 | 46 => 177 | 168 => 239 | 37 => 119 | 0 => 0 | 210 => 250 | 21 => 21 | 127 => 236 | 145 => 255 | 143 => 253 | 171 => 158 | 173 => 161 | 212 => 174 | 51 => 101 | 20 => 20 | 213 => 175 | 232 => 202 | 233 => 203 | 80 => 154 | n => n, fun | 15 => 4 | 16 => 5 | 17 => 0 | 18 => 2 | 19 => 3 | n => n⟩
theorem Tryz.laysC174 : Go.Proofs.LaysC.n174 Tryz.prog Tryz.laysC174_ren := {
 mixed := by kernel_rfl
 f129 := Tryz.func158.trans (congrArg some (by kernel_rfl))
 f171 := Tryz.func92.trans (congrArg some (by kernel_rfl))
 f174 := Tryz.func198.trans (congrArg some (by kernel_rfl))
 f205 := Tryz.func239.trans (congrArg some (by kernel_rfl))
 f243 := Tryz.func115.trans (congrArg some (by kernel_rfl))
 f245 := Tryz.func216.trans (congrArg some (by kernel_rfl))
 f246 := Tryz.func127.trans (congrArg some (by kernel_rfl))
 f247 := Tryz.func215.trans (congrArg some (by kernel_rfl))
 f279 := Tryz.func228.trans (congrArg some (by kernel_rfl))
 f280 := Tryz.func229.trans (congrArg some (by kernel_rfl))
 f281 := Tryz.func230.trans (congrArg some (by kernel_rfl))
 f282 := Tryz.func231.trans (congrArg some (by kernel_rfl))
 f283 := Tryz.func141.trans (congrArg some (by kernel_rfl))
 f284 := Tryz.func142.trans (congrArg some (by kernel_rfl))
 f285 := Tryz.func143.trans (congrArg some (by kernel_rfl))
 f286 := Tryz.func144.trans (congrArg some (by kernel_rfl))
 f287 := Tryz.func218.trans (congrArg some (by kernel_rfl))
 f316 := Tryz.func238.trans (congrArg some (by kernel_rfl))
 f317 := Tryz.func157.trans (congrArg some (by kernel_rfl))
 f318 := Tryz.func159.trans (congrArg some (by kernel_rfl))
 f319 := Tryz.func160.trans (congrArg some (by kernel_rfl))
 f320 := Tryz.func161.trans (congrArg some (by kernel_rfl))
 f321 := Tryz.func232.trans (congrArg some (by kernel_rfl))
 f322 := Tryz.func233.trans (congrArg some (by kernel_rfl))
 f337 := Tryz.func177.trans (congrArg some (by kernel_rfl))
 f338 := Tryz.func178.trans (congrArg some (by kernel_rfl))
 t0 := Tryz.underlying0
 a0 := Tryz.isAgg0
 z0 := Tryz.sizeOf0
 v0 := Tryz.zeroValue0
 t2 := Tryz.underlying2
 a2 := Tryz.isAgg2
 z2 := Tryz.sizeOf2
 v2 := Tryz.zeroValue2
 t3 := Tryz.underlying3
 a3 := Tryz.isAgg3
 z3 := Tryz.sizeOf3
 v3 := Tryz.zeroValue3
 t4 := Tryz.underlying4
 a4 := Tryz.isAgg4
 z4 := Tryz.sizeOf4
 v4 := Tryz.zeroValue4
 t5 := Tryz.underlying5
 a5 := Tryz.isAgg5
 z5 := Tryz.sizeOf5
 v5 := Tryz.zeroValue5
 t9 := Tryz.underlying9
 a9 := Tryz.isAgg9
 z9 := Tryz.sizeOf9
 v9 := Tryz.zeroValue9
 t20 := Tryz.underlying20
 a20 := Tryz.isAgg20
 z20 := Tryz.sizeOf20
 v20 := Tryz.zeroValue20
 t21 := Tryz.underlying21
 a21 := Tryz.isAgg21
 z21 := Tryz.sizeOf21
 v21 := Tryz.zeroValue21
 t37 := Tryz.underlying119
 a37 := Tryz.isAgg119
 z37 := Tryz.sizeOf119
 v37 := Tryz.zeroValue119
 t46 := Tryz.underlying177
 a46 := Tryz.isAgg177
 z46 := Tryz.sizeOf177
 v46 := Tryz.zeroValue177
 t51 := Tryz.underlying101
 a51 := Tryz.isAgg101
 z51 := Tryz.sizeOf101
 v51 := Tryz.zeroValue101
 t53 := Tryz.underlying121
 a53 := Tryz.isAgg121
 z53 := Tryz.sizeOf121
 v53 := Tryz.zeroValue121
 t75 := Tryz.underlying205
 a75 := Tryz.isAgg205
 z75 := Tryz.sizeOf205
 v75 := Tryz.zeroValue205
 t85 := Tryz.underlying206
 a85 := Tryz.isAgg206
 z85 := Tryz.sizeOf206
 v85 := Tryz.zeroValue206
 t127 := Tryz.underlying236
 a127 := Tryz.isAgg236
 z127 := Tryz.sizeOf236
 v127 := Tryz.zeroValue236
 t143 := Tryz.underlying253
 a143 := Tryz.isAgg253
 z143 := Tryz.sizeOf253
 v143 := Tryz.zeroValue253
 t145 := Tryz.underlying255
 a145 := Tryz.isAgg255
 z145 := Tryz.sizeOf255
 v145 := Tryz.zeroValue255
 t167 := Tryz.underlying238
 a167 := Tryz.isAgg238
 z167 := Tryz.sizeOf238
 v167 := Tryz.zeroValue238
 t168 := Tryz.underlying239
 a168 := Tryz.isAgg239
 z168 := Tryz.sizeOf239
 v168 := Tryz.zeroValue239
 t171 := Tryz.underlying158
 a171 := Tryz.isAgg158
 z171 := Tryz.sizeOf158
 v171 := Tryz.zeroValue158
 t173 := Tryz.underlying161
 a173 := Tryz.isAgg161
 z173 := Tryz.sizeOf161
 v173 := Tryz.zeroValue161
 t175 := Tryz.underlying211
 a175 := Tryz.isAgg211
 z175 := Tryz.sizeOf211
 v175 := Tryz.zeroValue211
 t210 := Tryz.underlying250
 a210 := Tryz.isAgg250
 z210 := Tryz.sizeOf250
 v210 := Tryz.zeroValue250
 t212 := Tryz.underlying174
 a212 := Tryz.isAgg174
 z212 := Tryz.sizeOf174
 v212 := Tryz.zeroValue174
 t213 := Tryz.underlying175
 a213 := Tryz.isAgg175
 z213 := Tryz.sizeOf175
 t232 := Tryz.underlying202
 a232 := Tryz.isAgg202
 z232 := Tryz.sizeOf202
 v232 := Tryz.zeroValue202
 t233 := Tryz.underlying203
 a233 := Tryz.isAgg203
 z233 := Tryz.sizeOf203
 v233 := Tryz.zeroValue203
 g15 := by kernel_rfl
 g16 := by kernel_rfl
 g17 := by kernel_rfl
 g18 := by kernel_rfl
 g19 := by kernel_rfl
 t80 := Tryz.underlying154
 a80 := Tryz.isAgg154
 z80 := Tryz.sizeOf154
 v80 := Tryz.zeroValue154
 i0 := by kernel_rfl
 i2 := by kernel_rfl
 i3 := by kernel_rfl
 i4 := by kernel_rfl
 i5 := by kernel_rfl
 i9 := by kernel_rfl
 i20 := by kernel_rfl
 i21 := by kernel_rfl
 i37 := by kernel_rfl
 i46 := by kernel_rfl
 i51 := by kernel_rfl
 i53 := by kernel_rfl
 i75 := by kernel_rfl
 i80 := by kernel_rfl
 i85 := by kernel_rfl
 i127 := by kernel_rfl
 i143 := by kernel_rfl
 i145 := by kernel_rfl
 i167 := by kernel_rfl
 i168 := by kernel_rfl
 i171 := by kernel_rfl
 i173 := by kernel_rfl
 i175 := by kernel_rfl
 i210 := by kernel_rfl
 i212 := by kernel_rfl
 i232 := by kernel_rfl
 i233 := by kernel_rfl
 m15 := by kernel_rfl
 m16 := by kernel_rfl
 m17 := by kernel_rfl
 m18 := by kernel_rfl
 m19 := by kernel_rfl
 c0 := by kernel_rfl
 c2 := by kernel_rfl
 c3 := by kernel_rfl
 c4 := by kernel_rfl
 c5 := by kernel_rfl
 c9 := by kernel_rfl
 c20 := by kernel_rfl
 c21 := by kernel_rfl
 c37 := by kernel_rfl
 c46 := by kernel_rfl
 c51 := by kernel_rfl
 c53 := by kernel_rfl
 c75 := by kernel_rfl
 c80 := by kernel_rfl
 c85 := by kernel_rfl
 c127 := by kernel_rfl
 c143 := by kernel_rfl
 c145 := by kernel_rfl
 c167 := by kernel_rfl
 c168 := by kernel_rfl
 c171 := by kernel_rfl
 c173 := by kernel_rfl
 c175 := by kernel_rfl
 c210 := by kernel_rfl
 c212 := by kernel_rfl
 c213 := by kernel_rfl
 c232 := by kernel_rfl
 c233 := by kernel_rfl }
open Go.RowKit in
theorem Tryz.strconv_ParseInt_10_at64_ok (s : ByteArray) (hmax : s.size ≤ 9223372036854775806) (v : Int) (h : Lib.parseIntB 64 s.data.toList = .ok v) (w : World) :
    Calls Tryz.prog 198 #[.string s, .int .i64 10, .int .i64 64] w fun e w' => e = .returned (.tuple #[.int .i64 v, .nilIface]) ∧ (w' = w ∨ ∃ t, w' = Lib.bytesWorld w 5 t) := Any.strconv_ParseInt_10_at64_ok Tryz.laysC174 s hmax v h w
def Tryz.laysPu14_ren : Go.Shelf.Ren := ⟨fun | 14 => 203 | 16 => 218 | 17 => 216 | 19 => 232 | 20 => 233 | 21 => 228 | 22 => 229 | 23 => 230 | 24 => 231 | 25 => 238 | 27 => 92 | 26 => 239 | 28 => 115 | 29 => 127 | 30 => 141 | 31 => 142 | 32 => 143 | 33 => 144 | 35 => 158 | 34 => 157 | 36 => 159 | 37 => 160 | 38 => 161 | 39 => 177 | 40 => 178 | n => n, fun | 9 => 9 | 3 => 3 | 22 => 121 | 24 => 205 | 25 => 211 | 4 => 4 | 34 => 238 | 5 => 5 | 36 => 177 | 37 => 119 | 0 => 0 | 39 => 239 | 21 => 21 | 44 => 250 | 47 => 236 | 50 => 255 | 48 => 253 | 2 => 2 | 52 => 158 | 55 => 161 | 59 => 174 | 60 => 101 | 20 => 20 | 61 => 175 | 65 => 202 | 66 => 203 | 67 => 154 | n => n, fun | 0 => 4 | 1 => 5 | 2 => 0 | 3 => 2 | 4 => 3 | n => n⟩
theorem Tryz.laysPu14 : Go.Proofs.LaysPu.n14 Tryz.prog Tryz.laysPu14_ren := {
 mixed := by kernel_rfl
 f14 := Tryz.func203.trans (congrArg some (by kernel_rfl))
 f16 := Tryz.func218.trans (congrArg some (by kernel_rfl))
 f17 := Tryz.func216.trans (congrArg some (by kernel_rfl))
 f19 := Tryz.func232.trans (congrArg some (by kernel_rfl))
 f20 := Tryz.func233.trans (congrArg some (by kernel_rfl))
 f21 := Tryz.func228.trans (congrArg some (by kernel_rfl))
 f22 := Tryz.func229.trans (congrArg some (by kernel_rfl))
 f23 := Tryz.func230.trans (congrArg some (by kernel_rfl))
 f24 := Tryz.func231.trans (congrArg some (by kernel_rfl))
 f25 := Tryz.func238.trans (congrArg some (by kernel_rfl))
 f26 := Tryz.func239.trans (congrArg some (by kernel_rfl))
 f27 := Tryz.func92.trans (congrArg some (by kernel_rfl))
 f28 := Tryz.func115.trans (congrArg some (by kernel_rfl))
 f29 := Tryz.func127.trans (congrArg some (by kernel_rfl))
 f30 := Tryz.func141.trans (congrArg some (by kernel_rfl))
 f31 := Tryz.func142.trans (congrArg some (by kernel_rfl))
 f32 := Tryz.func143.trans (congrArg some (by kernel_rfl))
 f33 := Tryz.func144.trans (congrArg some (by kernel_rfl))
 f34 := Tryz.func157.trans (congrArg some (by kernel_rfl))
 f35 := Tryz.func158.trans (congrArg some (by kernel_rfl))
 f36 := Tryz.func159.trans (congrArg some (by kernel_rfl))
 f37 := Tryz.func160.trans (congrArg some (by kernel_rfl))
 f38 := Tryz.func161.trans (congrArg some (by kernel_rfl))
 f39 := Tryz.func177.trans (congrArg some (by kernel_rfl))
 f40 := Tryz.func178.trans (congrArg some (by kernel_rfl))
 t0 := Tryz.underlying0
 a0 := Tryz.isAgg0
 z0 := Tryz.sizeOf0
 v0 := Tryz.zeroValue0
 i0 := by kernel_rfl
 t2 := Tryz.underlying2
 a2 := Tryz.isAgg2
 z2 := Tryz.sizeOf2
 v2 := Tryz.zeroValue2
 i2 := by kernel_rfl
 t3 := Tryz.underlying3
 a3 := Tryz.isAgg3
 z3 := Tryz.sizeOf3
 v3 := Tryz.zeroValue3
 i3 := by kernel_rfl
 t4 := Tryz.underlying4
 a4 := Tryz.isAgg4
 z4 := Tryz.sizeOf4
 v4 := Tryz.zeroValue4
 i4 := by kernel_rfl
 t5 := Tryz.underlying5
 a5 := Tryz.isAgg5
 z5 := Tryz.sizeOf5
 v5 := Tryz.zeroValue5
 i5 := by kernel_rfl
 t9 := Tryz.underlying9
 a9 := Tryz.isAgg9
 z9 := Tryz.sizeOf9
 v9 := Tryz.zeroValue9
 i9 := by kernel_rfl
 t20 := Tryz.underlying20
 a20 := Tryz.isAgg20
 z20 := Tryz.sizeOf20
 v20 := Tryz.zeroValue20
 i20 := by kernel_rfl
 t21 := Tryz.underlying21
 a21 := Tryz.isAgg21
 z21 := Tryz.sizeOf21
 v21 := Tryz.zeroValue21
 i21 := by kernel_rfl
 t22 := Tryz.underlying121
 a22 := Tryz.isAgg121
 z22 := Tryz.sizeOf121
 v22 := Tryz.zeroValue121
 i22 := by kernel_rfl
 t24 := Tryz.underlying205
 a24 := Tryz.isAgg205
 z24 := Tryz.sizeOf205
 v24 := Tryz.zeroValue205
 i24 := by kernel_rfl
 t25 := Tryz.underlying211
 a25 := Tryz.isAgg211
 z25 := Tryz.sizeOf211
 v25 := Tryz.zeroValue211
 i25 := by kernel_rfl
 t34 := Tryz.underlying238
 a34 := Tryz.isAgg238
 z34 := Tryz.sizeOf238
 v34 := Tryz.zeroValue238
 i34 := by kernel_rfl
 c34 := by kernel_rfl
 t36 := Tryz.underlying177
 a36 := Tryz.isAgg177
 z36 := Tryz.sizeOf177
 v36 := Tryz.zeroValue177
 i36 := by kernel_rfl
 t37 := Tryz.underlying119
 a37 := Tryz.isAgg119
 z37 := Tryz.sizeOf119
 v37 := Tryz.zeroValue119
 i37 := by kernel_rfl
 t39 := Tryz.underlying239
 a39 := Tryz.isAgg239
 z39 := Tryz.sizeOf239
 v39 := Tryz.zeroValue239
 i39 := by kernel_rfl
 t44 := Tryz.underlying250
 a44 := Tryz.isAgg250
 z44 := Tryz.sizeOf250
 v44 := Tryz.zeroValue250
 i44 := by kernel_rfl
 t47 := Tryz.underlying236
 a47 := Tryz.isAgg236
 z47 := Tryz.sizeOf236
 v47 := Tryz.zeroValue236
 i47 := by kernel_rfl
 t48 := Tryz.underlying253
 a48 := Tryz.isAgg253
 z48 := Tryz.sizeOf253
 v48 := Tryz.zeroValue253
 i48 := by kernel_rfl
 t50 := Tryz.underlying255
 a50 := Tryz.isAgg255
 z50 := Tryz.sizeOf255
 v50 := Tryz.zeroValue255
 i50 := by kernel_rfl
 t52 := Tryz.underlying158
 a52 := Tryz.isAgg158
 z52 := Tryz.sizeOf158
 v52 := Tryz.zeroValue158
 i52 := by kernel_rfl
 t55 := Tryz.underlying161
 a55 := Tryz.isAgg161
 z55 := Tryz.sizeOf161
 v55 := Tryz.zeroValue161
 i55 := by kernel_rfl
 t59 := Tryz.underlying174
 a59 := Tryz.isAgg174
 z59 := Tryz.sizeOf174
 v59 := Tryz.zeroValue174
 i59 := by kernel_rfl
 t60 := Tryz.underlying101
 a60 := Tryz.isAgg101
 z60 := Tryz.sizeOf101
 v60 := Tryz.zeroValue101
 i60 := by kernel_rfl
 t61 := Tryz.underlying175
 a61 := Tryz.isAgg175
 z61 := Tryz.sizeOf175
 t65 := Tryz.underlying202
 a65 := Tryz.isAgg202
 z65 := Tryz.sizeOf202
 v65 := Tryz.zeroValue202
 i65 := by kernel_rfl
 t66 := Tryz.underlying203
 a66 := Tryz.isAgg203
 z66 := Tryz.sizeOf203
 v66 := Tryz.zeroValue203
 i66 := by kernel_rfl
 t67 := Tryz.underlying154
 a67 := Tryz.isAgg154
 z67 := Tryz.sizeOf154
 v67 := Tryz.zeroValue154
 i67 := by kernel_rfl
 g0 := by kernel_rfl
 m0 := by kernel_rfl
 g1 := by kernel_rfl
 m1 := by kernel_rfl
 g2 := by kernel_rfl
 m2 := by kernel_rfl
 g3 := by kernel_rfl
 m3 := by kernel_rfl
 g4 := by kernel_rfl
 m4 := by kernel_rfl }
open Go.RowKit in
theorem Tryz.strconv_ParseUint_10_at32_ok (s : ByteArray) (hmax : s.size ≤ 9223372036854775806) (u : Nat) (h : Lib.parseUintB 32 s.data.toList = .ok u) (w : World) :
    Calls Tryz.prog 203 #[.string s, .int .i64 10, .int .i64 32] w fun e w' => e = .returned (.tuple #[.int .u64 u, .nilIface]) ∧ (w' = w ∨ w' = Lib.bytesWorld w 5 s) := Any.strconv_ParseUint_10_at32_ok Tryz.laysPu14 s hmax u h w
def Tryz.lays145_ren : Go.Shelf.Ren := ⟨fun | 145 => 137 | 220 => 154 | 219 => 175 | 217 => 191 | 225 => 192 | 224 => 193 | 267 => 194 | 266 => 212 | 314 => 213 | n => n, fun | 9 => 9 | 4 => 4 | 59 => 95 | 3 => 3 | 5 => 5 | 46 => 177 | 146 => 226 | 51 => 101 | n => n, fun | 1 => 1 | n => n⟩
theorem Tryz.lays145 : Go.Proofs.Lays.n145 Tryz.prog Tryz.lays145_ren := {
 mixed := by kernel_rfl
 f145 := Tryz.func137.trans (congrArg some (by kernel_rfl))
 f217 := Tryz.func191.trans (congrArg some (by kernel_rfl))
 f219 := Tryz.func175.trans (congrArg some (by kernel_rfl))
 f220 := Tryz.func154.trans (congrArg some (by kernel_rfl))
 f224 := Tryz.func193.trans (congrArg some (by kernel_rfl))
 f225 := Tryz.func192.trans (congrArg some (by kernel_rfl))
 f266 := Tryz.func212.trans (congrArg some (by kernel_rfl))
 f267 := Tryz.func194.trans (congrArg some (by kernel_rfl))
 f314 := Tryz.func213.trans (congrArg some (by kernel_rfl))
 t3 := Tryz.underlying3
 a3 := Tryz.isAgg3
 z3 := Tryz.sizeOf3
 v3 := Tryz.zeroValue3
 t4 := Tryz.underlying4
 a4 := Tryz.isAgg4
 z4 := Tryz.sizeOf4
 v4 := Tryz.zeroValue4
 t5 := Tryz.underlying5
 a5 := Tryz.isAgg5
 z5 := Tryz.sizeOf5
 v5 := Tryz.zeroValue5
 t9 := Tryz.underlying9
 a9 := Tryz.isAgg9
 z9 := Tryz.sizeOf9
 v9 := Tryz.zeroValue9
 t46 := Tryz.underlying177
 a46 := Tryz.isAgg177
 z46 := Tryz.sizeOf177
 v46 := Tryz.zeroValue177
 t51 := Tryz.underlying101
 a51 := Tryz.isAgg101
 z51 := Tryz.sizeOf101
 v51 := Tryz.zeroValue101
 t59 := Tryz.underlying95
 a59 := Tryz.isAgg95
 z59 := Tryz.sizeOf95
 v59 := Tryz.zeroValue95
 t146 := Tryz.underlying226
 a146 := Tryz.isAgg226
 z146 := Tryz.sizeOf226
 v146 := Tryz.zeroValue226
 g1 := by kernel_rfl }
open Go.RowKit Go.Lib in
theorem Tryz.strings_Cut (s sep : ByteArray) (m : Int) (w : World) (hs : s.size < 4294967281) (hm : w.cell? ⟨1, 0, none⟩ = some (.int .i64 m)) :
    Calls Tryz.prog 137 #[.string s, .string sep] w fun e w' => e = .returned (.tuple #[.string ⟨(Lib.cut s.data.toList sep.data.toList).1.toArray⟩, .string ⟨(Lib.cut s.data.toList sep.data.toList).2.1.toArray⟩, .bool (Lib.cut s.data.toList sep.data.toList).2.2]) ∧ ∃ n, w' = w.drewN n := Any.strings_Cut Tryz.lays145 s sep m w hs hm
def Tryz.laysM145_ren : Go.Shelf.Ren := ⟨fun | 145 => 137 | 220 => 154 | 219 => 175 | 217 => 191 | 225 => 192 | 224 => 193 | 267 => 194 | 266 => 212 | 314 => 213 | n => n, fun | 9 => 9 | 4 => 4 | 59 => 95 | 3 => 3 | 5 => 5 | 46 => 177 | 146 => 226 | 51 => 101 | n => n, fun | 1 => 1 | n => n⟩
theorem Tryz.laysM145 : Go.Proofs.LaysM.n145 Tryz.prog Tryz.laysM145_ren := {
 mixed := by kernel_rfl
 f145 := Tryz.func137.trans (congrArg some (by kernel_rfl))
 f217 := Tryz.func191.trans (congrArg some (by kernel_rfl))
 f219 := Tryz.func175.trans (congrArg some (by kernel_rfl))
 f220 := Tryz.func154.trans (congrArg some (by kernel_rfl))
 f224 := Tryz.func193.trans (congrArg some (by kernel_rfl))
 f225 := Tryz.func192.trans (congrArg some (by kernel_rfl))
 f266 := Tryz.func212.trans (congrArg some (by kernel_rfl))
 f267 := Tryz.func194.trans (congrArg some (by kernel_rfl))
 f314 := Tryz.func213.trans (congrArg some (by kernel_rfl))
 t3 := Tryz.underlying3
 a3 := Tryz.isAgg3
 z3 := Tryz.sizeOf3
 v3 := Tryz.zeroValue3
 t4 := Tryz.underlying4
 a4 := Tryz.isAgg4
 z4 := Tryz.sizeOf4
 v4 := Tryz.zeroValue4
 t5 := Tryz.underlying5
 a5 := Tryz.isAgg5
 z5 := Tryz.sizeOf5
 v5 := Tryz.zeroValue5
 t9 := Tryz.underlying9
 a9 := Tryz.isAgg9
 z9 := Tryz.sizeOf9
 v9 := Tryz.zeroValue9
 t46 := Tryz.underlying177
 a46 := Tryz.isAgg177
 z46 := Tryz.sizeOf177
 v46 := Tryz.zeroValue177
 t51 := Tryz.underlying101
 a51 := Tryz.isAgg101
 z51 := Tryz.sizeOf101
 v51 := Tryz.zeroValue101
 t59 := Tryz.underlying95
 a59 := Tryz.isAgg95
 z59 := Tryz.sizeOf95
 v59 := Tryz.zeroValue95
 t146 := Tryz.underlying226
 a146 := Tryz.isAgg226
 z146 := Tryz.sizeOf226
 v146 := Tryz.zeroValue226
 g1 := by kernel_rfl
 i3 := by kernel_rfl
 i4 := by kernel_rfl
 i5 := by kernel_rfl
 i9 := by kernel_rfl
 i46 := by kernel_rfl
 i51 := by kernel_rfl
 i59 := by kernel_rfl
 i146 := by kernel_rfl
 m1 := by kernel_rfl
 s1_3 := fun w h => Go.Proofs.cell_of_shapedOpen_int (zero := #[.int .i64 0]) (t := 3) h (of_decide_eq_true (by kernel_rfl)) (by kernel_rfl) rfl (by kernel_rfl) (by kernel_rfl) Tryz.underlying3 }
def Tryz.lays105_ren : Go.Shelf.Ren := ⟨fun | 105 => 207 | 212 => 222 | 99 => 223 | 165 => 224 | 166 => 206 | 170 => 225 | 169 => 208 | 263 => 235 | 264 => 236 | 206 => 202 | 240 => 221 | 241 => 237 | 276 => 234 | 277 => 240 | n => n, fun | 9 => 9 | 3 => 3 | 4 => 4 | 20 => 20 | 0 => 0 | 46 => 177 | 109 => 233 | 5 => 5 | 72 => 215 | 76 => 220 | 51 => 101 | 146 => 226 | 53 => 121 | 148 => 246 | 70 => 213 | 37 => 119 | 75 => 205 | 127 => 236 | 164 => 243 | 80 => 154 | n => n, fun | n => n⟩
theorem Tryz.lays105 : Go.Proofs.Lays.n105 Tryz.prog Tryz.lays105_ren := {
 mixed := by kernel_rfl
 f99 := Tryz.func223.trans (congrArg some (by kernel_rfl))
 f105 := Tryz.func207.trans (congrArg some (by kernel_rfl))
 f165 := Tryz.func224.trans (congrArg some (by kernel_rfl))
 f166 := Tryz.func206.trans (congrArg some (by kernel_rfl))
 f169 := Tryz.func208.trans (congrArg some (by kernel_rfl))
 f170 := Tryz.func225.trans (congrArg some (by kernel_rfl))
 f206 := Tryz.func202.trans (congrArg some (by kernel_rfl))
 f212 := Tryz.func222.trans (congrArg some (by kernel_rfl))
 f240 := Tryz.func221.trans (congrArg some (by kernel_rfl))
 f241 := Tryz.func237.trans (congrArg some (by kernel_rfl))
 f263 := Tryz.func235.trans (congrArg some (by kernel_rfl))
 f264 := Tryz.func236.trans (congrArg some (by kernel_rfl))
 f276 := Tryz.func234.trans (congrArg some (by kernel_rfl))
 f277 := Tryz.func240.trans (congrArg some (by kernel_rfl))
 t0 := Tryz.underlying0
 a0 := Tryz.isAgg0
 z0 := Tryz.sizeOf0
 v0 := Tryz.zeroValue0
 t3 := Tryz.underlying3
 a3 := Tryz.isAgg3
 z3 := Tryz.sizeOf3
 v3 := Tryz.zeroValue3
 t4 := Tryz.underlying4
 a4 := Tryz.isAgg4
 z4 := Tryz.sizeOf4
 v4 := Tryz.zeroValue4
 t5 := Tryz.underlying5
 a5 := Tryz.isAgg5
 z5 := Tryz.sizeOf5
 v5 := Tryz.zeroValue5
 t9 := Tryz.underlying9
 a9 := Tryz.isAgg9
 z9 := Tryz.sizeOf9
 v9 := Tryz.zeroValue9
 t20 := Tryz.underlying20
 a20 := Tryz.isAgg20
 z20 := Tryz.sizeOf20
 v20 := Tryz.zeroValue20
 t37 := Tryz.underlying119
 a37 := Tryz.isAgg119
 z37 := Tryz.sizeOf119
 v37 := Tryz.zeroValue119
 t46 := Tryz.underlying177
 a46 := Tryz.isAgg177
 z46 := Tryz.sizeOf177
 v46 := Tryz.zeroValue177
 t51 := Tryz.underlying101
 a51 := Tryz.isAgg101
 z51 := Tryz.sizeOf101
 v51 := Tryz.zeroValue101
 t53 := Tryz.underlying121
 a53 := Tryz.isAgg121
 z53 := Tryz.sizeOf121
 v53 := Tryz.zeroValue121
 t70 := Tryz.underlying213
 a70 := Tryz.isAgg213
 z70 := Tryz.sizeOf213
 v70 := Tryz.zeroValue213
 t72 := Tryz.underlying215
 a72 := Tryz.isAgg215
 z72 := Tryz.sizeOf215
 v72 := Tryz.zeroValue215
 t75 := Tryz.underlying205
 a75 := Tryz.isAgg205
 z75 := Tryz.sizeOf205
 v75 := Tryz.zeroValue205
 t76 := Tryz.underlying220
 a76 := Tryz.isAgg220
 z76 := Tryz.sizeOf220
 v76 := Tryz.zeroValue220
 t109 := Tryz.underlying233
 a109 := Tryz.isAgg233
 z109 := Tryz.sizeOf233
 v109 := Tryz.zeroValue233
 t127 := Tryz.underlying236
 a127 := Tryz.isAgg236
 z127 := Tryz.sizeOf236
 v127 := Tryz.zeroValue236
 t146 := Tryz.underlying226
 a146 := Tryz.isAgg226
 z146 := Tryz.sizeOf226
 v146 := Tryz.zeroValue226
 t148 := Tryz.underlying246
 a148 := Tryz.isAgg246
 z148 := Tryz.sizeOf246
 v148 := Tryz.zeroValue246
 t164 := Tryz.underlying243
 a164 := Tryz.isAgg243
 z164 := Tryz.sizeOf243
 v164 := Tryz.zeroValue243 }
theorem Tryz.Builder_Extra_105 : Builder.Extra Tryz.prog Tryz.lays105_ren := {
 sizeBuilder := by kernel_rfl
 liesBuilder := by kernel_rfl
 t5 := Tryz.underlying5
 a5 := Tryz.isAgg5
 z5 := Tryz.sizeOf5
 v5 := Tryz.zeroValue5
 infoByte := by kernel_rfl
 cellsByte := by kernel_rfl
 sizeByte := by kernel_rfl
 neB5 := by decide }
open Go.RowKit Go.Lib in
theorem Tryz.strings_Repeat (s : ByteArray) (c : Nat) (w : World) (hc : c ≤ 9223372036854775807) (hlen : s.size * c ≤ 140737488355328) :
    Calls Tryz.prog 207 #[.string s, .int .i64 c] w fun e w' => e = .returned (.string ⟨(Lib.repeatL s.data.toList c).toArray⟩) ∧ Below w.heap.size w w' := Any.strings_Repeat Tryz.lays105 Tryz.Builder_Extra_105 s c w hc hlen
end Go.Proofs
namespace Go.Proofs
open Go.Shelf Go.RowKit
theorem Tryz.WriteString_k (B b : Nat) (bs : List Value) (s : ByteArray) (w : World) (h : Lib.IsBuilderF 215 5 B b bs w) (hlen : bs.length + s.size ≤ 140737488355328) (hBw : B ≤ w.heap.size) :
    Calls Tryz.prog 206 #[.pointer (some ⟨b, 0, none⟩), .string s] w fun e w' => e = .returned (.tuple #[.int .i64 s.size, .nilIface]) ∧ (Lib.BuilderAtF 215 5 B b (.pointer (some ⟨b, 0, none⟩)) (bs ++ Lib.strCells s) w' ∧ Below B w w' ∧ Lib.OthersKept 5 (some b) w w') := Any.Builder_WriteString_k { Tryz.lays105 with } Tryz.Builder_Extra_105 B b bs s w h hlen hBw
end Go.Proofs
namespace Go.Proofs
open Go.Shelf Go.RowKit Go.Sort Go.Lib
set_option maxHeartbeats 6400000 in
set_option maxRecDepth 100000 in
theorem Tryz.internal_FormatUint (u : Nat) (h1 : u < 18446744073709551616) (w : World)
    (htab : Lib.TabIs Tryz.prog w "internal/strconv.uint64pow10" .u64 Lib.pow10Tab) :
    Calls Tryz.prog 220 #[.int .u64 u, .int .i64 10] w fun e w' => e = .returned (.string ⟨(Lib.decDigits u).toArray⟩) ∧ ∃ k os, w' = grow (w.drewN k) os := by
 by_cases hs : u < 100
 · go_enter Tryz.func220, Tryz.ntmps220
   go_wp2_with (go_at_call 141; refine (Tryz.internal_strconv_small u hs _).mono ?_; rintro e w' ⟨rfl, rfl⟩)
   go_ret
   exact ⟨rfl, 0, #[], by simp [World.drewN_zero]⟩
 · have hu1 : 1 ≤ u := by omega
   have hnd20 : Lib.nDigits u ≤ 20 := by have := Lib.numDigits_eq u hu1 h1; split at this <;> omega
   have hal : Tryz.prog.arrayLen 158 = 24 := by kernel_rfl
   have hsl1 : ∀ W, (Instr.sliceAt 158 (.pointer (some ⟨w.heap.size, 0, none⟩)) none (some (.int .i64 (Lib.nDigits u : Int))) none).run Tryz.prog W = .ok (.slice (some ⟨w.heap.size, 0, none⟩) (Lib.nDigits u) 24) W := fun W => by
    rw [run_sliceAt_array_h W 158 ⟨w.heap.size, 0, none⟩ (by kernel_rfl) .i64 (Lib.nDigits u : Int) (by omega) (by rw [hal]; omega)]
    go_simp
   have hH0 : Holds (fun (b : UInt8) => Value.int .u8 (b.toNat : Int)) (w.alloc (.cells Lib.zeros24 158)) w.heap.size 0 (Array.replicate (Lib.nDigits u) 0) := fun j hj => by
    have hj' : j < Lib.nDigits u := by simpa using hj
    refine ⟨?_, World.frozen?_alloc_new _ _ _ _⟩
    rw [World.cell?_alloc_new, Lib.zeros24_at _ (by omega), getElem!_pos _ j hj]
    simp
   have hfmt := Tryz.internal_strconv_formatBase10 w.heap.size 0 24 u (Array.replicate (Lib.nDigits u) 0) (w.alloc (.cells Lib.zeros24 158)) hH0 (by rw [Array.size_replicate]; exact Lib.lt_pow_nDigits u) h1 (by rw [Array.size_replicate]; omega)
   rw [Array.size_replicate] at hfmt
   have HH0 := Lib.hid hH0
   clear hH0 hal
   go_enter Tryz.func220, Tryz.ntmps220
   go_wp2_with (go_at_call 142; refine (Tryz.internal_strconv_numDigits u hu1 h1 _ (Lib.tabIs_alloc htab _)).mono ?_; rintro e w' ⟨rfl, rfl⟩)
   go_at_call 143
   refine hfmt.mono ?_
   rintro e w' ⟨rfl, k, v', dk, rfl, hF⟩
   have hcv : (convert 119 9 (.slice (some ⟨w.heap.size, 0, none⟩) (Lib.nDigits u) 24)).run Tryz.prog ((putRow (fun (b : UInt8) => Value.int .u8 (b.toNat : Int)) (w.alloc (.cells Lib.zeros24 158)) w.heap.size 0 dk).drewN k) = .ok (.string ⟨(Lib.decDigits u).toArray⟩) ((putRow (fun (b : UInt8) => Value.int .u8 (b.toNat : Int)) (w.alloc (.cells Lib.zeros24 158)) w.heap.size 0 dk).drewN k) := by
    have h := run_convert_bytes_back (P := Tryz.prog) ((putRow (fun (b : UInt8) => Value.int .u8 (b.toNat : Int)) (w.alloc (.cells Lib.zeros24 158)) w.heap.size 0 dk).drewN k) 119 9 5 ⟨w.heap.size, 0, none⟩ 24 (Lib.decDigits u) (by kernel_rfl) (by kernel_rfl) (by kernel_rfl) (fun j hj => by
     rw [Lib.row_is_numeral hF j hj, Lib.add_plain, World.cell?_drewN]
     exact cell?_putRow (fun (b : UInt8) => Value.int .u8 (b.toNat : Int)) _ w.heap.size 0 _ dk HH0.out (by rw [hF.size, Array.size_replicate]) j (by rw [hF.size]; rw [Lib.decDigits_length] at hj; exact hj))
    rw [Lib.decDigits_length] at h
    exact h
   go_wp2
   go_ret
   obtain ⟨os, eo⟩ := (by
    rw [alloc_eq_grow]
    obtain ⟨os', _, e⟩ := putRow_grow_new (fun (b : UInt8) => Value.int .u8 (b.toNat : Int)) w #[.cells Lib.zeros24 158] w.heap.size 0 dk (Nat.le_refl _)
    exact ⟨os', by rw [e]; rfl⟩ : ∃ os, (putRow (fun (b : UInt8) => Value.int .u8 (b.toNat : Int)) (w.alloc (.cells Lib.zeros24 158)) w.heap.size 0 dk).drewN k = grow (w.drewN k) os)
   exact ⟨rfl, k, os, eo⟩
set_option maxRecDepth 100000 in
theorem Tryz.strconv_FormatUint (u : Nat) (h1 : u < 18446744073709551616) (w : World)
    (htab : Lib.TabIs Tryz.prog w "internal/strconv.uint64pow10" .u64 Lib.pow10Tab) :
    Calls Tryz.prog 205 #[.int .u64 u, .int .i64 10] w fun e w' => e = .returned (.string ⟨(Lib.decDigits u).toArray⟩) ∧ ∃ k os, w' = grow (w.drewN k) os := by
 go_enter Tryz.func205, Tryz.ntmps205
 go_wp2_with (go_at_call 220; refine (Tryz.internal_FormatUint u h1 _ htab).mono ?_; rintro e w' ⟨rfl, k, os, rfl⟩)
 go_ret
 exact ⟨rfl, k, os, rfl⟩
end Go.Proofs
namespace Go.Proofs
open Go.RowKit Go.Shelf
attribute [local go_sem] Oper.semAt_some
def upto {α : Type} (f : Nat → α) (k : Nat) : List α := (List.range k).map f
theorem upto_succ {α : Type} (f : Nat → α) (k : Nat) : upto f (k + 1) = upto f k ++ [f k] := by simp [upto, List.range_succ]
theorem upto_length {α : Type} (f : Nat → α) (k : Nat) : (upto f k).length = k := by simp [upto]
def down {len : Nat} (h : 0 < len) (j : Nat) : { m : Nat // m < len } := ⟨len - 1 - j, by omega⟩
set_option maxRecDepth 100000 in
set_option maxHeartbeats 2000000 in
theorem back1_in (F : Fence) (n : Nat) (h7 : F.fn 219) (hro : F.round = none) (hn : 1 ≤ n) (l Bs len cap : Nat) (h1 : 0 < len) (a : Addr) (z : Nat → Int) (hreach : len * 4 ≤ 140737488351232) (Kp : World → World → Prop)
    (Bx : World → Prop) (hBx : ∀ W, Bx W → W.cell? ⟨Bs, 0, none⟩ = some (.slice (some a) len cap) ∧ ∀ j, j < len → W.cell? (a.add j) = some (.int .u32 (z j)))
    (hKp : ∀ W W', Bx W → Kp W W' → Bx W') (J Jx : List { m : Nat // m < len } → World → Prop)
    (hY : ∀ pre x W, J pre W → pre.length < len → YieldAt F (n - 1) Tryz.prog l #[.int .i64 (x.1 : Nat), .int .u32 (z x.1)] W fun e W' =>
     (e = .returned (.bool true) ∧ J (pre ++ [x]) W' ∧ Kp W W') ∨ (e = .returned (.bool false) ∧ Jx (pre ++ [x]) W'))
    (W : World) (hW : Bx W) (h0 : J [] W) :
    CallsIn F n Tryz.prog 219 #[.func (.yield l) #[] #[], .pointer (some ⟨Bs, 0, none⟩)] W fun e W' => (∃ v, e = .returned v) ∧
     ((∃ ys, ys = upto (down h1) len ∧ J ys W') ∨ (∃ pre, (∃ k, k ≤ len ∧ pre = upto (down h1) k) ∧ Jx pre W')) := by
 refine callsIn_of_wp Tryz.func219 rfl h7 ?_ hro
 simp only [Tryz.ntmps219, List.size_toArray, List.length_cons, List.length_nil, Nat.reduceAdd, Nat.reduceSub, Array.replicate_succ, Array.replicate_zero, List.push_toArray, List.append_toArray, List.nil_append, List.cons_append]
 have hs := (hBx W hW).1
 gi_wp2
 gi_loopw [3] (fun i wr => ∃ k : Nat, k ≤ len ∧ i = .int .i64 ((len : Int) - 1 - k) ∧ J (upto (down h1) k) wr ∧ Bx wr)
  (fun i _ => (intOf i + 1).toNat)
 case atStart => exact ⟨0, Nat.zero_le _, by simp, h0, hW⟩
 case round =>
  obtain ⟨k, hk, rfl, hJs, hnx⟩ := hrel
  have hs' := (hBx _ hnx).1
  by_cases hlt : k < len
  · obtain ⟨m, hm⟩ : ∃ m : Nat, m + k + 1 = len := ⟨len - 1 - k, by omega⟩
    have hcx' := (hBx _ hnx).2 m (by omega)
    have hi : ((len : Int) - 1 - k) = (m : Int) := by omega
    have hmk : len - 1 - k = m := by omega
    have hml : m < len := by omega
    rw [hi]
    clear hBx hi
    obtain ⟨fn, tmps, assign, body, hy, hR⟩ := hY _ ⟨m, hml⟩ wr hJs (by rw [upto_length]; exact hlt)
    dsimp only at hy
    have hmk := Lib.hid hmk
    gi_wp2
    refine hR.mono ?_
    rintro e W3 (⟨rfl, hJ3, hk3⟩ | ⟨rfl, hJx3⟩)
    · -- THE ROUND GOES ON
      gi_wp2
      go_roundw
      case rel => exact ⟨k + 1, by omega, by simp; omega, by rw [upto_succ, show down h1 k = ⟨m, hml⟩ from Subtype.ext hmk.out]; exact hJ3, hKp _ _ hnx hk3⟩
      case measure => simp [intOf]
    · gi_wp2
      refine bodyPost_ret (results_none rfl _ _ _) rfl ?_
      exact ⟨⟨_, rfl⟩, .inr ⟨_, ⟨k + 1, by omega, by rw [upto_succ, show down h1 k = ⟨m, hml⟩ from Subtype.ext hmk.out]⟩, hJx3⟩⟩
  · obtain rfl : k = len := by omega
    have hi : ((k : Int) - 1 - k) = -1 := by omega
    rw [hi]
    gi_wp2
    go_end0
    exact ⟨⟨_, rfl⟩, .inl ⟨_, rfl, hJs⟩⟩
set_option maxHeartbeats 1000000 in
theorem back_in (F : Fence) (n : Nat) (h5 : F.fn 204) (hro : F.round = none) (a : Option Addr) (len cap : Nat) (w : World) :
    CallsIn F n Tryz.prog 204 #[.slice a len cap] w fun e w' => e = .returned (.func (.func 219) #[] #[.pointer (some ⟨w.heap.size, 0, none⟩)]) ∧ w' = w.alloc (.cells #[.slice a len cap] 182) := by
 refine callsIn_of_wp Tryz.func204 rfl h5 ?_ hro
 simp only [Tryz.ntmps204, List.size_toArray, List.length_cons, List.length_nil, Nat.reduceAdd, Nat.reduceSub, Array.replicate_succ, Array.replicate_zero, List.push_toArray, List.append_toArray, List.nil_append, List.cons_append]
 gi_wp2
 go_ret
 exact ⟨rfl, rfl⟩
def Bx (Bs len cap : Nat) (a : Addr) (z : Nat → Int) (W : World) : Prop := W.cell? ⟨Bs, 0, none⟩ = some (.slice (some a) len cap) ∧ ∀ j, j < len → W.cell? (a.add j) = some (.int .u32 (z j))
theorem add_blk (a : Addr) (n : Nat) : (a.add n).block = a.block := by unfold Addr.add; split <;> rfl
theorem Bx.below {Bs len cap : Nat} {a : Addr} {z : Nat → Int} {w W : World} (h : Bx Bs len cap a z w) (hB : Bs < w.heap.size) (ha : a.block < w.heap.size) (hb : Below w.heap.size w W) : Bx Bs len cap a z W :=
 ⟨(hb.cell (p := ⟨Bs, 0, none⟩) hB).trans h.1, fun j hj => (hb.cell (p := a.add j) (by rw [add_blk]; exact ha)).trans (h.2 j hj)⟩
theorem back_stops (F : Fence) (n : Nat) (h7 : F.fn 219) (hro : F.round = none) (hn : 1 ≤ n) (Bs len cap : Nat) (h1 : 0 < len) (a : Addr) (z : Nat → Int) (hreach : len * 4 ≤ 140737488351232) (w : World) (hB : Bs < w.heap.size) (ha : a.block < w.heap.size) (hbx : Bx Bs len cap a z w) :
    SeqStopsK F n Tryz.prog 219 #[.pointer (some ⟨Bs, 0, none⟩)] (fun x : { m : Nat // m < len } => #[Value.int .i64 (x.1 : Nat), Value.int .u32 (z x.1)]) (fun W W' => Bx Bs len cap a z W → Bx Bs len cap a z W') (fun ys => ys = upto (down h1) len) (fun _ => True) len w := fun l J Jx W hW _ _ hY h0 =>
 (back1_in F n h7 hro hn l Bs len cap h1 a z hreach _ (Bx Bs len cap a z) (fun W h => h) (fun W W' h hk => hk h) J Jx hY W (hbx.below hB ha hW) h0).mono fun e W' ⟨he, h⟩ => ⟨he, h.imp id fun ⟨pre, _, hj⟩ => ⟨pre, trivial, hj⟩⟩
end Go.Proofs
namespace Go.Proofs
open Go.RowKit Go.Shelf Go.Sort
attribute [local go_sem] Oper.semAt_some
theorem decD : ∀ u : Nat, Lib.decDigits u = Gb.dec u := by
 intro u
 induction u using Nat.strongRecOn with
 | _ u ih =>
  unfold Lib.decDigits Gb.dec
  split
  · rfl
  · rw [ih (u / 10) (by omega)]
def piece (len : Nat) (z : Nat → Int) (m : Nat) : List UInt8 := (if m + 1 < len then List.replicate (9 - (Gb.dec (z m).toNat).length) 48 else []) ++ Gb.dec (z m).toNat
def txt (len : Nat) (z : Nat → Int) (pre : List { m : Nat // m < len }) : List UInt8 := (pre.map fun x => piece len z x.1).flatten
theorem txt_snoc {len : Nat} {z : Nat → Int} {pre : List { m : Nat // m < len }} {x : { m : Nat // m < len }} : txt len z (pre ++ [x]) = txt len z pre ++ piece len z x.1 := by simp [txt]
theorem tab_below {w W : World} {nm : String} {k : IntKind} {zs : List Int} (h : Lib.TabIs Tryz.prog w nm k zs) (hb : Below w.heap.size w W) : Lib.TabIs Tryz.prog W nm k zs := by
 unfold Lib.TabIs World.var? at *
 cases hg : Tryz.prog.globalNamed nm with
 | none => rw [hg] at h; cases h
 | some g =>
  rw [hg] at h
  simp only [Option.bind_some] at h ⊢
  cases hh : w.heap[g]? with
  | none => rw [hh] at h; cases h
  | some o => rw [hb.block g (Array.getElem?_eq_some_iff.1 hh).1, hh]; rw [hh] at h; exact h
theorem row_kept {W W' : World} {row : Option Nat} {b : Nat} {cs : Array Value} {T : TypeId} {fz : Nat × Nat} (h : W.heap[b]? = some (.cells cs T fz)) (hg : W.grownBy W' row) (hr : ∀ r, row = some r → ∃ o : Obj, W.heap[r]? = some o ∧ o.isCells = false) : W'.heap[b]? = some (.cells cs T fz) ∧ some b ≠ row := by
 have hne : some b ≠ row := fun e => by
  obtain ⟨o, ho, hc⟩ := hr b e.symm
  rw [h] at ho; cases ho; cases hc
 exact ⟨(hg.block b (Array.getElem?_eq_some_iff.1 h).1 hne).trans h, hne⟩
theorem isB_kept {W W' : World} {row : Option Nat} {T e B b : Nat} {bs : List Value} (h : Lib.IsBuilderF T e B b bs W) (hg : W.grownBy W' row) (hr : ∀ r, row = some r → ∃ o : Obj, W.heap[r]? = some o ∧ o.isCells = false) : Lib.IsBuilderF T e B b bs W' := by
 have at' : ∀ p, Lib.BuilderAtF T e B b p bs W → Lib.BuilderAtF T e B b p bs W' := by
  rintro p ⟨hB, v, hb, ho, hn⟩
  refine ⟨hB, v, (row_kept hb hg hr).1, ho.kept hg ?_, hn⟩
  rcases ho.2 with ⟨rfl, _⟩ | ⟨g, cap, cur, fz, rfl, _, hgg, _⟩
  · exact .inl rfl
  · exact .inr (row_kept hgg hg hr).2
 exact h.imp (at' _) (at' _)
theorem grown_of_below {W W' : World} (h : Below W.heap.size W W') : W.grownBy W' none := ⟨h.os, h.tape, h.output, h.size, fun k hk _ => h.block k hk⟩
theorem isB_below {W W' : World} {T e B b : Nat} {bs : List Value} (h : Lib.IsBuilderF T e B b bs W) (hb : Below W.heap.size W W') : Lib.IsBuilderF T e B b bs W' := isB_kept h (grown_of_below hb) (fun r e => by cases e)
theorem below_grow (w : World) (k : Nat) (os : Array Obj) : Below w.heap.size w (grow (w.drewN k) os) :=
 ⟨rfl, rfl, rfl, by simp [grow, World.drewN], fun b hb => by
  show (w.heap ++ os)[b]? = _
  rw [Array.getElem?_append_left hb]⟩
theorem piece_len {len : Nat} {z : Nat → Int} {m : Nat} (h : 0 ≤ z m ∧ z m < 1000000000) : (piece len z m).length ≤ 9 := by
 have : (Gb.dec (z m).toNat).length ≤ 9 := Gb.dec_length (by omega) (by omega)
 unfold piece
 split <;> simp <;> omega
theorem txt_len {len : Nat} {z : Nat → Int} (hz : ∀ j, j < len → 0 ≤ z j ∧ z j < 1000000000) : ∀ pre : List { m : Nat // m < len }, (txt len z pre).length ≤ pre.length * 9
 | [] => Nat.le_refl _
 | x :: pre => by
  have h1 := txt_len hz pre
  have h2 := piece_len (len := len) (hz x.1 x.2)
  have : txt len z (x :: pre) = piece len z x.1 ++ txt len z pre := by simp [txt]
  rw [this, List.length_append, List.length_cons]; omega
theorem rep48 (n : Nat) : Lib.repeatL [48] n = List.replicate n (48 : UInt8) := by
 induction n with
 | zero => rfl
 | succ n ih => show 48 :: Lib.repeatL [48] n = _; rw [ih]; rfl
set_option maxRecDepth 100000 in
set_option maxHeartbeats 4000000 in
theorem text_raw (len cap : Nat) (hl : 0 < len) (hreach : len * 9 ≤ 140737488355328) (a : Addr) (z : Nat → Int) (hz : ∀ j, j < len → 0 ≤ z j ∧ z j < 1000000000) (w : World) (ha : a.block < w.heap.size)
    (hc : ∀ j, j < len → w.cell? (a.add j) = some (.int .u32 (z j))) (htab : Lib.TabIs Tryz.prog w "internal/strconv.uint64pow10" .u64 Lib.pow10Tab) :
    Calls Tryz.prog 186 #[.slice (some a) len cap] w fun e w' => e = .returned (.string ⟨(txt len z (upto (down hl) len)).toArray⟩) ∧ Below w.heap.size w w' := by
 refine (callsIn_wide (n := 3)).1 ?_
 have h1 : 1 ≤ 3 := by omega
 refine callsIn_of_wp_marks Tryz.func186 rfl trivial ?_ rfl
 simp only [Tryz.ntmps186, List.size_toArray, List.length_cons, List.length_nil, Nat.reduceAdd, Nat.reduceSub, Array.replicate_succ, Array.replicate_zero, List.push_toArray, List.append_toArray, List.nil_append, List.cons_append]
 gi_wp2_with (refine ⟨trivial, ?_⟩; gi_at_call 204; refine (back_in Fence.wide _ trivial rfl _ _ _ _).mono ?_; rintro e w' ⟨rfl, rfl⟩)
 obtain ⟨W0, hW0⟩ : ∃ W0, W0 = ((w.alloc (.cells #[.slice (some a) len cap] 182)).alloc (.cells #[.pointer none, .slice none 0 0] 215)).alloc (.cells #[.slice (some a) len cap] 182) := ⟨_, rfl⟩
 rw [← hW0]
 have hsz : W0.heap.size = w.heap.size + 1 + 1 + 1 := by rw [hW0]; simp
 have hbel : Below w.heap.size w W0 := by rw [hW0]; exact (((Below.refl _ w).alloc (Nat.le_refl _) _).alloc (by simp) _).alloc (by simp; omega) _
 have hb2 : W0.heap[w.heap.size + 1 + 1]? = some (.cells #[.slice (some a) len cap] 182 (0, 0)) := by
  rw [hW0]; have := World.alloc_heap_new ((w.alloc (.cells #[.slice (some a) len cap] 182)).alloc (.cells #[.pointer none, .slice none 0 0] 215)) (.cells #[.slice (some a) len cap] 182); rwa [World.size_alloc, World.size_alloc] at this
 have hbb : W0.heap[w.heap.size + 1]? = some (.cells #[.pointer none, .slice none 0 0] 215 (0, 0)) := by
  rw [hW0, Below.heap_alloc _ _ _ (by simp)]; have := World.alloc_heap_new (w.alloc (.cells #[.slice (some a) len cap] 182)) (.cells #[.pointer none, .slice none 0 0] 215); rwa [World.size_alloc] at this
 have hb1 : W0.heap[w.heap.size]? = some (.cells #[.slice (some a) len cap] 182 (0, 0)) := by
  rw [hW0, Below.heap_alloc _ _ _ (by simp; omega), Below.heap_alloc _ _ _ (by simp)]; exact World.alloc_heap_new _ _
 have hbx : Bx (w.heap.size + 1 + 1) len cap a z W0 := ⟨by simp [World.cell?, hb2], fun j hj => (hbel.cell (p := a.add j) (by rw [add_blk]; exact ha)).trans (hc j hj)⟩
 have hbd : Lib.IsBuilderF 215 5 w.heap.size (w.heap.size + 1) (Lib.byteCells (txt len z [])) W0 := Lib.IsBuilderF.of (.inl ⟨by omega, _, hbb, World.ownsRow_nil _ _ _ _, by simp [Value.ownBlock]⟩)
 clear hW0 hc
 refine wpIn_rangeFunc_ownF rfl (by omega) (gf := 219) (lb := #[.pointer (some ⟨w.heap.size + 1 + 1, 0, none⟩)]) rfl trivial (enters_of Tryz.func219 (by kernel_rfl) rfl)
  (back_stops Fence.wide _ trivial rfl (by omega) (w.heap.size + 1 + 1) len cap hl a z (by omega) W0 (by omega) (by omega) hbx) (fun h k x => k (h x)) ?hKb (Below.refl _ _) (fun _ => rfl)
  (fun pre W => Lib.IsBuilderF 215 5 w.heap.size (w.heap.size + 1) (Lib.byteCells (txt len z pre)) W ∧ W.heap[w.heap.size]? = some (.cells #[.slice (some a) len cap] 182 (0, 0)) ∧ W.heap[w.heap.size + 1 + 1]? = some (.cells #[.slice (some a) len cap] 182 (0, 0)) ∧ Below w.heap.size w W)
  (fun _ _ _ => False) ?hI ?hIx ⟨hbd, hb1, hb2, hbel⟩
  (fun x => { tmps := #[.slice (some a) len cap, .pointer (some ⟨w.heap.size, 0, none⟩), .string ⟨#[]⟩, .pointer (some ⟨w.heap.size + 1, 0, none⟩), .int .i64 (x.1 : Nat), .int .u32 (z x.1), undef, .slice (some a) len cap, .int .i64 len, .bool false, .slice (some a) len cap, .func (.func 219) #[] #[.pointer (some ⟨w.heap.size + 1 + 1, 0, none⟩)], .int .i64 (x.1 : Nat), .int .u32 (z x.1), undef, undef, undef, undef, undef, undef, undef, undef, undef, undef, undef, undef, undef, undef, undef, undef], defers := [] }) ?assign ?body ?done ?stop
 case hKb =>
  intro W l o o' hlB ho hoc _ ⟨hx1, hx2⟩
  exact ⟨cell_kept hx1 (grownBy_putObj' _ l o') (fun r e => by cases e; exact ⟨_, ho, hoc⟩), fun j hj => cell_kept (hx2 j hj) (grownBy_putObj' _ l o') (fun r e => by cases e; exact ⟨_, ho, hoc⟩)⟩
 case hI =>
  rintro s W W' row ⟨i1, i2, i3, i4⟩ hg hr
  have hr' : ∀ r, row = some r → ∃ o : Obj, W.heap[r]? = some o ∧ o.isCells = false := fun r e => (hr r e).2
  exact ⟨isB_kept i1 hg hr', (row_kept i2 hg hr').1, (row_kept i3 hg hr').1, i4.grown hg i4.size (fun k e => by have := (hr k e).1; omega)⟩
 case hIx => intro c s W W' row h; exact h.elim
 case assign =>
  intro l x W K hK
  gi_wp2
  exact hK
 case body =>
  rintro l pre ⟨m, hm⟩ W ⟨i1, i2, i3, i4⟩ hlt
  obtain ⟨u, hu⟩ : ∃ u : Nat, z m = u := ⟨(z m).toNat, by have := hz m hm; omega⟩
  have hu9 : u < 1000000000 := by have := hz m hm; omega
  have hpl := txt_len hz pre
  have htab' := tab_below htab i4
  dsimp only
  rw [hu]
  have hdl : (Lib.decDigits u).length ≤ 9 := by rw [decD]; exact Gb.dec_length (by omega) (by omega)
  have hq : (Lib.byteCells (txt len z pre)).length + (ByteArray.mk (Lib.decDigits u).toArray).size ≤ 140737488355328 := by
   rw [Lib.byteCells_length]
   show _ + (Lib.decDigits u).toArray.size ≤ _
   simp only [List.size_toArray]; omega
  have hbc : ∃ cs T, W.heap[w.heap.size + 1]? = some (.cells cs T (0, 0)) := by
   rcases i1 with ⟨_, v, h, _⟩ | ⟨_, v, h, _⟩
   · exact ⟨_, _, h⟩
   · exact ⟨_, _, h⟩
  have fin : ∀ (W' : World) (bs : List Value) (a' : Act), Below w.heap.size W W' → Lib.OthersKept 5 (some (w.heap.size + 1)) W W' → Lib.IsBuilderF 215 5 w.heap.size (w.heap.size + 1) bs W' → bs = Lib.byteCells (txt len z (pre ++ [⟨m, hm⟩])) →
      ownPostK (fun W W' => Bx (w.heap.size + 1 + 1) len cap a z W → Bx (w.heap.size + 1 + 1) len cap a z W') (fun pre W => Lib.IsBuilderF 215 5 w.heap.size (w.heap.size + 1) (Lib.byteCells (txt len z pre)) W ∧ W.heap[w.heap.size]? = some (.cells #[.slice (some a) len cap] 182 (0, 0)) ∧ W.heap[w.heap.size + 1 + 1]? = some (.cells #[.slice (some a) len cap] 182 (0, 0)) ∧ Below w.heap.size w W) (fun _ _ _ => False) (pre ++ [⟨m, hm⟩]) W .normal a' W' := by
   rintro W' bs a' g1 g2 g3 rfl
   have e2 := g2 _ _ i2 (by simp) (by rintro c fz e; cases e)
   have e3 := g2 _ _ i3 (by simp) (by rintro c fz e; cases e)
   refine ⟨⟨g1.size, fun k o hk ho => g2 k o hk (fun e => ?_) (fun c fz e => by rw [e] at ho; cases ho)⟩, fun hx => ⟨by simp [World.cell?, e3], fun j hj => (g1.cell (p := a.add j) (by rw [add_blk]; exact ha)).trans (hx.2 j hj)⟩, g3, e2, e3, i4.trans g1⟩
   cases e
   obtain ⟨cs, T, h⟩ := hbc
   rw [h] at hk; cases hk; cases ho
  have step0 : ∀ {w1 : World}, Below W.heap.size W w1 → Below w.heap.size W w1 ∧ Lib.OthersKept 5 (some (w.heap.size + 1)) W w1 := fun {w1} hb => ⟨hb.mono i4.size, fun k o hk _ _ => (hb.block k (Array.getElem?_eq_some_iff.1 hk).1).trans hk⟩
  have bytes : ∀ (l1 l2 : List UInt8), Lib.byteCells l1 ++ Lib.strCells ⟨l2.toArray⟩ = Lib.byteCells (l1 ++ l2) := fun l1 l2 => by simp [Lib.byteCells, Lib.strCells]
  have hpc : piece len z m = (if m + 1 < len then List.replicate (9 - (Gb.dec u).length) 48 else []) ++ Gb.dec u := by unfold piece; rw [hu, Int.toNat_natCast]
  by_cases hlast : m + 1 < len
  · obtain ⟨q, hqq⟩ : ∃ q : Nat, (9 : Int) - ((Lib.decDigits u).length : Int) = q := ⟨9 - (Lib.decDigits u).length, by omega⟩
    have hr1 : (ByteArray.mk #[48]).size * q ≤ 140737488355328 := by show 1 * q ≤ _; omega
    have hsc : Lib.strCells ⟨(Lib.repeatL [48] q).toArray⟩ = Lib.byteCells (List.replicate q 48) := by rw [rep48]; simp [Lib.strCells, Lib.byteCells]
    have hr2 : (Lib.byteCells (txt len z pre)).length + (ByteArray.mk (Lib.repeatL [48] q).toArray).size ≤ 140737488355328 := by
     rw [Lib.byteCells_length]
     show _ + (Lib.repeatL [48] q).toArray.size ≤ _
     rw [rep48, List.size_toArray, List.length_replicate]; omega
    have hr3 : (Lib.byteCells (txt len z pre) ++ Lib.strCells ⟨(Lib.repeatL [48] q).toArray⟩).length + (ByteArray.mk (Lib.decDigits u).toArray).size ≤ 140737488355328 := by
     rw [hsc, List.length_append, Lib.byteCells_length, Lib.byteCells_length, List.length_replicate]
     show _ + (Lib.decDigits u).toArray.size ≤ _
     simp only [List.size_toArray]; omega
    have hsc := Lib.hid hsc
    gi_wp2_with (first
     | (refine ⟨trivial, ?_⟩; gi_at_call 205; refine (CallsIn.inRound l (callsIn_wide.2 (Tryz.strconv_FormatUint u (by omega) W htab'))).mono ?_; rintro e w1 ⟨rfl, k, os, hw1⟩; have hb : Below W.heap.size W w1 := (by rw [hw1]; exact below_grow _ _ _); clear hw1; have j1 := isB_below i1 hb; have j2 : w1.cell? ⟨w.heap.size, 0, none⟩ = some (.slice (some a) len cap) := (by simp [World.cell?, hb.block _ (Array.getElem?_eq_some_iff.1 i2).1, i2]))
     | (refine ⟨trivial, ?_⟩; gi_at_call 207; refine (CallsIn.inRound l (callsIn_wide.2 (Tryz.strings_Repeat ⟨#[48]⟩ q w1 (by omega) hr1))).mono ?_; rintro e w3 ⟨rfl, r1⟩; have j3 := isB_below j1 r1)
     | (refine ⟨trivial, ?_⟩; gi_at_call 206; refine (CallsIn.inRound l (callsIn_wide.2 (Tryz.WriteString_k w.heap.size (w.heap.size + 1) _ ⟨(Lib.repeatL [48] q).toArray⟩ w3 j3 hr2 (Nat.le_trans i4.size (Nat.le_trans hb.size r1.size))))).mono ?_; rintro e w4 ⟨rfl, k1, k2, k3⟩; clear j3)
     | (refine ⟨trivial, ?_⟩; gi_at_call 206; refine (CallsIn.inRound l (callsIn_wide.2 (Tryz.WriteString_k w.heap.size (w.heap.size + 1) _ ⟨(Lib.decDigits u).toArray⟩ w4 (.inr k1) hr3 (Nat.le_trans i4.size (Nat.le_trans hb.size (Nat.le_trans r1.size k2.size)))))).mono ?_; rintro e w5 ⟨rfl, n1, n2, n3⟩))
    obtain ⟨s1, s2⟩ := step0 hb
    have t1 : Below w.heap.size W w3 := s1.trans (r1.mono (Nat.le_trans i4.size hb.size))
    have t2 : Lib.OthersKept 5 (some (w.heap.size + 1)) W w3 := s2.trans (fun k o hk _ _ => (r1.block k (Array.getElem?_eq_some_iff.1 hk).1).trans hk)
    exact fin w5 _ _ ((t1.trans k2).trans n2) ((t2.trans k3).trans n3) (.inr n1) (by
     rw [hsc.out, show Lib.byteCells (txt len z pre) ++ Lib.byteCells (List.replicate q 48) = Lib.byteCells (txt len z pre ++ List.replicate q 48) by simp [Lib.byteCells], bytes, txt_snoc, hpc, if_pos hlast, decD, show 9 - (Gb.dec u).length = q by rw [decD] at hqq; omega]
     rw [List.append_assoc])
  · gi_wp2_with (first
     | (refine ⟨trivial, ?_⟩; gi_at_call 205; refine (CallsIn.inRound l (callsIn_wide.2 (Tryz.strconv_FormatUint u (by omega) W htab'))).mono ?_; rintro e w1 ⟨rfl, k, os, hw1⟩; have hb : Below W.heap.size W w1 := (by rw [hw1]; exact below_grow _ _ _); clear hw1; have j1 := isB_below i1 hb; have j2 : w1.cell? ⟨w.heap.size, 0, none⟩ = some (.slice (some a) len cap) := (by simp [World.cell?, hb.block _ (Array.getElem?_eq_some_iff.1 i2).1, i2]))
     | (refine ⟨trivial, ?_⟩; gi_at_call 206; refine (CallsIn.inRound l (callsIn_wide.2 (Tryz.WriteString_k w.heap.size (w.heap.size + 1) _ _ _ j1 hq (Nat.le_trans i4.size hb.size)))).mono ?_; rintro e w2 ⟨rfl, k1, k2, k3⟩))
    obtain ⟨s1, s2⟩ := step0 hb
    exact fin w2 _ _ (s1.trans k2) (s2.trans k3) (.inr k1) (by rw [bytes, txt_snoc, hpc, if_neg hlast, decD]; rfl)
 case done =>
  rintro D ys W hD rfl ⟨i1, i2, i3, i4⟩ hK
  gi_wp2_with (refine ⟨trivial, ?_⟩; gi_at_call 208; refine (callsIn_wide.2 (Tryz.Builder_String_any_k w.heap.size (w.heap.size + 1) _ W i1 i4.size)).mono ?_; rintro e w' ⟨rfl, _, k2, k3⟩; have hK' := k3 D _ hK (by simp; omega) (by simp))
  refine ⟨by simp, .inl ⟨_, _, rfl, run_takeDeferred hK', ?_⟩⟩
  exact ⟨_, results_tmp rfl _ _ _, rfl, (i4.trans k2).trans (belowK_b (w := w) (Nat.le_refl _) _ D _ _ (by omega) hK' rfl rfl)⟩
 case stop =>
  rintro D c pre W _ _ h _
  exact h.elim
end Go.Proofs
namespace Gev
open Go Gb Go.Proofs
variable {E : Env}
theorem get_ex' {α : Type} {l : List α} {i : Nat} (h : i < l.length) : ∃ c, l[i]? = some c := ⟨l[i], List.getElem?_eq_getElem h⟩
theorem dec_pad {h w : Nat} (h0 : 0 < h) (hw : w < 1000000000) : dec (w + 1000000000 * h) = dec h ++ (List.replicate (9 - (dec w).length) 48 ++ dec w) := by
 have hl : (dec w).length ≤ 9 := dec_length (by omega) (by omega)
 obtain ⟨t, et⟩ : ∃ t, t = 9 - (dec w).length := ⟨_, rfl⟩
 rw [← et]
 have hz : ∀ t, dval (List.replicate t 48) = 0 := fun t => by
  induction t with
  | zero => rfl
  | succ t ih => rw [List.replicate_succ, dval_cons, ih]; simp
 have hdz : Dg (List.replicate t 48) := fun c hc => by rw [List.eq_of_mem_replicate hc]; decide
 have hN : IsNat (dec h ++ (List.replicate t 48 ++ dec w)) := by
  refine ⟨by simp [dec_ne], (dec_dg h).append (hdz.append (dec_dg w)), fun _ => ?_⟩
  rw [head_app (dec_ne h)]
  exact dec_head (by omega)
 have e := hN.eq_dec
 rw [e]
 congr 1
 rw [dval_append, dval_append, hz, dval_dec, dval_dec, List.length_append, List.length_replicate, show t + (dec w).length = 9 by omega]
 omega
theorem txt_words {n : Nat} (hl : 0 < (words n).length) : ∀ k, 1 ≤ k → k ≤ (words n).length → ∀ H : Nat, wv ((words n).drop ((words n).length - k)) = H → txt (words n).length (fun j => (words n).getD j 0) (upto (down hl) k) = dec H
 | 0, h, _, _, _ => by omega
 | k + 1, _, hk, H, hH => by
  rw [upto_succ, txt_snoc]
  obtain ⟨m, hm⟩ : ∃ m, m + k + 1 = (words n).length := ⟨(words n).length - k - 1, by omega⟩
  have em : (down hl k).1 = m := by show (words n).length - 1 - k = m; omega
  rw [em]
  rw [show (words n).length - (k + 1) = m by omega, val_drop _ _ (by omega)] at hH
  have hb := (words_wd n).getD m
  obtain ⟨x, ex⟩ : ∃ x : Nat, (words n).getD m 0 = x := ⟨((words n).getD m 0).toNat, by omega⟩
  obtain ⟨h, eh, h1, h2⟩ := words_drop (n := n) (i := m) (by omega)
  rw [ex, eh] at hH
  unfold piece
  simp only
  rw [ex, Int.toNat_natCast]
  rcases Nat.eq_zero_or_pos k with rfl | hk0
  · have := h2 (by omega)
    subst this
    rw [if_neg (by omega), List.nil_append, show upto (down hl) 0 = [] from rfl, show txt (words n).length (fun j => (words n).getD j 0) [] = [] from rfl, List.nil_append, show H = x by omega]
  · have hp := h1 (by omega)
    rw [txt_words hl k hk0 (by omega) h (by rw [show (words n).length - k = m + 1 by omega]; exact eh), if_pos (by omega), show H = x + 1000000000 * h by omega, dec_pad hp (by omega)]
theorem text_zero : Fn E F_natural_num_text [.c (.list [])] (.c (.str ⟨#[48]⟩)) :=
 fnMk [.t true] (by kernel_rfl) (by kernel_rfl) (aO (beT (a := (0 : Int)) (b := 0) rfl)) (by kernel_rfl)
theorem text_ok (htab : ∀ w, E.Gd w → Lib.TabIs Tryz.prog w "internal/strconv.uint64pow10" .u64 Lib.pow10Tab) {n K : Nat} (h : n < 10 ^ K) (hK : K ≤ Lim + 1) : Fn E F_natural_num_text [.c (.list (Wr (words n)))] (.c (.str (B (dec n)))) := by
 have hwl := words_le h
 rw [Lim_val] at hK
 by_cases h0 : n = 0
 · subst h0
   rw [words_zero, dec_zero]
   exact text_zero
 · have hl : 0 < (words n).length := len_pos (fun e => h0 (words_nil.1 e))
   refine ⟨enters_known (by kernel_rfl), .c _, fun w ext cargs hg hB hx hcl ha => ?_⟩
   obtain ⟨v, rfl⟩ : ∃ v, cargs = #[v] := by
    match cargs, hcl with
    | ⟨[v]⟩, _ => exact ⟨v, rfl⟩
   have hc0 := ha 0 v _ rfl rfl
   cases hc0 with
   | c hr =>
    generalize hxs : Wr (words n) = xs at hr
    cases hr with
    | list A c xs sz u hc hA hx' hu hd =>
     subst hxs
     obtain ⟨a, rfl, hab, _⟩ := hA (by intro e; have h9 := congrArg List.length e; rw [Wr_len, List.length_nil] at h9; omega)
     have hsz : sz = 1 := by
      obtain ⟨x, hx0⟩ := get_ex' (l := words n) (i := 0) hl
      rw [← hx' _ (List.mem_of_getElem? (Wr_get hx0))]; rfl
     subst hsz
     rw [Wr_len]
     have hcell : ∀ j, j < (words n).length → w.cell? (a.add j) = some (.int .u32 ((words n).getD j 0)) := by
      intro j hj
      have g := Wr_getD hj
      have e1 := hu a j _ 0 _ rfl g rfl
      have e2 := hd j _ 0 _ g rfl
      rw [Nat.mul_one, Nat.add_zero] at e1
      rw [e1]
      generalize u j 0 = q at e2
      cases e2; rfl
     have hz : ∀ j, j < (words n).length → 0 ≤ (words n).getD j 0 ∧ (words n).getD j 0 < 1000000000 := fun j _ => (words_wd n).getD j
     refine Calls.mono (text_raw (words n).length c hl (by omega) a (fun j => (words n).getD j 0) hz w hab hcell (htab w hg)) ?_
     rintro e w' ⟨rfl, hb⟩
     have hk := Kept.of_below hb
     refine ⟨_, rfl, E.hs w _ (fun b hb' => hk.heap b (Nat.lt_of_lt_of_le hb' hB) id) hk.size hg, hk, ?_⟩
     rw [txt_words hl (words n).length hl (Nat.le_refl _) n (by rw [Nat.sub_self, List.drop_zero, words_val])]
     exact .c (.str _)
end Gev
namespace Gev
open Go Gb Go.Proofs Go.Sort
variable {E : Env}
structure Laid (E : Env) : Prop where
 tab : ∀ w, E.Gd w → Go.Lib.TabIs Tryz.prog w "internal/strconv.uint64pow10" .u64 Go.Lib.pow10Tab
 max : ∀ w, E.Gd w → ∃ m, w.cell? ⟨1, 0, none⟩ = some (.int .i64 m)
theorem decZ_itoa (z : Int) : Go.Lib.itoa z = decZ z := by
 by_cases h : z < 0
 · obtain ⟨u, rfl⟩ : ∃ u : Nat, z = -(u : Int) := ⟨z.natAbs, by omega⟩
   rw [Go.Lib.itoa_neg u (by omega), decZ_neg h, decD, Int.natAbs_neg, Int.natAbs_natCast]
 · obtain ⟨u, rfl⟩ : ∃ u : Nat, z = u := ⟨z.natAbs, by omega⟩
   rw [Go.Lib.itoa_nonneg, decZ_nat, decD]
theorem str_rep {Γ : Ctx} (l : List UInt8) : RepA DD Γ (.string ⟨l.toArray⟩) (.c (.str (B l))) := .c (.str _)
theorem lib_itoa (L : Laid E) (z : Int) (hz : -9223372036854775808 ≤ z ∧ z ≤ 9223372036854775807) : Fn E F_strconv_Itoa [.c (.i64 z)] (.c (.str (B (decZ z)))) :=
 fn_of_calls (ds := [.i64 z]) (vs := [.int .i64 z]) E.hs (enters_known (by kernel_rfl)) (.c _) rfl fun w hg _ => by
  refine Calls.mono (Tryz.strconv_Itoa z hz.1 hz.2 w (L.tab w hg)) ?_
  rintro e w' ⟨rfl, k, os, rfl⟩
  exact ⟨_, rfl, Kept.of_below (below_grow _ _ _), fun ext => by rw [decZ_itoa]; exact str_rep _⟩
theorem lib_formatInt (L : Laid E) (z : Int) (hz : -9223372036854775808 ≤ z ∧ z ≤ 9223372036854775807) : Fn E F_strconv_FormatInt [.c (.i64 z), .c (.i64 10)] (.c (.str (B (decZ z)))) :=
 fn_of_calls (ds := [.i64 z, .i64 10]) (vs := [.int .i64 z, .int .i64 10]) E.hs (enters_known (by kernel_rfl)) (.c _) rfl fun w hg _ => by
  refine Calls.mono (Tryz.strconv_FormatInt_10 z hz.1 hz.2 w (L.tab w hg)) ?_
  rintro e w' ⟨rfl, k, os, rfl⟩
  exact ⟨_, rfl, Kept.of_below (below_grow _ _ _), fun ext => by rw [decZ_itoa]; exact str_rep _⟩
theorem lib_cutPrefix (l p : List UInt8) : Fn E F_strings_CutPrefix [.c (.str (B l)), .c (.str (B p))] (.tup [.c (.str (B (if p.isPrefixOf l then l.drop p.length else l))), .c (.bool (p.isPrefixOf l))]) :=
 fn_of_calls (ds := [.str (B l), .str (B p)]) (vs := [.string (B l), .string (B p)]) E.hs (enters_known (by kernel_rfl)) (AV.isData_ok rfl) rfl fun w hg _ => by
  refine Calls.mono (Tryz.strings_CutPrefix (B l) (B p) w) ?_
  rintro e w' ⟨rfl, rfl⟩
  refine ⟨_, rfl, Kept.refl _ _, fun ext => ?_⟩
  rw [B_list, B_list]
  refine .tup [_, _] _ rfl fun i v a h1 h2 => ?_
  match i, h1, h2 with
  | 0, h1, h2 => cases h1; cases h2; exact str_rep _
  | 1, h1, h2 => cases h1; cases h2; exact .c (.bool _)
theorem lib_cut (L : Laid E) (s sep : List UInt8) (hs : s.length < 4000000000) : Fn E F_strings_Cut [.c (.str (B s)), .c (.str (B sep))] (.tup [.c (.str (B (Go.Lib.cut s sep).1)), .c (.str (B (Go.Lib.cut s sep).2.1)), .c (.bool (Go.Lib.cut s sep).2.2)]) :=
 fn_of_calls (ds := [.str (B s), .str (B sep)]) (vs := [.string (B s), .string (B sep)]) E.hs (enters_known (by kernel_rfl)) (AV.isData_ok rfl) rfl fun w hg _ => by
  obtain ⟨m, hm⟩ := L.max w hg
  refine Calls.mono (Tryz.strings_Cut (B s) (B sep) m w (by rw [B_size]; omega) hm) ?_
  rintro e w' ⟨rfl, n, rfl⟩
  refine ⟨_, rfl, Kept.of_drewN w n, fun ext => ?_⟩
  rw [B_list, B_list]
  refine .tup [_, _, _] _ rfl fun i v a h1 h2 => ?_
  match i, h1, h2 with
  | 0, h1, h2 => cases h1; cases h2; exact str_rep _
  | 1, h1, h2 => cases h1; cases h2; exact str_rep _
  | 2, h1, h2 => cases h1; cases h2; exact .c (.bool _)
theorem index_cons (b : UInt8) (l : List UInt8) : Go.Lib.index (b :: l) [47] = if b = 47 then 0 else if Go.Lib.index l [47] = -1 then -1 else Go.Lib.index l [47] + 1 := by
 show (if [47].isPrefixOf (b :: l) then 0 else if Go.Lib.index l [47] == -1 then -1 else Go.Lib.index l [47] + 1) = _
 have : [47].isPrefixOf (b :: l) = ((47 : UInt8) == b) := by show ((47 : UInt8) == b && [].isPrefixOf l) = _; simp
 rw [this]
 by_cases hb : b = 47
 · subst hb; simp
 · rw [beq_eq_false_iff_ne.2 (fun e => hb e.symm), if_neg (by simp), if_neg hb]
   simp only [beq_iff_eq]
theorem index_no : ∀ {p : List UInt8}, (47 : UInt8) ∉ p → Go.Lib.index p [47] = -1
 | [], _ => rfl
 | b :: l, h => by
  have h1 : b ≠ 47 := fun e => h (by rw [e]; simp)
  have h2 := index_no (p := l) (fun e => h (by simp [e]))
  rw [index_cons, if_neg h1, if_pos h2]
theorem index_yes {q : List UInt8} : ∀ {p : List UInt8}, (47 : UInt8) ∉ p → Go.Lib.index (p ++ 47 :: q) [47] = p.length
 | [], _ => by rw [List.nil_append, index_cons, if_pos rfl]; rfl
 | b :: l, h => by
  have h1 : b ≠ 47 := fun e => h (by rw [e]; simp)
  have h2 := index_yes (q := q) (p := l) (fun e => h (by simp [e]))
  rw [List.cons_append, index_cons, if_neg h1, h2, if_neg (by omega), List.length_cons]; rfl
theorem cut_yes {p q : List UInt8} (h : (47 : UInt8) ∉ p) : Go.Lib.cut (p ++ 47 :: q) [47] = (p, q, true) := by
 unfold Go.Lib.cut
 rw [index_yes h, if_pos (by omega), Int.toNat_natCast, List.take_left, List.length_singleton, List.drop_append, List.drop_eq_nil_of_le (by omega), List.nil_append, show p.length + 1 - p.length = 1 by omega]; rfl
theorem cut_no {p : List UInt8} (h : (47 : UInt8) ∉ p) : Go.Lib.cut p [47] = (p, [], false) := by
 unfold Go.Lib.cut
 rw [index_no h, if_neg (by omega)]
theorem uintM_ok {M : Nat} (hM : 1000000000 ≤ M) : ∀ (l : List UInt8) (acc : Nat), Dg l → acc * 10 ^ l.length + dval l < 1000000000 → Go.Lib.parseUintM M acc l = .ok (acc * 10 ^ l.length + dval l)
 | [], acc, _, _ => by show Go.Lib.NumEnd.ok acc = _; rw [dval_nil]; simp
 | c :: r, acc, hd, hb => by
  have hc := hd c (by simp)
  rw [dval_cons, List.length_cons, Nat.pow_succ] at hb ⊢
  have hp : 1 ≤ 10 ^ r.length := Nat.pow_pos (by decide)
  have e : acc * (10 ^ r.length * 10) + ((c.toNat - 48) * 10 ^ r.length + dval r) = (acc * 10 + (c.toNat - 48)) * 10 ^ r.length + dval r := by grind
  rw [e] at hb ⊢
  have hle : (acc * 10 + (c.toNat - 48)) ≤ (acc * 10 + (c.toNat - 48)) * 10 ^ r.length := Nat.le_mul_of_pos_right _ hp
  unfold Go.Lib.parseUintM
  rw [if_pos hc, if_neg (by omega), if_neg (by omega)]
  exact uintM_ok hM r _ (fun x hx => hd x (by simp [hx])) hb
theorem dval_small {l : List UInt8} (hd : Dg l) (hl : l.length ≤ 9) : dval l < 1000000000 := by
 have h1 := dval_lt hd
 have h2 : (10 : Nat) ^ l.length ≤ 10 ^ 9 := Nat.pow_le_pow_right (by decide) hl
 omega
theorem lib_parseUint (l : List UInt8) (hd : Dg l) (h1 : 1 ≤ l.length) (h9 : l.length ≤ 9) : Fn E F_strconv_ParseUint [.c (.str (B l)), .c (.i64 10), .c (.i64 32)] (.tup [.c (.u64 (dval l : Int)), .undef]) :=
 fn_of_calls (ds := [.str (B l), .i64 10, .i64 32]) (vs := [.string (B l), .int .i64 10, .int .i64 32]) E.hs (enters_known (by kernel_rfl)) (AV.isData_ok rfl) rfl fun w hg _ => by
  have hp : Go.Lib.parseUintB 32 (B l).data.toList = .ok (dval l) := by
   rw [B_list]
   unfold Go.Lib.parseUintB
   rw [if_neg (by intro e; rw [e] at h1; simp at h1), uintM_ok (by decide) l 0 hd (by have := dval_small hd h9; omega)]
   simp
  refine Calls.mono (Tryz.strconv_ParseUint_10_at32_ok (B l) (by rw [B_size]; omega) _ hp w) ?_
  rintro e w' ⟨rfl, hw⟩
  have hk : Kept (fun _ => False) w w' := by
   rcases hw with rfl | rfl
   · exact Kept.refl _ _
   · exact Kept.of_below (Go.Lib.bytesWorld_below w 5 (B l))
  refine ⟨_, rfl, hk, fun ext => ?_⟩
  refine .tup [_, _] _ rfl fun i v a h1 h2 => ?_
  match i, h1, h2 with
  | 0, h1, h2 => cases h1; cases h2; exact .c (.int _ _)
  | 1, h1, h2 => cases h1; cases h2; exact .undef _
theorem lib_parseInt (z : Int) (hl : (decZ z).length ≤ 9) : Fn E F_strconv_ParseInt [.c (.str (B (decZ z))), .c (.i64 10), .c (.i64 64)] (.tup [.c (.i64 z), .undef]) :=
 fn_of_calls (ds := [.str (B (decZ z)), .i64 10, .i64 64]) (vs := [.string (B (decZ z)), .int .i64 10, .int .i64 64]) E.hs (enters_known (by kernel_rfl)) (AV.isData_ok rfl) rfl fun w hg _ => by
  have hla : (dec z.natAbs).length ≤ 9 := Nat.le_trans (by unfold decZ; split <;> simp) hl
  have hn := dval_small (dec_dg z.natAbs) hla
  rw [dval_dec] at hn
  have hu : Go.Lib.parseUintB 64 (dec z.natAbs) = .ok z.natAbs := by
   unfold Go.Lib.parseUintB
   rw [if_neg (dec_ne _), uintM_ok (by decide) _ 0 (dec_dg _) (by rw [dval_dec]; omega), dval_dec]
   simp
  have hp : Go.Lib.parseIntB 64 (B (decZ z)).data.toList = .ok z := by
   rw [B_list]
   by_cases h : z < 0
   · rw [decZ_neg h]
     unfold Go.Lib.parseIntB
     simp only
     rw [if_pos (.inr rfl), hu]
     simp only
     rw [if_neg (by simp), if_neg (by omega), if_pos (show UInt8.toNat 45 = 45 from rfl)]
     congr 1; omega
   · rw [decZ_nonneg (by omega)]
     cases hd : dec z.natAbs with
     | nil => exact absurd hd (dec_ne _)
     | cons c r =>
      have hc := dec_dg z.natAbs c (by rw [hd]; simp)
      unfold Go.Lib.parseIntB
      simp only
      rw [if_neg (by omega), ← hd, hu]
      simp only
      rw [if_neg (by omega), if_neg (by omega), if_neg (by omega)]
      congr 1; omega
  refine Calls.mono (Tryz.strconv_ParseInt_10_at64_ok (B (decZ z)) (by rw [B_size]; omega) _ hp w) ?_
  rintro e w' ⟨rfl, hw⟩
  have hk : Kept (fun _ => False) w w' := by
   rcases hw with rfl | ⟨t, rfl⟩
   · exact Kept.refl _ _
   · exact Kept.of_below (Go.Lib.bytesWorld_below w 5 t)
  refine ⟨_, rfl, hk, fun ext => ?_⟩
  refine .tup [_, _] _ rfl fun i v a h1 h2 => ?_
  match i, h1, h2 with
  | 0, h1, h2 => cases h1; cases h2; exact .c (.int _ _)
  | 1, h1, h2 => cases h1; cases h2; exact .undef _
end Gev
namespace Go.Proofs
open Go.RowKit Go.Shelf Go.Sort Go.MapKept
set_option maxRecDepth 100000
theorem u145 : Tryz.prog.underlying 145 = some (.map 5 144) := by kernel_rfl
theorem u5 : Tryz.prog.underlying 5 = some (.int .u8) := by kernel_rfl
theorem run_ins (w : World) (es : Array MapEntry) (c : Nat) (k : Int) (v : Value) (hf : Instr.findNow (.int .u8) (.int .u8 k) es.toList 0 = some none) :
    (Instr.mapUpdate 145 (.map (some w.heap.size)) (.int .u8 k) v).run Tryz.prog (w.alloc (.map es c)) = .ok () (w.alloc (.map (es.push { key := .int .u8 k, val := v, born := c }) (c + 1))) := by
 have hb : (w.alloc (.map es c)).heap[w.heap.size]? = some (.map es c) := World.alloc_heap_new w _
 have hs : ({ (w.alloc (.map es c)) with heap := (w.alloc (.map es c)).heap.setIfInBounds w.heap.size (.map (es.push { key := .int .u8 k, val := v, born := c }) (c + 1)) } : World) = w.alloc (.map (es.push { key := .int .u8 k, val := v, born := c }) (c + 1)) := by
  show ({ w with heap := (w.heap.push (.map es c)).setIfInBounds w.heap.size _ } : World) = { w with heap := w.heap.push _ }
  have e : ∀ (h : Array Obj) (x y : Obj), (h.push x).setIfInBounds h.size y = h.push y := fun h x y => by
   apply Array.ext'
   simp [List.set_append]
  rw [e]
 have hk : IsKey (TypeDesc.int IntKind.u8) (Value.int IntKind.u8 k) := rfl
 simp only [Instr.mapUpdate, Sem.run_bind, run_underlying u145, Result.andThen, Go.MapKept.run_getObj_map hb, Go.MapKept.run_checkKey u5 hk, Go.MapKept.run_findKey u5 hf, Go.MapKept.run_setObj_map _ hb, hs]
def opsMap : Array MapEntry := #[{ key := .int .u8 43, val := .func (.func 162) #[] #[], born := 0 }, { key := .int .u8 42, val := .func (.func 163) #[] #[], born := 1 }, { key := .int .u8 45, val := .func (.func 164) #[] #[], born := 2 }, { key := .int .u8 47, val := .func (.func 166) #[] #[], born := 3 }]
theorem ops_raw (w : World) : Calls Tryz.prog 145 #[] w fun e w' => e = .returned (.map (some w.heap.size)) ∧ w' = w.alloc (.map opsMap 4) := by
 have hmm := @run_makeMap Tryz.prog
 have h1 := run_ins w #[] 0 43 (.func (.func 162) #[] #[]) rfl
 have h2 := run_ins w (#[{ key := .int .u8 43, val := .func (.func 162) #[] #[], born := 0 }]) 1 42 (.func (.func 163) #[] #[]) rfl
 have h3 := run_ins w (#[{ key := .int .u8 43, val := .func (.func 162) #[] #[], born := 0 }, { key := .int .u8 42, val := .func (.func 163) #[] #[], born := 1 }]) 2 45 (.func (.func 164) #[] #[]) rfl
 have h4 := run_ins w (#[{ key := .int .u8 43, val := .func (.func 162) #[] #[], born := 0 }, { key := .int .u8 42, val := .func (.func 163) #[] #[], born := 1 }, { key := .int .u8 45, val := .func (.func 164) #[] #[], born := 2 }]) 3 47 (.func (.func 166) #[] #[]) rfl
 go_enter Tryz.func145, Tryz.ntmps145
 go_wp2
 go_ret
 exact ⟨rfl, rfl⟩
theorem all_raw (w : World) : Calls Tryz.prog 128 #[] w fun e w' => e = .returned (.map (some w.heap.size)) ∧ w' = w.alloc (.map opsMap 4) := by
 go_enter Tryz.func128, Tryz.ntmps128
 go_wp2_with (go_at_call 145; refine (ops_raw _).mono ?_; rintro e w' ⟨rfl, rfl⟩)
 go_ret
 exact ⟨rfl, rfl⟩
theorem run_look (w w1 : World) (hb : w1.heap[w.heap.size]? = some (.map opsMap 4)) (k : Int) (f : Nat) (h : (k, f) ∈ [((43 : Int), 162), (42, 163), (45, 164), (47, 166)]) :
    (Instr.lookup 145 (.map (some w.heap.size)) (.int .u8 k) false).run Tryz.prog w1 = .ok (.func (.func f) #[] #[]) w1 := by
 have hk : IsKey (TypeDesc.int IntKind.u8) (Value.int IntKind.u8 k) := rfl
 have hf : ∃ i, Instr.findNow (.int .u8) (.int .u8 k) opsMap.toList 0 = some (some (i, .func (.func f) #[] #[])) := by
  simp only [List.mem_cons, Prod.mk.injEq, List.not_mem_nil, or_false] at h
  rcases h with ⟨rfl, rfl⟩ | ⟨rfl, rfl⟩ | ⟨rfl, rfl⟩ | ⟨rfl, rfl⟩
  · exact ⟨0, rfl⟩
  · exact ⟨1, rfl⟩
  · exact ⟨2, rfl⟩
  · exact ⟨3, rfl⟩
 obtain ⟨i, hf⟩ := hf
 simp [Instr.lookup, run_underlying u145, Result.andThen, Go.MapKept.run_getObj_map hb, Go.MapKept.run_checkKey u5 hk, Go.MapKept.run_findKey u5 hf]
end Go.Proofs
namespace Gev
open Go Gb Go.Proofs Go.Sort
variable {E : Env}
theorem rep_str {Γ : Ctx} {v : Value} {s : ByteArray} (h : RepA DD Γ v (.c (.str s))) : v = .string s := by cases h with | c h => cases h; rfl
theorem rep_i64 {Γ : Ctx} {v : Value} {n : Int} (h : RepA DD Γ v (.c (.i64 n))) : v = .int .i64 n := by cases h with | c h => cases h; rfl
theorem rep_two {Γ : Ctx} {v : Value} {x y : ByteArray} (h : RepA DD Γ v (.agg [.str x, .str y])) : v = .agg #[.string x, .string y] := by
 cases h with
 | agg vs cs hl h =>
  match vs, hl with
  | ⟨[p, q]⟩, _ =>
   have h0 := h 0 p _ rfl rfl
   have h1 := h 1 q _ rfl rfl
   cases h0; cases h1; rfl
theorem two_rep {Γ : Ctx} (x y : ByteArray) : RepA DD Γ (.agg #[.string x, .string y]) (.agg [.str x, .str y]) := by
 refine .agg #[_, _] _ rfl fun j u d h1 h2 => ?_
 match j, h1, h2 with
 | 0, h1, h2 => cases h1; cases h2; exact .str _
 | 1, h1, h2 => cases h1; cases h2; exact .str _
theorem call_both {a b x1 x2 y1 y2 : ByteArray} (h : Fn E F_rational_both [.c (.str a), .c (.str b)] (.tup [.agg [.str x1, .str x2], .agg [.str y1, .str y2], .c (.i64 0)])) (w : World) (hg : E.Gd w) (hB : E.B0 ≤ w.heap.size) :
    Calls Tryz.prog 117 #[.string a, .string b] w fun e w' => e = .returned (.tuple #[.agg #[.string x1, .string x2], .agg #[.string y1, .string y2], .int .i64 0]) ∧ E.Gd w' ∧ Kept (fun _ => False) w w' := by
 refine Calls.mono (h.calls w (fun _ => False) #[.string a, .string b] hg hB (fun _ h => h.elim) rfl fun i v x h1 h2 => ?_) ?_
 · match i, h1, h2 with
   | 0, h1, h2 => cases h1; cases h2; exact .c (.str _)
   | 1, h1, h2 => cases h1; cases h2; exact .c (.str _)
 · rintro e w' ⟨v, rfl, k1, k2, k3⟩
   refine ⟨?_, k1, k2⟩
   cases k3 with
   | tup vs us hl h =>
    match vs, hl with
    | [p, q, r], _ =>
     have h0 := rep_two (h 0 p _ rfl rfl)
     have h1 := rep_two (h 1 q _ rfl rfl)
     have h2 := rep_i64 (h 2 r _ rfl rfl)
     subst h0 h1 h2; rfl
theorem call_two {f : Nat} {x1 x2 y1 y2 z1 z2 : ByteArray} (h : Fn E f [.agg [.str x1, .str x2], .agg [.str y1, .str y2]] (.agg [.str z1, .str z2])) (w : World) (hg : E.Gd w) (hB : E.B0 ≤ w.heap.size) :
    Calls Tryz.prog f #[.agg #[.string x1, .string x2], .agg #[.string y1, .string y2]] w fun e w' => e = .returned (.agg #[.string z1, .string z2]) ∧ E.Gd w' ∧ Kept (fun _ => False) w w' := by
 refine Calls.mono (h.calls w (fun _ => False) #[_, _] hg hB (fun _ h => h.elim) rfl fun i v x h1 h2 => ?_) ?_
 · match i, h1, h2 with
   | 0, h1, h2 => cases h1; cases h2; exact two_rep _ _
   | 1, h1, h2 => cases h1; cases h2; exact two_rep _ _
 · rintro e w' ⟨v, rfl, k1, k2, k3⟩
   rw [rep_two k3]; exact ⟨rfl, k1, k2⟩
theorem call_text {z1 z2 t : ByteArray} (h : Fn E F_rational_frac_text [.agg [.str z1, .str z2]] (.c (.str t))) (w : World) (hg : E.Gd w) (hB : E.B0 ≤ w.heap.size) :
    Calls Tryz.prog 129 #[.agg #[.string z1, .string z2]] w fun e w' => e = .returned (.string t) ∧ E.Gd w' ∧ Kept (fun _ => False) w w' := by
 refine Calls.mono (h.calls w (fun _ => False) #[_] hg hB (fun _ h => h.elim) rfl fun i v x h1 h2 => ?_) ?_
 · match i, h1, h2 with
   | 0, h1, h2 => cases h1; cases h2; exact two_rep _ _
 · rintro e w' ⟨v, rfl, k1, k2, k3⟩
   rw [rep_str k3]; exact ⟨rfl, k1, k2⟩
end Gev
namespace Go.Proofs
open Go.RowKit Go.Shelf Go.Sort Gev
theorem kept_drew (W : World) (o : Obj) : Kept (fun _ => False) W (W.drew.alloc o) := ⟨fun b hb h => (Kept.alloc (fun _ => False) W.drew o).heap b hb h, (Kept.alloc (fun _ => False) W.drew o).size, rfl, rfl, rfl⟩
theorem behind_all {Gd : World → Prop} {B0 : Nat} (hs : Stable B0 Gd) {w W2 w3 : World} {x1 x2 y1 y2 : ByteArray} {n : Nat} (hg : Gd w) (hB : B0 ≤ w.heap.size) (k2 : Kept (fun _ => False) w W2) (hw : w3 = W2.drew.alloc (.map opsMap 4)) {op : Int} {f : Nat} (hop : (op, f) ∈ [((43 : Int), 162), (42, 163), (45, 164), (47, 166)])
    (a0 : W2.cell? ⟨n, 0, none⟩ = some (.string x1)) (a1 : W2.cell? ⟨n, 1, none⟩ = some (.string x2)) (b0 : W2.cell? ⟨n + 1, 0, none⟩ = some (.string y1)) (b1 : W2.cell? ⟨n + 1, 1, none⟩ = some (.string y2)) :
    (Instr.lookup 145 (.map (some W2.heap.size)) (.int .u8 op) false).run Tryz.prog w3 = .ok (.func (.func f) #[] #[]) w3 ∧ w3.cell? ⟨n, 0, none⟩ = some (.string x1) ∧ w3.cell? ⟨n, 1, none⟩ = some (.string x2) ∧ w3.cell? ⟨n + 1, 0, none⟩ = some (.string y1) ∧ w3.cell? ⟨n + 1, 1, none⟩ = some (.string y2) ∧ Gd w3 ∧ B0 ≤ w3.heap.size ∧ Kept (fun _ => False) w w3 := by
 subst hw
 have k3 := kept_drew W2 (.map opsMap 4)
 have k := k2.trans k3 (fun _ h => False.elim h)
 exact ⟨run_look W2 _ (World.alloc_heap_new W2.drew _) op f hop, k3.cell a0 id, k3.cell a1 id, k3.cell b0 id, k3.cell b1 id, hs w _ (fun b hb => k.heap b (Nat.lt_of_lt_of_le hb hB) id) k.size hg, Nat.le_trans hB k.size, k⟩
set_option maxRecDepth 100000 in
set_option maxHeartbeats 40000000 in
theorem apply_raw (Gd : World → Prop) (B0 : Nat) (hs : Stable B0 Gd) (op : Int) (f : Nat) (hop : (op, f) ∈ [((43 : Int), 162), (42, 163), (45, 164), (47, 166)]) (a b x1 x2 y1 y2 z1 z2 t : ByteArray) (h47 : op = 47 → ¬ y1 = (⟨#[48]⟩ : ByteArray))
    (ef : ∀ args w, (callFunc f args).run Tryz.prog w = .ok (.enter f args) w)
    (hb : ∀ w, Gd w → B0 ≤ w.heap.size → Calls Tryz.prog 117 #[.string a, .string b] w fun e w' => e = .returned (.tuple #[.agg #[.string x1, .string x2], .agg #[.string y1, .string y2], .int .i64 0]) ∧ Gd w' ∧ Kept (fun _ => False) w w')
    (hf : ∀ w, Gd w → B0 ≤ w.heap.size → Calls Tryz.prog f #[.agg #[.string x1, .string x2], .agg #[.string y1, .string y2]] w fun e w' => e = .returned (.agg #[.string z1, .string z2]) ∧ Gd w' ∧ Kept (fun _ => False) w w')
    (ht : ∀ w, Gd w → B0 ≤ w.heap.size → Calls Tryz.prog 129 #[.agg #[.string z1, .string z2]] w fun e w' => e = .returned (.string t) ∧ Gd w' ∧ Kept (fun _ => False) w w') (w : World) (hg : Gd w) (hB : B0 ≤ w.heap.size) :
    Calls Tryz.prog 116 #[.int .u8 op, .string a, .string b] w fun e w' => e = .returned (.tuple #[.string t, .int .i64 0]) ∧ Kept (fun _ => False) w w' := by
 go_enter Tryz.func116, Tryz.ntmps116
 go_wp2_with (go_at_call 117; refine (hb _ hg hB).mono ?_; rintro e w1 ⟨rfl, g1, k1⟩)
 · rename_i _ hq
   exact absurd (bytes_ext (b := (⟨#[48]⟩ : ByteArray)) ((eq_of_beq hq).trans (by rw [toList_eq]))) (h47 (by assumption))
 all_goals
  obtain ⟨W2, hW2⟩ : ∃ W2, W2 = (w1.alloc (.cells #[.string x1, .string x2] 129)).alloc (.cells #[.string y1, .string y2] 129) := ⟨_, rfl⟩
  rw [← hW2]
  have a0 : W2.cell? ⟨w1.heap.size, 0, none⟩ = some (.string x1) := by rw [hW2]; simp
  have a1 : W2.cell? ⟨w1.heap.size, 1, none⟩ = some (.string x2) := by rw [hW2]; simp
  have b0 : W2.cell? ⟨w1.heap.size + 1, 0, none⟩ = some (.string y1) := by rw [hW2]; simp
  have b1 : W2.cell? ⟨w1.heap.size + 1, 1, none⟩ = some (.string y2) := by rw [hW2]; simp
  have k2 : Kept (fun _ => False) w W2 := by rw [hW2]; exact (k1.trans (Kept.alloc (fun _ => False) _ _) (fun _ h => False.elim h)).trans (Kept.alloc (fun _ => False) _ _) (fun _ h => False.elim h)
  have g2 : Gd W2 := hs w _ (fun b hb => k2.heap b (Nat.lt_of_lt_of_le hb hB) id) k2.size hg
  have hB2 := Nat.le_trans hB k2.size
  clear hW2
  try subst op
  go_region_with (first
   | (go_at_call 128; refine (all_raw _).mono ?_; rintro e w3 ⟨rfl, hw3⟩; obtain ⟨hl, a0', a1', b0', b1', g3, hB3, k3⟩ := behind_all hs hg hB k2 hw3 hop a0 a1 b0 b1; clear hw3)
   | (go_at_call 129; refine (ht _ g4 hB4).mono ?_; rintro e w5 ⟨rfl, g5, k5⟩)
   | (refine (hf _ g3 hB3).mono ?_; rintro e w4 ⟨rfl, g4, k4⟩; have hB4 := Nat.le_trans hB3 k4.size))
  all_goals
   go_wp2
   go_ret2
   exact ⟨rfl, (k3.trans k4 (fun _ h => False.elim h)).trans k5 (fun _ h => False.elim h)⟩
end Go.Proofs
namespace Gev
open Go Gb Go.Proofs
variable {E : Env}
theorem lib_apply (op : Int) (f : Nat) (hop : (op, f) ∈ [((43 : Int), F_rational_plus), (42, F_rational_times), (45, F_rational_operations_1), (47, F_rational_operations_2)]) (a b x1 x2 y1 y2 z1 z2 t : ByteArray)
    (hb : Fn E F_rational_both [.c (.str a), .c (.str b)] (.tup [.agg [.str x1, .str x2], .agg [.str y1, .str y2], .c (.i64 0)])) (h47 : op = 47 → ¬ y1 = B [48])
    (hf : Fn E f [.agg [.str x1, .str x2], .agg [.str y1, .str y2]] (.agg [.str z1, .str z2])) (ht : Fn E F_rational_frac_text [.agg [.str z1, .str z2]] (.c (.str t))) : Fn E F_rational_apply [.c (.u8 op), .c (.str a), .c (.str b)] (.tup [.c (.str t), .c (.i64 0)]) :=
 fn_of_calls (ds := [.u8 op, .str a, .str b]) (vs := [.int .u8 op, .string a, .string b]) E.hs (enters_known (by kernel_rfl)) (AV.isData_ok rfl) rfl fun w hg hB => by
  refine Calls.mono (apply_raw E.Gd E.B0 E.hs op f hop a b x1 x2 y1 y2 z1 z2 t h47 hf.enters (call_both hb) (call_two hf) (call_text ht) w hg hB) ?_
  rintro e w' ⟨rfl, hk⟩
  refine ⟨_, rfl, hk, fun ext => ?_⟩
  refine .tup [_, _] _ rfl fun i v a h1 h2 => ?_
  match i, h1, h2 with
  | 0, h1, h2 => cases h1; cases h2; exact .c (.str _)
  | 1, h1, h2 => cases h1; cases h2; exact .c (.int _ _)
theorem lib_cut2 (L : Laid E) (s sep : List UInt8) (hs : s.length < 4200000000) : Fn E F_strings_Cut [.c (.str (B s)), .c (.str (B sep))] (.tup [.c (.str (B (Go.Lib.cut s sep).1)), .c (.str (B (Go.Lib.cut s sep).2.1)), .c (.bool (Go.Lib.cut s sep).2.2)]) :=
 fn_of_calls (ds := [.str (B s), .str (B sep)]) (vs := [.string (B s), .string (B sep)]) E.hs (enters_known (by kernel_rfl)) (AV.isData_ok rfl) rfl fun w hg _ => by
  obtain ⟨m, hm⟩ := L.max w hg
  refine Calls.mono (Tryz.strings_Cut (B s) (B sep) m w (by rw [B_size]; omega) hm) ?_
  rintro e w' ⟨rfl, n, rfl⟩
  refine ⟨_, rfl, Kept.of_drewN w n, fun ext => ?_⟩
  rw [B_list, B_list]
  refine .tup [_, _, _] _ rfl fun i v a h1 h2 => ?_
  match i, h1, h2 with
  | 0, h1, h2 => cases h1; cases h2; exact str_rep _
  | 1, h1, h2 => cases h1; cases h2; exact str_rep _
  | 2, h1, h2 => cases h1; cases h2; exact .c (.bool _)
theorem lib_all (L : Laid E) : Lib E where
 parseUint l h1 h2 h3 := lib_parseUint l h1 h2 h3
 cutPrefix l p _ _ := lib_cutPrefix l p
 cutYes p q hp hl := by
  have h := lib_cut2 L (p ++ 47 :: q) [47] (by simp; omega)
  rw [cut_yes hp] at h; exact h
 cutNo p hp hl := by
  have h := lib_cut L p [47] hl
  rw [cut_no hp] at h; exact h
 parseInt z hz := lib_parseInt z hz
 formatInt z hz := lib_formatInt L z hz
 itoa z hz := lib_itoa L z hz
 apply op f hop a b x1 x2 y1 y2 z1 z2 t hb h47 hf ht := lib_apply op f hop a b x1 x2 y1 y2 z1 z2 t hb h47 hf ht
 text n K h hK := text_ok L.tab h hK
end Gev
namespace Gev
open Go Go.RowKit
variable {α : Type} {P : Program}
def Abide {β : Type} (B : Nat) (J : β → World → Prop) : Prop := ∀ s W W', J s W → B ≤ W.heap.size → Kept (fun b => B ≤ b) W W' → J s W'
def Gives (P : Program) (n : Nat) (gf : Nat) (lb : Array Value) (encs : α → Array Value) (bx : Nat) (ok : α → Prop) (xs : List α) (w0 : World) : Prop :=
 ∀ (l : Nat) (J : List α → World → Prop) (W : World), Kept (fun _ => False) w0 W → Abide W.heap.size J →
  (∀ pre x W1, ok x → J pre W1 → YieldAt Fence.wide (n - 1) P l (encs x) W1 fun e W' => e = .returned (.bool true) ∧ J (pre ++ [x]) W' ∧ Kept (fun b => b = bx ∨ (w0.heap.size ≤ b ∧ b < W.heap.size)) W1 W') →
  J [] W → CallsIn Fence.wide n P gf (#[.func (.yield l) #[] #[]] ++ lb) W fun e W' => (∃ v, e = .returned v) ∧ J xs W'
theorem kept_put {W : World} {l : Nat} (o : Obj) {q : Nat → Prop} (hq : q l) : Kept q W (W.putObj l o) :=
 ⟨fun b _ hn => World.putObj_heap_other (fun e => hn (e ▸ hq)), by simp [World.putObj], rfl, rfl, rfl⟩
theorem range_gives {n : Nat} {g : Operand} {ps : Array Tmp} {assign body : Code} {Q : Exit → Act → World → Prop} {a : Act} {w : World} {gf : Nat} {lb : Array Value} (hg : a.eval g = .func (.func gf) #[] lb)
    (eg : ∀ args w, (callFunc gf args).run P w = .ok (.enter gf args) w) {encs : α → Array Value} {bx : Nat} (hbx : bx < w.heap.size) {ok : α → Prop} {xs : List α} (hG : Gives P (n - 1) gf lb encs bx ok xs w) (hps : ∀ x, (encs x).size = ps.size)
    (I : List α → World → Prop) (hI : Abide w.heap.size I) (h0 : I [] w) (a₁ : α → Act)
    (hassign : ∀ (l : Nat) (x : α) (W : World) (K : Act → World → Prop), K (a₁ x) W →
     assign.wpIn (Fence.wide.inRound l) (n - 1 - 1) P (Exit.then K (fun _ _ _ => False)) { tmps := (ps.zip (encs x)).foldl (fun t (p, v) => t.setIfInBounds p v) a.tmps, defers := [] } W)
    (hbody : ∀ (l : Nat) (pre : List α) (x : α) (W : World), ok x → I pre W → w.heap.size ≤ W.heap.size → body.wpIn (Fence.wide.inRound l) (n - 1 - 1) P (fun e _ W' => e = .normal ∧ I (pre ++ [x]) W' ∧ Kept (fun b => b = bx) W W') (a₁ x) W)
    (hdone : ∀ (W : World), I xs W → w.heap.size ≤ W.heap.size → W.heap[w.heap.size]? = some (.deferred (some [])) → Q .normal { a with defers := { target := .collected w.heap.size, args := #[] } :: a.defers } W) :
    (Code.rangeFunc g ps assign body).wpIn Fence.wide n P Q a w := by
 refine wpIn_rangeFunc fun fn hfn => ?_
 have hen := run_enterLoop_outer (P := P) (w := w) fn a.tmps ps assign body
 obtain ⟨r0, hr0⟩ : ∃ r0 : Loop, r0 = { state := .ready, pending := none, fn, tmps := a.tmps, params := ps, assign, body, defers := w.heap.size } := ⟨_, rfl⟩
 obtain ⟨W1, hW1⟩ : ∃ W1, W1 = (w.alloc (.deferred (some []))).alloc (.loop r0) := ⟨_, rfl⟩
 rw [← hr0, ← hW1] at hen
 have hs1 : W1.heap.size = w.heap.size + 1 + 1 := by rw [hW1]; simp
 have hL : W1.heap[w.heap.size + 1]? = some (.loop r0) := by
  rw [hW1]; have := World.alloc_heap_new (w.alloc (.deferred (some []))) (.loop r0); rwa [World.size_alloc] at this
 have hD : W1.heap[w.heap.size]? = some (.deferred (some [])) := by
  rw [hW1]; exact (Below.heap_alloc _ _ _ (by simp)).trans (World.alloc_heap_new w _)
 have hk : Kept (fun _ => False) w W1 := by
  rw [hW1]; exact (Kept.alloc (fun _ => False) _ _).trans (Kept.alloc (fun _ => False) _ _) (fun _ h => False.elim h)
 have up : ∀ {A B : World} {q : Nat → Prop}, Kept q A B → (∀ b, q b → w.heap.size ≤ b) → Kept (fun b => w.heap.size ≤ b) A B := fun h hq => h.mono hq
 refine ⟨w.heap.size + 1, _, W1, { target := .fn (.func gf) lb, args := #[.func (.yield (w.heap.size + 1)) #[] #[]] }, W1, gf, #[.func (.yield (w.heap.size + 1)) #[] #[]] ++ lb, W1, hen, ?_, fun _ _ => trivial, ?_, fun h => by simp [Fence.wide] at h, ?_⟩
 · simp only [resolve, hg]
   simp [go_sem]
 · simp [invoke, go_sem, eg]
 refine (hG (w.heap.size + 1) (fun pre W => I pre W ∧ w.heap.size + 1 + 1 ≤ W.heap.size ∧ W.heap[w.heap.size + 1]? = some (.loop r0) ∧ W.heap[w.heap.size]? = some (.deferred (some []))) W1 hk ?_ ?_
  ⟨hI _ _ _ h0 (Nat.le_refl _) (up hk fun _ h => False.elim h), by omega, hL, hD⟩).mono ?_
 · rintro s A B ⟨i1, i2, i3, i4⟩ hA hAB
   rw [hs1] at hA hAB
   exact ⟨hI _ _ _ i1 (by omega) (up hAB fun b h => by omega), Nat.le_trans i2 hAB.size, (hAB.heap _ (by omega) (by omega)).trans i3, (hAB.heap _ (by omega) (by omega)).trans i4⟩
 · rintro pre x W hx ⟨i1, i2, i3, i4⟩
   have hy := run_yield (P := P) (args := encs x) i3 (by rw [hr0]; exact hps x)
   rw [hr0] at hy
   refine ⟨fn, _, assign, body, hy, roundIn_of_wpIn hfn (hassign _ x W _ ?_)⟩
   have hb := run_beginRound (P := P) i3 (by rw [hr0])
   refine ⟨_, hb, ?_⟩
   obtain ⟨W2, hW2⟩ : ∃ W2, W2 = W.putObj (w.heap.size + 1) (.loop { r0 with state := .busy }) := ⟨_, rfl⟩
   rw [← hW2]
   have k2 : Kept (fun b => b = w.heap.size + 1) W W2 := by rw [hW2]; exact kept_put _ rfl
   have l2 : W2.heap[w.heap.size + 1]? = some (.loop { r0 with state := .busy }) := by rw [hW2]; exact World.putObj_heap_same (by omega)
   have d2 : W2.heap[w.heap.size]? = some (.deferred (some [])) := (k2.heap _ (by omega) (by omega)).trans i4
   refine wpIn_mono (hbody _ pre x W2 hx (hI _ _ _ i1 (by omega) (up k2 fun b h => by omega)) (Nat.le_trans (by omega) k2.size)) ?_
   rintro e a3 W3 ⟨rfl, j1, k3⟩
   have s3 : w.heap.size + 1 + 1 ≤ W3.heap.size := Nat.le_trans i2 (Nat.le_trans k2.size k3.size)
   have l3 : W3.heap[w.heap.size + 1]? = some (.loop { r0 with state := .busy }) := (k3.heap _ (Nat.lt_of_lt_of_le (by omega) k2.size) (by omega)).trans l2
   have d3 : W3.heap[w.heap.size]? = some (.deferred (some [])) := (k3.heap _ (Nat.lt_of_lt_of_le (by omega) k2.size) (by omega)).trans d2
   have he := run_endRound (P := P) none l3
   have e0 : ({ ({ r0 with state := .busy } : Loop) with state := if (none : Option Code).isNone then LoopState.ready else .done, pending := none } : Loop) = r0 := by rw [hr0]; rfl
   rw [e0] at he
   have k4 : Kept (fun b => b = w.heap.size + 1) W3 (W3.putObj (w.heap.size + 1) (.loop r0)) := kept_put _ rfl
   refine ⟨_, _, he, rfl, ⟨hI _ _ _ j1 (by omega) (up k4 fun b h => by omega), Nat.le_trans s3 k4.size, World.putObj_heap_same (by omega), (k4.heap _ (by omega) (by omega)).trans d3⟩, ?_⟩
   rw [hs1]
   refine (k2.mono (own' := fun b => b = bx ∨ (w.heap.size ≤ b ∧ b < w.heap.size + 1 + 1)) (fun b h => by omega)).trans ((k3.mono (own' := fun b => b = bx ∨ (w.heap.size ≤ b ∧ b < w.heap.size + 1 + 1)) (fun b h => .inl h)).trans k4 (fun b h => .inl (by omega))) (fun b h => .inl h)
 · rintro e W2 ⟨⟨v, rfl⟩, i1, i2, i3, i4⟩
   have he := run_endLoop (P := P) i3 (by rw [hr0]; simp)
   obtain ⟨W4, hW4⟩ : ∃ W4, W4 = W2.putObj (w.heap.size + 1) (.loop { r0 with state := .exhausted }) := ⟨_, rfl⟩
   have k4 : Kept (fun b => b = w.heap.size + 1) W2 W4 := by rw [hW4]; exact kept_put _ rfl
   rw [← hW4, show r0.pending = none by rw [hr0]] at he
   have k5 := k4.size
   exact ⟨none, _, he, hdone W4 (hI _ _ _ i1 (by omega) (up k4 fun b h => by omega)) (by omega) ((k4.heap _ (by omega) (by omega)).trans i4)⟩
end Gev
namespace Gev
open Go Gb
def slope1 (a b : Rat × Rat) : Option Rat := if a.1 - b.1 = 0 then none else some ((a.2 - b.2) / (a.1 - b.1))
def lohi : Option (Rat × Rat) → Rat → Option (Rat × Rat)
 | none, s => some (s, s)
 | some (l, h), s => some (if s < l then s else l, if h < s then s else h)
def lohi? (o : Option (Rat × Rat)) : Option Rat → Option (Rat × Rat)
 | none => o
 | some s => lohi o s
def rowS (a : Rat × Rat) (l : List (Rat × Rat)) : List Rat := l.filterMap (slope1 a)
def slopesTo (qs : List (Rat × Rat)) : Nat → List Rat
 | 0 => []
 | i + 1 => slopesTo qs i ++ rowS (qs.getD i (0, 0)) (qs.take i)
def spreadI (qs : List (Rat × Rat)) : Option (Rat × Rat) := (slopesTo qs qs.length).foldl lohi none
theorem rowS_snoc (a b : Rat × Rat) (l : List (Rat × Rat)) : rowS a (l ++ [b]) = rowS a l ++ (slope1 a b).toList := by
 unfold rowS
 rw [List.filterMap_append]
 cases h : slope1 a b <;> simp [h]
theorem fold_row {o : Option (Rat × Rat)} {a b : Rat × Rat} {l : List (Rat × Rat)} : (rowS a (l ++ [b])).foldl lohi o = lohi? ((rowS a l).foldl lohi o) (slope1 a b) := by
 rw [rowS_snoc, List.foldl_append]
 cases slope1 a b <;> rfl
theorem fold_to {qs : List (Rat × Rat)} {i : Nat} {a} (h : qs[i]? = some a) : (slopesTo qs (i + 1)).foldl lohi none = (rowS a (qs.take i)).foldl lohi ((slopesTo qs i).foldl lohi none) := by
 show (slopesTo qs i ++ rowS (qs.getD i (0, 0)) (qs.take i)).foldl lohi none = _
 rw [List.foldl_append, List.getD_eq_getElem?_getD, h]; rfl
theorem slope1_Sz {a b : Rat × Rat} {s : Rat} (ha : Sz a.1 4000 ∧ Sz a.2 4000) (hb : Sz b.1 4000 ∧ Sz b.2 4000) (h : slope1 a b = some s) : Sz s 17000 := by
 unfold slope1 at h
 split at h
 · cases h
 · cases h; exact ((ha.2.sub hb.2).div (ha.1.sub hb.1)).mono (by omega)
def OSz (o : Option (Rat × Rat)) : Prop := ∀ l h, o = some (l, h) → Sz l 17000 ∧ Sz h 17000
theorem OSz.none : OSz none := fun _ _ h => by cases h
theorem OSz.step {o : Option (Rat × Rat)} (h : OSz o) {s : Rat} (hs : Sz s 17000) : OSz (lohi o s) := by
 intro l k e
 cases o with
 | none => cases e; exact ⟨hs, hs⟩
 | some p =>
  obtain ⟨x, y⟩ := p
  obtain ⟨h1, h2⟩ := h x y rfl
  cases e
  constructor <;> split <;> assumption
theorem OSz.fold {l : List Rat} (hl : ∀ s ∈ l, Sz s 17000) : ∀ {o : Option (Rat × Rat)}, OSz o → OSz (l.foldl lohi o) := by
 induction l with
 | nil => intro o h; exact h
 | cons s l ih => intro o h; exact ih (fun x hx => hl x (by simp [hx])) (h.step (hl s (by simp)))
theorem rowS_Sz {a : Rat × Rat} {l : List (Rat × Rat)} (ha : Sz a.1 4000 ∧ Sz a.2 4000) (hl : In l) : ∀ s ∈ rowS a l, Sz s 17000 := by
 intro s hs
 obtain ⟨b, hb, e⟩ := List.mem_filterMap.1 hs
 exact slope1_Sz ha (hl b hb) e
theorem In.take {qs : List (Rat × Rat)} (h : In qs) (n : Nat) : In (qs.take n) := fun q hq => h q (List.mem_of_mem_take hq)
theorem slopesTo_Sz {qs : List (Rat × Rat)} (hq : In qs) : ∀ i, i ≤ qs.length → ∀ s ∈ slopesTo qs i, Sz s 17000
 | 0, _, s, hs => by cases hs
 | i + 1, hi, s, hs => by
  obtain ⟨a, ha⟩ := get_ex (l := qs) (i := i) (by omega)
  rcases List.mem_append.1 hs with h | h
  · exact slopesTo_Sz hq i (by omega) s h
  · rw [List.getD_eq_getElem?_getD, ha] at h
    exact rowS_Sz (hq a (List.mem_of_getElem? ha)) (hq.take i) s h
def ivI : Option (Rat × Rat) → AV
 | none => .tup [.agg [.str ⟨#[]⟩, .str ⟨#[]⟩], .c (.i64 18)]
 | some (l, h) => .tup [.agg [.str (B (decQ l)), .str (B (decQ h))], .c (.i64 0)]
noncomputable def sprI (l : List (List UInt8 × List UInt8)) : AV := if startI l = 0 then ivI (spreadI (nums l)) else .tup [.agg [.str ⟨#[]⟩, .str ⟨#[]⟩], .c (.i64 (startI l))]
end Gev
namespace Gev
open Go Gb
variable {E : Env}
attribute [local irreducible] Sz
abbrev lo0 (o : Option (Rat × Rat)) : Rat := (o.getD (0, 0)).1
abbrev hi0 (o : Option (Rat × Rat)) : Rat := (o.getD (0, 0)).2
theorem r54_spread_in {qs : List (Rat × Rat)} (hq : In qs) (hn : qs.length ≤ 16) {i : Nat} {a : Rat × Rat} (ha : qs[i]? = some a) {o0 : Option (Rat × Rat)} (h0 : OSz o0) : ∀ d k : Nat, k + d = i →
    Lp E 3 F_ref54_Spread 1 (ref54_Spread_L1 (Q2 qs) ((rowS a (qs.take k)).foldl lohi o0).isSome (i : Nat) (k : Nat) ⟨#[]⟩ ⟨#[]⟩ (q0 (lo0 ((rowS a (qs.take k)).foldl lohi o0))) (q1 (lo0 ((rowS a (qs.take k)).foldl lohi o0))) (q2 (lo0 ((rowS a (qs.take k)).foldl lohi o0))) (q0 (hi0 ((rowS a (qs.take k)).foldl lohi o0))) (q1 (hi0 ((rowS a (qs.take k)).foldl lohi o0))) (q2 (hi0 ((rowS a (qs.take k)).foldl lohi o0)))) (.exit 2)
     (ref54_Spread_L1e0 (Q2 qs) (i : Nat) ⟨#[]⟩ ⟨#[]⟩ ((rowS a (qs.take i)).foldl lohi o0).isSome (q0 (lo0 ((rowS a (qs.take i)).foldl lohi o0))) (q1 (lo0 ((rowS a (qs.take i)).foldl lohi o0))) (q2 (lo0 ((rowS a (qs.take i)).foldl lohi o0))) (q0 (hi0 ((rowS a (qs.take i)).foldl lohi o0))) (q1 (hi0 ((rowS a (qs.take i)).foldl lohi o0))) (q2 (hi0 ((rowS a (qs.take i)).foldl lohi o0))))
 | 0, k, hk => by
  obtain rfl : k = i := by omega
  exact ref54_Spread_L1e0_x0 (by omega)
 | d + 1, k, hk => by
  have hl := Lim_val
  have hi := (List.getElem?_eq_some_iff.1 ha).1
  obtain ⟨b, hb⟩ := get_ex (l := qs) (i := k) (by omega)
  have za := hq a (List.mem_of_getElem? ha)
  have zb := hq b (List.mem_of_getElem? hb)
  have ih := r54_spread_in hq hn ha h0 d (k + 1) (by omega)
  have ho : OSz ((rowS a (qs.take k)).foldl lohi o0) := h0.fold (rowS_Sz za (hq.take k))
  rw [take_get hb, fold_row] at ih
  generalize (rowS a (qs.take k)).foldl lohi o0 = o at ih ho
  generalize (rowS a (qs.take i)).foldl lohi o0 = oe at ih
  have ga : (Q2 qs)[Int.toNat ((i : Nat) : Int)]? = some [.str (B (decQ a.1)), .str (B (decQ a.2))] := by rw [Int.toNat_natCast]; exact Q2_get ha
  have gb : (Q2 qs)[Int.toNat ((k : Nat) : Int)]? = some [.str (B (decQ b.1)), .str (B (decQ b.2))] := by rw [Int.toNat_natCast]; exact Q2_get hb
  have hs := r3_Sub (E := E) za.1 zb.1 (by omega)
  have hg := r3_Sign (E := E) (a.1 - b.1)
  by_cases hz : a.1 - b.1 = 0
  · have e : slope1 a b = none := by unfold slope1; rw [if_pos hz]
    rw [e] at ih
    exact ref54_Spread_L1_r0 (v15 := ((k + 1 : Nat) : Int)) (wi (by omega)) (by omega) (by omega) ga (r54_num za.1 (by omega)) (by omega) gb (r54_num zb.1 (by omega)) hs hg (sgn_zero.2 hz) ih
  · have e : slope1 a b = some ((a.2 - b.2) / (a.1 - b.1)) := by unfold slope1; rw [if_neg hz]
    have zs := slope1_Sz za zb e
    rw [e] at ih
    have ht := r3_Sub (E := E) za.2 zb.2 (by omega)
    have hd := r3_Div (E := E) (za.2.sub zb.2) (za.1.sub zb.1) (by omega) hz
    generalize (a.2 - b.2) / (a.1 - b.1) = s at ih zs hd
    cases o with
    | none =>
     have e1 : (if s < s then s else s) = s := by split <;> rfl
     have k1 := r3_Least (E := E) zs zs (by omega)
     have k2 := r3_Most (E := E) zs zs (by omega)
     rw [e1] at k1 k2
     exact ref54_Spread_L1_r2 (v33 := ((k + 1 : Nat) : Int)) (wi (by omega)) (by omega) (by omega) ga (r54_num za.1 (by omega)) (by omega) gb (r54_num zb.1 (by omega)) hs hg (fun e => hz (sgn_zero.1 e)) (r54_num za.2 (by omega)) (r54_num zb.2 (by omega)) ht hd k1 k2 ih
    | some p =>
     obtain ⟨x, y⟩ := p
     obtain ⟨zx, zy⟩ := ho x y rfl
     exact ref54_Spread_L1_r1 (v33 := ((k + 1 : Nat) : Int)) (wi (by omega)) (by omega) (by omega) ga (r54_num za.1 (by omega)) (by omega) gb (r54_num zb.1 (by omega)) hs hg (fun e => hz (sgn_zero.1 e)) (r54_num za.2 (by omega)) (r54_num zb.2 (by omega)) ht hd (r3_Least zx zs (by omega)) (r3_Most zy zs (by omega)) ih
theorem r54_spread_out {qs : List (Rat × Rat)} (hq : In qs) (hn : qs.length ≤ 16) : ∀ d i : Nat, i + d = qs.length →
    Lp E 3 F_ref54_Spread 0 (ref54_Spread_L0 (Q2 qs) ((slopesTo qs i).foldl lohi none).isSome (i : Nat) ⟨#[]⟩ ⟨#[]⟩ (q0 (lo0 ((slopesTo qs i).foldl lohi none))) (q1 (lo0 ((slopesTo qs i).foldl lohi none))) (q2 (lo0 ((slopesTo qs i).foldl lohi none))) (q0 (hi0 ((slopesTo qs i).foldl lohi none))) (q1 (hi0 ((slopesTo qs i).foldl lohi none))) (q2 (hi0 ((slopesTo qs i).foldl lohi none)))) (.exit 0)
     (ref54_Spread_L0e0 ⟨#[]⟩ ⟨#[]⟩ (spreadI qs).isSome (q0 (lo0 (spreadI qs))) (q1 (lo0 (spreadI qs))) (q2 (lo0 (spreadI qs))) (q0 (hi0 (spreadI qs))) (q1 (hi0 (spreadI qs))) (q2 (hi0 (spreadI qs))))
 | 0, i, hi => by
  obtain rfl : i = qs.length := by omega
  exact ref54_Spread_L0e0_x0 (by rw [Q2_len]; omega)
 | d + 1, i, hi => by
  obtain ⟨a, ha⟩ := get_ex (l := qs) (i := i) (by omega)
  have ih := r54_spread_out hq hn d (i + 1) (by omega)
  have h := r54_spread_in (E := E) hq hn ha (o0 := (slopesTo qs i).foldl lohi none) (OSz.none.fold (slopesTo_Sz hq i (by omega))) i 0 (by omega)
  rw [fold_to ha] at ih
  exact ref54_Spread_L0_r0 (v8 := ((i + 1 : Nat) : Int)) (wi (by omega)) (by rw [Q2_len]; omega) h ih
theorem r54_Spread {l : List (List UInt8 × List UInt8)} (hf : Few l) : Fn E F_ref54_Spread [.c (.list (R2 l))] (sprI l) := by
 unfold sprI
 by_cases h0 : startI l = 0
 · rw [if_pos h0]
   have hs := r54_ready (E := E) hf
   rw [h0] at hs
   obtain ⟨qs, rfl, h2, hn⟩ := start_zero h0
   have hq := Tx_in hf
   rw [Tx_R2] at hs ⊢
   rw [nums_Tx]
   have hlp := r54_spread_out (E := E) hq hn qs.length 0 (by omega)
   have hz : OSz (spreadI qs) := OSz.none.fold (slopesTo_Sz hq _ (Nat.le_refl _))
   generalize spreadI qs = o at hlp hz ⊢
   cases o with
   | none => exact ref54_Spread_2 hs rfl r3_zero hlp
   | some p =>
    obtain ⟨x, y⟩ := p
    obtain ⟨zx, zy⟩ := hz x y rfl
    have hl := Lim_val
    exact ref54_Spread_1 hs rfl r3_zero hlp (r3_To zx (by omega)) (r3_To zy (by omega))
 · rw [if_neg h0]; exact ref54_Spread_0 (r54_ready hf) h0
end Gev
namespace Gev
open Go Gb Go.Proofs Go.RowKit Go.Shelf
attribute [local go_sem] Oper.semAt_some
variable {E : Env}
theorem calls_str2 {f : Nat} {a b c : ByteArray} (h : Fn E f [.c (.str a), .c (.str b)] (.c (.str c))) (w : World) (hg : E.Gd w) (hB : E.B0 ≤ w.heap.size) :
    Calls Tryz.prog f #[.string a, .string b] w fun e w' => e = .returned (.string c) ∧ Kept (fun _ => False) w w' := by
 refine Calls.mono (h.calls w (fun _ => False) #[_, _] hg hB (fun _ h => h.elim) rfl fun i v x h1 h2 => ?_) ?_
 · match i, h1, h2 with
   | 0, h1, h2 => cases h1; cases h2; exact .c (.str _)
   | 1, h1, h2 => cases h1; cases h2; exact .c (.str _)
 · rintro e w' ⟨v, rfl, _, k2, k3⟩
   cases k3 with | c k3 => cases k3; exact ⟨rfl, k2⟩
theorem calls_int1 {f : Nat} {a : ByteArray} {n : Int} (h : Fn E f [.c (.str a)] (.c (.i64 n))) (w : World) (hg : E.Gd w) (hB : E.B0 ≤ w.heap.size) :
    Calls Tryz.prog f #[.string a] w fun e w' => e = .returned (.int .i64 n) ∧ Kept (fun _ => False) w w' := by
 refine Calls.mono (h.calls w (fun _ => False) #[_] hg hB (fun _ h => h.elim) rfl fun i v x h1 h2 => ?_) ?_
 · match i, h1, h2 with
   | 0, h1, h2 => cases h1; cases h2; exact .c (.str _)
 · rintro e w' ⟨v, rfl, _, k2, k3⟩
   cases k3 with | c k3 => cases k3; exact ⟨rfl, k2⟩
end Gev
namespace Go.Proofs
open Go.RowKit Go.Shelf Go.Sort Gev
attribute [local go_sem] Oper.semAt_some
theorem slopes_raw (a : Option Addr) (len cap : Nat) (w : World) : Calls Tryz.prog 59 #[.slice a len cap] w fun e w' => e = .returned (.func (.func 98) #[] #[.pointer (some ⟨w.heap.size, 0, none⟩)]) ∧ w' = w.alloc (.cells #[.slice a len cap] 22) := by
 go_enter Tryz.func59, Tryz.ntmps59
 go_wp2
 go_ret
 exact ⟨rfl, rfl⟩
end Go.Proofs
namespace Go.Proofs
open Go.RowKit Go.Shelf Go.Sort Gev Gb
attribute [local go_sem] Oper.semAt_some
variable {E : Env}
def RowQ (a : Addr) (qs : List (Rat × Rat)) (W : World) : Prop := ∀ (j : Nat) q, qs[j]? = some q → W.cell? (a.add (j * 2)) = some (.string (B (decQ q.1))) ∧ W.cell? ((a.add (j * 2)).add 1) = some (.string (B (decQ q.2)))
structure SprK (E : Env) (qs : List (Rat × Rat)) (a : Addr) (Bs cap bx N : Nat) (w0 W : World) : Prop where
 kept : Kept (fun b => b = bx ∨ w0.heap.size ≤ b) w0 W
 size : N ≤ W.heap.size
 gd : E.Gd W
 b0 : E.B0 ≤ W.heap.size
 box : W.cell? ⟨Bs, 0, none⟩ = some (.slice (some a) qs.length cap)
 row : RowQ a qs W
theorem SprK.mk' {qs : List (Rat × Rat)} {a : Addr} {Bs cap bx N : Nat} {w0 W : World} (hG : E.Gd w0) (hB : E.B0 ≤ bx) (hb : bx < w0.heap.size) (hs : w0.cell? ⟨Bs, 0, none⟩ = some (.slice (some a) qs.length cap)) (hBs : Bs ≠ bx) (ha : a.block ≠ bx) (hr : RowQ a qs w0)
    (hk : Kept (fun b => b = bx ∨ w0.heap.size ≤ b) w0 W) (hN : N ≤ W.heap.size) : SprK E qs a Bs cap bx N w0 W := by
 have c : ∀ {p : Addr} {v : Value}, w0.cell? p = some v → p.block ≠ bx → W.cell? p = some v := fun {p v} h hp => hk.cell h (fun e => e.elim hp (fun e => by have := cell_lt h; omega))
 refine ⟨hk, hN, E.hs w0 _ (fun b hb' => hk.heap b (by omega) (by omega)) hk.size hG, by have := hk.size; omega, c hs hBs, fun j q hj => ⟨c (hr j q hj).1 (by rw [add_block]; exact ha), c (hr j q hj).2 (by rw [add_block, add_block]; exact ha)⟩⟩
theorem SprK.alloc {qs : List (Rat × Rat)} {a : Addr} {Bs cap bx N : Nat} {w0 W : World} (hs : ∀ W', Kept (fun b => b = bx ∨ w0.heap.size ≤ b) w0 W' → N ≤ W'.heap.size → SprK E qs a Bs cap bx N w0 W') (h : SprK E qs a Bs cap bx N w0 W) {W' : World} {q : Nat → Prop} (hk : Kept q W W') (hq : ∀ b, q b → b = bx ∨ w0.heap.size ≤ b) : SprK E qs a Bs cap bx N w0 W' :=
 hs W' (h.kept.trans hk fun b hb => .inl (hq b hb)) (Nat.le_trans h.size hk.size)
theorem cell0 (w : World) (x y : Value) : (w.alloc (.cells #[x, y] 33)).cell? ⟨w.heap.size, 0, none⟩ = some x := by simp
theorem cell1 (w : World) (x y : Value) : (w.alloc (.cells #[x, y] 33)).cell? ⟨w.heap.size, 1, none⟩ = some y := by simp
theorem take_nil {α : Type} (l : List α) : l.take 0 = [] := rfl
set_option maxRecDepth 100000 in
set_option maxHeartbeats 4000000 in
theorem slopes_gives (hlib : Lib E) (n : Nat) (hn : 1 ≤ n) {qs : List (Rat × Rat)} (hq : In qs) (hlen : qs.length ≤ 1000) {a : Addr} {Bs cap bx : Nat} {w0 : World} (hG : E.Gd w0) (hB : E.B0 ≤ bx) (hb : bx < w0.heap.size) (hs : w0.cell? ⟨Bs, 0, none⟩ = some (.slice (some a) qs.length cap)) (hBs : Bs ≠ bx) (ha : a.block ≠ bx) (hr : RowQ a qs w0) (hcap : qs.length ≤ cap) :
    Gives Tryz.prog n 98 #[.pointer (some ⟨Bs, 0, none⟩)] (fun s : Rat => #[.string (B (decQ s))]) bx (fun s => Sz s 17000) (slopesTo qs qs.length) w0 := by
 intro l J W hW hJ hY h0
 have hK : ∀ (W' : World), Kept (fun b => b = bx ∨ w0.heap.size ≤ b) w0 W' → W.heap.size ≤ W'.heap.size → SprK E qs a Bs cap bx W.heap.size w0 W' := fun W' hk hN => SprK.mk' hG hB hb hs hBs ha hr hk hN
 have k0 := hK W (hW.mono fun _ h => h.elim) (Nat.le_refl _)
 have hWs := hW.size
 clear hs hr hG
 refine callsIn_of_wp Tryz.func98 rfl trivial ?_ rfl
 simp only [Tryz.ntmps98, List.size_toArray, List.length_cons, List.length_nil, Nat.reduceAdd, Nat.reduceSub, Array.replicate_succ, Array.replicate_zero, List.push_toArray, List.append_toArray, List.nil_append, List.cons_append]
 have hs := k0.box
 gi_wp2
 gi_loopw [10] (fun i wr => ∃ k : Nat, k ≤ qs.length ∧ i = .int .i64 k ∧ J (slopesTo qs k) wr ∧ SprK E qs a Bs cap bx W.heap.size w0 wr) (fun i _ => (qs.length - intOf i).toNat)
 case atStart => exact ⟨0, Nat.zero_le _, rfl, h0, k0⟩
 case round =>
  obtain ⟨k, hk, rfl, hJs, hks⟩ := hrel
  rename World => V
  by_cases hlt : k < qs.length
  · obtain ⟨q, hqk⟩ := Gev.get_ex hlt
    have hs' := hks.box
    obtain ⟨c1, c2'⟩ := hks.row k q hqk
    have c2 : V.cell? ⟨(a.add (k * 2)).block, (a.add (k * 2)).off + 1, none⟩ = some (.string (B (decQ q.2))) := c2'
    clear c2'
    have zq := hq q (List.mem_of_getElem? hqk)
    have k4 : Kept (fun _ => False) V (V.alloc (.cells #[.string (B (decQ q.1)), .string (B (decQ q.2))] 33)) := Kept.alloc _ _ _
    have hk4 := hks.alloc hK k4 (fun _ h => False.elim h)
    have hs4 := hk4.box
    have b40 := cell0 V (.string (B (decQ q.1))) (.string (B (decQ q.2)))
    have b41 := cell1 V (.string (B (decQ q.1))) (.string (B (decQ q.2)))
    have hJ4 : J (slopesTo qs k ++ rowS q (qs.take 0)) (V.alloc (.cells #[.string (B (decQ q.1)), .string (B (decQ q.2))] 33)) := by
     rw [take_nil]; show J (slopesTo qs k ++ []) _; rw [List.append_nil]; exact hJ _ _ _ hJs hks.size (k4.mono fun _ h => h.elim)
    have hsz4 : V.heap.size < (V.alloc (.cells #[.string (B (decQ q.1)), .string (B (decQ q.2))] 33)).heap.size := by simp
    have hwr := hks.size
    clear k4
    gi_wp2
    clear c1 c2
    gi_loopw [19] (fun i w2 => ∃ j : Nat, j ≤ k ∧ i = .int .i64 j ∧ J (slopesTo qs k ++ rowS q (qs.take j)) w2 ∧ SprK E qs a Bs cap bx W.heap.size w0 w2 ∧ w2.cell? ⟨V.heap.size, 0, none⟩ = some (.string (B (decQ q.1))) ∧ w2.cell? ⟨V.heap.size, 1, none⟩ = some (.string (B (decQ q.2))) ∧ V.heap.size < w2.heap.size) (fun i _ => (k - intOf i).toNat)
    case atStart => exact ⟨0, Nat.zero_le _, rfl, hJ4, hk4, b40, b41, hsz4⟩
    case round =>
     clear hJ4 hk4 b40 b41 hsz4 hs4 hs' hJs hks
     obtain ⟨j, hj, rfl, hJs, hks, b40, b41, hsz⟩ := hrel
     by_cases hjk : j < k
     · obtain ⟨p, hpj⟩ := Gev.get_ex (l := qs) (i := j) (by omega)
       obtain ⟨c1, c2'⟩ := hks.row j p hpj
       have c2 : wr.cell? ⟨(a.add (j * 2)).block, (a.add (j * 2)).off + 1, none⟩ = some (.string (B (decQ p.2))) := c2'
       have zp := hq p (List.mem_of_getElem? hpj)
       have hl := Lim_val
       have e1 := calls_str2 (inc_sub hlib zq.1 zp.1 (by omega))
       have e2 := calls_int1 (inc_sign hlib (zq.1.sub zp.1) (by omega))
       have e3 := calls_str2 (inc_sub hlib zq.2 zp.2 (by omega))
       have e4 : q.1 - p.1 ≠ 0 → _ := fun h => calls_str2 (inc_div hlib (zq.2.sub zp.2) (zq.1.sub zp.1) (by omega) h)
       obtain ⟨W5, hW5⟩ : ∃ W5, W5 = wr.alloc (.cells #[.string (B (decQ p.1)), .string (B (decQ p.2))] 33) := ⟨_, rfl⟩
       have ka : Kept (fun _ => False) wr W5 := by rw [hW5]; exact Kept.alloc _ _ _
       have k5 := hks.alloc hK ka (fun _ h => False.elim h)
       have ok : ∀ {w' : World}, Kept (fun _ => False) W5 w' → SprK E qs a Bs cap bx W.heap.size w0 w' := fun h => k5.alloc hK h (fun _ h => False.elim h)
       have k55 : Kept (fun _ => False) W5 (wr.alloc (.cells #[.string (B (decQ p.1)), .string (B (decQ p.2))] 33)) := by rw [hW5]; exact Kept.refl _ _
       have cf : ∀ {w' : World}, Kept (fun _ => False) W5 w' → (w'.cell? ⟨V.heap.size, 0, none⟩ = some (.string (B (decQ q.1))) ∧ w'.cell? ⟨V.heap.size, 1, none⟩ = some (.string (B (decQ q.2)))) ∧ w'.cell? ⟨wr.heap.size, 0, none⟩ = some (.string (B (decQ p.1))) ∧ w'.cell? ⟨wr.heap.size, 1, none⟩ = some (.string (B (decQ p.2))) := fun {w'} h =>
        ⟨⟨(ka.trans h fun _ h => False.elim h).cell b40 id, (ka.trans h fun _ h => False.elim h).cell b41 id⟩, h.cell (by rw [hW5]; exact cell0 _ _ _) id, h.cell (by rw [hW5]; exact cell1 _ _ _) id⟩
       have hJ5 : ∀ {w' : World}, Kept (fun _ => False) W5 w' → J (slopesTo qs k ++ rowS q (qs.take j)) w' := fun h => hJ _ _ _ hJs hks.size ((ka.trans h fun _ h => False.elim h).mono fun _ h => False.elim h)
       have hsz5 : V.heap.size < W5.heap.size := Nat.lt_of_lt_of_le hsz ka.size
       clear hW5 c2' b40 b41
       have f1 : ∀ w', Kept (fun _ => False) W5 w' → Calls Tryz.prog 47 #[.string (B (decQ q.1)), .string (B (decQ p.1))] w' fun e w2 => e = .returned (.string (B (decQ (q.1 - p.1)))) ∧ Kept (fun _ => False) W5 w2 := fun w' h => Calls.mono (e1 w' (ok h).gd (ok h).b0) fun e w2 ⟨x, y⟩ => ⟨x, h.trans y fun _ h => False.elim h⟩
       have f2 : ∀ w', Kept (fun _ => False) W5 w' → Calls Tryz.prog 48 #[.string (B (decQ (q.1 - p.1)))] w' fun e w2 => e = .returned (.int .i64 (cmpQ (q.1 - p.1) 0)) ∧ Kept (fun _ => False) W5 w2 := fun w' h => Calls.mono (e2 w' (ok h).gd (ok h).b0) fun e w2 ⟨x, y⟩ => ⟨x, h.trans y fun _ h => False.elim h⟩
       have f3 : ∀ w', Kept (fun _ => False) W5 w' → Calls Tryz.prog 47 #[.string (B (decQ q.2)), .string (B (decQ p.2))] w' fun e w2 => e = .returned (.string (B (decQ (q.2 - p.2)))) ∧ Kept (fun _ => False) W5 w2 := fun w' h => Calls.mono (e3 w' (ok h).gd (ok h).b0) fun e w2 ⟨x, y⟩ => ⟨x, h.trans y fun _ h => False.elim h⟩
       have hrow : rowS q (qs.take (j + 1)) = rowS q (qs.take j) ++ (slope1 q p).toList := by rw [take_get hpj, rowS_snoc]
       have g0 := cf k55
       obtain ⟨⟨g01, g02⟩, g03, g04⟩ := g0
       clear e1 e2 e3
       by_cases hz : q.1 - p.1 = 0
       · have hsl : slope1 q p = none := by unfold slope1; rw [if_pos hz]
         have hc : cmpQ (q.1 - p.1) 0 = 0 := cmpQ_zero.2 hz
         rw [hc] at f2
         rw [hsl] at hrow
         clear e4 f3 hc hsl hz
         generalize B (decQ (q.1 - p.1)) = d1 at f1 f2
         generalize B (decQ q.1) = m1 at f1 g01 cf
         generalize B (decQ q.2) = m2 at g02 cf
         generalize B (decQ p.1) = n1 at f1 g03 c1 cf k55
         generalize B (decQ p.2) = n2 at g04 c2 cf k55
         gi_wp2_with (first
          | (refine ⟨trivial, ?_⟩; gi_at_call 47; refine (callsIn_wide.2 (f1 _ k55)).mono ?_; rintro e w6 ⟨rfl, k6⟩)
          | (refine ⟨trivial, ?_⟩; gi_at_call 48; refine (callsIn_wide.2 (f2 _ k6)).mono ?_; rintro e w7 ⟨rfl, k7⟩))
         refine ⟨trivial, ?_⟩
         gi_wp2
         refine ⟨trivial, ?_⟩
         gi_wp2
         try refine ⟨fun _ h => (by cases h), ?_⟩
         gi_wp2
         obtain ⟨⟨h1, h2⟩, -⟩ := cf k7
         go_roundw
         case rel => exact ⟨j + 1, by omega, by simp, by rw [hrow]; simpa using hJ5 k7, ok k7, h1, h2, Nat.lt_of_lt_of_le hsz5 k7.size⟩
         case measure => simp [intOf]; omega
       · have hsl : slope1 q p = some ((q.2 - p.2) / (q.1 - p.1)) := by unfold slope1; rw [if_neg hz]
         have hc : cmpQ (q.1 - p.1) 0 ≠ 0 := fun e => hz (cmpQ_zero.1 e)
         have zs := slope1_Sz zq zp hsl
         have e4 := e4 hz
         have f4 : ∀ w', Kept (fun _ => False) W5 w' → Calls Tryz.prog 41 #[.string (B (decQ (q.2 - p.2))), .string (B (decQ (q.1 - p.1)))] w' fun e w2 => e = .returned (.string (B (decQ ((q.2 - p.2) / (q.1 - p.1))))) ∧ Kept (fun _ => False) W5 w2 := fun w' h => Calls.mono (e4 w' (ok h).gd (ok h).b0) fun e w2 ⟨x, y⟩ => ⟨x, h.trans y fun _ h => False.elim h⟩
         rw [hsl] at hrow
         clear e4 hsl hz
         have hyy := hY (slopesTo qs k ++ rowS q (qs.take j)) ((q.2 - p.2) / (q.1 - p.1))
         clear hY
         generalize cmpQ (q.1 - p.1) 0 = c at f2 hc
         generalize (q.2 - p.2) / (q.1 - p.1) = s at f4 hrow zs hyy
         generalize B (decQ (q.1 - p.1)) = d1 at f1 f2 f4
         generalize B (decQ (q.2 - p.2)) = d2 at f3 f4
         generalize B (decQ q.1) = m1 at f1 g01 cf
         generalize B (decQ q.2) = m2 at f3 g02 cf
         generalize B (decQ p.1) = n1 at f1 g03 c1 cf k55
         generalize B (decQ p.2) = n2 at f3 g04 c2 cf k55
         gi_wp2_with (first
          | (refine ⟨trivial, ?_⟩; gi_at_call 47; refine (callsIn_wide.2 (f1 _ k55)).mono ?_; rintro e w6 ⟨rfl, k6⟩; clear f1)
          | (refine ⟨trivial, ?_⟩; gi_at_call 48; refine (callsIn_wide.2 (f2 _ k6)).mono ?_; rintro e w7 ⟨rfl, k7⟩; obtain ⟨⟨g71, g72⟩, g73, g74⟩ := cf k7)
          | (refine ⟨trivial, ?_⟩; gi_at_call 47; refine (callsIn_wide.2 (f3 _ k7)).mono ?_; rintro e w8 ⟨rfl, k8⟩)
          | (refine ⟨trivial, ?_⟩; gi_at_call 41; refine (callsIn_wide.2 (f4 _ k8)).mono ?_; rintro e w9 ⟨rfl, k9⟩; obtain ⟨fn, tmps, assign, body, hy, hR⟩ := hyy w9 zs (hJ5 k9)))
         have hcb : (c != 0) = true := by simpa using hc
         simp only [hcb]
         refine hR.mono ?_
         rintro e W10 ⟨rfl, hJ10, k10⟩
         gi_wp2
         obtain ⟨⟨h1, h2⟩, -⟩ := cf k9
         have n1 : ∀ b, b < wr.heap.size → W.heap.size ≤ b → ¬ (b = bx ∨ w0.heap.size ≤ b ∧ b < W.heap.size) := fun b _ h2 => by omega
         go_roundw
         case rel => exact ⟨j + 1, by omega, by simp, by rw [hrow, ← List.append_assoc]; exact hJ10, (ok k9).alloc hK k10 (fun b h => h.imp id fun h => h.1), k10.cell h1 (n1 V.heap.size (by omega) hwr), k10.cell h2 (n1 V.heap.size (by omega) hwr), Nat.lt_of_lt_of_le hsz5 (Nat.le_trans k9.size k10.size)⟩
         case measure => simp [intOf]; omega
     · obtain rfl : j = k := by omega
       gi_wp2
       go_roundw
       case rel => exact ⟨j + 1, by omega, by simp, by show J (slopesTo qs j ++ rowS (qs.getD j (0, 0)) (qs.take j)) _; rw [List.getD_eq_getElem?_getD, hqk]; exact hJs, hks⟩
       case measure => simp [intOf]; omega
  · obtain rfl : k = qs.length := by omega
    gi_wp2
    go_end0
    exact ⟨⟨_, rfl⟩, hJs⟩
end Go.Proofs
