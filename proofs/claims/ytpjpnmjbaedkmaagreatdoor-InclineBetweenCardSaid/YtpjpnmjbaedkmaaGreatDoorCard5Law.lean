/- The law of the last text of this claim: its walk, its plain words. -/
import Derived.Test.YtpjpnmjbaedkmaaGreatDoorF
import Derived.KernelRfl
import Derived.Shelf.SlicesE.Clone
import Derived.Test.YtpjpnmjbaedkmaaGreatDoorTie
import Derived.Test.YtpjpnmjbaedkmaaGreatDoorCards
set_option linter.unusedSectionVars false
set_option linter.unusedVariables false
set_option linter.unusedSimpArgs false
namespace Gev
open Go Go.Proofs
variable {E : Env}
theorem law54_InclineBetween_0 {a0 : List (List DV)} {v3 : Nat} {v4 v5 : List (List DV)} {v6 v7 v8 : ByteArray} {v9 : Int} {v10 : Nat} {v11 v12 : List (List DV)} {v13 v14 : ByteArray} {v15 : Int} (e1 : (v4.take v3) = v5) (e2 : (v11.take v10) = v12) (h1 : Fn E F_law54_awake [] (.c (.bool true))) (h2 : Fn E F_ref54_Few [.c (.list a0), .c (.list [])] (.c (.bool true))) (h3 : Rn E F_slices_Clone_Shift [.c (.list a0)] [] (.vec 0 v3) [some (.vec T_api_Shift v4)]) (h4 : Fn E F_incline_Fit [.c (.list v5)] (.tup [.agg [.str v6, .str v7, .str v8], .c (.i64 v9)])) (h5 : Rn E F_slices_Clone_Shift [.c (.list a0)] [] (.vec 0 v10) [some (.vec T_api_Shift v11)]) (h6 : Fn E F_incline_Spread [.c (.list v12)] (.tup [.agg [.str v13, .str v14], .c (.i64 v15)])) (h7 : ¬ v9 = 0) (h8 : v9 = v15) :
    Fn E F_law54_InclineBetween [.c (.list a0)] (.c (.bool true)) := by
 subst e1 e2
 exact fnMk [.v (.c (.bool true)), .v (.c (.bool true)), .nw v3 T_api_Shift v4, .v (.tup [.agg [.str v6, .str v7, .str v8], .c (.i64 v9)]), .nw v10 T_api_Shift v11, .v (.tup [.agg [.str v13, .str v14], .c (.i64 v15)]), .t true, .t true] (by kernel_rfl) (by kernel_rfl) (aC h1 (aC h2 (aC h3 (aC h4 (aC h5 (aC h6 (aC (bnT h7) (aO (beT h8))))))))) (by kernel_rfl)
theorem law54_InclineBetween_5 {a0 : List (List DV)} {v3 : Nat} {v4 v5 : List (List DV)} {v6 v7 v8 : ByteArray} {v9 : Int} {v10 : Nat} {v11 v12 : List (List DV)} {v13 v14 : ByteArray} {v15 : Int} {v16 : Bool} {v17 v18 : List (List DV)} {v20 : Bool} {v21 v22 : List (List DV)} {v24 : Bool} {v25 v26 : List (List DV)} {v29 : Bool} (e1 : (v4.take v3) = v5) (e2 : (v11.take v10) = v12) (h1 : Fn E F_law54_awake [] (.c (.bool true))) (h2 : Fn E F_ref54_Few [.c (.list a0), .c (.list [])] (.c (.bool true))) (h3 : Rn E F_slices_Clone_Shift [.c (.list a0)] [] (.vec 0 v3) [some (.vec T_api_Shift v4)]) (h4 : Fn E F_incline_Fit [.c (.list v5)] (.tup [.agg [.str v6, .str v7, .str v8], .c (.i64 v9)])) (h5 : Rn E F_slices_Clone_Shift [.c (.list a0)] [] (.vec 0 v10) [some (.vec T_api_Shift v11)]) (h6 : Fn E F_incline_Spread [.c (.list v12)] (.tup [.agg [.str v13, .str v14], .c (.i64 v15)])) (h7 : v9 = 0) (h8 : v15 = 0) (h9 : Fn E F_ref03_From [.c (.str v6)] (.tup [.agg [.bool v16, .list v17, .list v18], .c (.bool true)])) (h10 : Fn E F_ref03_From [.c (.str v13)] (.tup [.agg [.bool v20, .list v21, .list v22], .c (.bool true)])) (h11 : Fn E F_ref03_From [.c (.str v14)] (.tup [.agg [.bool v24, .list v25, .list v26], .c (.bool true)])) (h12 : Fn E F_ref03_Less [.agg [.bool v16, .list v17, .list v18], .agg [.bool v20, .list v21, .list v22]] (.c (.bool false))) (h13 : Fn E F_ref03_Less [.agg [.bool v24, .list v25, .list v26], .agg [.bool v16, .list v17, .list v18]] (.c (.bool v29))) :
    Fn E F_law54_InclineBetween [.c (.list a0)] (.c (.bool (!v29))) := by
 subst e1 e2
 exact fnMk [.v (.c (.bool true)), .v (.c (.bool true)), .nw v3 T_api_Shift v4, .v (.tup [.agg [.str v6, .str v7, .str v8], .c (.i64 v9)]), .nw v10 T_api_Shift v11, .v (.tup [.agg [.str v13, .str v14], .c (.i64 v15)]), .t false, .t false, .v (.tup [.agg [.bool v16, .list v17, .list v18], .c (.bool true)]), .v (.tup [.agg [.bool v20, .list v21, .list v22], .c (.bool true)]), .v (.tup [.agg [.bool v24, .list v25, .list v26], .c (.bool true)]), .v (.c (.bool false)), .v (.c (.bool v29))] (by kernel_rfl) (by kernel_rfl) (aC h1 (aC h2 (aC h3 (aC h4 (aC h5 (aC h6 (aC (bnF h7) (aC (bnF h8) (aC h9 (aC h10 (aC h11 (aC h12 (aO h13))))))))))))) (by kernel_rfl)
theorem law54_InclineBetween_9 {a0 : List (List DV)} (h1 : Fn E F_law54_awake [] (.c (.bool true))) (h2 : Fn E F_ref54_Few [.c (.list a0), .c (.list [])] (.c (.bool false))) :
    Fn E F_law54_InclineBetween [.c (.list a0)] (.c (.bool true)) := by
 exact fnMk [.v (.c (.bool true)), .v (.c (.bool false))] (by kernel_rfl) (by kernel_rfl) (aC h1 (aO h2)) (by kernel_rfl)
theorem law54_awake_0 {v1 : List (List DV)} {v2 v3 v4 : ByteArray} {v5 : Int} {v6 : ByteArray} {v7 : Int} {v8 : ByteArray} {v9 : Int} {v10 : List (List DV)} {v11 v12 : ByteArray} {v13 : Int} {v14 v15 : ByteArray} {v16 : Int} {v17 v18 v19 : ByteArray} {v20 : Int} {v21 : List (List DV)} {v22 : Int} {v23 : List (List DV)} {v24 : Bool} (e1 : (([[.str ⟨#[45, 49, 48, 48]⟩, .str ⟨#[49, 50]⟩]] : List (List DV)).take 1) = v10) (e2 : (([[.str ⟨#[48]⟩], [.str ⟨#[48]⟩], [.str ⟨#[48]⟩]] : List (List DV)).take 3) = v23) (h1 : Fn E F_law54_Three [] (.c (.list v1))) (h2 : Fn E F_incline_Fit [.c (.list v1)] (.tup [.agg [.str v2, .str v3, .str v4], .c (.i64 v5)])) (h3 : Fn E F_incline_Height [.agg [.str v2, .str v3, .str v4], .c (.str ⟨#[50, 53, 48, 48]⟩)] (.tup [.c (.str v6), .c (.i64 v7)])) (h4 : Fn E F_incline_Centre [.c (.list v1), .c (.str ⟨#[50, 53, 48, 48]⟩), .c (.str ⟨#[57]⟩)] (.tup [.c (.str v8), .c (.i64 v9)])) (h5 : Fn E F_incline_Correct [.c (.str ⟨#[50, 53, 48, 48]⟩), .c (.str ⟨#[55]⟩), .c (.list v10)] (.tup [.agg [.str v11, .str v12], .c (.i64 v13)])) (h6 : Fn E F_incline_Spread [.c (.list v1)] (.tup [.agg [.str v14, .str v15], .c (.i64 v16)])) (h7 : Fn E F_incline_Through [.c (.list v1)] (.tup [.agg [.str v17, .str v18, .str v19], .c (.i64 v20)])) (h8 : Fn E F_incline_Differences [.c (.list v1), .agg [.str v2, .str v3, .str v4]] (.tup [.c (.list v21), .c (.i64 v22)])) (h9 : v5 = 0) (h10 : v7 = 0) (h11 : v9 = 0) (h12 : v13 = 0) (h13 : v16 = 0) (h14 : v20 = 0) (h15 : v22 = 0) (h16 : ((v2 == (⟨#[49, 47, 53, 48, 48, 48]⟩ : ByteArray)) && ((v3 == (⟨#[48]⟩ : ByteArray)) && ((v4 == (⟨#[48]⟩ : ByteArray)) && true))) = true) (h17 : v6 = (⟨#[50]⟩ : ByteArray)) (h18 : v8 = (⟨#[55]⟩ : ByteArray)) (h19 : ((v11 == (⟨#[50, 52, 48, 48]⟩ : ByteArray)) && ((v12 == (⟨#[49, 54, 51, 47, 50, 52]⟩ : ByteArray)) && true)) = true) (h20 : ((v14 == (⟨#[49, 47, 53, 48, 48, 48]⟩ : ByteArray)) && ((v15 == (⟨#[49, 47, 53, 48, 48, 48]⟩ : ByteArray)) && true)) = true) (h21 : ((v17 == v2) && ((v18 == v3) && ((v19 == v4) && true))) = true) (h22 : Fn E F_slices_Equal_Rat [.c (.list v21), .c (.list v23)] (.c (.bool v24))) :
    Fn E F_law54_awake [] (.c (.bool v24)) := by
 subst e1 e2
 exact fnMk [.v (.c (.list v1)), .v (.tup [.agg [.str v2, .str v3, .str v4], .c (.i64 v5)]), .v (.tup [.c (.str v6), .c (.i64 v7)]), .v (.c (.list v1)), .v (.tup [.c (.str v8), .c (.i64 v9)]), .v (.tup [.agg [.str v11, .str v12], .c (.i64 v13)]), .v (.c (.list v1)), .v (.tup [.agg [.str v14, .str v15], .c (.i64 v16)]), .v (.c (.list v1)), .v (.tup [.agg [.str v17, .str v18, .str v19], .c (.i64 v20)]), .v (.c (.list v1)), .v (.tup [.c (.list v21), .c (.i64 v22)]), .t true, .t true, .t true, .t true, .t true, .t true, .t true, .t true, .t true, .t true, .t true, .t true, .t true, .v (.c (.bool v24))] (by kernel_rfl) (by kernel_rfl) (aC h1 (aC h2 (aC h3 (aC h1 (aC h4 (aC h5 (aC h1 (aC h6 (aC h1 (aC h7 (aC h1 (aC h8 (aC (beT h9) (aC (beT h10) (aC (beT h11) (aC (beT h12) (aC (beT h13) (aC (beT h14) (aC (beT h15) (aC (id h16) (aC (seT h17) (aC (seT h18) (aC (id h19) (aC (id h20) (aC (id h21) (aO h22)))))))))))))))))))))))))) (by kernel_rfl)
theorem law54_Three_0 {v1 : List (List DV)} (e1 : (([[.str ⟨#[48]⟩, .str ⟨#[48]⟩], [.str ⟨#[49, 48, 48]⟩, .str ⟨#[49, 47, 53, 48]⟩], [.str ⟨#[50, 48, 48]⟩, .str ⟨#[49, 47, 50, 53]⟩]] : List (List DV)).take 3) = v1) :
    Fn E F_law54_Three [] (.c (.list v1)) := by
 subst e1
 exact fnMk [] (by kernel_rfl) (by kernel_rfl) aN (by kernel_rfl)
end Gev
namespace Gev
open Go Gb
variable {E : Env}
def sh (p : List UInt8 × List UInt8) : Bool := decide (p.1.length ≤ 40) && decide (p.2.length ≤ 40)
theorem few_loop0 {l m : List (List UInt8 × List UInt8)} (hl : l.length ≤ 9223372036854775807) : ∀ d i : Nat, i + d = l.length →
    (l.drop i).all sh = true ∧ Lp E 0 F_ref54_Few 0 (ref54_Few_L0 (R2 l) (R2 m) (i : Nat)) (.exit 0) (ref54_Few_L0e1 (R2 l) (R2 m)) ∨
    (l.drop i).all sh = false ∧ Lp E 0 F_ref54_Few 0 (ref54_Few_L0 (R2 l) (R2 m) (i : Nat)) .ret ref54_Few_L0e0
 | 0, i, hi => .inl ⟨by rw [List.drop_eq_nil_of_le (by omega)]; rfl, ref54_Few_L0e1_x0 (by rw [R2_len]; omega)⟩
 | d + 1, i, hi => by
  obtain ⟨c, hc⟩ := get_ex (l := l) (i := i) (by omega)
  have g := R2_get hc
  rw [← Int.toNat_natCast i] at g
  rw [drop_get hc, List.all_cons]
  have hb1 : (i : Int) < ((R2 l).length : Int) := by rw [R2_len]; omega
  by_cases h1 : c.1.length ≤ 40
  · by_cases h2 : c.2.length ≤ 40
    · have e : sh c = true := by unfold sh; rw [decide_eq_true h1, decide_eq_true h2]; rfl
      rw [e, Bool.true_and]
      have st : ∀ {o s}, Lp E 0 F_ref54_Few 0 (ref54_Few_L0 (R2 l) (R2 m) ((i + 1 : Nat) : Int)) o s → Lp E 0 F_ref54_Few 0 (ref54_Few_L0 (R2 l) (R2 m) (i : Nat)) o s := fun h => ref54_Few_L0_r0 (wi (by omega)) hb1 (by omega) g (by rw [B_size]; omega) (by rw [B_size]; omega) h
      rcases few_loop0 hl d (i + 1) (by omega) with ⟨k1, k2⟩ | ⟨k1, k2⟩
      · exact .inl ⟨k1, st k2⟩
      · exact .inr ⟨k1, st k2⟩
    · have e : sh c = false := by unfold sh; rw [decide_eq_false h2, Bool.and_false]
      rw [e]
      exact .inr ⟨rfl, ref54_Few_L0e0_x1 hb1 (by omega) g (by rw [B_size]; omega) (by rw [B_size]; omega)⟩
  · have e : sh c = false := by unfold sh; rw [decide_eq_false h1, Bool.false_and]
    rw [e]
    exact .inr ⟨rfl, ref54_Few_L0e0_x0 hb1 (by omega) g (by rw [B_size]; omega)⟩
theorem few_loop1 {l m : List (List UInt8 × List UInt8)} (hl : m.length ≤ 9223372036854775807) : ∀ d i : Nat, i + d = m.length →
    (m.drop i).all sh = true ∧ Lp E 0 F_ref54_Few 1 (ref54_Few_L1 (R2 l) (R2 m) (i : Nat)) (.exit 2) (ref54_Few_L1e1 (R2 l) (R2 m)) ∨
    (m.drop i).all sh = false ∧ Lp E 0 F_ref54_Few 1 (ref54_Few_L1 (R2 l) (R2 m) (i : Nat)) .ret ref54_Few_L1e0
 | 0, i, hi => .inl ⟨by rw [List.drop_eq_nil_of_le (by omega)]; rfl, ref54_Few_L1e1_x0 (by rw [R2_len]; omega)⟩
 | d + 1, i, hi => by
  obtain ⟨c, hc⟩ := get_ex (l := m) (i := i) (by omega)
  have g := R2_get hc
  rw [← Int.toNat_natCast i] at g
  rw [drop_get hc, List.all_cons]
  have hb1 : (i : Int) < ((R2 m).length : Int) := by rw [R2_len]; omega
  by_cases h1 : c.1.length ≤ 40
  · by_cases h2 : c.2.length ≤ 40
    · have e : sh c = true := by unfold sh; rw [decide_eq_true h1, decide_eq_true h2]; rfl
      rw [e, Bool.true_and]
      have st : ∀ {o s}, Lp E 0 F_ref54_Few 1 (ref54_Few_L1 (R2 l) (R2 m) ((i + 1 : Nat) : Int)) o s → Lp E 0 F_ref54_Few 1 (ref54_Few_L1 (R2 l) (R2 m) (i : Nat)) o s := fun h => ref54_Few_L1_r0 (wi (by omega)) hb1 (by omega) g (by rw [B_size]; omega) (by rw [B_size]; omega) h
      rcases few_loop1 hl d (i + 1) (by omega) with ⟨k1, k2⟩ | ⟨k1, k2⟩
      · exact .inl ⟨k1, st k2⟩
      · exact .inr ⟨k1, st k2⟩
    · have e : sh c = false := by unfold sh; rw [decide_eq_false h2, Bool.and_false]
      rw [e]
      exact .inr ⟨rfl, ref54_Few_L1e0_x1 hb1 (by omega) g (by rw [B_size]; omega) (by rw [B_size]; omega)⟩
  · have e : sh c = false := by unfold sh; rw [decide_eq_false h1, Bool.false_and]
    rw [e]
    exact .inr ⟨rfl, ref54_Few_L1e0_x0 hb1 (by omega) g (by rw [B_size]; omega)⟩
def fewB (l m : List (List UInt8 × List UInt8)) : Bool := l.all sh && m.all sh && (decide (l.length ≤ 17) && (decide (m.length ≤ 12) || decide (m.length = 65)))
theorem r54_Few {l m : List (List UInt8 × List UInt8)} (hl : l.length ≤ 9223372036854775807) (hm : m.length ≤ 9223372036854775807) : Fn E F_ref54_Few [.c (.list (R2 l)), .c (.list (R2 m))] (.c (.bool (fewB l m))) := by
 have h0 := few_loop0 (E := E) (m := m) hl l.length 0 (by omega)
 have h1 := few_loop1 (E := E) (l := l) hm m.length 0 (by omega)
 rw [List.drop_zero] at h0 h1
 unfold fewB
 rcases h0 with ⟨a1, a2⟩ | ⟨a1, a2⟩
 · rw [a1, Bool.true_and]
   rcases h1 with ⟨b1, b2⟩ | ⟨b1, b2⟩
   · rw [b1, Bool.true_and]
     by_cases c1 : l.length ≤ 17
     · rw [decide_eq_true c1, Bool.true_and]
       by_cases c2 : m.length ≤ 12
       · rw [decide_eq_true c2, Bool.true_or]; exact ref54_Few_2 a2 b2 (by rw [R2_len]; omega) (by rw [R2_len]; omega)
       · rw [decide_eq_false c2, Bool.false_or]
         by_cases c3 : m.length = 65
         · rw [decide_eq_true c3]; exact ref54_Few_3 a2 b2 (by rw [R2_len]; omega) (by rw [R2_len]; omega) (by rw [R2_len]; omega)
         · rw [decide_eq_false c3]; exact ref54_Few_4 a2 b2 (by rw [R2_len]; omega) (by rw [R2_len]; omega) (by rw [R2_len]; omega)
     · rw [decide_eq_false c1, Bool.false_and]; exact ref54_Few_5 a2 b2 (by rw [R2_len]; omega)
   · rw [b1, Bool.false_and]; exact ref54_Few_1 a2 b2
 · rw [a1, Bool.false_and, Bool.false_and]; exact ref54_Few_0 a2
theorem fewB_few {l m : List (List UInt8 × List UInt8)} (h : fewB l m = true) : Few l ∧ Few m ∧ l.length ≤ 17 ∧ (m.length ≤ 12 ∨ m.length = 65) := by
 unfold fewB at h
 simp only [Bool.and_eq_true, Bool.or_eq_true, decide_eq_true_eq, List.all_eq_true] at h
 obtain ⟨⟨h1, h2⟩, h3, h4⟩ := h
 have s : ∀ x, sh x = true → x.1.length ≤ 40 ∧ x.2.length ≤ 40 := fun x hx => by unfold sh at hx; simpa using hx
 have s' : ∀ x, sh x = true → x.1.length ≤ 4000 ∧ x.2.length ≤ 4000 := fun x hx => by have := s x hx; omega
 exact ⟨⟨by omega, fun x hx => s' x (h1 x hx)⟩, ⟨by omega, fun x hx => s' x (h2 x hx)⟩, h3, h4⟩
theorem equal_loop {xs : List Rat} (hl : xs.length < 9223372036854775807) : ∀ d i : Nat, i + d = xs.length → Lp E 0 F_slices_Equal_Rat 0 (slices_Equal_Rat_L0 (Q1 xs) (Q1 xs) (xs.length : Nat) (i : Nat)) (.exit 0) slices_Equal_Rat_L0e1
 | 0, i, hi => slices_Equal_Rat_L0e1_x0 (by omega)
 | d + 1, i, hi => by
  obtain ⟨c, hc⟩ := get_ex (l := xs) (i := i) (by omega)
  have g := Q1_get hc
  rw [← Int.toNat_natCast i] at g
  exact slices_Equal_Rat_L0_r0 (wi (by omega)) (by omega) (by omega) g g rfl (equal_loop hl d (i + 1) (by omega))
theorem equal_same {xs : List Rat} (hl : xs.length < 9223372036854775807) : Fn E F_slices_Equal_Rat [.c (.list (Q1 xs)), .c (.list (Q1 xs))] (.c (.bool true)) := by
 have h := equal_loop (E := E) hl xs.length 0 (by omega)
 rw [← Q1_len xs] at h
 exact slices_Equal_Rat_2 rfl h
end Gev
namespace Gev
open Go Gb Go.Proofs
variable {E : Env}
def three : List (Rat × Rat) := [(0, 0), (100, mkRat 1 50), (200, mkRat 1 25)]
theorem txn {l : List UInt8} {q : Rat} (hd : q.den = 1) (hn : q.num = (dval l : Nat)) (h : natB l = true) : decQ q = l := by
 rw [decQ_int hd, hn, decZ_nat]; exact ((natB_iff.1 h).eq_dec).symm
theorem txf {a b : List UInt8} {q : Rat} (hn : q.num = (dval a : Nat)) (hd : q.den = dval b) (h1 : q.den ≠ 1) (ha : natB a = true) (hb : natB b = true) : decQ q = a ++ 47 :: b := by
 rw [decQ_frac h1, hn, hd, decZ_nat, ← (natB_iff.1 ha).eq_dec, ← (natB_iff.1 hb).eq_dec]
theorem d0 : decQ 0 = [48] := decQ_zero
theorem d2 : decQ 2 = [50] := txn (by kernel_rfl) (by kernel_rfl) (by decide)
theorem d7 : decQ 7 = [55] := txn (by kernel_rfl) (by kernel_rfl) (by decide)
theorem d9 : decQ 9 = [57] := txn (by kernel_rfl) (by kernel_rfl) (by decide)
theorem d12 : decQ 12 = [49, 50] := txn (by kernel_rfl) (by kernel_rfl) (by decide)
theorem d100 : decQ 100 = [49, 48, 48] := txn (by kernel_rfl) (by kernel_rfl) (by decide)
theorem d200 : decQ 200 = [50, 48, 48] := txn (by kernel_rfl) (by kernel_rfl) (by decide)
theorem d2400 : decQ 2400 = [50, 52, 48, 48] := txn (by kernel_rfl) (by kernel_rfl) (by decide)
theorem d2500 : decQ 2500 = [50, 53, 48, 48] := txn (by kernel_rfl) (by kernel_rfl) (by decide)
theorem d1_50 : decQ (mkRat 1 50) = [49, 47, 53, 48] := txf (a := [49]) (b := [53, 48]) (by kernel_rfl) (by kernel_rfl) (by decide) (by decide) (by decide)
theorem d1_25 : decQ (mkRat 1 25) = [49, 47, 50, 53] := txf (a := [49]) (b := [50, 53]) (by kernel_rfl) (by kernel_rfl) (by decide) (by decide) (by decide)
theorem d1_5000 : decQ (mkRat 1 5000) = [49, 47, 53, 48, 48, 48] := txf (a := [49]) (b := [53, 48, 48, 48]) (by kernel_rfl) (by kernel_rfl) (by decide) (by decide) (by decide)
theorem d163_24 : decQ (mkRat 163 24) = [49, 54, 51, 47, 50, 52] := txf (a := [49, 54, 51]) (b := [50, 52]) (by kernel_rfl) (by kernel_rfl) (by decide) (by decide) (by decide)
theorem dm100 : decQ (-100) = [45, 49, 48, 48] := by
 rw [decQ_int (by kernel_rfl), show (-100 : Rat).num = -100 from (by kernel_rfl), decZ_neg (by decide), show (-100 : Int).natAbs = 100 from rfl]
 have := d100
 rw [decQ_int (by kernel_rfl), show (100 : Rat).num = ((100 : Nat) : Int) from (by kernel_rfl), decZ_nat] at this
 rw [this]
theorem Tx_three : Tx three = [([48], [48]), ([49, 48, 48], [49, 47, 53, 48]), ([50, 48, 48], [49, 47, 50, 53])] := by
 show [(decQ 0, decQ 0), (decQ 100, decQ (mkRat 1 50)), (decQ 200, decQ (mkRat 1 25))] = _
 rw [d0, d100, d200, d1_50, d1_25]
theorem few_three : Few (Tx three) := by
 rw [Tx_three]
 refine ⟨by decide, fun x hx => ?_⟩
 simp only [List.mem_cons, List.not_mem_nil, or_false] at hx
 rcases hx with rfl | rfl | rfl <;> decide
theorem start_three : startI (Tx three) = 0 := by
 unfold startI
 rw [if_pos (Tx_ok three), Tx_len, if_neg (by decide), if_neg (by decide)]
theorem fit_three : fitI three = some (mkRat 1 5000, 0) := by kernel_rfl
theorem ssq_three : ssq (mkRat 1 5000) 0 three = 0 := by kernel_rfl
theorem through_three : throughI three = some (mkRat 1 5000, 0) := by kernel_rfl
theorem three_ok : Fn E F_law54_Three [] (.c (.list (R2 (Tx three)))) := by
 rw [Tx_three]
 exact law54_Three_0 rfl
theorem line_three : Line (mkRat 1 5000) 0 three = .agg [.str (B [49, 47, 53, 48, 48, 48]), .str (B [48]), .str (B [48])] := by unfold Line; rw [ssq_three, d1_5000, d0]
theorem fit3 (hlib : Lib E) : Fn E F_incline_Fit [.c (.list (R2 (Tx three)))] (.tup [.agg [.str (B [49, 47, 53, 48, 48, 48]), .str (B [48]), .str (B [48])], .c (.i64 0)]) := by
 have h := inc_Fit hlib few_three
 unfold ansI at h
 rw [if_pos start_three, nums_Tx, fit_three] at h
 rw [← line_three]; exact h
theorem through3 (hlib : Lib E) : Fn E F_incline_Through [.c (.list (R2 (Tx three)))] (.tup [.agg [.str (B [49, 47, 53, 48, 48, 48]), .str (B [48]), .str (B [48])], .c (.i64 0)]) := by
 have h := inc_Through hlib few_three
 unfold ansI at h
 rw [if_pos start_three, nums_Tx, through_three] at h
 rw [← line_three]; exact h
theorem height_three : heightI [49, 47, 53, 48, 48, 48] [50, 53, 48, 48] = (0, [50]) := by
 unfold heightI
 rw [← d1_5000, ← d2500, ← d2]
 rw [if_pos (by unfold ok2; rw [ok1_dec, ok1_dec]; rfl), rd_decQ, rd_decQ]
 show (if 0 < mkRat 1 5000 ∧ (0 : Rat) < 2500 then (0, decQ (2500 * mkRat 1 5000)⁻¹) else (2, [])) = (0, decQ 2)
 rw [if_pos (by decide), show ((2500 : Rat) * mkRat 1 5000)⁻¹ = 2 from (by kernel_rfl)]
theorem centre_three : centreI fitI (Tx three) [50, 53, 48, 48] [57] = (0, [55]) := by
 unfold centreI
 rw [if_pos (by rw [← d2500, ← d9]; unfold ok2; rw [ok1_dec, ok1_dec]; rfl), if_pos start_three, nums_Tx, fit_three]
 simp only
 rw [d1_5000, height_three, if_pos rfl]
 simp only
 rw [← d9, ← d2, rd_decQ, rd_decQ, ← d7]
 rw [show (some (9 : Rat)).getD 0 - (some (2 : Rat)).getD 0 = 7 from (by kernel_rfl)]
theorem correct_three : correctI [50, 53, 48, 48] [55] [([45, 49, 48, 48], [49, 50])] = (0, [50, 52, 48, 48], [49, 54, 51, 47, 50, 52]) := by
 have e : ([([45, 49, 48, 48], [49, 50])] : List (List UInt8 × List UInt8)) = Tx [(-100, 12)] := by
  show _ = [(decQ (-100), decQ 12)]
  rw [dm100, d12]
 unfold correctI
 rw [e, nums_Tx, Tx_ok, Bool.and_true, Tx_len, ← d2500, ← d7]
 rw [if_pos (by unfold ok2; rw [ok1_dec, ok1_dec]; rfl), if_neg (by decide), rd_decQ, rd_decQ]
 show (if wsum 2500 [(-100, 12)] = 0 then (16, [], []) else (0, decQ (wsum 2500 [(-100, 12)]), decQ (msum 2500 7 [(-100, 12)] / wsum 2500 [(-100, 12)]))) = _
 rw [show wsum 2500 [(-100, 12)] = 2400 from (by kernel_rfl), show msum 2500 7 [(-100, 12)] / 2400 = mkRat 163 24 from (by kernel_rfl), if_neg (by decide), d2400, d163_24]
theorem diff_three : diffI (Tx three) [49, 47, 53, 48, 48, 48] [48] = (0, [0, 0, 0]) := by
 unfold diffI
 rw [Tx_ok, Bool.true_and, Tx_len, nums_Tx, ← d1_5000, ← d0]
 rw [if_pos (by unfold ok2; rw [ok1_dec, ok1_dec]; rfl), if_neg (by decide), rd_decQ, rd_decQ]
 show (0, three.map (dif (mkRat 1 5000) 0)) = (0, [0, 0, 0])
 rw [show three.map (dif (mkRat 1 5000) 0) = [0, 0, 0] from (by kernel_rfl)]
theorem b_self (l : List UInt8) : (B l == B l) = true := by rw [B_beq]; simp
theorem and3 (a b c : List UInt8) : ((B a == B a) && ((B b == B b) && ((B c == B c) && true))) = true := by rw [b_self, b_self, b_self]; rfl
theorem and2 (a b : List UInt8) : ((B a == B a) && ((B b == B b) && true)) = true := by rw [b_self, b_self]; rfl
theorem awake_ok (hlib : Lib E) (hsp : Fn E F_incline_Spread [.c (.list (R2 (Tx three)))] (.tup [.agg [.str (B [49, 47, 53, 48, 48, 48]), .str (B [49, 47, 53, 48, 48, 48])], .c (.i64 0)])) : Fn E F_law54_awake [] (.c (.bool true)) := by
 have hh := inc_Height hlib (p := [49, 47, 53, 48, 48, 48]) (e := [50, 53, 48, 48]) (s := B [48]) (t := B [48]) (by decide) (by decide)
 rw [height_three] at hh
 have hc := inc_Centre hlib (e := [50, 53, 48, 48]) (d := [57]) few_three (by decide) (by decide)
 rw [centre_three] at hc
 have hk := inc_Correct hlib (p := [50, 53, 48, 48]) (e := [55]) (l := [([45, 49, 48, 48], [49, 50])]) ⟨by decide, fun x hx => by simp only [List.mem_singleton] at hx; subst hx; decide⟩ (by decide) (by decide)
 rw [correct_three] at hk
 have hd := inc_Differences hlib (p := [49, 47, 53, 48, 48, 48]) (e := [48]) (s := B [48]) few_three (by decide) (by decide)
 rw [diff_three] at hd
 have he := equal_same (E := E) (xs := [0, 0, 0]) (by decide)
 have e3 : Q1 [0, 0, 0] = [[.str (B [48])], [.str (B [48])], [.str (B [48])]] := by
  show [[DV.str (B (decQ 0))], [DV.str (B (decQ 0))], [DV.str (B (decQ 0))]] = _
  rw [d0]
 unfold Lc at hd
 rw [e3] at he hd
 exact law54_awake_0 rfl rfl three_ok (fit3 hlib) hh hc hk hsp (through3 hlib) hd rfl rfl rfl rfl rfl rfl rfl (and3 [49, 47, 53, 48, 48, 48] [48] [48]) rfl rfl (and2 [50, 52, 48, 48] [49, 54, 51, 47, 50, 52]) (and2 [49, 47, 53, 48, 48, 48] [49, 47, 53, 48, 48, 48]) (and3 [49, 47, 53, 48, 48, 48] [48] [48]) he
end Gev
namespace Gev
open Go Gb Go.Proofs
variable {E : Env}
structure Cl (E : Env) : Prop where
 shift : ∀ l : List (List UInt8 × List UInt8), l.length < 1000 → Rn E F_slices_Clone_Shift [.c (.list (R2 l))] [] (.vec 0 l.length) [some (.vec T_api_Shift (R2 l))]
 lump : ∀ l : List (List UInt8 × List UInt8), l.length < 1000 → Rn E F_slices_Clone_Lump [.c (.list (R2 l))] [] (.vec 0 l.length) [some (.vec T_api_Lump (R2 l))]
theorem R2_take (l : List (List UInt8 × List UInt8)) : (R2 l).take l.length = R2 l := List.take_of_length_le (by rw [R2_len]; omega)
structure Sp (E : Env) : Prop where
 same : ∀ l : List (List UInt8 × List UInt8), Few l → ∃ (x y : List UInt8) (c : Int), Fn E F_incline_Spread [.c (.list (R2 l))] (.tup [.agg [.str (B x), .str (B y)], .c (.i64 c)]) ∧ Fn E F_ref54_Spread [.c (.list (R2 l))] (.tup [.agg [.str (B x), .str (B y)], .c (.i64 c)])
end Gev
namespace Gev
open Go Gb Go.Proofs
variable {E : Env}
theorem two_rep' {Γ : Ctx} (x y : ByteArray) : RepA DD Γ (.agg #[.string x, .string y]) (.agg [.str x, .str y]) := by
 refine .agg #[_, _] _ rfl fun j u d h1 h2 => ?_
 match j, h1, h2 with
 | 0, h1, h2 => cases h1; cases h2; exact .str _
 | 1, h1, h2 => cases h1; cases h2; exact .str _
theorem incline_Spread_err {a0 : List (List DV)} {v1 : Int} (h1 : Fn E F_incline_start [.c (.list a0)] (.c (.i64 v1))) (h2 : ¬ v1 = 0) : Fn E F_incline_Spread [.c (.list a0)] (.tup [.agg [.str ⟨#[]⟩, .str ⟨#[]⟩], .c (.i64 v1)]) :=
 fnMk [.v (.c (.i64 v1)), .t true] (by kernel_rfl) (by kernel_rfl) (aC h1 (aO (bnT h2))) (by kernel_rfl)
theorem inc_Spread (hlib : Lib E) {l : List (List UInt8 × List UInt8)} (hf : Few l) : Fn E F_incline_Spread [.c (.list (R2 l))] (sprI l) := by
 have hst := inc_start hlib hf
 unfold sprI
 by_cases h0 : startI l = 0
 · rw [if_pos h0]
   rw [h0] at hst
   obtain ⟨qs, rfl, h2, hn⟩ := start_zero h0
   have hq := Tx_in hf
   rw [Tx_R2] at hst ⊢
   rw [nums_Tx]
   have hdat : (ivI (spreadI qs)).Data := by
    cases spreadI qs with
    | none => exact AV.isData_ok rfl
    | some p => exact AV.isData_ok rfl
   refine ⟨enters_known (by kernel_rfl), hdat, fun w ext cargs hg hB hx hcl ha => ?_⟩
   obtain ⟨v, rfl⟩ : ∃ v, cargs = #[v] := by
    match cargs, hcl with
    | ⟨[v]⟩, _ => exact ⟨v, rfl⟩
   have hc0 := ha 0 v _ rfl rfl
   have hc1 := hc0
   cases hc0 with
   | c hr =>
    generalize hxs : Q2 qs = xs at hr
    cases hr with
    | list A c xs sz u hc hA hx' hu hd =>
     subst hxs
     rw [Q2_len] at hc hc1 ⊢
     obtain ⟨a, rfl, hab, _⟩ := hA (by intro e; have h9 := congrArg List.length e; rw [Q2_len, List.length_nil] at h9; omega)
     have hsz : sz = 2 := by
      obtain ⟨q, hq0⟩ := get_ex' (l := qs) (i := 0) (by omega)
      rw [← hx' _ (List.mem_of_getElem? (Q2_get hq0))]; rfl
     subst hsz
     have hrow : RowQ a qs w := fun j q hj => by
      have g := Q2_get hj
      have e0 := hu a j _ 0 _ rfl g rfl
      have e1 := hu a j _ 1 _ rfl g rfl
      have d0 := hd j _ 0 _ g rfl
      have d1 := hd j _ 1 _ g rfl
      rw [Nat.add_zero] at e0
      rw [add_add, e0, e1]
      generalize u j 0 = p0 at d0
      generalize u j 1 = p1 at d1
      cases d0; cases d1; exact ⟨rfl, rfl⟩
     refine Calls.mono (spread_raw hlib hq (by omega) a c hc w hg hB hab hrow (loT (spreadI qs)) (hiT (spreadI qs)) _ rfl rfl rfl ?_) ?_
     · intro w' hk
       have hg' : E.Gd w' := E.hs w _ (fun b hb => hk.heap b (by omega) id) hk.size hg
       refine Calls.mono (hst.calls w' (fun _ => False) #[_] hg' (Nat.le_trans hB hk.size) (fun _ h => h.elim) rfl fun i v x h1 h2 => ?_) ?_
       · match i, h1, h2 with
         | 0, h1, h2 =>
          cases h1; cases h2
          cases hc1 with | c hr => exact .c (hr.mono (hk.mono fun _ h => False.elim h) fun b _ h => False.elim (h.elim id no_mine))
       · rintro e w2 ⟨v, rfl, _, k2, k3⟩
         cases k3 with | c k3 => cases k3; exact ⟨rfl, k2⟩
     · rintro e w' ⟨rfl, hk⟩
       refine ⟨_, rfl, E.hs w _ (fun b hb => hk.heap b (by omega) id) hk.size hg, hk, ?_⟩
       cases spreadI qs with
       | none =>
        refine .tup [_, _] _ rfl fun i v a h1 h2 => ?_
        match i, h1, h2 with
        | 0, h1, h2 => cases h1; cases h2; exact two_rep' _ _
        | 1, h1, h2 => cases h1; cases h2; exact .c (.int _ _)
       | some p =>
        refine .tup [_, _] _ rfl fun i v a h1 h2 => ?_
        match i, h1, h2 with
        | 0, h1, h2 => cases h1; cases h2; exact two_rep' _ _
        | 1, h1, h2 => cases h1; cases h2; exact .c (.int _ _)
 · rw [if_neg h0]; exact incline_Spread_err hst h0
end Gev
namespace Gev
open Go Gb Go.Proofs
variable {E : Env}
def vals : List (List UInt8 × List UInt8) → List Value
 | [] => []
 | p :: l => .string (B p.1) :: .string (B p.2) :: vals l
theorem vals_len : ∀ l, (vals l).length = l.length * 2
 | [] => rfl
 | p :: l => by show (vals l).length + 1 + 1 = (l.length + 1) * 2; rw [vals_len l]; omega
theorem vals_get : ∀ {l : List (List UInt8 × List UInt8)} {j : Nat} {u : Value}, (vals l)[j]? = some u → ∃ i p, l[i]? = some p ∧ ((j = i * 2 + 0 ∧ u = .string (B p.1)) ∨ (j = i * 2 + 1 ∧ u = .string (B p.2)))
 | [], j, u, h => by cases h
 | p :: l, 0, u, h => by cases h; exact ⟨0, p, rfl, .inl ⟨rfl, rfl⟩⟩
 | p :: l, 1, u, h => by cases h; exact ⟨0, p, rfl, .inr ⟨rfl, rfl⟩⟩
 | p :: l, j + 2, u, h => by
  obtain ⟨i, q, h1, h2⟩ := vals_get (l := l) (j := j) h
  exact ⟨i + 1, q, h1, h2.imp (fun h => ⟨by omega, h.2⟩) fun h => ⟨by omega, h.2⟩⟩
theorem vals_at : ∀ {l : List (List UInt8 × List UInt8)} {i : Nat} {p}, l[i]? = some p → (vals l)[i * 2 + 0]? = some (.string (B p.1)) ∧ (vals l)[i * 2 + 1]? = some (.string (B p.2))
 | q :: l, 0, p, h => by cases h; exact ⟨rfl, rfl⟩
 | q :: l, i + 1, p, h => by
  have := vals_at (l := l) (i := i) (p := p) h
  rw [show (i + 1) * 2 + 0 = i * 2 + 0 + 2 by omega, show (i + 1) * 2 + 1 = i * 2 + 1 + 2 by omega]
  exact this
theorem own_row {P : Program} {Γ : Ctx} {B0 : Nat} {Gd : World → Prop} (hs : Stable B0 Gd) (ho : Γ.objs = []) (hG : Good DD B0 Gd Γ) {w' : World} (hk : Kept (fun _ => False) Γ.w w') {T : Nat} {ti : TI} (ht : DD.ty T = some ti) (h2 : ti.size = 2) {l : List (List UInt8 × List UInt8)} {v : Value}
    (hr : w'.ownsRow Γ.w.heap.size T 2 v l.length (vals l)) : ∃ Γ' : Ctx, Γ'.objs = [some (.vec T (R2 l))] ∧ Γ'.w = w' ∧ Good DD B0 Gd Γ' ∧ Tr DD Γ Γ' ∧ RepA DD Γ' v (.vec 0 l.length) := by
 have hnone : ∀ k, lk Γ.objs k = none := fun k => by rw [ho]; rfl
 have hmine : ∀ b, ¬ Γ.mine b := fun b ⟨k, o, h, _⟩ => by rw [hnone] at h; cases h
 have hgd : Gd w' := hs _ _ (fun b hb => hk.heap b (Nat.lt_of_lt_of_le hb hG.size) id) hk.size hG.gd
 have hlen : ∀ x ∈ R2 l, x.length = ti.size := fun x hx => by
  unfold R2 at hx
  obtain ⟨p, _, rfl⟩ := List.mem_map.1 hx
  rw [h2]; rfl
 have mk : ∀ (ob : Option Nat), (∀ b, ob = some b → Γ.w.heap.size ≤ b) → ∀ Γ' : Ctx, Γ' = ⟨⟨fun k => if k = 0 then ob else none, Γ.S.ext⟩, [some (.vec T (R2 l))], w'⟩ → ObRep DD Γ' 0 (.vec T (R2 l)) → Good DD B0 Gd Γ' ∧ Tr DD Γ Γ' := by
  intro ob hob Γ' e hob2
  have hm : ∀ b, Γ'.mine b → Γ.w.heap.size ≤ b := fun b ⟨k, o, h, _, hS⟩ => by
   subst e
   have hS : (if k = 0 then ob else none) = some b := hS
   split at hS
   · exact hob b hS
   · cases hS
  have hl : ∀ k o, lk Γ'.objs k = some o → k = 0 ∧ o = .vec T (R2 l) := fun k o h => by
   subst e
   match k, h with
   | 0, h => cases h; exact ⟨rfl, rfl⟩
  have hw : Γ'.w = w' := by subst e; rfl
  have hex : Γ'.S.ext = Γ.S.ext := by subst e; rfl
  refine ⟨⟨fun k o h => ?_, fun k k' o o' b h h' _ _ _ _ => ?_, fun b hb => ?_, fun b hb => ⟨?_, fun h => ?_⟩, ?_, ?_⟩, ⟨by rw [hw]; exact hk.mono fun _ h => h.elim, hex, fun b hb => .inr (hm b hb), fun k cs h => ?_, fun v k len h => ?_, fun v k i off h => ?_⟩⟩
  · obtain ⟨rfl, rfl⟩ := hl k o h; exact hob2
  · rw [(hl k o h).1, (hl k' o' h').1]
  · rcases hb with hb | hb
    · exact hG.own b (.inl (hex ▸ hb))
    · exact Nat.le_trans hG.size (hm b hb)
  · rw [hw]; exact Nat.lt_of_lt_of_le (hG.ext b (hex ▸ hb)).1 hk.size
  · have := hm b h; have := (hG.ext b (hex ▸ hb)).1; omega
  · rw [hw]; exact Nat.le_trans hG.size hk.size
  · rw [hw]; exact hgd
  · rw [hnone] at h; cases h
  · cases h with
    | vnil _ _ h1 => rw [hnone] at h1; cases h1
    | vec _ _ _ _ _ _ _ _ h1 => rw [hnone] at h1; cases h1
    | fvec _ _ _ h1 => rw [hnone] at h1; cases h1
    | gone _ _ h1 => rw [hnone] at h1; cases h1
  · cases h with
    | vptr _ _ _ _ _ _ _ h1 => rw [hnone] at h1; cases h1
    | fptr _ _ _ _ _ _ h1 => rw [hnone] at h1; cases h1
    | pgone _ _ _ h1 => rw [hnone] at h1; cases h1
 obtain ⟨_, hr⟩ := hr
 rcases hr with ⟨rfl, h0⟩ | ⟨g, cap, cur, rfl, hb, hg, hnc, _, hsz, hcur⟩
 · have hl0 : l = [] := List.eq_nil_of_length_eq_zero h0
   subst hl0
   obtain ⟨a1, a2⟩ := mk none (fun _ h => by cases h) _ rfl ⟨ti, ht, hlen, .inl ⟨rfl, rfl⟩⟩
   exact ⟨_, rfl, rfl, a1, a2, .vnil 0 T rfl rfl⟩
 · obtain ⟨a1, a2⟩ := mk (some g) (fun b h => by cases h; exact hb) _ rfl ⟨ti, ht, hlen, .inr ⟨g, cur, cap, rfl, hg, by rw [h2]; exact hsz, by rw [R2_len]; exact hnc, fun i x j d u h1 h3 h4 => by
    rw [h2] at h4
    unfold R2 at h1
    rw [List.getElem?_map] at h1
    cases hp : l[i]? with
    | none => rw [hp] at h1; cases h1
    | some p =>
     rw [hp] at h1; cases h1
     have hi := (List.getElem?_eq_some_iff.1 hp).1
     have hv := vals_at hp
     have hcg : ∀ j, j < l.length * 2 → cur[j]? = (vals l)[j]? := fun j hj => by rw [← hcur, List.getElem?_take, if_pos hj, Array.getElem?_toList]
     match j, h3, h4 with
     | 0, h3, h4 => cases h3; rw [hcg _ (by omega), hv.1] at h4; cases h4; exact .str _
     | 1, h3, h4 => cases h3; rw [hcg _ (by omega), hv.2] at h4; cases h4; exact .str _⟩⟩
   exact ⟨_, rfl, rfl, a1, a2, .vec 0 l.length cap g T ti (R2 l) cur rfl ht rfl (by rw [R2_len]; exact Nat.le_refl _) hg (by rw [h2]; exact hsz) (by rw [R2_len]; exact hnc)⟩
end Gev
namespace Go.Proofs
open Go.RowKit Go.Shelf Go.Sort Go.Lib Gev
set_option maxHeartbeats 2000000 in
set_option maxRecDepth 100000 in
theorem clone_shift (a : Addr) (n c : Nat) (news : List Value) (w : World) (hl : news.length = n * 2) (hn : n ≤ 100000) (hc : ∀ j u, news[j]? = some u → w.cell? (a.add j) = some u) (h1 : ∀ u ∈ news, u.oneCell' = true) :
    Calls Tryz.prog 13 #[.slice (some a) n c] w fun e w' => ∃ v', e = .returned v' ∧ w'.ownsRow w.heap.size 33 2 v' n news ∧ Below w.heap.size w w' := by
 have t22 : Tryz.prog.underlying 22 = some (.slice 33) := by kernel_rfl
 have q22 : ∀ (w : World) (a : Option Addr) (n c n' c' : Nat), (binOp .eql 22 (.slice a n c) (.slice none n' c')).run Tryz.prog w = .ok (.bool a.isNone) w := fun w a n c n' c' => Lib.run_eql_slice_nil w _ _ a n c n' c' t22
 obtain ⟨i0, hi, hz0, hz1, hz2⟩ := info_parts (by kernel_rfl : (Tryz.prog.info? 33).map (fun i => (i.zero, i.size, i.bytes)) = some (some (.agg #[.string ⟨#[]⟩, .string ⟨#[]⟩]), 2, 32))
 have A : Aside (∀ j u, news[j]? = some u → w.cell? (a.add j) = some u) := hc
 clear hc
 go_enter Tryz.func13, Tryz.ntmps13
 go_wp2_with (at_builtin; refine wpList_append_own _ rfl _ _ 22 rfl w.heap.size 33 i0 (.agg #[.string ⟨#[]⟩, .string ⟨#[]⟩]) 2 32 t22 hi hz0 hz1 hz2 rfl (by decide) _ _ _ rfl (World.ownsRow_made w #[] 0 (Nat.le_refl _) (Nat.zero_le _) (by simp)) a n c news rfl ?qc1 ?qc2 ?qc3 ?qc4 ?qc5 ?qc6 ?_)
 case qc1 => exact hl
 case qc2 => exact fun j u hj => Lib.cell?_alloc_some _ (A.out j u hj)
 case qc3 => exact h1
 case qc4 => rw [Nat.zero_add]; unfold maxLen; omega
 case qc5 => rw [Nat.zero_add]; omega
 case qc6 => simp
 intro v' w1 hown hgrow hnil
 go_wp2
 go_ret
 refine ⟨v', rfl, by simpa using hown, ?_⟩
 exact ((Below.refl _ w).alloc (Nat.le_refl _) _).grown hgrow (by simp) (by intro k hk; simp [Value.ownBlock] at hk; omega)
set_option maxRecDepth 100000 in
theorem clone_shift_nil (n c : Nat) (w : World) : Calls Tryz.prog 13 #[.slice none n c] w fun e w' => e = .returned (.slice none 0 0) ∧ w' = w := by
 have t22 : Tryz.prog.underlying 22 = some (.slice 33) := by kernel_rfl
 have q22 : ∀ (w : World) (a : Option Addr) (n c n' c' : Nat), (binOp .eql 22 (.slice a n c) (.slice none n' c')).run Tryz.prog w = .ok (.bool a.isNone) w := fun w a n c n' c' => Lib.run_eql_slice_nil w _ _ a n c n' c' t22
 go_enter Tryz.func13, Tryz.ntmps13
 go_wp2
 go_ret
 exact ⟨rfl, rfl⟩
set_option maxHeartbeats 2000000 in
set_option maxRecDepth 100000 in
theorem clone_lump (a : Addr) (n c : Nat) (news : List Value) (w : World) (hl : news.length = n * 2) (hn : n ≤ 100000) (hc : ∀ j u, news[j]? = some u → w.cell? (a.add j) = some u) (h1 : ∀ u ∈ news, u.oneCell' = true) :
    Calls Tryz.prog 27 #[.slice (some a) n c] w fun e w' => ∃ v', e = .returned v' ∧ w'.ownsRow w.heap.size 49 2 v' n news ∧ Below w.heap.size w w' := by
 have t22 : Tryz.prog.underlying 47 = some (.slice 49) := by kernel_rfl
 have q22 : ∀ (w : World) (a : Option Addr) (n c n' c' : Nat), (binOp .eql 47 (.slice a n c) (.slice none n' c')).run Tryz.prog w = .ok (.bool a.isNone) w := fun w a n c n' c' => Lib.run_eql_slice_nil w _ _ a n c n' c' t22
 obtain ⟨i0, hi, hz0, hz1, hz2⟩ := info_parts (by kernel_rfl : (Tryz.prog.info? 49).map (fun i => (i.zero, i.size, i.bytes)) = some (some (.agg #[.string ⟨#[]⟩, .string ⟨#[]⟩]), 2, 32))
 have A : Aside (∀ j u, news[j]? = some u → w.cell? (a.add j) = some u) := hc
 clear hc
 go_enter Tryz.func27, Tryz.ntmps27
 go_wp2_with (at_builtin; refine wpList_append_own _ rfl _ _ 47 rfl w.heap.size 49 i0 (.agg #[.string ⟨#[]⟩, .string ⟨#[]⟩]) 2 32 t22 hi hz0 hz1 hz2 rfl (by decide) _ _ _ rfl (World.ownsRow_made w #[] 0 (Nat.le_refl _) (Nat.zero_le _) (by simp)) a n c news rfl ?qc1 ?qc2 ?qc3 ?qc4 ?qc5 ?qc6 ?_)
 case qc1 => exact hl
 case qc2 => exact fun j u hj => Lib.cell?_alloc_some _ (A.out j u hj)
 case qc3 => exact h1
 case qc4 => rw [Nat.zero_add]; unfold maxLen; omega
 case qc5 => rw [Nat.zero_add]; omega
 case qc6 => simp
 intro v' w1 hown hgrow hnil
 go_wp2
 go_ret
 refine ⟨v', rfl, by simpa using hown, ?_⟩
 exact ((Below.refl _ w).alloc (Nat.le_refl _) _).grown hgrow (by simp) (by intro k hk; simp [Value.ownBlock] at hk; omega)
set_option maxRecDepth 100000 in
theorem clone_lump_nil (n c : Nat) (w : World) : Calls Tryz.prog 27 #[.slice none n c] w fun e w' => e = .returned (.slice none 0 0) ∧ w' = w := by
 have t22 : Tryz.prog.underlying 47 = some (.slice 49) := by kernel_rfl
 have q22 : ∀ (w : World) (a : Option Addr) (n c n' c' : Nat), (binOp .eql 47 (.slice a n c) (.slice none n' c')).run Tryz.prog w = .ok (.bool a.isNone) w := fun w a n c n' c' => Lib.run_eql_slice_nil w _ _ a n c n' c' t22
 go_enter Tryz.func27, Tryz.ntmps27
 go_wp2
 go_ret
 exact ⟨rfl, rfl⟩
end Go.Proofs
namespace Gev
open Go Gb Go.Proofs
variable {E : Env}
theorem rn_clone_shift (l : List (List UInt8 × List UInt8)) (hl : l.length < 1000) : Rn E F_slices_Clone_Shift [.c (.list (R2 l))] [] (.vec 0 l.length) [some (.vec T_api_Shift (R2 l))] := by
 have hti : ∃ ti, DD.ty T_api_Shift = some ti ∧ ti.size = 2 := by
  have h : (DD.ty T_api_Shift).map (·.size) = some 2 := by kernel_rfl
  cases ht : DD.ty T_api_Shift with
  | none => rw [ht] at h; cases h
  | some ti => rw [ht] at h; exact ⟨ti, rfl, Option.some.inj h⟩
 obtain ⟨ti, ht, h2⟩ := hti
 refine ⟨enters_known (by kernel_rfl), fun Γ cargs ho hG hcl ha => ?_⟩
 obtain ⟨v, rfl⟩ : ∃ v, cargs = #[v] := by
  match cargs, hcl with
  | ⟨[v]⟩, _ => exact ⟨v, rfl⟩
 have hc0 := ha 0 v _ rfl rfl
 cases hc0 with
 | c hr =>
  generalize hxs : R2 l = xs at hr
  cases hr with
  | list A c xs sz u hc hA hx' hu hd =>
   subst hxs
   rw [R2_len] at hc ⊢
   cases A with
   | none =>
    have hl0 : l = [] := by
     cases l with
     | nil => rfl
     | cons p l => obtain ⟨a, h, _⟩ := hA (by intro e; cases e); cases h
    subst hl0
    refine Calls.mono (clone_shift_nil _ c Γ.w) ?_
    rintro e w' ⟨rfl, rfl⟩
    obtain ⟨Γ', a1, a2, a3, a4, a5⟩ := own_row (P := PP) E.hs ho hG (Kept.refl _ _) ht h2 (l := []) (v := .slice none 0 0) ⟨rfl, .inl ⟨rfl, rfl⟩⟩
    exact ⟨_, Γ', rfl, a1, a2, a3, a4, a5⟩
   | some a =>
    refine Calls.mono (clone_shift a l.length c (vals l) Γ.w (vals_len l) (by omega) (fun j u hj => ?_) (fun u hu => ?_)) ?_
    · obtain ⟨i, p, h3, h4⟩ := vals_get hj
      have g := R2_get h3
      have hsz : sz = 2 := by rw [← hx' _ (List.mem_of_getElem? g)]; rfl
      subst hsz
      rcases h4 with ⟨rfl, rfl⟩ | ⟨rfl, rfl⟩
      · have d0 := hd i _ 0 _ g rfl
        rw [hu a i _ 0 _ rfl g rfl]
        generalize u i 0 = q at d0
        cases d0; rfl
      · have d0 := hd i _ 1 _ g rfl
        rw [hu a i _ 1 _ rfl g rfl]
        generalize u i 1 = q at d0
        cases d0; rfl
    · obtain ⟨j, hj⟩ := List.getElem?_of_mem hu
      obtain ⟨i, p, _, h4⟩ := vals_get hj
      rcases h4 with ⟨_, rfl⟩ | ⟨_, rfl⟩ <;> rfl
    · rintro e w' ⟨v', rfl, hown, hb⟩
      obtain ⟨Γ', a1, a2, a3, a4, a5⟩ := own_row (P := PP) E.hs ho hG (Kept.of_below hb) ht h2 hown
      exact ⟨_, Γ', rfl, a1, a2, a3, a4, a5⟩
theorem rn_clone_lump (l : List (List UInt8 × List UInt8)) (hl : l.length < 1000) : Rn E F_slices_Clone_Lump [.c (.list (R2 l))] [] (.vec 0 l.length) [some (.vec T_api_Lump (R2 l))] := by
 have hti : ∃ ti, DD.ty T_api_Lump = some ti ∧ ti.size = 2 := by
  have h : (DD.ty T_api_Lump).map (·.size) = some 2 := by kernel_rfl
  cases ht : DD.ty T_api_Lump with
  | none => rw [ht] at h; cases h
  | some ti => rw [ht] at h; exact ⟨ti, rfl, Option.some.inj h⟩
 obtain ⟨ti, ht, h2⟩ := hti
 refine ⟨enters_known (by kernel_rfl), fun Γ cargs ho hG hcl ha => ?_⟩
 obtain ⟨v, rfl⟩ : ∃ v, cargs = #[v] := by
  match cargs, hcl with
  | ⟨[v]⟩, _ => exact ⟨v, rfl⟩
 have hc0 := ha 0 v _ rfl rfl
 cases hc0 with
 | c hr =>
  generalize hxs : R2 l = xs at hr
  cases hr with
  | list A c xs sz u hc hA hx' hu hd =>
   subst hxs
   rw [R2_len] at hc ⊢
   cases A with
   | none =>
    have hl0 : l = [] := by
     cases l with
     | nil => rfl
     | cons p l => obtain ⟨a, h, _⟩ := hA (by intro e; cases e); cases h
    subst hl0
    refine Calls.mono (clone_lump_nil _ c Γ.w) ?_
    rintro e w' ⟨rfl, rfl⟩
    obtain ⟨Γ', a1, a2, a3, a4, a5⟩ := own_row (P := PP) E.hs ho hG (Kept.refl _ _) ht h2 (l := []) (v := .slice none 0 0) ⟨rfl, .inl ⟨rfl, rfl⟩⟩
    exact ⟨_, Γ', rfl, a1, a2, a3, a4, a5⟩
   | some a =>
    refine Calls.mono (clone_lump a l.length c (vals l) Γ.w (vals_len l) (by omega) (fun j u hj => ?_) (fun u hu => ?_)) ?_
    · obtain ⟨i, p, h3, h4⟩ := vals_get hj
      have g := R2_get h3
      have hsz : sz = 2 := by rw [← hx' _ (List.mem_of_getElem? g)]; rfl
      subst hsz
      rcases h4 with ⟨rfl, rfl⟩ | ⟨rfl, rfl⟩
      · have d0 := hd i _ 0 _ g rfl
        rw [hu a i _ 0 _ rfl g rfl]
        generalize u i 0 = q at d0
        cases d0; rfl
      · have d0 := hd i _ 1 _ g rfl
        rw [hu a i _ 1 _ rfl g rfl]
        generalize u i 1 = q at d0
        cases d0; rfl
    · obtain ⟨j, hj⟩ := List.getElem?_of_mem hu
      obtain ⟨i, p, _, h4⟩ := vals_get hj
      rcases h4 with ⟨_, rfl⟩ | ⟨_, rfl⟩ <;> rfl
    · rintro e w' ⟨v', rfl, hown, hb⟩
      obtain ⟨Γ', a1, a2, a3, a4, a5⟩ := own_row (P := PP) E.hs ho hG (Kept.of_below hb) ht h2 hown
      exact ⟨_, Γ', rfl, a1, a2, a3, a4, a5⟩
theorem cl_ok : Cl E := ⟨rn_clone_shift, rn_clone_lump⟩
end Gev
namespace Gev
open Go Gb
theorem sq_nn (a : Rat) : 0 ≤ a * a := by
 rcases Rat.le_total (a := 0) (b := a) with h | h
 · exact Rat.mul_nonneg h h
 · have h1 : 0 ≤ -a := by grind
   have := Rat.mul_nonneg h1 h1
   grind
theorem qsum_nn {α : Type} {g : α → Rat} (h : ∀ a, 0 ≤ g a) : ∀ l : List α, 0 ≤ qsum g l
 | [] => Rat.le_refl
 | a :: l => by
  have h1 := h a
  have h2 := qsum_nn h l
  rw [qsum_cons]
  grind
theorem sq_zero {a : Rat} (h : a * a = 0) : a = 0 := (Rat.mul_eq_zero.1 h).elim id id
def r0 (a b : Rat) (qs : List (Rat × Rat)) : Rat := qsum (dif a b) qs
def r1 (a b : Rat) (qs : List (Rat × Rat)) : Rat := qsum (fun q => dif a b q * q.1) qs
theorem r0_eq (a b : Rat) : ∀ qs, r0 a b qs = sy qs - b * len qs - a * sx qs
 | [] => by show (0 : Rat) = 0 - b * (((0 : Nat) : Int) : Rat) - a * 0; have : (((0 : Nat) : Int) : Rat) = 0 := rfl; rw [this]; grind
 | q :: qs => by
  have ih := r0_eq a b qs
  rw [len_cons]
  unfold r0 sx sy dif at ih ⊢
  rw [qsum_cons, qsum_cons, qsum_cons]
  grind
theorem r1_eq (a b : Rat) : ∀ qs, r1 a b qs = tp qs - b * sx qs - a * tq qs
 | [] => by show (0 : Rat) = 0 - b * 0 - a * 0; grind
 | q :: qs => by
  have ih := r1_eq a b qs
  unfold r1 sx tp tq dif at ih ⊢
  rw [qsum_cons, qsum_cons, qsum_cons, qsum_cons]
  grind
theorem len_ne {qs : List (Rat × Rat)} (h : qs.length ≠ 0) : len qs ≠ 0 := rat_len_ne h
theorem fit_normal {qs : List (Rat × Rat)} (hn : qs.length ≠ 0) {a b : Rat} (h : fitI qs = some (a, b)) : r0 a b qs = 0 ∧ r1 a b qs = 0 ∧ fitD qs ≠ 0 ∧ a = fitS qs := by
 rw [← fit_eq hn] at h
 unfold fitR at h
 split at h
 · cases h
 · rename_i hD
   cases h
   have hl := len_ne hn
   have hs : fitS qs * fitD qs = len qs * tp qs - sx qs * sy qs := by unfold fitS; rw [Rat.div_def, Rat.mul_assoc, Rat.inv_mul_cancel _ hD, Rat.mul_one]
   have hb : (sy qs - fitS qs * sx qs) / len qs * len qs = sy qs - fitS qs * sx qs := by rw [Rat.div_def, Rat.mul_assoc, Rat.inv_mul_cancel _ hl, Rat.mul_one]
   have e0 : r0 (fitS qs) ((sy qs - fitS qs * sx qs) / len qs) qs = 0 := by rw [r0_eq, hb]; grind
   refine ⟨e0, ?_, hD, rfl⟩
   have e1 : len qs * r1 (fitS qs) ((sy qs - fitS qs * sx qs) / len qs) qs = 0 := by
    rw [r1_eq]
    unfold fitD at hs
    generalize (sy qs - fitS qs * sx qs) / len qs = b at hb ⊢
    generalize fitS qs = a at hs hb ⊢
    grind
   exact (Rat.mul_eq_zero.1 e1).resolve_left hl
end Gev
namespace Gev
open Go Gb Go.Proofs
variable {E : Env}
attribute [local irreducible] Sz
end Gev
namespace Gev
open Go Gb Go.Proofs
variable {E : Env}
attribute [local irreducible] Sz
theorem not_lt_dec {a b : Rat} (h : b ≤ a) : decide (a < b) = false := decide_eq_false (Rat.not_lt.2 h)
end Gev
namespace Gev
open Go Gb
def rowD (a : Rat × Rat) (l : List (Rat × Rat)) : Rat := qsum (fun q => (a.1 - q.1) * (a.1 - q.1)) l
def rowN (a : Rat × Rat) (l : List (Rat × Rat)) : Rat := qsum (fun q => (a.1 - q.1) * (a.2 - q.2)) l
def fitN (qs : List (Rat × Rat)) : Rat := len qs * tp qs - sx qs * sy qs
theorem rowD_eq (a : Rat × Rat) : ∀ l, rowD a l = tq l - 2 * a.1 * sx l + len l * (a.1 * a.1)
 | [] => by show (0 : Rat) = 0 - 2 * a.1 * 0 + (((0 : Nat) : Int) : Rat) * (a.1 * a.1); have : (((0 : Nat) : Int) : Rat) = 0 := rfl; rw [this]; grind
 | q :: l => by
  have ih := rowD_eq a l
  rw [len_cons]
  unfold rowD tq sx at ih ⊢
  rw [qsum_cons, qsum_cons, qsum_cons]
  grind
theorem rowN_eq (a : Rat × Rat) : ∀ l, rowN a l = tp l - a.2 * sx l - a.1 * sy l + len l * (a.1 * a.2)
 | [] => by show (0 : Rat) = 0 - a.2 * 0 - a.1 * 0 + (((0 : Nat) : Int) : Rat) * (a.1 * a.2); have : (((0 : Nat) : Int) : Rat) = 0 := rfl; rw [this]; grind
 | q :: l => by
  have ih := rowN_eq a l
  rw [len_cons]
  unfold rowN tp sx sy at ih ⊢
  rw [qsum_cons, qsum_cons, qsum_cons, qsum_cons]
  grind
theorem len_snoc (l : List (Rat × Rat)) (a : Rat × Rat) : len (l ++ [a]) = len l + 1 := by
 show (((l ++ [a]).length : Int) : Rat) = _
 rw [List.length_append, List.length_singleton, Int.natCast_add, Rat.intCast_add]; rfl
theorem fitD_snoc (l : List (Rat × Rat)) (a : Rat × Rat) : fitD (l ++ [a]) = fitD l + rowD a l := by
 rw [rowD_eq]
 unfold fitD
 rw [len_snoc]
 unfold tq sx
 rw [qsum_snoc, qsum_snoc]
 grind
theorem fitN_snoc (l : List (Rat × Rat)) (a : Rat × Rat) : fitN (l ++ [a]) = fitN l + rowN a l := by
 rw [rowN_eq]
 unfold fitN
 rw [len_snoc]
 unfold tp sx sy
 rw [qsum_snoc, qsum_snoc, qsum_snoc]
 grind
theorem fitD_nil : fitD [] = 0 := by show (((0 : Nat) : Int) : Rat) * 0 - 0 * 0 = 0; grind
theorem fitN_nil : fitN [] = 0 := by show (((0 : Nat) : Int) : Rat) * 0 - 0 * 0 = 0; grind
theorem rowD_nn (a : Rat × Rat) (l : List (Rat × Rat)) : 0 ≤ rowD a l := qsum_nn (fun q => sq_nn _) l
theorem row_low {a : Rat × Rat} {lo : Rat} : ∀ {l : List (Rat × Rat)}, (∀ s ∈ rowS a l, lo ≤ s) → lo * rowD a l ≤ rowN a l
 | [], _ => by show lo * 0 ≤ 0; grind
 | q :: l, h => by
  have ih := row_low (a := a) (lo := lo) (l := l) fun s hs => h s (by
   unfold rowS at hs ⊢
   rw [List.filterMap_cons]
   split
   · exact hs
   · exact List.mem_cons_of_mem _ hs)
  have e : lo * ((a.1 - q.1) * (a.1 - q.1)) ≤ (a.1 - q.1) * (a.2 - q.2) := by
   by_cases hz : a.1 - q.1 = 0
   · rw [hz]; grind
   · have hs := h ((a.2 - q.2) / (a.1 - q.1)) (by unfold rowS; rw [List.filterMap_cons]; unfold slope1; rw [if_neg hz]; simp)
     have e1 : (a.2 - q.2) / (a.1 - q.1) * (a.1 - q.1) = a.2 - q.2 := by rw [Rat.div_def, Rat.mul_assoc, Rat.inv_mul_cancel _ hz, Rat.mul_one]
     have e2 := Rat.mul_le_mul_of_nonneg_left hs (sq_nn (a.1 - q.1))
     generalize (a.2 - q.2) / (a.1 - q.1) = s at e1 e2
     have e3 : (a.1 - q.1) * (a.1 - q.1) * s = (a.1 - q.1) * (a.2 - q.2) := by rw [← e1]; grind
     rw [e3] at e2
     grind
  unfold rowD rowN at ih ⊢
  rw [qsum_cons, qsum_cons]
  generalize qsum (fun q : Rat × Rat => (a.1 - q.1) * (a.1 - q.1)) l = X at ih ⊢
  generalize qsum (fun q : Rat × Rat => (a.1 - q.1) * (a.2 - q.2)) l = Y at ih ⊢
  generalize (a.1 - q.1) * (a.1 - q.1) = x at e ⊢
  generalize (a.1 - q.1) * (a.2 - q.2) = y at e ⊢
  grind
theorem row_high {a : Rat × Rat} {hi : Rat} : ∀ {l : List (Rat × Rat)}, (∀ s ∈ rowS a l, s ≤ hi) → rowN a l ≤ hi * rowD a l
 | [], _ => by show 0 ≤ hi * 0; grind
 | q :: l, h => by
  have ih := row_high (a := a) (hi := hi) (l := l) fun s hs => h s (by
   unfold rowS at hs ⊢
   rw [List.filterMap_cons]
   split
   · exact hs
   · exact List.mem_cons_of_mem _ hs)
  have e : (a.1 - q.1) * (a.2 - q.2) ≤ hi * ((a.1 - q.1) * (a.1 - q.1)) := by
   by_cases hz : a.1 - q.1 = 0
   · rw [hz]; grind
   · have hs := h ((a.2 - q.2) / (a.1 - q.1)) (by unfold rowS; rw [List.filterMap_cons]; unfold slope1; rw [if_neg hz]; simp)
     have e1 : (a.2 - q.2) / (a.1 - q.1) * (a.1 - q.1) = a.2 - q.2 := by rw [Rat.div_def, Rat.mul_assoc, Rat.inv_mul_cancel _ hz, Rat.mul_one]
     have e2 := Rat.mul_le_mul_of_nonneg_left hs (sq_nn (a.1 - q.1))
     generalize (a.2 - q.2) / (a.1 - q.1) = s at e1 e2
     have e3 : (a.1 - q.1) * (a.1 - q.1) * s = (a.1 - q.1) * (a.2 - q.2) := by rw [← e1]; grind
     rw [e3] at e2
     grind
  unfold rowD rowN at ih ⊢
  rw [qsum_cons, qsum_cons]
  generalize qsum (fun q : Rat × Rat => (a.1 - q.1) * (a.1 - q.1)) l = X at ih ⊢
  generalize qsum (fun q : Rat × Rat => (a.1 - q.1) * (a.2 - q.2)) l = Y at ih ⊢
  generalize (a.1 - q.1) * (a.1 - q.1) = x at e ⊢
  generalize (a.1 - q.1) * (a.2 - q.2) = y at e ⊢
  grind
theorem to_step {qs : List (Rat × Rat)} {i : Nat} {a} (h : qs[i]? = some a) : slopesTo qs (i + 1) = slopesTo qs i ++ rowS a (qs.take i) := by
 show slopesTo qs i ++ rowS (qs.getD i (0, 0)) (qs.take i) = _
 rw [List.getD_eq_getElem?_getD, h]; rfl
theorem to_low {qs : List (Rat × Rat)} {lo : Rat} : ∀ i, i ≤ qs.length → (∀ s ∈ slopesTo qs i, lo ≤ s) → lo * fitD (qs.take i) ≤ fitN (qs.take i)
 | 0, _, _ => by rw [List.take_zero, fitD_nil, fitN_nil]; grind
 | i + 1, hi, h => by
  obtain ⟨a, ha⟩ := get_ex (l := qs) (i := i) (by omega)
  rw [to_step ha] at h
  have h1 := to_low (lo := lo) i (by omega) fun s hs => h s (List.mem_append_left _ hs)
  have h2 := row_low (a := a) (lo := lo) (l := qs.take i) fun s hs => h s (List.mem_append_right _ hs)
  rw [take_get ha, fitD_snoc, fitN_snoc]
  grind
theorem to_high {qs : List (Rat × Rat)} {hi : Rat} : ∀ i, i ≤ qs.length → (∀ s ∈ slopesTo qs i, s ≤ hi) → fitN (qs.take i) ≤ hi * fitD (qs.take i)
 | 0, _, _ => by rw [List.take_zero, fitD_nil, fitN_nil]; grind
 | i + 1, hi', h => by
  obtain ⟨a, ha⟩ := get_ex (l := qs) (i := i) (by omega)
  rw [to_step ha] at h
  have h1 := to_high (hi := hi) i (by omega) fun s hs => h s (List.mem_append_left _ hs)
  have h2 := row_high (a := a) (hi := hi) (l := qs.take i) fun s hs => h s (List.mem_append_right _ hs)
  rw [take_get ha, fitD_snoc, fitN_snoc]
  grind
theorem to_nn {qs : List (Rat × Rat)} : ∀ i, i ≤ qs.length → 0 ≤ fitD (qs.take i)
 | 0, _ => by rw [List.take_zero, fitD_nil]; exact Rat.le_refl
 | i + 1, hi => by
  obtain ⟨a, ha⟩ := get_ex (l := qs) (i := i) (by omega)
  have h1 := to_nn (qs := qs) i (by omega)
  have h2 := rowD_nn a (qs.take i)
  rw [take_get ha, fitD_snoc]
  grind
theorem row_none {a : Rat × Rat} : ∀ {l : List (Rat × Rat)}, rowD a l = 0 → rowS a l = []
 | [], _ => rfl
 | q :: l, h => by
  unfold rowD at h
  rw [qsum_cons] at h
  have h1 := sq_nn (a.1 - q.1)
  have h2 := qsum_nn (g := fun q : Rat × Rat => (a.1 - q.1) * (a.1 - q.1)) (fun q => sq_nn _) l
  have ih := row_none (a := a) (l := l) (by unfold rowD; grind)
  have e1 : (a.1 - q.1) * (a.1 - q.1) = 0 := by
   generalize qsum (fun q : Rat × Rat => (a.1 - q.1) * (a.1 - q.1)) l = X at h h2
   generalize (a.1 - q.1) * (a.1 - q.1) = x at h h1 ⊢
   grind
  unfold rowS at ih ⊢
  rw [List.filterMap_cons]
  unfold slope1
  rw [if_pos (sq_zero e1)]
  exact ih
theorem to_none {qs : List (Rat × Rat)} : ∀ i, i ≤ qs.length → fitD (qs.take i) = 0 → slopesTo qs i = []
 | 0, _, _ => rfl
 | i + 1, hi, h => by
  obtain ⟨a, ha⟩ := get_ex (l := qs) (i := i) (by omega)
  rw [take_get ha, fitD_snoc] at h
  have h1 := to_nn (qs := qs) i (by omega)
  have h2 := rowD_nn a (qs.take i)
  rw [to_step ha, to_none i (by omega) (by grind), row_none (by grind)]; rfl
theorem fold_some {l : List Rat} : ∀ {x y : Rat}, ∃ u v, l.foldl lohi (some (x, y)) = some (u, v) ∧ u ≤ x ∧ y ≤ v ∧ ∀ s ∈ l, u ≤ s ∧ s ≤ v := by
 induction l with
 | nil => exact fun {x y} => ⟨x, y, rfl, Rat.le_refl, Rat.le_refl, fun s h => by cases h⟩
 | cons s l ih =>
  intro x y
  obtain ⟨u, v, e, h1, h2, h3⟩ := ih (x := if s < x then s else x) (y := if y < s then s else y)
  refine ⟨u, v, e, ?_, ?_, fun t ht => ?_⟩
  · split at h1 <;> grind
  · split at h2 <;> grind
  · rcases List.mem_cons.1 ht with rfl | ht
    · constructor
      · split at h1 <;> grind
      · split at h2 <;> grind
    · exact h3 t ht
theorem spread_none {qs : List (Rat × Rat)} : spreadI qs = none ↔ slopesTo qs qs.length = [] := by
 unfold spreadI
 cases h : slopesTo qs qs.length with
 | nil => exact ⟨fun _ => rfl, fun _ => rfl⟩
 | cons s l =>
  obtain ⟨u, v, e, _⟩ := fold_some (l := l) (x := s) (y := s)
  exact ⟨fun h => (by rw [show (s :: l).foldl lohi none = l.foldl lohi (some (s, s)) from rfl, e] at h; cases h), fun h => by cases h⟩
theorem spread_some {qs : List (Rat × Rat)} {u v : Rat} (h : spreadI qs = some (u, v)) : ∀ s ∈ slopesTo qs qs.length, u ≤ s ∧ s ≤ v := by
 unfold spreadI at h
 cases hs : slopesTo qs qs.length with
 | nil => intro s h; cases h
 | cons s l =>
  rw [hs] at h
  obtain ⟨u', v', e, h1, h2, h3⟩ := fold_some (l := l) (x := s) (y := s)
  rw [show (s :: l).foldl lohi none = l.foldl lohi (some (s, s)) from rfl, e] at h
  cases h
  intro t ht
  rcases List.mem_cons.1 ht with rfl | ht
  · exact ⟨h1, h2⟩
  · exact h3 t ht
theorem none_both {qs : List (Rat × Rat)} (hn : qs.length ≠ 0) : fitI qs = none ↔ spreadI qs = none := by
 rw [spread_none, ← fit_eq hn]
 unfold fitR
 constructor
 · intro h
   split at h
   · rename_i hD
     exact to_none qs.length (Nat.le_refl _) (by rw [List.take_length]; exact hD)
   · cases h
 · intro h
   have hD : fitD qs = 0 := by
    have h0 := to_nn (qs := qs) qs.length (Nat.le_refl _)
    have h1 := to_low (qs := qs) (lo := fitN qs + 1) qs.length (Nat.le_refl _) (by rw [h]; intro s hs; cases hs)
    have h2 := to_low (qs := qs) (lo := (fitN qs / fitD qs) + 1) qs.length (Nat.le_refl _) (by rw [h]; intro s hs; cases hs)
    rw [List.take_length] at h0 h2
    by_cases hz : fitD qs = 0
    · exact hz
    · have e1 : fitN qs / fitD qs * fitD qs = fitN qs := by rw [Rat.div_def, Rat.mul_assoc, Rat.inv_mul_cancel _ hz, Rat.mul_one]
      generalize fitN qs / fitD qs = s at e1 h2
      have e2 : (s + 1) * fitD qs = fitN qs + fitD qs := by rw [← e1]; grind
      rw [e2] at h2
      grind
   rw [if_pos hD]
theorem between {qs : List (Rat × Rat)} (hn : qs.length ≠ 0) {a b u v : Rat} (h : fitI qs = some (a, b)) (k : spreadI qs = some (u, v)) : u ≤ a ∧ a ≤ v := by
 obtain ⟨_, _, hD, rfl⟩ := fit_normal hn h
 have hs := spread_some k
 have h0 := to_nn (qs := qs) qs.length (Nat.le_refl _)
 have h1 := to_low (qs := qs) (lo := u) qs.length (Nat.le_refl _) fun s h => (hs s h).1
 have h2 := to_high (qs := qs) (hi := v) qs.length (Nat.le_refl _) fun s h => (hs s h).2
 rw [List.take_length] at h0 h1 h2
 have e1 : fitS qs * fitD qs = fitN qs := by unfold fitS fitN; rw [Rat.div_def, Rat.mul_assoc, Rat.inv_mul_cancel _ hD, Rat.mul_one]
 have hp : 0 < fitD qs := by grind
 rw [← e1] at h1 h2
 constructor
 · rcases Rat.le_total (a := u) (b := fitS qs) with h | h
   · exact h
   · by_cases he : fitS qs = u
     · rw [he]; exact Rat.le_refl
     · have hlt : fitS qs < u := by grind
       have := Rat.mul_lt_mul_of_pos_left hlt hp
       grind
 · rcases Rat.le_total (a := fitS qs) (b := v) with h | h
   · exact h
   · by_cases he : fitS qs = v
     · rw [he]; exact Rat.le_refl
     · have hlt : v < fitS qs := by grind
       have := Rat.mul_lt_mul_of_pos_left hlt hp
       grind
end Gev
namespace Gev
open Go Gb Go.Proofs
variable {E : Env}
attribute [local irreducible] Sz
theorem law_Between (hlib : Lib E) (hcl : Cl E) (haw : Fn E F_law54_awake [] (.c (.bool true))) (l : List (List UInt8 × List UInt8)) (hl : l.length ≤ 9223372036854775807) : Fn E F_law54_InclineBetween [.c (.list (R2 l))] (.c (.bool true)) := by
 have hf := r54_Few (E := E) (l := l) (m := []) hl (by decide)
 cases hb : fewB l [] with
 | false => rw [hb] at hf; exact law54_InclineBetween_9 haw hf
 | true =>
  rw [hb] at hf
  obtain ⟨hm, _, _, _⟩ := fewB_few hb
  have hL := Lim_val
  have hc := hcl.shift l hm.1
  have k1 := inc_Fit hlib hm
  have k2 := inc_Spread hlib hm
  unfold ansI at k1
  unfold sprI at k2
  by_cases hs : startI l = 0
  · rw [if_pos hs] at k1 k2
    obtain ⟨qs, rfl, hq2, hn⟩ := start_zero hs
    have hq := Tx_in hm
    rw [nums_Tx] at k1 k2
    cases hfi : fitI qs with
    | none =>
     rw [hfi] at k1
     rw [(none_both (by omega)).1 hfi] at k2
     exact law54_InclineBetween_0 (R2_take _) (R2_take _) haw hf hc k1 hc k2 (show ¬ (18 : Int) = 0 by decide) rfl
    | some ab =>
     obtain ⟨a, b⟩ := ab
     cases hsp : spreadI qs with
     | none => rw [(none_both (by omega)).2 hsp] at hfi; cases hfi
     | some uv =>
      obtain ⟨u, v⟩ := uv
      rw [hfi] at k1
      rw [hsp] at k2
      obtain ⟨za, _⟩ := Sz_fitI hq hn hfi
      obtain ⟨zu, zv⟩ := (OSz.none.fold (slopesTo_Sz hq _ (Nat.le_refl _)) : OSz (spreadI qs)) u v hsp
      obtain ⟨b1, b2⟩ := between (by omega) hfi hsp
      have f1 := r3_From (E := E) (l := decQ a) (by have := za.len; omega)
      have f2 := r3_From (E := E) (l := decQ u) (by have := zu.len; omega)
      have f3 := r3_From (E := E) (l := decQ v) (by have := zv.len; omega)
      rw [rd_decQ] at f1 f2 f3
      have j1 := r3_Less (E := E) za zu (by omega)
      have j2 := r3_Less (E := E) zv za (by omega)
      rw [not_lt_dec b1] at j1
      rw [not_lt_dec b2] at j2
      exact law54_InclineBetween_5 (R2_take _) (R2_take _) haw hf hc k1 hc k2 rfl rfl f1 f2 f3 j1 j2
  · rw [if_neg hs] at k1 k2
    exact law54_InclineBetween_0 (R2_take _) (R2_take _) haw hf hc k1 hc k2 hs rfl
end Gev
namespace Gev
open Go Gb Go.Proofs
variable {E : Env}
attribute [local irreducible] Sz
theorem Few.reverse {l : List (List UInt8 × List UInt8)} (h : Few l) : Few l.reverse := ⟨by rw [List.length_reverse]; exact h.1, fun x hx => h.2 x (List.mem_reverse.1 hx)⟩
end Gev
namespace Gev
open Go Gb Go.Proofs
variable {P : Program}
theorem uStr {t : TypeId} (h : P.underlying t = some .string) {ds : List DV} (hd : TyD P t ds) : ∃ l, ds = [.str (B l)] := by
 cases hd with
 | str s hu => exact ⟨s.data.toList, by rw [B_of]⟩
 | int n hu hw => rw [h] at hu; cases hu
 | bool b hu => rw [h] at hu; cases hu
 | slice xs hu hx hl => rw [h] at hu; cases hu
 | struct ds hu hl hp => rw [h] at hu; cases hu
def fieldsOf (P : Program) (e : TypeId) : Option (List (Nat × TypeId)) := match P.underlying e with | some (.struct fs) => some (fs.toList.map fun f => (f.offset, f.type)) | _ => none
theorem fields_get {e : TypeId} {l : List (Nat × TypeId)} (h : fieldsOf P e = some l) : ∃ fs, P.underlying e = some (.struct fs) ∧ fs.toList.map (fun f => (f.offset, f.type)) = l := by
 unfold fieldsOf at h
 split at h
 · rename_i fs hu; exact ⟨fs, hu, Option.some.inj h⟩
 · cases h
theorem uStruct {e : TypeId} {l : List (Nat × TypeId)} (h : fieldsOf P e = some l) {ds : List DV} (hd : TyD P e ds) : ds.length = P.cellsOf e ∧ ∀ x ∈ l, TyD P x.2 ((ds.drop x.1).take (P.cellsOf x.2)) := by
 obtain ⟨fs, hu0, rfl⟩ := fields_get h
 cases hd with
 | struct _ hu hl hp =>
  rw [hu0] at hu; cases hu
  refine ⟨hl, fun x hx => ?_⟩
  obtain ⟨f, hf, rfl⟩ := List.mem_map.1 hx
  exact hp f hf
 | int n hu hw => rw [hu0] at hu; cases hu
 | bool b hu => rw [hu0] at hu; cases hu
 | str s hu => rw [hu0] at hu; cases hu
 | slice xs hu hx hl => rw [hu0] at hu; cases hu
theorem uSlice {t e : TypeId} (ht : P.underlying t = some (.slice e)) {d : DV} (hd : TyD P t [d]) : ∃ xs, d = .list xs ∧ (∀ x ∈ xs, TyD P e x) ∧ xs.length ≤ 9223372036854775807 := by
 generalize hds : [d] = ds at hd
 cases hd with
 | slice xs hu hx hl => rw [ht] at hu; cases hu; cases hds; exact ⟨xs, rfl, hx, hl⟩
 | int n hu hw => rw [ht] at hu; cases hu
 | bool b hu => rw [ht] at hu; cases hu
 | str s hu => rw [ht] at hu; cases hu
 | struct ds hu hl hp => rw [ht] at hu; cases hu
theorem two_cells {x : List DV} (h : x.length = 2) : ∃ a b, x = [a, b] := by
 match x, h with
 | [a, b], _ => exact ⟨a, b, rfl⟩
theorem uPair {e s : TypeId} (he : fieldsOf P e = some [(0, s), (1, s)]) (c2 : P.cellsOf e = 2) (cs : P.cellsOf s = 1) (hs : P.underlying s = some .string) {x : List DV} (hd : TyD P e x) : ∃ p q, x = [.str (B p), .str (B q)] := by
 obtain ⟨hl, hp⟩ := uStruct he hd
 rw [c2] at hl
 obtain ⟨a, b, rfl⟩ := two_cells hl
 have ha := hp (0, s) (by simp)
 have hb := hp (1, s) (by simp)
 simp only [cs, List.drop_zero, List.drop_succ_cons, List.take_succ_cons, List.take_zero] at ha hb
 obtain ⟨p, e1⟩ := uStr hs ha
 obtain ⟨q, e2⟩ := uStr hs hb
 cases e1; cases e2; exact ⟨p, q, rfl⟩
theorem uPairs {t e s : TypeId} (ht : P.underlying t = some (.slice e)) (he : fieldsOf P e = some [(0, s), (1, s)]) (c2 : P.cellsOf e = 2) (cs : P.cellsOf s = 1) (hs : P.underlying s = some .string) {d : DV} (hd : TyD P t [d]) : ∃ l, d = .list (R2 l) ∧ l.length ≤ 9223372036854775807 := by
 obtain ⟨xs, rfl, hx, hl⟩ := uSlice ht hd
 have hex : ∀ xs : List (List DV), (∀ x ∈ xs, TyD P e x) → ∃ l, xs = R2 l := by
  intro xs
  induction xs with
  | nil => exact fun _ => ⟨[], rfl⟩
  | cons x xs ih =>
   intro hx
   obtain ⟨l, rfl⟩ := ih fun y hy => hx y (by simp [hy])
   obtain ⟨p, q, rfl⟩ := uPair he c2 cs hs (hx x (by simp))
   exact ⟨(p, q) :: l, rfl⟩
 obtain ⟨l, rfl⟩ := hex xs hx
 exact ⟨l, rfl, by rw [R2_len] at hl; exact hl⟩
theorem spread3 (hlib : Lib E0) : Fn E0 F_incline_Spread [.c (.list (R2 (Tx three)))] (.tup [.agg [.str (B [49, 47, 53, 48, 48, 48]), .str (B [49, 47, 53, 48, 48, 48])], .c (.i64 0)]) := by
 have h := inc_Spread hlib few_three
 unfold sprI at h
 rw [if_pos start_three, nums_Tx, show spreadI three = some (mkRat 1 5000, mkRat 1 5000) by kernel_rfl] at h
 simp only [ivI] at h
 rw [d1_5000] at h
 exact h
theorem awake0 : Fn E0 F_law54_awake [] (.c (.bool true)) := awake_ok lib0 (spread3 lib0)
end Gev
