/- A part of the proof: see the last text of this claim. -/
import Derived.Test.YtpjpnmjbaedkmaaGreatDoorB
set_option linter.unusedSectionVars false
set_option linter.unusedVariables false
set_option linter.unusedSimpArgs false
namespace Gev
open Go Go.Proofs
variable {E : Env}
theorem integer_Neg_1 {a0 : ByteArray} {v1 : Bool} {v2 : ByteArray} {v3 : Int} {v4 : Bool} {v5 v6 : ByteArray} (h1 : Fn E F_integer_one [.c (.str a0)] (.tup [.agg [.bool v1, .str v2], .c (.i64 v3)])) (h2 : v3 = 0) (h3 : Fn E F_integer_number_opposite [.agg [.bool v1, .str v2]] (.agg [.bool v4, .str v5])) (h4 : Fn E F_integer_number_text [.agg [.bool v4, .str v5]] (.c (.str v6))) :
    Fn E F_integer_Neg [.c (.str a0)] (.tup [.c (.str v6), .c (.i64 0)]) := by
 exact fnMk [.v (.tup [.agg [.bool v1, .str v2], .c (.i64 v3)]), .t false, .v (.agg [.bool v4, .str v5]), .v (.c (.str v6))] (by kernel_rfl) (by kernel_rfl) (aC h1 (aC (bnF h2) (aC h3 (aO h4)))) (by kernel_rfl)
theorem integer_Mul_1 {a0 a1 : ByteArray} {v1 : Bool} {v2 : ByteArray} {v3 : Bool} {v4 : ByteArray} {v5 : Int} {v6 : Bool} {v7 v8 : ByteArray} (h1 : Fn E F_integer_both [.c (.str a0), .c (.str a1)] (.tup [.agg [.bool v1, .str v2], .agg [.bool v3, .str v4], .c (.i64 v5)])) (h2 : v5 = 0) (h3 : Fn E F_integer_number_times [.agg [.bool v1, .str v2], .agg [.bool v3, .str v4]] (.agg [.bool v6, .str v7])) (h4 : Fn E F_integer_number_text [.agg [.bool v6, .str v7]] (.c (.str v8))) :
    Fn E F_integer_Mul [.c (.str a0), .c (.str a1)] (.tup [.c (.str v8), .c (.i64 0)]) := by
 exact fnMk [.v (.tup [.agg [.bool v1, .str v2], .agg [.bool v3, .str v4], .c (.i64 v5)]), .t false, .v (.agg [.bool v6, .str v7]), .v (.c (.str v8))] (by kernel_rfl) (by kernel_rfl) (aC h1 (aC (bnF h2) (aC h3 (aO h4)))) (by kernel_rfl)
theorem integer_Add_1 {a0 a1 : ByteArray} {v1 : Bool} {v2 : ByteArray} {v3 : Bool} {v4 : ByteArray} {v5 : Int} {v6 : Bool} {v7 v8 : ByteArray} (h1 : Fn E F_integer_both [.c (.str a0), .c (.str a1)] (.tup [.agg [.bool v1, .str v2], .agg [.bool v3, .str v4], .c (.i64 v5)])) (h2 : v5 = 0) (h3 : Fn E F_integer_number_plus [.agg [.bool v1, .str v2], .agg [.bool v3, .str v4]] (.agg [.bool v6, .str v7])) (h4 : Fn E F_integer_number_text [.agg [.bool v6, .str v7]] (.c (.str v8))) :
    Fn E F_integer_Add [.c (.str a0), .c (.str a1)] (.tup [.c (.str v8), .c (.i64 0)]) := by
 exact fnMk [.v (.tup [.agg [.bool v1, .str v2], .agg [.bool v3, .str v4], .c (.i64 v5)]), .t false, .v (.agg [.bool v6, .str v7]), .v (.c (.str v8))] (by kernel_rfl) (by kernel_rfl) (aC h1 (aC (bnF h2) (aC h3 (aO h4)))) (by kernel_rfl)
theorem integer_one_0 {a0 : ByteArray} {v1 : Bool} {v2 : ByteArray} {v3 : Bool} {v4 : ByteArray} {v5 : Int} (h1 : Fn E F_integer_both [.c (.str a0), .c (.str ⟨#[48]⟩)] (.tup [.agg [.bool v1, .str v2], .agg [.bool v3, .str v4], .c (.i64 v5)])) :
    Fn E F_integer_one [.c (.str a0)] (.tup [.agg [.bool v1, .str v2], .c (.i64 v5)]) := by
 exact fnMk [.v (.tup [.agg [.bool v1, .str v2], .agg [.bool v3, .str v4], .c (.i64 v5)])] (by kernel_rfl) (by kernel_rfl) (aO h1) (by kernel_rfl)
theorem integer_number_opposite_0 {a0_0 : Bool} {a0_1 : ByteArray} {v1 : Bool} {v2 : ByteArray} (h1 : Fn E F_integer_with [.c (.bool (!a0_0)), .c (.str a0_1)] (.agg [.bool v1, .str v2])) :
    Fn E F_integer_number_opposite [.agg [.bool a0_0, .str a0_1]] (.agg [.bool v1, .str v2]) := by
 exact fnMk [.v (.agg [.bool v1, .str v2])] (by kernel_rfl) (by kernel_rfl) (aO h1) (by kernel_rfl)
theorem integer_number_text_0 {a0_1 v1 : ByteArray} (e1 : (⟨#[45]⟩ : ByteArray) ++ a0_1 = v1) (h1 : (⟨#[45]⟩ : ByteArray).size + a0_1.size ≤ 9223372036854775807) :
    Fn E F_integer_number_text [.agg [.bool true, .str a0_1]] (.c (.str v1)) := by
 subst e1
 exact fnMk [] (by kernel_rfl) (by kernel_rfl) (aO h1) (by kernel_rfl)
theorem integer_number_text_1 {a0_1 : ByteArray}  :
    Fn E F_integer_number_text [.agg [.bool false, .str a0_1]] (.c (.str a0_1)) := by
 exact fnMk [] (by kernel_rfl) (by kernel_rfl) aN (by kernel_rfl)
theorem integer_both_0 {a0 a1 : ByteArray} {v1 : Bool} {v2 : ByteArray} {v4 : Bool} {v5 : ByteArray} (h1 : Fn E F_integer_read [.c (.str a0)] (.tup [.agg [.bool v1, .str v2], .c (.bool true)])) (h2 : Fn E F_integer_read [.c (.str a1)] (.tup [.agg [.bool v4, .str v5], .c (.bool true)])) :
    Fn E F_integer_both [.c (.str a0), .c (.str a1)] (.tup [.agg [.bool v1, .str v2], .agg [.bool v4, .str v5], .c (.i64 0)]) := by
 exact fnMk [.v (.tup [.agg [.bool v1, .str v2], .c (.bool true)]), .v (.tup [.agg [.bool v4, .str v5], .c (.bool true)])] (by kernel_rfl) (by kernel_rfl) (aC h1 (aO h2)) (by kernel_rfl)
theorem integer_number_times_0 {a0_0 : Bool} {a0_1 : ByteArray} {a1_0 : Bool} {a1_1 v1 : ByteArray} {v2 : Int} {v3 v4 : Bool} {v5 : ByteArray} (e1 : (!(a0_0 == a1_0)) = v3) (h1 : Fn E F_natural_Mul [.c (.str a0_1), .c (.str a1_1)] (.tup [.c (.str v1), .c (.i64 v2)])) (h2 : Fn E F_integer_with [.c (.bool v3), .c (.str v1)] (.agg [.bool v4, .str v5])) :
    Fn E F_integer_number_times [.agg [.bool a0_0, .str a0_1], .agg [.bool a1_0, .str a1_1]] (.agg [.bool v4, .str v5]) := by
 subst e1
 exact fnMk [.v (.tup [.c (.str v1), .c (.i64 v2)]), .keep, .v (.agg [.bool v4, .str v5])] (by kernel_rfl) (by kernel_rfl) (aC h1 (aO h2)) (by kernel_rfl)
theorem integer_number_plus_0 {a0_0 : Bool} {a0_1 : ByteArray} {a1_0 : Bool} {a1_1 : ByteArray} {v3 : Bool} {v4 : ByteArray} (h1 : Fn E F_integer_bit [.c (.bool a0_0)] (.c (.i64 0))) (h2 : Fn E F_integer_bit [.c (.bool a1_0)] (.c (.i64 0))) (h3 : Fn E F_integer_sum [.agg [.bool a0_0, .str a0_1], .agg [.bool a1_0, .str a1_1]] (.agg [.bool v3, .str v4])) :
    Fn E F_integer_number_plus [.agg [.bool a0_0, .str a0_1], .agg [.bool a1_0, .str a1_1]] (.agg [.bool v3, .str v4]) := by
 exact fnMk [.v (.c (.i64 0)), .v (.c (.i64 0)), .v (.agg [.bool v3, .str v4])] (by kernel_rfl) (by kernel_rfl) (aC h1 (aC h2 (aC (show (0 : Int) ≤ 0 ∧ (0 : Int) < 2 from by decide) (aC (show (0 : Int) ≤ 0 ∧ (0 : Int) < 2 from by decide) (aO h3))))) (by kernel_rfl)
theorem integer_number_plus_1 {a0_0 : Bool} {a0_1 : ByteArray} {a1_0 : Bool} {a1_1 : ByteArray} {v3 : Bool} {v4 : ByteArray} (h1 : Fn E F_integer_bit [.c (.bool a0_0)] (.c (.i64 0))) (h2 : Fn E F_integer_bit [.c (.bool a1_0)] (.c (.i64 1))) (h3 : Fn E F_integer_difference [.agg [.bool a0_0, .str a0_1], .agg [.bool a1_0, .str a1_1]] (.agg [.bool v3, .str v4])) :
    Fn E F_integer_number_plus [.agg [.bool a0_0, .str a0_1], .agg [.bool a1_0, .str a1_1]] (.agg [.bool v3, .str v4]) := by
 exact fnMk [.v (.c (.i64 0)), .v (.c (.i64 1)), .v (.agg [.bool v3, .str v4])] (by kernel_rfl) (by kernel_rfl) (aC h1 (aC h2 (aC (show (0 : Int) ≤ 0 ∧ (0 : Int) < 2 from by decide) (aC (show (0 : Int) ≤ 1 ∧ (1 : Int) < 2 from by decide) (aO h3))))) (by kernel_rfl)
theorem integer_number_plus_2 {a0_0 : Bool} {a0_1 : ByteArray} {a1_0 : Bool} {a1_1 : ByteArray} {v3 : Bool} {v4 : ByteArray} (h1 : Fn E F_integer_bit [.c (.bool a0_0)] (.c (.i64 1))) (h2 : Fn E F_integer_bit [.c (.bool a1_0)] (.c (.i64 0))) (h3 : Fn E F_integer_difference [.agg [.bool a0_0, .str a0_1], .agg [.bool a1_0, .str a1_1]] (.agg [.bool v3, .str v4])) :
    Fn E F_integer_number_plus [.agg [.bool a0_0, .str a0_1], .agg [.bool a1_0, .str a1_1]] (.agg [.bool v3, .str v4]) := by
 exact fnMk [.v (.c (.i64 1)), .v (.c (.i64 0)), .v (.agg [.bool v3, .str v4])] (by kernel_rfl) (by kernel_rfl) (aC h1 (aC h2 (aC (show (0 : Int) ≤ 1 ∧ (1 : Int) < 2 from by decide) (aC (show (0 : Int) ≤ 0 ∧ (0 : Int) < 2 from by decide) (aO h3))))) (by kernel_rfl)
theorem integer_number_plus_3 {a0_0 : Bool} {a0_1 : ByteArray} {a1_0 : Bool} {a1_1 : ByteArray} {v3 : Bool} {v4 : ByteArray} (h1 : Fn E F_integer_bit [.c (.bool a0_0)] (.c (.i64 1))) (h2 : Fn E F_integer_bit [.c (.bool a1_0)] (.c (.i64 1))) (h3 : Fn E F_integer_sum [.agg [.bool a0_0, .str a0_1], .agg [.bool a1_0, .str a1_1]] (.agg [.bool v3, .str v4])) :
    Fn E F_integer_number_plus [.agg [.bool a0_0, .str a0_1], .agg [.bool a1_0, .str a1_1]] (.agg [.bool v3, .str v4]) := by
 exact fnMk [.v (.c (.i64 1)), .v (.c (.i64 1)), .v (.agg [.bool v3, .str v4])] (by kernel_rfl) (by kernel_rfl) (aC h1 (aC h2 (aC (show (0 : Int) ≤ 1 ∧ (1 : Int) < 2 from by decide) (aC (show (0 : Int) ≤ 1 ∧ (1 : Int) < 2 from by decide) (aO h3))))) (by kernel_rfl)
theorem integer_DivMod_2 {a0 a1 : ByteArray} {v1 : Bool} {v2 : ByteArray} {v3 : Bool} {v4 : ByteArray} {v5 : Int} {v6 : Bool} {v7 : ByteArray} {v8 : Bool} {v9 : ByteArray} {v10 : Bool} {v11 v12 v13 : ByteArray} (h1 : Fn E F_integer_both [.c (.str a0), .c (.str a1)] (.tup [.agg [.bool v1, .str v2], .agg [.bool v3, .str v4], .c (.i64 v5)])) (h2 : v5 = 0) (h3 : Fn E F_integer_zero [] (.agg [.bool v6, .str v7])) (h4 : ((v3 == v6) && ((v4 == v7) && true)) = false) (h5 : Fn E F_integer_number_divide [.agg [.bool v1, .str v2], .agg [.bool v3, .str v4]] (.tup [.agg [.bool v8, .str v9], .agg [.bool v10, .str v11]])) (h6 : Fn E F_integer_number_text [.agg [.bool v8, .str v9]] (.c (.str v12))) (h7 : Fn E F_integer_number_text [.agg [.bool v10, .str v11]] (.c (.str v13))) :
    Fn E F_integer_DivMod [.c (.str a0), .c (.str a1)] (.tup [.c (.str v12), .c (.str v13), .c (.i64 0)]) := by
 exact fnMk [.v (.tup [.agg [.bool v1, .str v2], .agg [.bool v3, .str v4], .c (.i64 v5)]), .t false, .v (.agg [.bool v6, .str v7]), .t false, .v (.tup [.agg [.bool v8, .str v9], .agg [.bool v10, .str v11]]), .v (.c (.str v12)), .v (.c (.str v13))] (by kernel_rfl) (by kernel_rfl) (aC h1 (aC (bnF h2) (aC h3 (aC (id h4) (aC h5 (aC h6 (aO h7))))))) (by kernel_rfl)
theorem integer_Valid_0 {a0 : ByteArray} {v1 : Bool} {v2 : ByteArray} {v3 : Bool} (h1 : Fn E F_integer_read [.c (.str a0)] (.tup [.agg [.bool v1, .str v2], .c (.bool v3)])) :
    Fn E F_integer_Valid [.c (.str a0)] (.c (.bool v3)) := by
 exact fnMk [.v (.tup [.agg [.bool v1, .str v2], .c (.bool v3)])] (by kernel_rfl) (by kernel_rfl) (aO h1) (by kernel_rfl)
theorem integer_Compare_0 {a0 a1 : ByteArray} {v1 : Bool} {v2 : ByteArray} {v3 : Bool} {v4 : ByteArray} {v5 : Int} {v6 : Bool} {v7 : ByteArray} {v8 : Bool} {v9 : ByteArray} {v10 : Int} (h1 : Fn E F_integer_both [.c (.str a0), .c (.str a1)] (.tup [.agg [.bool v1, .str v2], .agg [.bool v3, .str v4], .c (.i64 v5)])) (h2 : Fn E F_integer_number_opposite [.agg [.bool v3, .str v4]] (.agg [.bool v6, .str v7])) (h3 : Fn E F_integer_number_plus [.agg [.bool v1, .str v2], .agg [.bool v6, .str v7]] (.agg [.bool v8, .str v9])) (h4 : Fn E F_integer_number_sign [.agg [.bool v8, .str v9]] (.c (.i64 v10))) :
    Fn E F_integer_Compare [.c (.str a0), .c (.str a1)] (.tup [.c (.i64 v10), .c (.i64 v5)]) := by
 exact fnMk [.v (.tup [.agg [.bool v1, .str v2], .agg [.bool v3, .str v4], .c (.i64 v5)]), .v (.agg [.bool v6, .str v7]), .v (.agg [.bool v8, .str v9]), .v (.c (.i64 v10))] (by kernel_rfl) (by kernel_rfl) (aC h1 (aC h2 (aC h3 (aO h4)))) (by kernel_rfl)
theorem integer_with_0 {a1 : ByteArray} (h1 : ¬ a1 = (⟨#[48]⟩ : ByteArray)) :
    Fn E F_integer_with [.c (.bool true), .c (.str a1)] (.agg [.bool true, .str a1]) := by
 exact fnMk [.t true] (by kernel_rfl) (by kernel_rfl) (aO (snT h1)) (by kernel_rfl)
theorem integer_with_1 {a1 : ByteArray} (h1 : a1 = (⟨#[48]⟩ : ByteArray)) :
    Fn E F_integer_with [.c (.bool true), .c (.str a1)] (.agg [.bool false, .str a1]) := by
 exact fnMk [.t false] (by kernel_rfl) (by kernel_rfl) (aO (snF h1)) (by kernel_rfl)
theorem integer_with_2 {a1 : ByteArray}  :
    Fn E F_integer_with [.c (.bool false), .c (.str a1)] (.agg [.bool false, .str a1]) := by
 exact fnMk [] (by kernel_rfl) (by kernel_rfl) aN (by kernel_rfl)
theorem integer_read_0 {a0 v1 : ByteArray} {v2 : Bool} (h1 : Fn E F_strings_CutPrefix [.c (.str a0), .c (.str ⟨#[45]⟩)] (.tup [.c (.str v1), .c (.bool v2)])) (h2 : Fn E F_natural_Valid [.c (.str v1)] (.c (.bool true))) (h3 : (!((v2 == true) && ((v1 == (⟨#[48]⟩ : ByteArray)) && true))) = true) :
    Fn E F_integer_read [.c (.str a0)] (.tup [.agg [.bool v2, .str v1], .c (.bool true)]) := by
 exact fnMk [.v (.tup [.c (.str v1), .c (.bool v2)]), .v (.c (.bool true)), .t true] (by kernel_rfl) (by kernel_rfl) (aC h1 (aC h2 (aO (id h3)))) (by kernel_rfl)
theorem integer_read_1 {a0 v1 : ByteArray} {v2 : Bool} (h1 : Fn E F_strings_CutPrefix [.c (.str a0), .c (.str ⟨#[45]⟩)] (.tup [.c (.str v1), .c (.bool v2)])) (h2 : Fn E F_natural_Valid [.c (.str v1)] (.c (.bool true))) (h3 : (!((v2 == true) && ((v1 == (⟨#[48]⟩ : ByteArray)) && true))) = false) :
    Fn E F_integer_read [.c (.str a0)] (.tup [.agg [.bool v2, .str v1], .c (.bool false)]) := by
 exact fnMk [.v (.tup [.c (.str v1), .c (.bool v2)]), .v (.c (.bool true)), .t false] (by kernel_rfl) (by kernel_rfl) (aC h1 (aC h2 (aO (id h3)))) (by kernel_rfl)
theorem integer_read_2 {a0 v1 : ByteArray} {v2 : Bool} (h1 : Fn E F_strings_CutPrefix [.c (.str a0), .c (.str ⟨#[45]⟩)] (.tup [.c (.str v1), .c (.bool v2)])) (h2 : Fn E F_natural_Valid [.c (.str v1)] (.c (.bool false))) :
    Fn E F_integer_read [.c (.str a0)] (.tup [.agg [.bool v2, .str v1], .c (.bool false)]) := by
 exact fnMk [.v (.tup [.c (.str v1), .c (.bool v2)]), .v (.c (.bool false))] (by kernel_rfl) (by kernel_rfl) (aC h1 (aO h2)) (by kernel_rfl)
theorem integer_zero_0   :
    Fn E F_integer_zero [] (.agg [.bool false, .str ⟨#[48]⟩]) := by
 exact fnMk [] (by kernel_rfl) (by kernel_rfl) aN (by kernel_rfl)
theorem integer_bit_0   :
    Fn E F_integer_bit [.c (.bool true)] (.c (.i64 1)) := by
 exact fnMk [] (by kernel_rfl) (by kernel_rfl) aN (by kernel_rfl)
theorem integer_bit_1   :
    Fn E F_integer_bit [.c (.bool false)] (.c (.i64 0)) := by
 exact fnMk [] (by kernel_rfl) (by kernel_rfl) aN (by kernel_rfl)
theorem integer_sum_0 {a0_0 : Bool} {a0_1 : ByteArray} {a1_0 : Bool} {a1_1 v1 : ByteArray} {v2 : Int} {v3 : Bool} {v4 : ByteArray} (h1 : Fn E F_natural_Add [.c (.str a0_1), .c (.str a1_1)] (.tup [.c (.str v1), .c (.i64 v2)])) (h2 : Fn E F_integer_with [.c (.bool a0_0), .c (.str v1)] (.agg [.bool v3, .str v4])) :
    Fn E F_integer_sum [.agg [.bool a0_0, .str a0_1], .agg [.bool a1_0, .str a1_1]] (.agg [.bool v3, .str v4]) := by
 exact fnMk [.v (.tup [.c (.str v1), .c (.i64 v2)]), .v (.agg [.bool v3, .str v4])] (by kernel_rfl) (by kernel_rfl) (aC h1 (aO h2)) (by kernel_rfl)
theorem integer_difference_0 {a0_0 : Bool} {a0_1 : ByteArray} {a1_0 : Bool} {a1_1 : ByteArray} {v1 v2 : Int} {v3 : ByteArray} {v4 : Int} {v5 : Bool} {v6 : ByteArray} (h1 : Fn E F_natural_Compare [.c (.str a0_1), .c (.str a1_1)] (.tup [.c (.i64 v1), .c (.i64 v2)])) (h2 : v1 < 0) (h3 : Fn E F_natural_Sub [.c (.str a1_1), .c (.str a0_1)] (.tup [.c (.str v3), .c (.i64 v4)])) (h4 : Fn E F_integer_with [.c (.bool a1_0), .c (.str v3)] (.agg [.bool v5, .str v6])) :
    Fn E F_integer_difference [.agg [.bool a0_0, .str a0_1], .agg [.bool a1_0, .str a1_1]] (.agg [.bool v5, .str v6]) := by
 exact fnMk [.v (.tup [.c (.i64 v1), .c (.i64 v2)]), .t true, .v (.tup [.c (.str v3), .c (.i64 v4)]), .v (.agg [.bool v5, .str v6])] (by kernel_rfl) (by kernel_rfl) (aC h1 (aC (dT h2) (aC h3 (aO h4)))) (by kernel_rfl)
theorem integer_difference_1 {a0_0 : Bool} {a0_1 : ByteArray} {a1_0 : Bool} {a1_1 : ByteArray} {v1 v2 : Int} {v3 : ByteArray} {v4 : Int} {v5 : Bool} {v6 : ByteArray} (h1 : Fn E F_natural_Compare [.c (.str a0_1), .c (.str a1_1)] (.tup [.c (.i64 v1), .c (.i64 v2)])) (h2 : ¬ v1 < 0) (h3 : Fn E F_natural_Sub [.c (.str a0_1), .c (.str a1_1)] (.tup [.c (.str v3), .c (.i64 v4)])) (h4 : Fn E F_integer_with [.c (.bool a0_0), .c (.str v3)] (.agg [.bool v5, .str v6])) :
    Fn E F_integer_difference [.agg [.bool a0_0, .str a0_1], .agg [.bool a1_0, .str a1_1]] (.agg [.bool v5, .str v6]) := by
 exact fnMk [.v (.tup [.c (.i64 v1), .c (.i64 v2)]), .t false, .v (.tup [.c (.str v3), .c (.i64 v4)]), .v (.agg [.bool v5, .str v6])] (by kernel_rfl) (by kernel_rfl) (aC h1 (aC (dF h2) (aC h3 (aO h4)))) (by kernel_rfl)
theorem integer_Abs_1 {a0 : ByteArray} {v1 : Bool} {v2 : ByteArray} {v3 : Int} (h1 : Fn E F_integer_one [.c (.str a0)] (.tup [.agg [.bool v1, .str v2], .c (.i64 v3)])) (h2 : v3 = 0) :
    Fn E F_integer_Abs [.c (.str a0)] (.tup [.c (.str v2), .c (.i64 0)]) := by
 exact fnMk [.v (.tup [.agg [.bool v1, .str v2], .c (.i64 v3)]), .t false] (by kernel_rfl) (by kernel_rfl) (aC h1 (aO (bnF h2))) (by kernel_rfl)
theorem integer_number_divide_0 {a0_1 : ByteArray} {a1_0 : Bool} {a1_1 v1 v2 : ByteArray} {v3 : Int} {v4 : ByteArray} {v5 : Int} {v6 : ByteArray} {v7 : Int} {v8 v9 : Bool} {v10 : ByteArray} {v11 : Bool} {v12 : ByteArray} (e1 : (!(true == a1_0)) = v8) (h1 : Fn E F_natural_DivMod [.c (.str a0_1), .c (.str a1_1)] (.tup [.c (.str v1), .c (.str v2), .c (.i64 v3)])) (h2 : ¬ v2 = (⟨#[48]⟩ : ByteArray)) (h3 : Fn E F_natural_Add [.c (.str v1), .c (.str ⟨#[49]⟩)] (.tup [.c (.str v4), .c (.i64 v5)])) (h4 : Fn E F_natural_Sub [.c (.str a1_1), .c (.str v2)] (.tup [.c (.str v6), .c (.i64 v7)])) (h5 : Fn E F_integer_with [.c (.bool v8), .c (.str v4)] (.agg [.bool v9, .str v10])) (h6 : Fn E F_integer_with [.c (.bool false), .c (.str v6)] (.agg [.bool v11, .str v12])) :
    Fn E F_integer_number_divide [.agg [.bool true, .str a0_1], .agg [.bool a1_0, .str a1_1]] (.tup [.agg [.bool v9, .str v10], .agg [.bool v11, .str v12]]) := by
 subst e1
 exact fnMk [.v (.tup [.c (.str v1), .c (.str v2), .c (.i64 v3)]), .t true, .v (.tup [.c (.str v4), .c (.i64 v5)]), .v (.tup [.c (.str v6), .c (.i64 v7)]), .keep, .v (.agg [.bool v9, .str v10]), .v (.agg [.bool v11, .str v12])] (by kernel_rfl) (by kernel_rfl) (aC h1 (aC (snT h2) (aC h3 (aC h4 (aC h5 (aO h6)))))) (by kernel_rfl)
theorem integer_number_divide_1 {a0_1 : ByteArray} {a1_0 : Bool} {a1_1 v1 v2 : ByteArray} {v3 : Int} {v4 v5 : Bool} {v6 : ByteArray} {v7 : Bool} {v8 : ByteArray} (e1 : (!(true == a1_0)) = v4) (h1 : Fn E F_natural_DivMod [.c (.str a0_1), .c (.str a1_1)] (.tup [.c (.str v1), .c (.str v2), .c (.i64 v3)])) (h2 : v2 = (⟨#[48]⟩ : ByteArray)) (h3 : Fn E F_integer_with [.c (.bool v4), .c (.str v1)] (.agg [.bool v5, .str v6])) (h4 : Fn E F_integer_with [.c (.bool false), .c (.str v2)] (.agg [.bool v7, .str v8])) :
    Fn E F_integer_number_divide [.agg [.bool true, .str a0_1], .agg [.bool a1_0, .str a1_1]] (.tup [.agg [.bool v5, .str v6], .agg [.bool v7, .str v8]]) := by
 subst e1
 exact fnMk [.v (.tup [.c (.str v1), .c (.str v2), .c (.i64 v3)]), .t false, .keep, .v (.agg [.bool v5, .str v6]), .v (.agg [.bool v7, .str v8])] (by kernel_rfl) (by kernel_rfl) (aC h1 (aC (snF h2) (aC h3 (aO h4)))) (by kernel_rfl)
theorem integer_number_divide_2 {a0_1 : ByteArray} {a1_0 : Bool} {a1_1 v1 v2 : ByteArray} {v3 : Int} {v4 v5 : Bool} {v6 : ByteArray} {v7 : Bool} {v8 : ByteArray} (e1 : (!(false == a1_0)) = v4) (h1 : Fn E F_natural_DivMod [.c (.str a0_1), .c (.str a1_1)] (.tup [.c (.str v1), .c (.str v2), .c (.i64 v3)])) (h2 : Fn E F_integer_with [.c (.bool v4), .c (.str v1)] (.agg [.bool v5, .str v6])) (h3 : Fn E F_integer_with [.c (.bool false), .c (.str v2)] (.agg [.bool v7, .str v8])) :
    Fn E F_integer_number_divide [.agg [.bool false, .str a0_1], .agg [.bool a1_0, .str a1_1]] (.tup [.agg [.bool v5, .str v6], .agg [.bool v7, .str v8]]) := by
 subst e1
 exact fnMk [.v (.tup [.c (.str v1), .c (.str v2), .c (.i64 v3)]), .keep, .v (.agg [.bool v5, .str v6]), .v (.agg [.bool v7, .str v8])] (by kernel_rfl) (by kernel_rfl) (aC h1 (aC h2 (aO h3))) (by kernel_rfl)
theorem integer_Sign_0 {a0 : ByteArray} {v1 : Bool} {v2 : ByteArray} {v3 v4 : Int} (h1 : Fn E F_integer_one [.c (.str a0)] (.tup [.agg [.bool v1, .str v2], .c (.i64 v3)])) (h2 : Fn E F_integer_number_sign [.agg [.bool v1, .str v2]] (.c (.i64 v4))) :
    Fn E F_integer_Sign [.c (.str a0)] (.tup [.c (.i64 v4), .c (.i64 v3)]) := by
 exact fnMk [.v (.tup [.agg [.bool v1, .str v2], .c (.i64 v3)]), .v (.c (.i64 v4))] (by kernel_rfl) (by kernel_rfl) (aC h1 (aO h2)) (by kernel_rfl)
theorem integer_number_sign_0 {a0_0 : Bool} {a0_1 : ByteArray} {v1 : Bool} {v2 : ByteArray} (h1 : Fn E F_integer_zero [] (.agg [.bool v1, .str v2])) (h2 : ((a0_0 == v1) && ((a0_1 == v2) && true)) = true) :
    Fn E F_integer_number_sign [.agg [.bool a0_0, .str a0_1]] (.c (.i64 0)) := by
 exact fnMk [.v (.agg [.bool v1, .str v2]), .t true] (by kernel_rfl) (by kernel_rfl) (aC h1 (aO (id h2))) (by kernel_rfl)
theorem integer_number_sign_1 {a0_1 : ByteArray} {v1 : Bool} {v2 : ByteArray} (h1 : Fn E F_integer_zero [] (.agg [.bool v1, .str v2])) (h2 : ((true == v1) && ((a0_1 == v2) && true)) = false) :
    Fn E F_integer_number_sign [.agg [.bool true, .str a0_1]] (.c (.i64 (-1))) := by
 exact fnMk [.v (.agg [.bool v1, .str v2]), .t false] (by kernel_rfl) (by kernel_rfl) (aC h1 (aO (id h2))) (by kernel_rfl)
theorem integer_number_sign_2 {a0_1 : ByteArray} {v1 : Bool} {v2 : ByteArray} (h1 : Fn E F_integer_zero [] (.agg [.bool v1, .str v2])) (h2 : ((false == v1) && ((a0_1 == v2) && true)) = false) :
    Fn E F_integer_number_sign [.agg [.bool false, .str a0_1]] (.c (.i64 1)) := by
 exact fnMk [.v (.agg [.bool v1, .str v2]), .t false] (by kernel_rfl) (by kernel_rfl) (aC h1 (aO (id h2))) (by kernel_rfl)
end Gev
namespace Gev
open Go Go.Proofs
variable {E : Env}
theorem rational_plus_0 {a0_0 a0_1 a1_0 a1_1 : ByteArray} {v1 v2 v4 v5 v7 v8 v9 v10 : Int} {v11 v12 : ByteArray} (e1 : IntKind.i64.wrap (v1 * v5) = v7) (e2 : IntKind.i64.wrap (v4 * v2) = v8) (e3 : IntKind.i64.wrap (v7 + v8) = v9) (e4 : IntKind.i64.wrap (v2 * v5) = v10) (h1 : Fn E F_rational_frac_little [.agg [.str a0_0, .str a0_1]] (.tup [.c (.i64 v1), .c (.i64 v2), .c (.bool true)])) (h2 : Fn E F_rational_frac_little [.agg [.str a1_0, .str a1_1]] (.tup [.c (.i64 v4), .c (.i64 v5), .c (.bool true)])) (h3 : Fn E F_rational_of [.c (.i64 v9), .c (.i64 v10)] (.agg [.str v11, .str v12])) :
    Fn E F_rational_plus [.agg [.str a0_0, .str a0_1], .agg [.str a1_0, .str a1_1]] (.agg [.str v11, .str v12]) := by
 subst e1 e2 e3 e4
 exact fnMk [.v (.tup [.c (.i64 v1), .c (.i64 v2), .c (.bool true)]), .v (.tup [.c (.i64 v4), .c (.i64 v5), .c (.bool true)]), .v (.agg [.str v11, .str v12])] (by kernel_rfl) (by kernel_rfl) (aC h1 (aC h2 (aO h3))) (by kernel_rfl)
theorem rational_plus_1 {a0_0 a0_1 a1_0 a1_1 : ByteArray} {v1 v2 v4 v5 : Int} {v7 : ByteArray} {v8 : Int} {v9 : ByteArray} {v10 : Int} {v11 : ByteArray} {v12 : Int} {v13 : ByteArray} {v14 : Int} {v15 v16 : ByteArray} (h1 : Fn E F_rational_frac_little [.agg [.str a0_0, .str a0_1]] (.tup [.c (.i64 v1), .c (.i64 v2), .c (.bool true)])) (h2 : Fn E F_rational_frac_little [.agg [.str a1_0, .str a1_1]] (.tup [.c (.i64 v4), .c (.i64 v5), .c (.bool false)])) (h3 : Fn E F_integer_Mul [.c (.str a0_0), .c (.str a1_1)] (.tup [.c (.str v7), .c (.i64 v8)])) (h4 : Fn E F_integer_Mul [.c (.str a1_0), .c (.str a0_1)] (.tup [.c (.str v9), .c (.i64 v10)])) (h5 : Fn E F_integer_Add [.c (.str v7), .c (.str v9)] (.tup [.c (.str v11), .c (.i64 v12)])) (h6 : Fn E F_natural_Mul [.c (.str a0_1), .c (.str a1_1)] (.tup [.c (.str v13), .c (.i64 v14)])) (h7 : Fn E F_rational_lowest [.c (.str v11), .c (.str v13)] (.agg [.str v15, .str v16])) :
    Fn E F_rational_plus [.agg [.str a0_0, .str a0_1], .agg [.str a1_0, .str a1_1]] (.agg [.str v15, .str v16]) := by
 exact fnMk [.v (.tup [.c (.i64 v1), .c (.i64 v2), .c (.bool true)]), .v (.tup [.c (.i64 v4), .c (.i64 v5), .c (.bool false)]), .v (.tup [.c (.str v7), .c (.i64 v8)]), .v (.tup [.c (.str v9), .c (.i64 v10)]), .v (.tup [.c (.str v11), .c (.i64 v12)]), .v (.tup [.c (.str v13), .c (.i64 v14)]), .v (.agg [.str v15, .str v16])] (by kernel_rfl) (by kernel_rfl) (aC h1 (aC h2 (aC h3 (aC h4 (aC h5 (aC h6 (aO h7))))))) (by kernel_rfl)
theorem rational_plus_2 {a0_0 a0_1 a1_0 a1_1 : ByteArray} {v1 v2 v4 v5 : Int} {v6 : Bool} {v7 : ByteArray} {v8 : Int} {v9 : ByteArray} {v10 : Int} {v11 : ByteArray} {v12 : Int} {v13 : ByteArray} {v14 : Int} {v15 v16 : ByteArray} (h1 : Fn E F_rational_frac_little [.agg [.str a0_0, .str a0_1]] (.tup [.c (.i64 v1), .c (.i64 v2), .c (.bool false)])) (h2 : Fn E F_rational_frac_little [.agg [.str a1_0, .str a1_1]] (.tup [.c (.i64 v4), .c (.i64 v5), .c (.bool v6)])) (h3 : Fn E F_integer_Mul [.c (.str a0_0), .c (.str a1_1)] (.tup [.c (.str v7), .c (.i64 v8)])) (h4 : Fn E F_integer_Mul [.c (.str a1_0), .c (.str a0_1)] (.tup [.c (.str v9), .c (.i64 v10)])) (h5 : Fn E F_integer_Add [.c (.str v7), .c (.str v9)] (.tup [.c (.str v11), .c (.i64 v12)])) (h6 : Fn E F_natural_Mul [.c (.str a0_1), .c (.str a1_1)] (.tup [.c (.str v13), .c (.i64 v14)])) (h7 : Fn E F_rational_lowest [.c (.str v11), .c (.str v13)] (.agg [.str v15, .str v16])) :
    Fn E F_rational_plus [.agg [.str a0_0, .str a0_1], .agg [.str a1_0, .str a1_1]] (.agg [.str v15, .str v16]) := by
 exact fnMk [.v (.tup [.c (.i64 v1), .c (.i64 v2), .c (.bool false)]), .v (.tup [.c (.i64 v4), .c (.i64 v5), .c (.bool v6)]), .v (.tup [.c (.str v7), .c (.i64 v8)]), .v (.tup [.c (.str v9), .c (.i64 v10)]), .v (.tup [.c (.str v11), .c (.i64 v12)]), .v (.tup [.c (.str v13), .c (.i64 v14)]), .v (.agg [.str v15, .str v16])] (by kernel_rfl) (by kernel_rfl) (aC h1 (aC h2 (aC h3 (aC h4 (aC h5 (aC h6 (aO h7))))))) (by kernel_rfl)
theorem rational_times_0 {a0_0 a0_1 a1_0 a1_1 : ByteArray} {v1 v2 v4 v5 v7 v8 : Int} {v9 v10 : ByteArray} (e1 : IntKind.i64.wrap (v1 * v4) = v7) (e2 : IntKind.i64.wrap (v2 * v5) = v8) (h1 : Fn E F_rational_frac_little [.agg [.str a0_0, .str a0_1]] (.tup [.c (.i64 v1), .c (.i64 v2), .c (.bool true)])) (h2 : Fn E F_rational_frac_little [.agg [.str a1_0, .str a1_1]] (.tup [.c (.i64 v4), .c (.i64 v5), .c (.bool true)])) (h3 : Fn E F_rational_of [.c (.i64 v7), .c (.i64 v8)] (.agg [.str v9, .str v10])) :
    Fn E F_rational_times [.agg [.str a0_0, .str a0_1], .agg [.str a1_0, .str a1_1]] (.agg [.str v9, .str v10]) := by
 subst e1 e2
 exact fnMk [.v (.tup [.c (.i64 v1), .c (.i64 v2), .c (.bool true)]), .v (.tup [.c (.i64 v4), .c (.i64 v5), .c (.bool true)]), .v (.agg [.str v9, .str v10])] (by kernel_rfl) (by kernel_rfl) (aC h1 (aC h2 (aO h3))) (by kernel_rfl)
theorem rational_times_1 {a0_0 a0_1 a1_0 a1_1 : ByteArray} {v1 v2 v4 v5 : Int} {v7 : ByteArray} {v8 : Int} {v9 : ByteArray} {v10 : Int} {v11 v12 : ByteArray} (h1 : Fn E F_rational_frac_little [.agg [.str a0_0, .str a0_1]] (.tup [.c (.i64 v1), .c (.i64 v2), .c (.bool true)])) (h2 : Fn E F_rational_frac_little [.agg [.str a1_0, .str a1_1]] (.tup [.c (.i64 v4), .c (.i64 v5), .c (.bool false)])) (h3 : Fn E F_integer_Mul [.c (.str a0_0), .c (.str a1_0)] (.tup [.c (.str v7), .c (.i64 v8)])) (h4 : Fn E F_natural_Mul [.c (.str a0_1), .c (.str a1_1)] (.tup [.c (.str v9), .c (.i64 v10)])) (h5 : Fn E F_rational_lowest [.c (.str v7), .c (.str v9)] (.agg [.str v11, .str v12])) :
    Fn E F_rational_times [.agg [.str a0_0, .str a0_1], .agg [.str a1_0, .str a1_1]] (.agg [.str v11, .str v12]) := by
 exact fnMk [.v (.tup [.c (.i64 v1), .c (.i64 v2), .c (.bool true)]), .v (.tup [.c (.i64 v4), .c (.i64 v5), .c (.bool false)]), .v (.tup [.c (.str v7), .c (.i64 v8)]), .v (.tup [.c (.str v9), .c (.i64 v10)]), .v (.agg [.str v11, .str v12])] (by kernel_rfl) (by kernel_rfl) (aC h1 (aC h2 (aC h3 (aC h4 (aO h5))))) (by kernel_rfl)
theorem rational_times_2 {a0_0 a0_1 a1_0 a1_1 : ByteArray} {v1 v2 v4 v5 : Int} {v6 : Bool} {v7 : ByteArray} {v8 : Int} {v9 : ByteArray} {v10 : Int} {v11 v12 : ByteArray} (h1 : Fn E F_rational_frac_little [.agg [.str a0_0, .str a0_1]] (.tup [.c (.i64 v1), .c (.i64 v2), .c (.bool false)])) (h2 : Fn E F_rational_frac_little [.agg [.str a1_0, .str a1_1]] (.tup [.c (.i64 v4), .c (.i64 v5), .c (.bool v6)])) (h3 : Fn E F_integer_Mul [.c (.str a0_0), .c (.str a1_0)] (.tup [.c (.str v7), .c (.i64 v8)])) (h4 : Fn E F_natural_Mul [.c (.str a0_1), .c (.str a1_1)] (.tup [.c (.str v9), .c (.i64 v10)])) (h5 : Fn E F_rational_lowest [.c (.str v7), .c (.str v9)] (.agg [.str v11, .str v12])) :
    Fn E F_rational_times [.agg [.str a0_0, .str a0_1], .agg [.str a1_0, .str a1_1]] (.agg [.str v11, .str v12]) := by
 exact fnMk [.v (.tup [.c (.i64 v1), .c (.i64 v2), .c (.bool false)]), .v (.tup [.c (.i64 v4), .c (.i64 v5), .c (.bool v6)]), .v (.tup [.c (.str v7), .c (.i64 v8)]), .v (.tup [.c (.str v9), .c (.i64 v10)]), .v (.agg [.str v11, .str v12])] (by kernel_rfl) (by kernel_rfl) (aC h1 (aC h2 (aC h3 (aC h4 (aO h5))))) (by kernel_rfl)
theorem rational_operations_1_0 {a0_0 a0_1 a1_0 a1_1 v1 v2 v3 v4 : ByteArray} (h1 : Fn E F_rational_opposite [.agg [.str a1_0, .str a1_1]] (.agg [.str v1, .str v2])) (h2 : Fn E F_rational_plus [.agg [.str a0_0, .str a0_1], .agg [.str v1, .str v2]] (.agg [.str v3, .str v4])) :
    Fn E F_rational_operations_1 [.agg [.str a0_0, .str a0_1], .agg [.str a1_0, .str a1_1]] (.agg [.str v3, .str v4]) := by
 exact fnMk [.v (.agg [.str v1, .str v2]), .v (.agg [.str v3, .str v4])] (by kernel_rfl) (by kernel_rfl) (aC h1 (aO h2)) (by kernel_rfl)
theorem rational_operations_2_0 {a0_0 a0_1 a1_0 a1_1 v1 v2 v3 v4 : ByteArray} (h1 : Fn E F_rational_inverse [.agg [.str a1_0, .str a1_1]] (.agg [.str v1, .str v2])) (h2 : Fn E F_rational_times [.agg [.str a0_0, .str a0_1], .agg [.str v1, .str v2]] (.agg [.str v3, .str v4])) :
    Fn E F_rational_operations_2 [.agg [.str a0_0, .str a0_1], .agg [.str a1_0, .str a1_1]] (.agg [.str v3, .str v4]) := by
 exact fnMk [.v (.agg [.str v1, .str v2]), .v (.agg [.str v3, .str v4])] (by kernel_rfl) (by kernel_rfl) (aC h1 (aO h2)) (by kernel_rfl)
theorem rational_frac_text_0 {a0_0 a0_1 : ByteArray} (h1 : a0_1 = (⟨#[49]⟩ : ByteArray)) :
    Fn E F_rational_frac_text [.agg [.str a0_0, .str a0_1]] (.c (.str a0_0)) := by
 exact fnMk [.t true] (by kernel_rfl) (by kernel_rfl) (aO (seT h1)) (by kernel_rfl)
theorem rational_frac_text_1 {a0_0 a0_1 v1 v2 : ByteArray} (e1 : a0_0 ++ (⟨#[47]⟩ : ByteArray) = v1) (e2 : v1 ++ a0_1 = v2) (h1 : ¬ a0_1 = (⟨#[49]⟩ : ByteArray)) (h2 : a0_0.size + (⟨#[47]⟩ : ByteArray).size ≤ 9223372036854775807) (h3 : v1.size + a0_1.size ≤ 9223372036854775807) :
    Fn E F_rational_frac_text [.agg [.str a0_0, .str a0_1]] (.c (.str v2)) := by
 subst e1 e2
 exact fnMk [.t false] (by kernel_rfl) (by kernel_rfl) (aC (seF h1) (aC h2 (aO h3))) (by kernel_rfl)
theorem rational_both_0 {a0 a1 v1 v2 v4 v5 : ByteArray} (h1 : Fn E F_rational_read [.c (.str a0)] (.tup [.agg [.str v1, .str v2], .c (.bool true)])) (h2 : Fn E F_rational_read [.c (.str a1)] (.tup [.agg [.str v4, .str v5], .c (.bool true)])) :
    Fn E F_rational_both [.c (.str a0), .c (.str a1)] (.tup [.agg [.str v1, .str v2], .agg [.str v4, .str v5], .c (.i64 0)]) := by
 exact fnMk [.v (.tup [.agg [.str v1, .str v2], .c (.bool true)]), .v (.tup [.agg [.str v4, .str v5], .c (.bool true)])] (by kernel_rfl) (by kernel_rfl) (aC h1 (aO h2)) (by kernel_rfl)
theorem rational_frac_little_0 {a0_0 a0_1 : ByteArray} (h1 : (a0_0.size : Int) > 9) :
    Fn E F_rational_frac_little [.agg [.str a0_0, .str a0_1]] (.tup [.c (.i64 0), .c (.i64 0), .c (.bool false)]) := by
 exact fnMk [.t true] (by kernel_rfl) (by kernel_rfl) (aO (dT h1)) (by kernel_rfl)
theorem rational_frac_little_1 {a0_0 a0_1 : ByteArray} (h1 : ¬ (a0_0.size : Int) > 9) (h2 : (a0_1.size : Int) > 9) :
    Fn E F_rational_frac_little [.agg [.str a0_0, .str a0_1]] (.tup [.c (.i64 0), .c (.i64 0), .c (.bool false)]) := by
 exact fnMk [.t false, .t true] (by kernel_rfl) (by kernel_rfl) (aC (dF h1) (aO (dT h2))) (by kernel_rfl)
theorem rational_frac_little_2 {a0_0 a0_1 : ByteArray} {v1 v2 : Int} (h1 : ¬ (a0_0.size : Int) > 9) (h2 : ¬ (a0_1.size : Int) > 9) (h3 : Fn E F_strconv_ParseInt [.c (.str a0_0), .c (.i64 10), .c (.i64 64)] (.tup [.c (.i64 v1), .undef])) (h4 : Fn E F_strconv_ParseInt [.c (.str a0_1), .c (.i64 10), .c (.i64 64)] (.tup [.c (.i64 v2), .undef])) :
    Fn E F_rational_frac_little [.agg [.str a0_0, .str a0_1]] (.tup [.c (.i64 v1), .c (.i64 v2), .c (.bool true)]) := by
 exact fnMk [.t false, .t false, .v (.tup [.c (.i64 v1), .undef]), .v (.tup [.c (.i64 v2), .undef])] (by kernel_rfl) (by kernel_rfl) (aC (dF h1) (aC (dF h2) (aC h3 (aO h4)))) (by kernel_rfl)
def rational_of_L0 (x0 : Int) (x1 : Int) (x5 : Int) (x6 : Int) (c0_0 : ByteArray) (c0_1 : ByteArray) : St := stOf 28 [(0, .c (.i64 x0)), (1, .c (.i64 x1)), (4, .ptr 0 0), (5, .c (.i64 x5)), (6, .c (.i64 x6))] [some (.cells [.c (.str c0_0), .c (.str c0_1)])]
def rational_of_L0e0 (x0 : Int) (x1 : Int) (c0_0 : ByteArray) (c0_1 : ByteArray) (x5' : Int) : St := stOf 28 [(0, .c (.i64 x0)), (1, .c (.i64 x1)), (4, .ptr 0 0), (5, .c (.i64 x5'))] [some (.cells [.c (.str c0_0), .c (.str c0_1)])]
theorem rational_of_L0_r0 {x0 x1 x5 x6 : Int} {c0_0 c0_1 : ByteArray} {v1 : Int} (e1 : Int.tmod x5 x6 = v1) (h1 : ¬ x6 = 0) (h2 : x6 ≠ 0) {o : Out} {st' : St} (ih : Lp E 1 F_rational_of 0 (rational_of_L0 x0 x1 x6 v1 c0_0 c0_1) o st') :
    Lp E 1 F_rational_of 0 (rational_of_L0 x0 x1 x5 x6 c0_0 c0_1) o st' := by
 subst e1
 exact lpOn _ [0, 1, 4, 5, 6] [.t true] (aC (bnT h1) (aO h2)) (by kernel_rfl) ih
theorem rational_of_L0e0_x0 {x0 x1 x5 x6 : Int} {c0_0 c0_1 : ByteArray} (h1 : x6 = 0) :
    Lp E 1 F_rational_of 0 (rational_of_L0 x0 x1 x5 x6 c0_0 c0_1) (.exit 0) (rational_of_L0e0 x0 x1 c0_0 c0_1 x5) := by
 exact lpOff [0, 1, 4, 5] [.t false] (aO (bnF h1)) (by kernel_rfl) (by simp)
theorem rational_of_0 {a0 a1 v1 v2 v3 v4 : Int} {v5 : ByteArray} {v6 : Int} {v7 : ByteArray} (e1 : IntKind.i64.wrap (0 - v1) = v2) (e2 : (if v2 > v1 then v2 else v1) = v3) (e3 : IntKind.i64.wrap (Int.tdiv a0 v3) = v4) (e4 : IntKind.i64.wrap (Int.tdiv a1 v3) = v6) (h1 : Lp E 1 F_rational_of 0 (rational_of_L0 a0 a1 a0 a1 ⟨#[]⟩ ⟨#[]⟩) (.exit 0) (rational_of_L0e0 a0 a1 ⟨#[]⟩ ⟨#[]⟩ v1)) (h2 : v3 ≠ 0) (h3 : Fn E F_strconv_FormatInt [.c (.i64 v4), .c (.i64 10)] (.c (.str v5))) (h4 : Fn E F_strconv_FormatInt [.c (.i64 v6), .c (.i64 10)] (.c (.str v7))) :
    Fn E F_rational_of [.c (.i64 a0), .c (.i64 a1)] (.agg [.str v5, .str v7]) := by
 subst e1 e2 e3 e4
 exact fnMk [.loop [0, 1, 4, 5, 6] [] (.exit 0) (rational_of_L0e0 a0 a1 ⟨#[]⟩ ⟨#[]⟩ v1), .v (.c (.str v5)), .v (.c (.str v7))] (by kernel_rfl) (by kernel_rfl) (aC h1 (aC h2 (aC h3 (aC h2 (aO h4))))) (by kernel_rfl)
theorem rational_lowest_0 {a0 a1 v1 v2 v3 : ByteArray} {v4 : Int} {v5 v6 : ByteArray} {v7 : Int} (h1 : Fn E F_rational_divisor [.c (.str a0), .c (.str a1)] (.c (.str v1))) (h2 : ¬ v1 = (⟨#[49]⟩ : ByteArray)) (h3 : Fn E F_integer_DivMod [.c (.str a0), .c (.str v1)] (.tup [.c (.str v2), .c (.str v3), .c (.i64 v4)])) (h4 : Fn E F_natural_DivMod [.c (.str a1), .c (.str v1)] (.tup [.c (.str v5), .c (.str v6), .c (.i64 v7)])) :
    Fn E F_rational_lowest [.c (.str a0), .c (.str a1)] (.agg [.str v2, .str v5]) := by
 exact fnMk [.v (.c (.str v1)), .t true, .v (.tup [.c (.str v2), .c (.str v3), .c (.i64 v4)]), .v (.tup [.c (.str v5), .c (.str v6), .c (.i64 v7)])] (by kernel_rfl) (by kernel_rfl) (aC h1 (aC (snT h2) (aC h3 (aO h4)))) (by kernel_rfl)
theorem rational_lowest_1 {a0 a1 v1 : ByteArray} (h1 : Fn E F_rational_divisor [.c (.str a0), .c (.str a1)] (.c (.str v1))) (h2 : v1 = (⟨#[49]⟩ : ByteArray)) :
    Fn E F_rational_lowest [.c (.str a0), .c (.str a1)] (.agg [.str a0, .str a1]) := by
 exact fnMk [.v (.c (.str v1)), .t false] (by kernel_rfl) (by kernel_rfl) (aC h1 (aO (snF h2))) (by kernel_rfl)
theorem rational_opposite_0 {a0_0 a0_1 v1 : ByteArray} {v2 : Int} (h1 : Fn E F_integer_Neg [.c (.str a0_0)] (.tup [.c (.str v1), .c (.i64 v2)])) :
    Fn E F_rational_opposite [.agg [.str a0_0, .str a0_1]] (.agg [.str v1, .str a0_1]) := by
 exact fnMk [.v (.tup [.c (.str v1), .c (.i64 v2)])] (by kernel_rfl) (by kernel_rfl) (aO h1) (by kernel_rfl)
theorem rational_inverse_0 {a0_0 a0_1 v1 v3 : ByteArray} (e1 : (⟨#[45]⟩ : ByteArray) ++ a0_1 = v3) (h1 : Fn E F_strings_CutPrefix [.c (.str a0_0), .c (.str ⟨#[45]⟩)] (.tup [.c (.str v1), .c (.bool true)])) (h2 : (⟨#[45]⟩ : ByteArray).size + a0_1.size ≤ 9223372036854775807) :
    Fn E F_rational_inverse [.agg [.str a0_0, .str a0_1]] (.agg [.str v3, .str v1]) := by
 subst e1
 exact fnMk [.v (.tup [.c (.str v1), .c (.bool true)])] (by kernel_rfl) (by kernel_rfl) (aC h1 (aO h2)) (by kernel_rfl)
theorem rational_inverse_1 {a0_0 a0_1 v1 : ByteArray} (h1 : Fn E F_strings_CutPrefix [.c (.str a0_0), .c (.str ⟨#[45]⟩)] (.tup [.c (.str v1), .c (.bool false)])) :
    Fn E F_rational_inverse [.agg [.str a0_0, .str a0_1]] (.agg [.str a0_1, .str a0_0]) := by
 exact fnMk [.v (.tup [.c (.str v1), .c (.bool false)])] (by kernel_rfl) (by kernel_rfl) (aO h1) (by kernel_rfl)
theorem rational_read_0 {a0 v1 v2 v6 : ByteArray} (h1 : Fn E F_strings_Cut [.c (.str a0), .c (.str ⟨#[47]⟩)] (.tup [.c (.str v1), .c (.str v2), .c (.bool true)])) (h2 : Fn E F_integer_Valid [.c (.str v1)] (.c (.bool true))) (h3 : ¬ v1 = (⟨#[48]⟩ : ByteArray)) (h4 : Fn E F_natural_Valid [.c (.str v2)] (.c (.bool true))) (h5 : ¬ v2 = (⟨#[48]⟩ : ByteArray)) (h6 : ¬ v2 = (⟨#[49]⟩ : ByteArray)) (h7 : Fn E F_rational_divisor [.c (.str v1), .c (.str v2)] (.c (.str v6))) (h8 : v6 = (⟨#[49]⟩ : ByteArray)) :
    Fn E F_rational_read [.c (.str a0)] (.tup [.agg [.str v1, .str v2], .c (.bool true)]) := by
 exact fnMk [.v (.tup [.c (.str v1), .c (.str v2), .c (.bool true)]), .v (.c (.bool true)), .t true, .v (.c (.bool true)), .t true, .t true, .v (.c (.str v6)), .t true] (by kernel_rfl) (by kernel_rfl) (aC h1 (aC h2 (aC (snT h3) (aC h4 (aC (snT h5) (aC (snT h6) (aC h7 (aO (seT h8))))))))) (by kernel_rfl)
theorem rational_read_1 {a0 v1 v2 v6 : ByteArray} (h1 : Fn E F_strings_Cut [.c (.str a0), .c (.str ⟨#[47]⟩)] (.tup [.c (.str v1), .c (.str v2), .c (.bool true)])) (h2 : Fn E F_integer_Valid [.c (.str v1)] (.c (.bool true))) (h3 : ¬ v1 = (⟨#[48]⟩ : ByteArray)) (h4 : Fn E F_natural_Valid [.c (.str v2)] (.c (.bool true))) (h5 : ¬ v2 = (⟨#[48]⟩ : ByteArray)) (h6 : ¬ v2 = (⟨#[49]⟩ : ByteArray)) (h7 : Fn E F_rational_divisor [.c (.str v1), .c (.str v2)] (.c (.str v6))) (h8 : ¬ v6 = (⟨#[49]⟩ : ByteArray)) :
    Fn E F_rational_read [.c (.str a0)] (.tup [.agg [.str v1, .str v2], .c (.bool false)]) := by
 exact fnMk [.v (.tup [.c (.str v1), .c (.str v2), .c (.bool true)]), .v (.c (.bool true)), .t true, .v (.c (.bool true)), .t true, .t true, .v (.c (.str v6)), .t false] (by kernel_rfl) (by kernel_rfl) (aC h1 (aC h2 (aC (snT h3) (aC h4 (aC (snT h5) (aC (snT h6) (aC h7 (aO (seF h8))))))))) (by kernel_rfl)
theorem rational_read_2 {a0 v1 v2 : ByteArray} (h1 : Fn E F_strings_Cut [.c (.str a0), .c (.str ⟨#[47]⟩)] (.tup [.c (.str v1), .c (.str v2), .c (.bool true)])) (h2 : Fn E F_integer_Valid [.c (.str v1)] (.c (.bool true))) (h3 : ¬ v1 = (⟨#[48]⟩ : ByteArray)) (h4 : Fn E F_natural_Valid [.c (.str v2)] (.c (.bool true))) (h5 : ¬ v2 = (⟨#[48]⟩ : ByteArray)) (h6 : v2 = (⟨#[49]⟩ : ByteArray)) :
    Fn E F_rational_read [.c (.str a0)] (.tup [.agg [.str v1, .str v2], .c (.bool false)]) := by
 exact fnMk [.v (.tup [.c (.str v1), .c (.str v2), .c (.bool true)]), .v (.c (.bool true)), .t true, .v (.c (.bool true)), .t true, .t false] (by kernel_rfl) (by kernel_rfl) (aC h1 (aC h2 (aC (snT h3) (aC h4 (aC (snT h5) (aO (snF h6))))))) (by kernel_rfl)
theorem rational_read_3 {a0 v1 v2 : ByteArray} (h1 : Fn E F_strings_Cut [.c (.str a0), .c (.str ⟨#[47]⟩)] (.tup [.c (.str v1), .c (.str v2), .c (.bool true)])) (h2 : Fn E F_integer_Valid [.c (.str v1)] (.c (.bool true))) (h3 : ¬ v1 = (⟨#[48]⟩ : ByteArray)) (h4 : Fn E F_natural_Valid [.c (.str v2)] (.c (.bool true))) (h5 : v2 = (⟨#[48]⟩ : ByteArray)) :
    Fn E F_rational_read [.c (.str a0)] (.tup [.agg [.str v1, .str v2], .c (.bool false)]) := by
 exact fnMk [.v (.tup [.c (.str v1), .c (.str v2), .c (.bool true)]), .v (.c (.bool true)), .t true, .v (.c (.bool true)), .t false] (by kernel_rfl) (by kernel_rfl) (aC h1 (aC h2 (aC (snT h3) (aC h4 (aO (snF h5)))))) (by kernel_rfl)
theorem rational_read_4 {a0 v1 v2 : ByteArray} (h1 : Fn E F_strings_Cut [.c (.str a0), .c (.str ⟨#[47]⟩)] (.tup [.c (.str v1), .c (.str v2), .c (.bool true)])) (h2 : Fn E F_integer_Valid [.c (.str v1)] (.c (.bool true))) (h3 : ¬ v1 = (⟨#[48]⟩ : ByteArray)) (h4 : Fn E F_natural_Valid [.c (.str v2)] (.c (.bool false))) :
    Fn E F_rational_read [.c (.str a0)] (.tup [.agg [.str v1, .str v2], .c (.bool false)]) := by
 exact fnMk [.v (.tup [.c (.str v1), .c (.str v2), .c (.bool true)]), .v (.c (.bool true)), .t true, .v (.c (.bool false))] (by kernel_rfl) (by kernel_rfl) (aC h1 (aC h2 (aC (snT h3) (aO h4)))) (by kernel_rfl)
theorem rational_read_5 {a0 v1 v2 : ByteArray} (h1 : Fn E F_strings_Cut [.c (.str a0), .c (.str ⟨#[47]⟩)] (.tup [.c (.str v1), .c (.str v2), .c (.bool true)])) (h2 : Fn E F_integer_Valid [.c (.str v1)] (.c (.bool true))) (h3 : v1 = (⟨#[48]⟩ : ByteArray)) :
    Fn E F_rational_read [.c (.str a0)] (.tup [.agg [.str v1, .str v2], .c (.bool false)]) := by
 exact fnMk [.v (.tup [.c (.str v1), .c (.str v2), .c (.bool true)]), .v (.c (.bool true)), .t false] (by kernel_rfl) (by kernel_rfl) (aC h1 (aC h2 (aO (snF h3)))) (by kernel_rfl)
theorem rational_read_6 {a0 v1 v2 : ByteArray} (h1 : Fn E F_strings_Cut [.c (.str a0), .c (.str ⟨#[47]⟩)] (.tup [.c (.str v1), .c (.str v2), .c (.bool true)])) (h2 : Fn E F_integer_Valid [.c (.str v1)] (.c (.bool false))) :
    Fn E F_rational_read [.c (.str a0)] (.tup [.agg [.str v1, .str v2], .c (.bool false)]) := by
 exact fnMk [.v (.tup [.c (.str v1), .c (.str v2), .c (.bool true)]), .v (.c (.bool false))] (by kernel_rfl) (by kernel_rfl) (aC h1 (aO h2)) (by kernel_rfl)
theorem rational_read_7 {a0 v1 v2 : ByteArray} {v4 : Bool} (h1 : Fn E F_strings_Cut [.c (.str a0), .c (.str ⟨#[47]⟩)] (.tup [.c (.str v1), .c (.str v2), .c (.bool false)])) (h2 : Fn E F_integer_Valid [.c (.str v1)] (.c (.bool v4))) :
    Fn E F_rational_read [.c (.str a0)] (.tup [.agg [.str v1, .str ⟨#[49]⟩], .c (.bool v4)]) := by
 exact fnMk [.v (.tup [.c (.str v1), .c (.str v2), .c (.bool false)]), .v (.c (.bool v4))] (by kernel_rfl) (by kernel_rfl) (aC h1 (aO h2)) (by kernel_rfl)
theorem rational_Compare_1 {a0 a1 v1 v2 v3 v4 : ByteArray} {v5 : Int} (h1 : Fn E F_rational_both [.c (.str a0), .c (.str a1)] (.tup [.agg [.str v1, .str v2], .agg [.str v3, .str v4], .c (.i64 v5)])) (h2 : v5 = 0) (h3 : a0 = a1) :
    Fn E F_rational_Compare [.c (.str a0), .c (.str a1)] (.tup [.c (.i64 0), .c (.i64 v5)]) := by
 exact fnMk [.v (.tup [.agg [.str v1, .str v2], .agg [.str v3, .str v4], .c (.i64 v5)]), .t false, .t true] (by kernel_rfl) (by kernel_rfl) (aC h1 (aC (bnF h2) (aO (seT h3)))) (by kernel_rfl)
theorem rational_Compare_2 {a0 a1 v1 v2 v3 v4 : ByteArray} {v5 v6 v7 v8 v9 v10 : Int} (e1 : IntKind.i64.wrap (v6 - v7) = v8) (e2 : (if 1 < v8 then 1 else v8) = v9) (e3 : (if v9 > (-1) then v9 else (-1)) = v10) (h1 : Fn E F_rational_both [.c (.str a0), .c (.str a1)] (.tup [.agg [.str v1, .str v2], .agg [.str v3, .str v4], .c (.i64 v5)])) (h2 : v5 = 0) (h3 : ¬ a0 = a1) (h4 : Fn E F_rational_frac_sign [.agg [.str v1, .str v2]] (.c (.i64 v6))) (h5 : Fn E F_rational_frac_sign [.agg [.str v3, .str v4]] (.c (.i64 v7))) (h6 : ¬ v6 = v7) :
    Fn E F_rational_Compare [.c (.str a0), .c (.str a1)] (.tup [.c (.i64 v10), .c (.i64 0)]) := by
 subst e1 e2 e3
 exact fnMk [.v (.tup [.agg [.str v1, .str v2], .agg [.str v3, .str v4], .c (.i64 v5)]), .t false, .t false, .v (.c (.i64 v6)), .v (.c (.i64 v7)), .t true] (by kernel_rfl) (by kernel_rfl) (aC h1 (aC (bnF h2) (aC (seF h3) (aC h4 (aC h5 (aO (bnT h6))))))) (by kernel_rfl)
theorem rational_Compare_3 {a0 a1 v1 v2 v3 v4 : ByteArray} {v5 v6 v7 : Int} {v8 : ByteArray} {v9 : Int} {v10 : ByteArray} {v11 v12 v13 : Int} (h1 : Fn E F_rational_both [.c (.str a0), .c (.str a1)] (.tup [.agg [.str v1, .str v2], .agg [.str v3, .str v4], .c (.i64 v5)])) (h2 : v5 = 0) (h3 : ¬ a0 = a1) (h4 : Fn E F_rational_frac_sign [.agg [.str v1, .str v2]] (.c (.i64 v6))) (h5 : Fn E F_rational_frac_sign [.agg [.str v3, .str v4]] (.c (.i64 v7))) (h6 : v6 = v7) (h7 : Fn E F_integer_Mul [.c (.str v1), .c (.str v4)] (.tup [.c (.str v8), .c (.i64 v9)])) (h8 : Fn E F_integer_Mul [.c (.str v3), .c (.str v2)] (.tup [.c (.str v10), .c (.i64 v11)])) (h9 : Fn E F_integer_Compare [.c (.str v8), .c (.str v10)] (.tup [.c (.i64 v12), .c (.i64 v13)])) :
    Fn E F_rational_Compare [.c (.str a0), .c (.str a1)] (.tup [.c (.i64 v12), .c (.i64 v13)]) := by
 exact fnMk [.v (.tup [.agg [.str v1, .str v2], .agg [.str v3, .str v4], .c (.i64 v5)]), .t false, .t false, .v (.c (.i64 v6)), .v (.c (.i64 v7)), .t false, .v (.tup [.c (.str v8), .c (.i64 v9)]), .v (.tup [.c (.str v10), .c (.i64 v11)]), .v (.tup [.c (.i64 v12), .c (.i64 v13)])] (by kernel_rfl) (by kernel_rfl) (aC h1 (aC (bnF h2) (aC (seF h3) (aC h4 (aC h5 (aC (bnF h6) (aC h7 (aC h8 (aO h9))))))))) (by kernel_rfl)
theorem rational_divisor_0 {a0 a1 v1 : ByteArray} {v2 : Int} {v3 : ByteArray} {v4 : Int} (h1 : Fn E F_integer_Abs [.c (.str a0)] (.tup [.c (.str v1), .c (.i64 v2)])) (h2 : Fn E F_natural_GCD [.c (.str v1), .c (.str a1)] (.tup [.c (.str v3), .c (.i64 v4)])) :
    Fn E F_rational_divisor [.c (.str a0), .c (.str a1)] (.c (.str v3)) := by
 exact fnMk [.v (.tup [.c (.str v1), .c (.i64 v2)]), .v (.tup [.c (.str v3), .c (.i64 v4)])] (by kernel_rfl) (by kernel_rfl) (aC h1 (aO h2)) (by kernel_rfl)
theorem rational_frac_sign_0 {a0_0 a0_1 : ByteArray} {v1 v2 : Int} (h1 : Fn E F_integer_Sign [.c (.str a0_0)] (.tup [.c (.i64 v1), .c (.i64 v2)])) :
    Fn E F_rational_frac_sign [.agg [.str a0_0, .str a0_1]] (.c (.i64 v1)) := by
 exact fnMk [.v (.tup [.c (.i64 v1), .c (.i64 v2)])] (by kernel_rfl) (by kernel_rfl) (aO h1) (by kernel_rfl)
theorem rational_Div_0 {a0 a1 v1 : ByteArray} {v2 : Int} (h1 : Fn E F_rational_apply [.c (.u8 47), .c (.str a0), .c (.str a1)] (.tup [.c (.str v1), .c (.i64 v2)])) :
    Fn E F_rational_Div [.c (.str a0), .c (.str a1)] (.tup [.c (.str v1), .c (.i64 v2)]) := by
 exact fnMk [.v (.tup [.c (.str v1), .c (.i64 v2)])] (by kernel_rfl) (by kernel_rfl) (aO h1) (by kernel_rfl)
theorem rational_Mul_0 {a0 a1 v1 : ByteArray} {v2 : Int} (h1 : Fn E F_rational_apply [.c (.u8 42), .c (.str a0), .c (.str a1)] (.tup [.c (.str v1), .c (.i64 v2)])) :
    Fn E F_rational_Mul [.c (.str a0), .c (.str a1)] (.tup [.c (.str v1), .c (.i64 v2)]) := by
 exact fnMk [.v (.tup [.c (.str v1), .c (.i64 v2)])] (by kernel_rfl) (by kernel_rfl) (aO h1) (by kernel_rfl)
theorem rational_Sub_0 {a0 a1 v1 : ByteArray} {v2 : Int} (h1 : Fn E F_rational_apply [.c (.u8 45), .c (.str a0), .c (.str a1)] (.tup [.c (.str v1), .c (.i64 v2)])) :
    Fn E F_rational_Sub [.c (.str a0), .c (.str a1)] (.tup [.c (.str v1), .c (.i64 v2)]) := by
 exact fnMk [.v (.tup [.c (.str v1), .c (.i64 v2)])] (by kernel_rfl) (by kernel_rfl) (aO h1) (by kernel_rfl)
theorem rational_Add_0 {a0 a1 v1 : ByteArray} {v2 : Int} (h1 : Fn E F_rational_apply [.c (.u8 43), .c (.str a0), .c (.str a1)] (.tup [.c (.str v1), .c (.i64 v2)])) :
    Fn E F_rational_Add [.c (.str a0), .c (.str a1)] (.tup [.c (.str v1), .c (.i64 v2)]) := by
 exact fnMk [.v (.tup [.c (.str v1), .c (.i64 v2)])] (by kernel_rfl) (by kernel_rfl) (aO h1) (by kernel_rfl)
theorem rational_Valid_0 {a0 v1 v2 : ByteArray} {v3 : Bool} (h1 : Fn E F_rational_read [.c (.str a0)] (.tup [.agg [.str v1, .str v2], .c (.bool v3)])) :
    Fn E F_rational_Valid [.c (.str a0)] (.c (.bool v3)) := by
 exact fnMk [.v (.tup [.agg [.str v1, .str v2], .c (.bool v3)])] (by kernel_rfl) (by kernel_rfl) (aO h1) (by kernel_rfl)
end Gev
namespace Gev
open Go Go.Proofs
variable {E : Env}
def ref01_To_L1a (x0 : List (List DV)) (x3 : Nat) (x4 : Int) (x5 : Int) (x6 : Int) (w1 : List (List DV)) : St := stOf 72 [(0, .c (.list x0)), (3, .vec 1 x3), (4, .c (.i64 x4)), (5, .c (.u32 x5)), (6, .c (.i64 x6))] [some .dead, some (.vec T_uint8 w1)]
def ref01_To_L1ae0 (x0 : List (List DV)) (x4 : Int) (x3' : Nat) (w1' : List (List DV)) : St := stOf 72 [(0, .c (.list x0)), (3, .vec 1 x3'), (4, .c (.i64 x4))] [some .dead, some (.vec T_uint8 w1')]
theorem ref01_To_L1a_r0 {x0 : List (List DV)} {x3 : Nat} {x4 x5 x6 : Int} {w1 : List (List DV)} {v1 v2 v3 v4 : Int} {v5 : List (List DV)} {v6 : Nat} {v7 v8 : Int} (e1 : IntKind.i64.wrap (x4 + 1) = v1) (e2 : Int.tmod x5 10 = v2) (e3 : IntKind.u32.wrap (48 + v2) = v3) (e4 : IntKind.u8.wrap v3 = v4) (e5 : (w1.take x3) ++ [[.u8 v4]] = v5) (e6 : x3 + 1 = v6) (e7 : IntKind.u32.wrap (Int.tdiv x5 10) = v7) (e8 : IntKind.i64.wrap (x6 + 1) = v8) (h1 : x6 < 9) (h2 : v1 < (x0.length : Int)) (h3 : (x3 + 1) * 1 ≤ 140737488355328 ∧ x3 + 1 ≤ 140737488355328) {o : Out} {st' : St} (ih : Lp E 1 F_ref01_To 1 (ref01_To_L1a x0 v6 x4 v7 v8 v5) o st') :
    Lp E 1 F_ref01_To 1 (ref01_To_L1a x0 x3 x4 x5 x6 w1) o st' := by
 subst e1 e2 e3 e4 e5 e6 e7 e8
 exact lpOn _ [0, 3, 4, 5, 6] [.t true, .t true] (aC (dT h1) (aC (dT h2) (aC (show (10 : Int) ≠ 0 from by decide) (aC (show ∀ y ∈ ([[.u8 (IntKind.u8.wrap (IntKind.u32.wrap (48 + (Int.tmod x5 10))))]] : List (List DV)), y.length = 1 from by simp) (aC h3 (aO (show (10 : Int) ≠ 0 from by decide))))))) (by kernel_rfl) ih
theorem ref01_To_L1a_r1 {x0 : List (List DV)} {x3 : Nat} {x4 x5 x6 : Int} {w1 : List (List DV)} {v1 v2 v3 v4 : Int} {v5 : List (List DV)} {v6 : Nat} {v7 v8 : Int} (e1 : IntKind.i64.wrap (x4 + 1) = v1) (e2 : Int.tmod x5 10 = v2) (e3 : IntKind.u32.wrap (48 + v2) = v3) (e4 : IntKind.u8.wrap v3 = v4) (e5 : (w1.take x3) ++ [[.u8 v4]] = v5) (e6 : x3 + 1 = v6) (e7 : IntKind.u32.wrap (Int.tdiv x5 10) = v7) (e8 : IntKind.i64.wrap (x6 + 1) = v8) (h1 : x6 < 9) (h2 : ¬ v1 < (x0.length : Int)) (h3 : x5 > 0) (h4 : (x3 + 1) * 1 ≤ 140737488355328 ∧ x3 + 1 ≤ 140737488355328) {o : Out} {st' : St} (ih : Lp E 1 F_ref01_To 1 (ref01_To_L1a x0 v6 x4 v7 v8 v5) o st') :
    Lp E 1 F_ref01_To 1 (ref01_To_L1a x0 x3 x4 x5 x6 w1) o st' := by
 subst e1 e2 e3 e4 e5 e6 e7 e8
 exact lpOn _ [0, 3, 4, 5, 6] [.t true, .t false, .t true] (aC (dT h1) (aC (dF h2) (aC (dT h3) (aC (show (10 : Int) ≠ 0 from by decide) (aC (show ∀ y ∈ ([[.u8 (IntKind.u8.wrap (IntKind.u32.wrap (48 + (Int.tmod x5 10))))]] : List (List DV)), y.length = 1 from by simp) (aC h4 (aO (show (10 : Int) ≠ 0 from by decide)))))))) (by kernel_rfl) ih
theorem ref01_To_L1ae0_x0 {x0 : List (List DV)} {x3 : Nat} {x4 x5 x6 : Int} {w1 : List (List DV)} {v1 : Int} (e1 : IntKind.i64.wrap (x4 + 1) = v1) (h1 : x6 < 9) (h2 : ¬ v1 < (x0.length : Int)) (h3 : ¬ x5 > 0) :
    Lp E 1 F_ref01_To 1 (ref01_To_L1a x0 x3 x4 x5 x6 w1) (.exit 2) (ref01_To_L1ae0 x0 x4 x3 w1) := by
 subst e1
 exact lpOff [0, 3, 4] [.t true, .t false, .t false] (aC (dT h1) (aC (dF h2) (aO (dF h3)))) (by kernel_rfl) (by simp)
theorem ref01_To_L1ae0_x1 {x0 : List (List DV)} {x3 : Nat} {x4 x5 x6 : Int} {w1 : List (List DV)} (h1 : ¬ x6 < 9) :
    Lp E 1 F_ref01_To 1 (ref01_To_L1a x0 x3 x4 x5 x6 w1) (.exit 2) (ref01_To_L1ae0 x0 x4 x3 w1) := by
 exact lpOff [0, 3, 4] [.t false] (aO (dF h1)) (by kernel_rfl) (by simp)
def ref01_To_L0 (x0 : List (List DV)) (x3 : Nat) (x4 : Int) (w0 : List (List DV)) : St := stOf 72 [(0, .c (.list x0)), (3, .vec 0 x3), (4, .c (.i64 x4))] [some (.vec T_uint8 w0)]
def ref01_To_L0e0 (x3' : Nat) (w0' : List (List DV)) : St := stOf 72 [(3, .vec 0 x3')] [some (.vec T_uint8 w0')]
theorem ref01_To_L0_r0 {x0 : List (List DV)} {x3 : Nat} {x4 : Int} {w0 : List (List DV)} {v1 : Int} {v2 : Nat} {v3 : List (List DV)} {v4 : Int} (e1 : IntKind.i64.wrap (x4 + 1) = v4) (h1 : x4 < (x0.length : Int)) (h2 : 0 ≤ x4) (h3 : x0[(Int.toNat x4)]? = some [.u32 v1]) (h4 : Lp E 1 F_ref01_To 1 (ref01_To_L1a x0 x3 x4 v1 0 w0) (.exit 2) (ref01_To_L1ae0 x0 x4 v2 v3)) {o : Out} {st' : St} (ih : Lp E 0 F_ref01_To 0 (ref01_To_L0 x0 v2 v4 v3) o st') :
    Lp E 0 F_ref01_To 0 (ref01_To_L0 x0 x3 x4 w0) o st' := by
 subst e1
 exact lpOn _ [0, 3, 4] [.t true, .d [.u32 v1], .loop [0, 3, 4, 5, 6] [(3, T_uint8)] (.exit 2) (ref01_To_L1ae0 x0 x4 v2 v3)] (aC (dT h1) (aC h2 (aC h3 (aO h4)))) (by kernel_rfl) ih
theorem ref01_To_L0e0_x0 {x0 : List (List DV)} {x3 : Nat} {x4 : Int} {w0 : List (List DV)} (h1 : ¬ x4 < (x0.length : Int)) :
    Lp E 0 F_ref01_To 0 (ref01_To_L0 x0 x3 x4 w0) (.exit 0) (ref01_To_L0e0 x3 w0) := by
 exact lpOff [3] [.t false] (aO (dF h1)) (by kernel_rfl) (by simp)
def ref01_To_L2 (x3 : Nat) (x7 : Int) (x8 : Int) (w0 : List (List DV)) : St := stOf 72 [(3, .vec 0 x3), (7, .c (.i64 x7)), (8, .c (.i64 x8))] [some (.vec T_uint8 w0)]
def ref01_To_L2e0 (x3 : Nat) (w0' : List (List DV)) : St := stOf 72 [(3, .vec 0 x3)] [some (.vec T_uint8 w0')]
theorem ref01_To_L2_r0 {x3 : Nat} {x7 x8 : Int} {w0 : List (List DV)} {v1 v2 : Int} {v3 : List (List DV)} {v4 : Int} {v5 : List (List DV)} {v6 v7 : Int} (e1 : List.set w0 (Int.toNat x7) [.u8 v1] = v3) (e2 : List.set v3 (Int.toNat x8) [.u8 v2] = v5) (e3 : IntKind.i64.wrap (x7 + 1) = v6) (e4 : IntKind.i64.wrap (x8 - 1) = v7) (h1 : x7 < x8) (h2 : 0 ≤ x8 ∧ x8 < ((x3 : Nat) : Int)) (h3 : w0[(Int.toNat x8)]? = some [.u8 v1]) (h4 : 0 ≤ x7 ∧ x7 < ((x3 : Nat) : Int)) (h5 : w0[(Int.toNat x7)]? = some [.u8 v2]) (h6 : v3[(Int.toNat x8)]? = some [.u8 v4]) {o : Out} {st' : St} (ih : Lp E 1 F_ref01_To 2 (ref01_To_L2 x3 v6 v7 v5) o st') :
    Lp E 1 F_ref01_To 2 (ref01_To_L2 x3 x7 x8 w0) o st' := by
 subst e1 e2 e3 e4
 exact lpOn _ [3, 7, 8] [.t true, .d [.u8 v1], .d [.u8 v2], .d [.u8 v2], .d [.u8 v4]] (aC (dT h1) (aC h2 (aC h3 (aC h4 (aC h5 (aC h4 (aC h5 (aC h2 (aO h6))))))))) (by kernel_rfl) ih
theorem ref01_To_L2e0_x0 {x3 : Nat} {x7 x8 : Int} {w0 : List (List DV)} (h1 : ¬ x7 < x8) :
    Lp E 1 F_ref01_To 2 (ref01_To_L2 x3 x7 x8 w0) (.exit 4) (ref01_To_L2e0 x3 w0) := by
 exact lpOff [3] [.t false] (aO (dF h1)) (by kernel_rfl) (by simp)
theorem ref01_To_0 {a0 : List (List DV)} (h1 : (a0.length : Int) = 0) :
    Fn E F_ref01_To [.c (.list a0)] (.c (.str ⟨#[48]⟩)) := by
 exact fnMk [.t true] (by kernel_rfl) (by kernel_rfl) (aO (beT h1)) (by kernel_rfl)
theorem ref01_To_1 {a0 : List (List DV)} {v1 : Nat} {v2 : List (List DV)} {v3 : Int} {v4 : List (List DV)} {v5 : ByteArray} (e1 : IntKind.i64.wrap (((v1 : Nat) : Int) - 1) = v3) (e2 : ByteArray.mk (((v4.take v1).map byteOf).toArray) = v5) (h1 : ¬ (a0.length : Int) = 0) (h2 : Lp E 0 F_ref01_To 0 (ref01_To_L0 a0 0 0 []) (.exit 0) (ref01_To_L0e0 v1 v2)) (h3 : Lp E 1 F_ref01_To 2 (ref01_To_L2 v1 0 v3 v2) (.exit 4) (ref01_To_L2e0 v1 v4)) (h4 : ∀ x ∈ (v4.take v1), IsByte x) :
    Fn E F_ref01_To [.c (.list a0)] (.c (.str v5)) := by
 subst e1 e2
 exact fnMk [.t false, .loop [0, 3, 4] [(3, T_uint8)] (.exit 0) (ref01_To_L0e0 v1 v2), .loop [3, 7, 8] [] (.exit 4) (ref01_To_L2e0 v1 v4)] (by kernel_rfl) (by kernel_rfl) (aC (beF h1) (aC h2 (aC h3 (aO h4)))) (by kernel_rfl)
def ref01_Valid_L0 (x0 : ByteArray) (x3 : Int) : St := stOf 33 [(0, .c (.str x0)), (3, .c (.i64 x3))] []
def ref01_Valid_L0e0 : St := stOf 33 [(2, .c (.bool false))] []
def ref01_Valid_L0e1 (x0 : ByteArray) : St := stOf 33 [(0, .c (.str x0))] []
theorem ref01_Valid_L0_r0 {x0 : ByteArray} {x3 v1 v2 : Int} (e1 : ((x0.data.toList.getD (Int.toNat x3) 0).toNat : Int) = v1) (e2 : IntKind.i64.wrap (x3 + 1) = v2) (h1 : x3 < (x0.size : Int)) (h2 : 0 ≤ x3 ∧ x3 < x0.size) (h3 : ¬ v1 < 48) (h4 : ¬ v1 > 57) {o : Out} {st' : St} (ih : Lp E 0 F_ref01_Valid 0 (ref01_Valid_L0 x0 v2) o st') :
    Lp E 0 F_ref01_Valid 0 (ref01_Valid_L0 x0 x3) o st' := by
 subst e1 e2
 exact lpOn _ [0, 3] [.t true, .t false, .t false] (aC (dT h1) (aC h2 (aC (dF h3) (aC h2 (aO (dF h4)))))) (by kernel_rfl) ih
theorem ref01_Valid_L0e0_x0 {x0 : ByteArray} {x3 v1 : Int} (e1 : ((x0.data.toList.getD (Int.toNat x3) 0).toNat : Int) = v1) (h1 : x3 < (x0.size : Int)) (h2 : 0 ≤ x3 ∧ x3 < x0.size) (h3 : v1 < 48) :
    Lp E 0 F_ref01_Valid 0 (ref01_Valid_L0 x0 x3) .ret (ref01_Valid_L0e0) := by
 subst e1
 exact lpOff [2] [.t true, .t true] (aC (dT h1) (aC h2 (aO (dT h3)))) (by kernel_rfl) (by simp)
theorem ref01_Valid_L0e0_x1 {x0 : ByteArray} {x3 v1 : Int} (e1 : ((x0.data.toList.getD (Int.toNat x3) 0).toNat : Int) = v1) (h1 : x3 < (x0.size : Int)) (h2 : 0 ≤ x3 ∧ x3 < x0.size) (h3 : ¬ v1 < 48) (h4 : v1 > 57) :
    Lp E 0 F_ref01_Valid 0 (ref01_Valid_L0 x0 x3) .ret (ref01_Valid_L0e0) := by
 subst e1
 exact lpOff [2] [.t true, .t false, .t true] (aC (dT h1) (aC h2 (aC (dF h3) (aC h2 (aO (dT h4)))))) (by kernel_rfl) (by simp)
theorem ref01_Valid_L0e1_x0 {x0 : ByteArray} {x3 : Int} (h1 : ¬ x3 < (x0.size : Int)) :
    Lp E 0 F_ref01_Valid 0 (ref01_Valid_L0 x0 x3) (.exit 0) (ref01_Valid_L0e1 x0) := by
 exact lpOff [0] [.t false] (aO (dF h1)) (by kernel_rfl) (by simp)
theorem ref01_Valid_0 {a0 : ByteArray} (h1 : Lp E 0 F_ref01_Valid 0 (ref01_Valid_L0 a0 0) .ret (ref01_Valid_L0e0)) :
    Fn E F_ref01_Valid [.c (.str a0)] (.c (.bool false)) := by
 exact fnMk [.loop [0, 3] [] .ret (ref01_Valid_L0e0)] (by kernel_rfl) (by kernel_rfl) (aO h1) (by kernel_rfl)
theorem ref01_Valid_1 {a0 : ByteArray} (h1 : Lp E 0 F_ref01_Valid 0 (ref01_Valid_L0 a0 0) (.exit 0) (ref01_Valid_L0e1 a0)) (h2 : (a0.size : Int) = 1) :
    Fn E F_ref01_Valid [.c (.str a0)] (.c (.bool true)) := by
 exact fnMk [.loop [0, 3] [] (.exit 0) (ref01_Valid_L0e1 a0), .t true] (by kernel_rfl) (by kernel_rfl) (aC h1 (aO (beT h2))) (by kernel_rfl)
theorem ref01_Valid_2 {a0 : ByteArray} {v1 : Int} (e1 : ((a0.data.toList.getD 0 0).toNat : Int) = v1) (h1 : Lp E 0 F_ref01_Valid 0 (ref01_Valid_L0 a0 0) (.exit 0) (ref01_Valid_L0e1 a0)) (h2 : ¬ (a0.size : Int) = 1) (h3 : (a0.size : Int) > 1) (h4 : 0 ≤ (0 : Int) ∧ (0 : Int) < a0.size) (h5 : ¬ v1 = 48) :
    Fn E F_ref01_Valid [.c (.str a0)] (.c (.bool true)) := by
 subst e1
 exact fnMk [.loop [0, 3] [] (.exit 0) (ref01_Valid_L0e1 a0), .t false, .t true, .t true] (by kernel_rfl) (by kernel_rfl) (aC h1 (aC (beF h2) (aC (dT h3) (aC h4 (aO (bnT h5)))))) (by kernel_rfl)
theorem ref01_Valid_3 {a0 : ByteArray} {v1 : Int} (e1 : ((a0.data.toList.getD 0 0).toNat : Int) = v1) (h1 : Lp E 0 F_ref01_Valid 0 (ref01_Valid_L0 a0 0) (.exit 0) (ref01_Valid_L0e1 a0)) (h2 : ¬ (a0.size : Int) = 1) (h3 : (a0.size : Int) > 1) (h4 : 0 ≤ (0 : Int) ∧ (0 : Int) < a0.size) (h5 : v1 = 48) :
    Fn E F_ref01_Valid [.c (.str a0)] (.c (.bool false)) := by
 subst e1
 exact fnMk [.loop [0, 3] [] (.exit 0) (ref01_Valid_L0e1 a0), .t false, .t true, .t false] (by kernel_rfl) (by kernel_rfl) (aC h1 (aC (beF h2) (aC (dT h3) (aC h4 (aO (bnF h5)))))) (by kernel_rfl)
theorem ref01_Valid_4 {a0 : ByteArray} (h1 : Lp E 0 F_ref01_Valid 0 (ref01_Valid_L0 a0 0) (.exit 0) (ref01_Valid_L0e1 a0)) (h2 : ¬ (a0.size : Int) = 1) (h3 : ¬ (a0.size : Int) > 1) :
    Fn E F_ref01_Valid [.c (.str a0)] (.c (.bool false)) := by
 exact fnMk [.loop [0, 3] [] (.exit 0) (ref01_Valid_L0e1 a0), .t false, .t false] (by kernel_rfl) (by kernel_rfl) (aC h1 (aC (beF h2) (aO (dF h3)))) (by kernel_rfl)
def ref01_From_L1a (x0 : ByteArray) (x3 : Nat) (x4 : Int) (x5 : Int) (x6 : Int) (w0 : List (List DV)) : St := stOf 35 [(0, .c (.str x0)), (3, .vec 0 x3), (4, .c (.i64 x4)), (5, .c (.u32 x5)), (6, .c (.i64 x6))] [some (.vec T_uint32 w0)]
def ref01_From_L1ae0 (x0 : ByteArray) (x3 : Nat) (x4 : Int) (w0 : List (List DV)) (x5' : Int) : St := stOf 35 [(0, .c (.str x0)), (3, .vec 0 x3), (4, .c (.i64 x4)), (5, .c (.u32 x5'))] [some (.vec T_uint32 w0)]
theorem ref01_From_L1a_r0 {x0 : ByteArray} {x3 : Nat} {x4 x5 x6 : Int} {w0 : List (List DV)} {v1 v2 v3 v4 v5 v6 : Int} (e1 : IntKind.u32.wrap (10 * x5) = v1) (e2 : ((x0.data.toList.getD (Int.toNat x6) 0).toNat : Int) = v2) (e3 : IntKind.u8.wrap (v2 - 48) = v3) (e4 : IntKind.u32.wrap v3 = v4) (e5 : IntKind.u32.wrap (v1 + v4) = v5) (e6 : IntKind.i64.wrap (x6 + 1) = v6) (h1 : x6 < x4) (h2 : 0 ≤ x6 ∧ x6 < x0.size) {o : Out} {st' : St} (ih : Lp E 1 F_ref01_From 1 (ref01_From_L1a x0 x3 x4 v5 v6 w0) o st') :
    Lp E 1 F_ref01_From 1 (ref01_From_L1a x0 x3 x4 x5 x6 w0) o st' := by
 subst e1 e2 e3 e4 e5 e6
 exact lpOn _ [0, 3, 4, 5, 6] [.t true] (aC (dT h1) (aO h2)) (by kernel_rfl) ih
theorem ref01_From_L1ae0_x0 {x0 : ByteArray} {x3 : Nat} {x4 x5 x6 : Int} {w0 : List (List DV)} (h1 : ¬ x6 < x4) :
    Lp E 1 F_ref01_From 1 (ref01_From_L1a x0 x3 x4 x5 x6 w0) (.exit 2) (ref01_From_L1ae0 x0 x3 x4 w0 x5) := by
 exact lpOff [0, 3, 4, 5] [.t false] (aO (dF h1)) (by kernel_rfl) (by simp)
def ref01_From_L0 (x0 : ByteArray) (x3 : Nat) (x4 : Int) (w0 : List (List DV)) : St := stOf 35 [(0, .c (.str x0)), (3, .vec 0 x3), (4, .c (.i64 x4))] [some (.vec T_uint32 w0)]
def ref01_From_L0e0 (x3' : Nat) (w0' : List (List DV)) : St := stOf 35 [(3, .vec 0 x3')] [some (.vec T_uint32 w0')]
theorem ref01_From_L0_r0 {x0 : ByteArray} {x3 : Nat} {x4 : Int} {w0 : List (List DV)} {v1 v2 v3 : Int} {v4 : List (List DV)} {v5 : Nat} (e1 : IntKind.i64.wrap (x4 - 9) = v1) (e2 : (if v1 > 0 then v1 else 0) = v2) (e3 : (w0.take x3) ++ [[.u32 v3]] = v4) (e4 : x3 + 1 = v5) (h1 : x4 > 0) (h2 : Lp E 1 F_ref01_From 1 (ref01_From_L1a x0 x3 x4 0 v2 w0) (.exit 2) (ref01_From_L1ae0 x0 x3 x4 w0 v3)) (h3 : (x3 + 1) * 4 ≤ 140737488355328 ∧ x3 + 1 ≤ 140737488355328) {o : Out} {st' : St} (ih : Lp E 0 F_ref01_From 0 (ref01_From_L0 x0 v5 v1 v4) o st') :
    Lp E 0 F_ref01_From 0 (ref01_From_L0 x0 x3 x4 w0) o st' := by
 subst e1 e2 e3 e4
 exact lpOn _ [0, 3, 4] [.t true, .loop [0, 3, 4, 5, 6] [] (.exit 2) (ref01_From_L1ae0 x0 x3 x4 w0 v3)] (aC (dT h1) (aC h2 (aC (show ∀ y ∈ ([[.u32 v3]] : List (List DV)), y.length = 1 from by simp) (aO h3)))) (by kernel_rfl) ih
theorem ref01_From_L0e0_x0 {x0 : ByteArray} {x3 : Nat} {x4 : Int} {w0 : List (List DV)} (h1 : ¬ x4 > 0) :
    Lp E 0 F_ref01_From 0 (ref01_From_L0 x0 x3 x4 w0) (.exit 0) (ref01_From_L0e0 x3 w0) := by
 exact lpOff [3] [.t false] (aO (dF h1)) (by kernel_rfl) (by simp)
theorem ref01_From_0 {a0 : ByteArray} {v1 : Nat} {v2 : List (List DV)} {v3 : Nat} {v4 : List (List DV)} (e1 : (v2.take v3) = v4) (h1 : Lp E 0 F_ref01_From 0 (ref01_From_L0 a0 0 (a0.size : Int) []) (.exit 0) (ref01_From_L0e0 v1 v2)) (h2 : Rn E F_ref01_trim [.vec 0 v1] [some (.vec T_uint32 v2)] (.vec 0 v3) [some (.vec T_uint32 v2)]) :
    Fn E F_ref01_From [.c (.str a0)] (.c (.list v4)) := by
 subst e1
 exact fnMk [.loop [0, 3, 4] [(3, T_uint32)] (.exit 0) (ref01_From_L0e0 v1 v2), .vt (.vec 0 v3) [some (.vec T_uint32 v2)]] (by kernel_rfl) (by kernel_rfl) (aC h1 (aO h2)) (by kernel_rfl)
theorem ref01_Small_0 {a0 v1 v2 : Int} {v3 : Nat} {v4 : List (List DV)} (e1 : Int.tmod a0 1000000000 = v1) (e2 : IntKind.u32.wrap (Int.tdiv a0 1000000000) = v2) (e3 : (([[.u32 v1], [.u32 v2]] : List (List DV)).take v3) = v4) (h1 : Rn E F_ref01_trim [.vec 0 2] [some (.vec T_uint32 [[.u32 v1], [.u32 v2]])] (.vec 0 v3) [some (.vec T_uint32 [[.u32 v1], [.u32 v2]])]) :
    Fn E F_ref01_Small [.c (.u32 a0)] (.c (.list v4)) := by
 subst e1 e2 e3
 exact fnMk [.vt (.vec 0 v3) [some (.vec T_uint32 [[.u32 (Int.tmod a0 1000000000)], [.u32 (IntKind.u32.wrap (Int.tdiv a0 1000000000))]])]] (by kernel_rfl) (by kernel_rfl) (aC (show (1000000000 : Int) ≠ 0 from by decide) (aC (show (1000000000 : Int) ≠ 0 from by decide) (aO h1))) (by kernel_rfl)
def ref01_Cmp_L0 (x0 : List (List DV)) (x1 : List (List DV)) (x5 : Int) : St := stOf 41 [(0, .c (.list x0)), (1, .c (.list x1)), (5, .c (.i64 x5))] []
def ref01_Cmp_L0e0 (x4' : Int) : St := stOf 41 [(4, .c (.i64 x4'))] []
def ref01_Cmp_L0e1 : St := stOf 41 [] []
theorem ref01_Cmp_L0_r0 {x0 x1 : List (List DV)} {x5 v1 v2 v3 : Int} (e1 : IntKind.i64.wrap (x5 - 1) = v3) (h1 : x5 ≥ 0) (h2 : 0 ≤ x5) (h3 : x0[(Int.toNat x5)]? = some [.u32 v1]) (h4 : x1[(Int.toNat x5)]? = some [.u32 v2]) (h5 : ¬ v1 < v2) (h6 : ¬ v1 > v2) {o : Out} {st' : St} (ih : Lp E 0 F_ref01_Cmp 0 (ref01_Cmp_L0 x0 x1 v3) o st') :
    Lp E 0 F_ref01_Cmp 0 (ref01_Cmp_L0 x0 x1 x5) o st' := by
 subst e1
 exact lpOn _ [0, 1, 5] [.t true, .d [.u32 v1], .d [.u32 v2], .t false, .d [.u32 v1], .d [.u32 v2], .t false] (aC (dT h1) (aC h2 (aC h3 (aC h2 (aC h4 (aC (dF h5) (aC h2 (aC h3 (aC h2 (aC h4 (aO (dF h6)))))))))))) (by kernel_rfl) ih
theorem ref01_Cmp_L0e0_x0 {x0 x1 : List (List DV)} {x5 v1 v2 : Int} (h1 : x5 ≥ 0) (h2 : 0 ≤ x5) (h3 : x0[(Int.toNat x5)]? = some [.u32 v1]) (h4 : x1[(Int.toNat x5)]? = some [.u32 v2]) (h5 : v1 < v2) :
    Lp E 0 F_ref01_Cmp 0 (ref01_Cmp_L0 x0 x1 x5) .ret (ref01_Cmp_L0e0 (-1)) := by
 exact lpOff [4] [.t true, .d [.u32 v1], .d [.u32 v2], .t true] (aC (dT h1) (aC h2 (aC h3 (aC h2 (aC h4 (aO (dT h5))))))) (by kernel_rfl) (by simp)
theorem ref01_Cmp_L0e0_x1 {x0 x1 : List (List DV)} {x5 v1 v2 : Int} (h1 : x5 ≥ 0) (h2 : 0 ≤ x5) (h3 : x0[(Int.toNat x5)]? = some [.u32 v1]) (h4 : x1[(Int.toNat x5)]? = some [.u32 v2]) (h5 : ¬ v1 < v2) (h6 : v1 > v2) :
    Lp E 0 F_ref01_Cmp 0 (ref01_Cmp_L0 x0 x1 x5) .ret (ref01_Cmp_L0e0 1) := by
 exact lpOff [4] [.t true, .d [.u32 v1], .d [.u32 v2], .t false, .d [.u32 v1], .d [.u32 v2], .t true] (aC (dT h1) (aC h2 (aC h3 (aC h2 (aC h4 (aC (dF h5) (aC h2 (aC h3 (aC h2 (aC h4 (aO (dT h6)))))))))))) (by kernel_rfl) (by simp)
theorem ref01_Cmp_L0e1_x0 {x0 x1 : List (List DV)} {x5 : Int} (h1 : ¬ x5 ≥ 0) :
    Lp E 0 F_ref01_Cmp 0 (ref01_Cmp_L0 x0 x1 x5) (.exit 0) (ref01_Cmp_L0e1) := by
 exact lpOff [] [.t false] (aO (dF h1)) (by kernel_rfl) (by simp)
theorem ref01_Cmp_0 {a0 a1 : List (List DV)} (h1 : ¬ (a0.length : Int) = (a1.length : Int)) (h2 : (a0.length : Int) < (a1.length : Int)) :
    Fn E F_ref01_Cmp [.c (.list a0), .c (.list a1)] (.c (.i64 (-1))) := by
 exact fnMk [.t true, .t true] (by kernel_rfl) (by kernel_rfl) (aC (bnT h1) (aO (dT h2))) (by kernel_rfl)
theorem ref01_Cmp_1 {a0 a1 : List (List DV)} (h1 : ¬ (a0.length : Int) = (a1.length : Int)) (h2 : ¬ (a0.length : Int) < (a1.length : Int)) :
    Fn E F_ref01_Cmp [.c (.list a0), .c (.list a1)] (.c (.i64 1)) := by
 exact fnMk [.t true, .t false] (by kernel_rfl) (by kernel_rfl) (aC (bnT h1) (aO (dF h2))) (by kernel_rfl)
theorem ref01_Cmp_2 {a0 a1 : List (List DV)} {v1 v2 : Int} (e1 : IntKind.i64.wrap ((a0.length : Int) - 1) = v1) (h1 : (a0.length : Int) = (a1.length : Int)) (h2 : Lp E 0 F_ref01_Cmp 0 (ref01_Cmp_L0 a0 a1 v1) .ret (ref01_Cmp_L0e0 v2)) :
    Fn E F_ref01_Cmp [.c (.list a0), .c (.list a1)] (.c (.i64 v2)) := by
 subst e1
 exact fnMk [.t false, .loop [0, 1, 5] [] .ret (ref01_Cmp_L0e0 v2)] (by kernel_rfl) (by kernel_rfl) (aC (bnF h1) (aO h2)) (by kernel_rfl)
theorem ref01_Cmp_3 {a0 a1 : List (List DV)} {v1 : Int} (e1 : IntKind.i64.wrap ((a0.length : Int) - 1) = v1) (h1 : (a0.length : Int) = (a1.length : Int)) (h2 : Lp E 0 F_ref01_Cmp 0 (ref01_Cmp_L0 a0 a1 v1) (.exit 0) (ref01_Cmp_L0e1)) :
    Fn E F_ref01_Cmp [.c (.list a0), .c (.list a1)] (.c (.i64 0)) := by
 subst e1
 exact fnMk [.t false, .loop [0, 1, 5] [] (.exit 0) (ref01_Cmp_L0e1)] (by kernel_rfl) (by kernel_rfl) (aC (bnF h1) (aO h2)) (by kernel_rfl)
def ref01_Common_L1 (x5 : Int) (x6 : Int) : St := stOf 41 [(5, .c (.u64 x5)), (6, .c (.u64 x6))] []
def ref01_Common_L1e0 (x5' : Int) : St := stOf 41 [(5, .c (.u64 x5'))] []
theorem ref01_Common_L1_r0 {x5 x6 v1 : Int} (e1 : Int.tmod x5 x6 = v1) (h1 : ¬ x6 = 0) (h2 : x6 ≠ 0) {o : Out} {st' : St} (ih : Lp E 0 F_ref01_Common 1 (ref01_Common_L1 x6 v1) o st') :
    Lp E 0 F_ref01_Common 1 (ref01_Common_L1 x5 x6) o st' := by
 subst e1
 exact lpOn _ [5, 6] [.t true] (aC (bnT h1) (aO h2)) (by kernel_rfl) ih
theorem ref01_Common_L1e0_x0 {x5 x6 : Int} (h1 : x6 = 0) :
    Lp E 0 F_ref01_Common 1 (ref01_Common_L1 x5 x6) (.exit 2) (ref01_Common_L1e0 x5) := by
 exact lpOff [5] [.t false] (aO (bnF h1)) (by kernel_rfl) (by simp)
def ref01_Common_L0 (x0 : List (List DV)) (x1 : List (List DV)) : St := stOf 41 [(0, .c (.list x0)), (1, .c (.list x1))] []
def ref01_Common_L0e0 (x4' : List (List DV)) : St := stOf 41 [(4, .c (.list x4'))] []
def ref01_Common_L0e1 (x0' : List (List DV)) : St := stOf 41 [(0, .c (.list x0'))] []
theorem ref01_Common_L0_r0 {x0 x1 v1 v2 : List (List DV)} (h1 : (x1.length : Int) > 0) (h2 : (x0.length : Int) ≤ 2) (h3 : ¬ (x1.length : Int) ≤ 2) (h4 : Fn E F_ref01_Over [.c (.list x0), .c (.list x1)] (.tup [.c (.list v1), .c (.list v2)])) {o : Out} {st' : St} (ih : Lp E 0 F_ref01_Common 0 (ref01_Common_L0 x1 v2) o st') :
    Lp E 0 F_ref01_Common 0 (ref01_Common_L0 x0 x1) o st' := by
 exact lpOn _ [0, 1] [.t true, .t true, .t false, .v (.tup [.c (.list v1), .c (.list v2)])] (aC (dT h1) (aC (dT h2) (aC (dF h3) (aO h4)))) (by kernel_rfl) ih
theorem ref01_Common_L0_r1 {x0 x1 v1 v2 : List (List DV)} (h1 : (x1.length : Int) > 0) (h2 : ¬ (x0.length : Int) ≤ 2) (h3 : Fn E F_ref01_Over [.c (.list x0), .c (.list x1)] (.tup [.c (.list v1), .c (.list v2)])) {o : Out} {st' : St} (ih : Lp E 0 F_ref01_Common 0 (ref01_Common_L0 x1 v2) o st') :
    Lp E 0 F_ref01_Common 0 (ref01_Common_L0 x0 x1) o st' := by
 exact lpOn _ [0, 1] [.t true, .t false, .v (.tup [.c (.list v1), .c (.list v2)])] (aC (dT h1) (aC (dF h2) (aO h3))) (by kernel_rfl) ih
theorem ref01_Common_L0e0_x0 {x0 x1 : List (List DV)} {v1 v2 v3 : Int} {v4 : List (List DV)} (h1 : (x1.length : Int) > 0) (h2 : (x0.length : Int) ≤ 2) (h3 : (x1.length : Int) ≤ 2) (h4 : Fn E F_ref01_word [.c (.list x0)] (.c (.u64 v1))) (h5 : Fn E F_ref01_word [.c (.list x1)] (.c (.u64 v2))) (h6 : Lp E 0 F_ref01_Common 1 (ref01_Common_L1 v1 v2) (.exit 2) (ref01_Common_L1e0 v3)) (h7 : Fn E F_ref01_wide [.c (.u64 v3)] (.c (.list v4))) :
    Lp E 0 F_ref01_Common 0 (ref01_Common_L0 x0 x1) .ret (ref01_Common_L0e0 v4) := by
 exact lpOff [4] [.t true, .t true, .t true, .v (.c (.u64 v1)), .v (.c (.u64 v2)), .loop [5, 6] [] (.exit 2) (ref01_Common_L1e0 v3), .v (.c (.list v4))] (aC (dT h1) (aC (dT h2) (aC (dT h3) (aC h4 (aC h5 (aC h6 (aO h7))))))) (by kernel_rfl) (by simp)
theorem ref01_Common_L0e1_x0 {x0 x1 : List (List DV)} (h1 : ¬ (x1.length : Int) > 0) :
    Lp E 0 F_ref01_Common 0 (ref01_Common_L0 x0 x1) (.exit 0) (ref01_Common_L0e1 x0) := by
 exact lpOff [0] [.t false] (aO (dF h1)) (by kernel_rfl) (by simp)
theorem ref01_Common_0 {a0 a1 v1 : List (List DV)} (h1 : Lp E 0 F_ref01_Common 0 (ref01_Common_L0 a0 a1) .ret (ref01_Common_L0e0 v1)) :
    Fn E F_ref01_Common [.c (.list a0), .c (.list a1)] (.c (.list v1)) := by
 exact fnMk [.loop [0, 1] [] .ret (ref01_Common_L0e0 v1)] (by kernel_rfl) (by kernel_rfl) (aO h1) (by kernel_rfl)
theorem ref01_Common_1 {a0 a1 v1 : List (List DV)} (h1 : Lp E 0 F_ref01_Common 0 (ref01_Common_L0 a0 a1) (.exit 0) (ref01_Common_L0e1 v1)) :
    Fn E F_ref01_Common [.c (.list a0), .c (.list a1)] (.c (.list v1)) := by
 exact fnMk [.loop [0, 1] [] (.exit 0) (ref01_Common_L0e1 v1)] (by kernel_rfl) (by kernel_rfl) (aO h1) (by kernel_rfl)
def ref01_Times_L1 (x0 : List (List DV)) (x1 : List (List DV)) (x5 : Nat) (x6 : Int) (x7 : Int) (x8 : Int) (w0 : List (List DV)) : St := stOf 77 [(0, .c (.list x0)), (1, .c (.list x1)), (5, .vec 0 x5), (6, .c (.i64 x6)), (7, .c (.u64 x7)), (8, .c (.i64 x8))] [some (.vec T_uint32 w0)]
def ref01_Times_L1e0 (x0 : List (List DV)) (x1 : List (List DV)) (x5 : Nat) (x6 : Int) (x7' : Int) (w0' : List (List DV)) : St := stOf 77 [(0, .c (.list x0)), (1, .c (.list x1)), (5, .vec 0 x5), (6, .c (.i64 x6)), (7, .c (.u64 x7'))] [some (.vec T_uint32 w0')]
theorem ref01_Times_L1_r0 {x0 x1 : List (List DV)} {x5 : Nat} {x6 x7 x8 : Int} {w0 : List (List DV)} {v1 v2 v3 v4 v5 v6 v7 v8 v9 v10 v11 v12 : Int} {v13 : List (List DV)} {v14 v15 : Int} (e1 : IntKind.i64.wrap (x6 + x8) = v1) (e2 : IntKind.u64.wrap v2 = v3) (e3 : IntKind.u64.wrap v4 = v5) (e4 : IntKind.u64.wrap v6 = v7) (e5 : IntKind.u64.wrap (v5 * v7) = v8) (e6 : IntKind.u64.wrap (v3 + v8) = v9) (e7 : IntKind.u64.wrap (v9 + x7) = v10) (e8 : Int.tmod v10 1000000000 = v11) (e9 : IntKind.u32.wrap v11 = v12) (e10 : List.set w0 (Int.toNat v1) [.u32 v12] = v13) (e11 : IntKind.u64.wrap (Int.tdiv v10 1000000000) = v14) (e12 : IntKind.i64.wrap (x8 + 1) = v15) (h1 : x8 < (x1.length : Int)) (h2 : 0 ≤ v1 ∧ v1 < ((x5 : Nat) : Int)) (h3 : w0[(Int.toNat v1)]? = some [.u32 v2]) (h4 : 0 ≤ x6) (h5 : x0[(Int.toNat x6)]? = some [.u32 v4]) (h6 : 0 ≤ x8) (h7 : x1[(Int.toNat x8)]? = some [.u32 v6]) {o : Out} {st' : St} (ih : Lp E 1 F_ref01_Times 1 (ref01_Times_L1 x0 x1 x5 x6 v14 v15 v13) o st') :
    Lp E 1 F_ref01_Times 1 (ref01_Times_L1 x0 x1 x5 x6 x7 x8 w0) o st' := by
 subst e1 e2 e3 e4 e5 e6 e7 e8 e9 e10 e11 e12
 exact lpOn _ [0, 1, 5, 6, 7, 8] [.t true, .d [.u32 v2], .d [.u32 v4], .d [.u32 v6], .d [.u32 v2]] (aC (dT h1) (aC h2 (aC h3 (aC h4 (aC h5 (aC h6 (aC h7 (aC (show (1000000000 : Int) ≠ 0 from by decide) (aC h2 (aC h3 (aO (show (1000000000 : Int) ≠ 0 from by decide)))))))))))) (by kernel_rfl) ih
theorem ref01_Times_L1e0_x0 {x0 x1 : List (List DV)} {x5 : Nat} {x6 x7 x8 : Int} {w0 : List (List DV)} (h1 : ¬ x8 < (x1.length : Int)) :
    Lp E 1 F_ref01_Times 1 (ref01_Times_L1 x0 x1 x5 x6 x7 x8 w0) (.exit 2) (ref01_Times_L1e0 x0 x1 x5 x6 x7 w0) := by
 exact lpOff [0, 1, 5, 6, 7] [.t false] (aO (dF h1)) (by kernel_rfl) (by simp)
def ref01_Times_L0 (x0 : List (List DV)) (x1 : List (List DV)) (x5 : Nat) (x6 : Int) (w0 : List (List DV)) : St := stOf 77 [(0, .c (.list x0)), (1, .c (.list x1)), (5, .vec 0 x5), (6, .c (.i64 x6))] [some (.vec T_uint32 w0)]
def ref01_Times_L0e0 (x5 : Nat) (w0' : List (List DV)) : St := stOf 77 [(5, .vec 0 x5)] [some (.vec T_uint32 w0')]
theorem ref01_Times_L0_r0 {x0 x1 : List (List DV)} {x5 : Nat} {x6 : Int} {w0 : List (List DV)} {v1 : Int} {v2 : List (List DV)} {v3 v4 v5 : Int} {v6 : List (List DV)} {v7 : Int} (e1 : IntKind.i64.wrap (x6 + (x1.length : Int)) = v3) (e2 : IntKind.u32.wrap v1 = v4) (e3 : List.set v2 (Int.toNat v3) [.u32 v4] = v6) (e4 : IntKind.i64.wrap (x6 + 1) = v7) (h1 : x6 < (x0.length : Int)) (h2 : Lp E 1 F_ref01_Times 1 (ref01_Times_L1 x0 x1 x5 x6 0 0 w0) (.exit 2) (ref01_Times_L1e0 x0 x1 x5 x6 v1 v2)) (h3 : 0 ≤ v3 ∧ v3 < ((x5 : Nat) : Int)) (h4 : v2[(Int.toNat v3)]? = some [.u32 v5]) {o : Out} {st' : St} (ih : Lp E 1 F_ref01_Times 0 (ref01_Times_L0 x0 x1 x5 v7 v6) o st') :
    Lp E 1 F_ref01_Times 0 (ref01_Times_L0 x0 x1 x5 x6 w0) o st' := by
 subst e1 e2 e3 e4
 exact lpOn _ [0, 1, 5, 6] [.t true, .loop [0, 1, 5, 6, 7, 8] [] (.exit 2) (ref01_Times_L1e0 x0 x1 x5 x6 v1 v2), .d [.u32 v5]] (aC (dT h1) (aC h2 (aC h3 (aO h4)))) (by kernel_rfl) ih
theorem ref01_Times_L0e0_x0 {x0 x1 : List (List DV)} {x5 : Nat} {x6 : Int} {w0 : List (List DV)} (h1 : ¬ x6 < (x0.length : Int)) :
    Lp E 1 F_ref01_Times 0 (ref01_Times_L0 x0 x1 x5 x6 w0) (.exit 0) (ref01_Times_L0e0 x5 w0) := by
 exact lpOff [5] [.t false] (aO (dF h1)) (by kernel_rfl) (by simp)
theorem ref01_Times_0 {a0 a1 : List (List DV)} (h1 : (a0.length : Int) = 0) :
    Fn E F_ref01_Times [.c (.list a0), .c (.list a1)] (.c (.list [])) := by
 exact fnMk [.t true] (by kernel_rfl) (by kernel_rfl) (aO (beT h1)) (by kernel_rfl)
theorem ref01_Times_1 {a0 a1 : List (List DV)} (h1 : ¬ (a0.length : Int) = 0) (h2 : (a1.length : Int) = 0) :
    Fn E F_ref01_Times [.c (.list a0), .c (.list a1)] (.c (.list [])) := by
 exact fnMk [.t false, .t true] (by kernel_rfl) (by kernel_rfl) (aC (beF h1) (aO (beT h2))) (by kernel_rfl)
theorem ref01_Times_2 {a0 a1 : List (List DV)} {v1 : Int} {v2 : Nat} {v3 v4 : List (List DV)} {v5 : Nat} {v6 : List (List DV)} (e1 : IntKind.i64.wrap ((a0.length : Int) + (a1.length : Int)) = v1) (e2 : Int.toNat v1 = v2) (e3 : List.replicate v2 [.u32 0] = v3) (e4 : (v4.take v5) = v6) (h1 : ¬ (a0.length : Int) = 0) (h2 : ¬ (a1.length : Int) = 0) (h3 : 0 ≤ v1 ∧ v1 ≤ v1 ∧ (Int.toNat v1) * 4 ≤ 140737488355328 ∧ (Int.toNat v1) ≤ 140737488355328) (h4 : Lp E 1 F_ref01_Times 0 (ref01_Times_L0 a0 a1 v2 0 v3) (.exit 0) (ref01_Times_L0e0 v2 v4)) (h5 : Rn E F_ref01_trim [.vec 0 v2] [some (.vec T_uint32 v4)] (.vec 0 v5) [some (.vec T_uint32 v4)]) :
    Fn E F_ref01_Times [.c (.list a0), .c (.list a1)] (.c (.list v6)) := by
 subst e1 e2 e3 e4
 exact fnMk [.t false, .t false, .loop [0, 1, 5, 6] [] (.exit 0) (ref01_Times_L0e0 (Int.toNat (IntKind.i64.wrap ((a0.length : Int) + (a1.length : Int)))) v4), .vt (.vec 0 v5) [some (.vec T_uint32 v4)]] (by kernel_rfl) (by kernel_rfl) (aC (beF h1) (aC (beF h2) (aC h3 (aC h4 (aO h5))))) (by kernel_rfl)
def ref01_trim_L0 (x0 : Nat) (w0 : List (List DV)) : St := stOf 21 [(0, .vec 0 x0)] [some (.vec T_uint32 w0)]
def ref01_trim_L0e0 (w0 : List (List DV)) (x0' : Nat) : St := stOf 21 [(0, .vec 0 x0')] [some (.vec T_uint32 w0)]
theorem ref01_trim_L0_r0 {x0 : Nat} {w0 : List (List DV)} {v1 v2 : Int} {v3 : Nat} (e1 : IntKind.i64.wrap (((x0 : Nat) : Int) - 1) = v1) (e2 : (Int.toNat v1) = v3) (h1 : ((x0 : Nat) : Int) > 0) (h2 : 0 ≤ v1 ∧ v1 < ((x0 : Nat) : Int)) (h3 : w0[(Int.toNat v1)]? = some [.u32 v2]) (h4 : v2 = 0) (h5 : 0 ≤ v1 ∧ v1 ≤ ((x0 : Nat) : Int)) {o : Out} {st' : St} (ih : Lp E 1 F_ref01_trim 0 (ref01_trim_L0 v3 w0) o st') :
    Lp E 1 F_ref01_trim 0 (ref01_trim_L0 x0 w0) o st' := by
 subst e1 e2
 exact lpOn _ [0] [.t true, .d [.u32 v2], .t true] (aC (dT h1) (aC h2 (aC h3 (aC (beT h4) (aO h5))))) (by kernel_rfl) ih
theorem ref01_trim_L0e0_x0 {x0 : Nat} {w0 : List (List DV)} {v1 v2 : Int} (e1 : IntKind.i64.wrap (((x0 : Nat) : Int) - 1) = v1) (h1 : ((x0 : Nat) : Int) > 0) (h2 : 0 ≤ v1 ∧ v1 < ((x0 : Nat) : Int)) (h3 : w0[(Int.toNat v1)]? = some [.u32 v2]) (h4 : ¬ v2 = 0) :
    Lp E 1 F_ref01_trim 0 (ref01_trim_L0 x0 w0) (.exit 0) (ref01_trim_L0e0 w0 x0) := by
 subst e1
 exact lpOff [0] [.t true, .d [.u32 v2], .t false] (aC (dT h1) (aC h2 (aC h3 (aO (beF h4))))) (by kernel_rfl) (by simp)
theorem ref01_trim_L0e0_x1 {x0 : Nat} {w0 : List (List DV)} (h1 : ¬ ((x0 : Nat) : Int) > 0) :
    Lp E 1 F_ref01_trim 0 (ref01_trim_L0 x0 w0) (.exit 0) (ref01_trim_L0e0 w0 x0) := by
 exact lpOff [0] [.t false] (aO (dF h1)) (by kernel_rfl) (by simp)
theorem ref01_trim_0 {w0 : List (List DV)} {a0 v1 : Nat} (h1 : Lp E 1 F_ref01_trim 0 (ref01_trim_L0 a0 w0) (.exit 0) (ref01_trim_L0e0 w0 v1)) :
    Rn E F_ref01_trim [.vec 0 a0] [some (.vec T_uint32 w0)] (.vec 0 v1) [some (.vec T_uint32 w0)] := by
 exact rnMk [.loop [0] [] (.exit 0) (ref01_trim_L0e0 w0 v1)] (by kernel_rfl) (aO h1) (by kernel_rfl)
def ref01_Over_L1 (x8 : Int) (x9 : List (List DV)) (x10 : List (List DV)) (x11 : Nat) (x12 : Nat) (x13 : Int) (x15 : Int) (x16 : Int) (w2 : List (List DV)) (w3 : List (List DV)) (w4 : List (List DV)) : St := stOf 176 [(8, .c (.i64 x8)), (9, .c (.list x9)), (10, .c (.list x10)), (11, .vec 3 x11), (12, .vec 4 x12), (13, .c (.i64 x13)), (15, .c (.u64 x15)), (16, .c (.u64 x16))] [some .dead, some .dead, some (.vec T_uint32 w2), some (.vec T_uint32 w3), some (.vec T_uint32 w4)]
def ref01_Over_L1e0 (x8 : Int) (x9 : List (List DV)) (x10 : List (List DV)) (x11 : Nat) (x12 : Nat) (x13 : Int) (w2 : List (List DV)) (w3 : List (List DV)) (w4 : List (List DV)) (x15' : Int) : St := stOf 176 [(8, .c (.i64 x8)), (9, .c (.list x9)), (10, .c (.list x10)), (11, .vec 3 x11), (12, .vec 4 x12), (13, .c (.i64 x13)), (15, .c (.u64 x15'))] [some .dead, some .dead, some (.vec T_uint32 w2), some (.vec T_uint32 w3), some (.vec T_uint32 w4)]
theorem ref01_Over_L1_r0 {x8 : Int} {x9 x10 : List (List DV)} {x11 x12 : Nat} {x13 x15 x16 : Int} {w2 w3 w4 : List (List DV)} {v1 v2 v3 v4 v5 : Int} (e1 : IntKind.u64.wrap (x15 - 1) = v1) (e2 : IntKind.i64.wrap (x8 - 1) = v2) (e3 : IntKind.u64.wrap v3 = v4) (e4 : IntKind.u64.wrap (x16 + v4) = v5) (h1 : x16 < 1000000000) (h2 : x15 ≥ 1000000000) (h3 : 0 ≤ v2) (h4 : x10[(Int.toNat v2)]? = some [.u32 v3]) {o : Out} {st' : St} (ih : Lp E 5 F_ref01_Over 1 (ref01_Over_L1 x8 x9 x10 x11 x12 x13 v1 v5 w2 w3 w4) o st') :
    Lp E 5 F_ref01_Over 1 (ref01_Over_L1 x8 x9 x10 x11 x12 x13 x15 x16 w2 w3 w4) o st' := by
 subst e1 e2 e3 e4
 exact lpOn _ [8, 9, 10, 11, 12, 13, 15, 16] [.t true, .t true, .d [.u32 v3]] (aC (dT h1) (aC (dT h2) (aC h3 (aO h4)))) (by kernel_rfl) ih
theorem ref01_Over_L1_r1 {x8 : Int} {x9 x10 : List (List DV)} {x11 x12 : Nat} {x13 x15 x16 : Int} {w2 w3 w4 : List (List DV)} {v1 v2 v3 v4 v5 v6 v7 v8 v9 v10 v11 v12 v13 v14 v15 : Int} (e1 : IntKind.i64.wrap (x8 - 2) = v1) (e2 : IntKind.u64.wrap v2 = v3) (e3 : IntKind.u64.wrap (x15 * v3) = v4) (e4 : IntKind.u64.wrap (x16 * 1000000000) = v5) (e5 : IntKind.i64.wrap (x13 + x8) = v6) (e6 : IntKind.i64.wrap (v6 - 2) = v7) (e7 : IntKind.u64.wrap v8 = v9) (e8 : IntKind.u64.wrap (v5 + v9) = v10) (e9 : IntKind.u64.wrap (x15 - 1) = v11) (e10 : IntKind.i64.wrap (x8 - 1) = v12) (e11 : IntKind.u64.wrap v13 = v14) (e12 : IntKind.u64.wrap (x16 + v14) = v15) (h1 : x16 < 1000000000) (h2 : ¬ x15 ≥ 1000000000) (h3 : 0 ≤ v1) (h4 : x10[(Int.toNat v1)]? = some [.u32 v2]) (h5 : 0 ≤ v7 ∧ v7 < ((x11 : Nat) : Int)) (h6 : w3[(Int.toNat v7)]? = some [.u32 v8]) (h7 : v4 > v10) (h8 : 0 ≤ v12) (h9 : x10[(Int.toNat v12)]? = some [.u32 v13]) {o : Out} {st' : St} (ih : Lp E 5 F_ref01_Over 1 (ref01_Over_L1 x8 x9 x10 x11 x12 x13 v11 v15 w2 w3 w4) o st') :
    Lp E 5 F_ref01_Over 1 (ref01_Over_L1 x8 x9 x10 x11 x12 x13 x15 x16 w2 w3 w4) o st' := by
 subst e1 e2 e3 e4 e5 e6 e7 e8 e9 e10 e11 e12
 exact lpOn _ [8, 9, 10, 11, 12, 13, 15, 16] [.t true, .t false, .d [.u32 v2], .d [.u32 v8], .t true, .d [.u32 v13]] (aC (dT h1) (aC (dF h2) (aC h3 (aC h4 (aC h5 (aC h6 (aC (dT h7) (aC h8 (aO h9))))))))) (by kernel_rfl) ih
theorem ref01_Over_L1e0_x0 {x8 : Int} {x9 x10 : List (List DV)} {x11 x12 : Nat} {x13 x15 x16 : Int} {w2 w3 w4 : List (List DV)} {v1 v2 v3 v4 v5 v6 v7 v8 v9 v10 : Int} (e1 : IntKind.i64.wrap (x8 - 2) = v1) (e2 : IntKind.u64.wrap v2 = v3) (e3 : IntKind.u64.wrap (x15 * v3) = v4) (e4 : IntKind.u64.wrap (x16 * 1000000000) = v5) (e5 : IntKind.i64.wrap (x13 + x8) = v6) (e6 : IntKind.i64.wrap (v6 - 2) = v7) (e7 : IntKind.u64.wrap v8 = v9) (e8 : IntKind.u64.wrap (v5 + v9) = v10) (h1 : x16 < 1000000000) (h2 : ¬ x15 ≥ 1000000000) (h3 : 0 ≤ v1) (h4 : x10[(Int.toNat v1)]? = some [.u32 v2]) (h5 : 0 ≤ v7 ∧ v7 < ((x11 : Nat) : Int)) (h6 : w3[(Int.toNat v7)]? = some [.u32 v8]) (h7 : ¬ v4 > v10) :
    Lp E 5 F_ref01_Over 1 (ref01_Over_L1 x8 x9 x10 x11 x12 x13 x15 x16 w2 w3 w4) (.exit 2) (ref01_Over_L1e0 x8 x9 x10 x11 x12 x13 w2 w3 w4 x15) := by
 subst e1 e2 e3 e4 e5 e6 e7 e8
 exact lpOff [8, 9, 10, 11, 12, 13, 15] [.t true, .t false, .d [.u32 v2], .d [.u32 v8], .t false] (aC (dT h1) (aC (dF h2) (aC h3 (aC h4 (aC h5 (aC h6 (aO (dF h7)))))))) (by kernel_rfl) (by simp)
theorem ref01_Over_L1e0_x1 {x8 : Int} {x9 x10 : List (List DV)} {x11 x12 : Nat} {x13 x15 x16 : Int} {w2 w3 w4 : List (List DV)} (h1 : ¬ x16 < 1000000000) :
    Lp E 5 F_ref01_Over 1 (ref01_Over_L1 x8 x9 x10 x11 x12 x13 x15 x16 w2 w3 w4) (.exit 2) (ref01_Over_L1e0 x8 x9 x10 x11 x12 x13 w2 w3 w4 x15) := by
 exact lpOff [8, 9, 10, 11, 12, 13, 15] [.t false] (aO (dF h1)) (by kernel_rfl) (by simp)
def ref01_Over_L0 (x8 : Int) (x9 : List (List DV)) (x10 : List (List DV)) (x11 : Nat) (x12 : Nat) (x13 : Int) (w2 : List (List DV)) (w3 : List (List DV)) (w4 : List (List DV)) : St := stOf 176 [(8, .c (.i64 x8)), (9, .c (.list x9)), (10, .c (.list x10)), (11, .vec 3 x11), (12, .vec 4 x12), (13, .c (.i64 x13))] [some .dead, some .dead, some (.vec T_uint32 w2), some (.vec T_uint32 w3), some (.vec T_uint32 w4)]
def ref01_Over_L0e0 (x8 : Int) (x9 : List (List DV)) (x11 : Nat) (x12 : Nat) (w2 : List (List DV)) (w3' : List (List DV)) (w4' : List (List DV)) : St := stOf 176 [(8, .c (.i64 x8)), (9, .c (.list x9)), (11, .vec 3 x11), (12, .vec 4 x12)] [some .dead, some .dead, some (.vec T_uint32 w2), some (.vec T_uint32 w3'), some (.vec T_uint32 w4')]
theorem ref01_Over_L0_r0 {x8 : Int} {x9 x10 : List (List DV)} {x11 x12 : Nat} {x13 : Int} {w2 w3 w4 : List (List DV)} {v1 v2 v3 v4 v5 v6 v7 v8 v9 v10 v11 v12 v13 v14 : Int} {v15 : List (List DV)} {v16 v17 : Int} {v18 : List (List DV)} {v19 : Int} (e1 : IntKind.i64.wrap (x13 + x8) = v1) (e2 : IntKind.u64.wrap v2 = v3) (e3 : IntKind.u64.wrap (v3 * 1000000000) = v4) (e4 : IntKind.i64.wrap (v1 - 1) = v5) (e5 : IntKind.u64.wrap v6 = v7) (e6 : IntKind.u64.wrap (v4 + v7) = v8) (e7 : IntKind.i64.wrap (x8 - 1) = v9) (e8 : IntKind.u64.wrap v10 = v11) (e9 : IntKind.u64.wrap (Int.tdiv v8 v11) = v12) (e10 : Int.tmod v8 v11 = v13) (e11 : List.set w4 (Int.toNat x13) [.u32 v16] = v18) (e12 : IntKind.i64.wrap (x13 - 1) = v19) (h1 : x13 ≥ 0) (h2 : 0 ≤ v1 ∧ v1 < ((x11 : Nat) : Int)) (h3 : w3[(Int.toNat v1)]? = some [.u32 v2]) (h4 : 0 ≤ v5 ∧ v5 < ((x11 : Nat) : Int)) (h5 : w3[(Int.toNat v5)]? = some [.u32 v6]) (h6 : 0 ≤ v9) (h7 : x10[(Int.toNat v9)]? = some [.u32 v10]) (h8 : v11 ≠ 0) (h9 : Lp E 5 F_ref01_Over 1 (ref01_Over_L1 x8 x9 x10 x11 x12 x13 v12 v13 w2 w3 w4) (.exit 2) (ref01_Over_L1e0 x8 x9 x10 x11 x12 x13 w2 w3 w4 v14)) (h10 : Rn E F_ref01_reduce [.vec 3 x11, .c (.list x10), .c (.i64 x13), .c (.u64 v14)] [some .dead, some .dead, some (.vec T_uint32 w2), some (.vec T_uint32 w3), some (.vec T_uint32 w4)] (.c (.u32 v16)) [some .dead, some .dead, some (.vec T_uint32 w2), some (.vec T_uint32 v15), some (.vec T_uint32 w4)]) (h11 : 0 ≤ x13 ∧ x13 < ((x12 : Nat) : Int)) (h12 : w4[(Int.toNat x13)]? = some [.u32 v17]) {o : Out} {st' : St} (ih : Lp E 5 F_ref01_Over 0 (ref01_Over_L0 x8 x9 x10 x11 x12 v19 w2 v15 v18) o st') :
    Lp E 5 F_ref01_Over 0 (ref01_Over_L0 x8 x9 x10 x11 x12 x13 w2 w3 w4) o st' := by
 subst e1 e2 e3 e4 e5 e6 e7 e8 e9 e10 e11 e12
 exact lpOn _ [8, 9, 10, 11, 12, 13] [.t true, .d [.u32 v2], .d [.u32 v6], .d [.u32 v10], .d [.u32 v10], .loop [8, 9, 10, 11, 12, 13, 15, 16] [] (.exit 2) (ref01_Over_L1e0 x8 x9 x10 x11 x12 x13 w2 w3 w4 v14), .vt (.c (.u32 v16)) [some .dead, some .dead, some (.vec T_uint32 w2), some (.vec T_uint32 v15), some (.vec T_uint32 w4)], .d [.u32 v17]] (aC (dT h1) (aC h2 (aC h3 (aC h4 (aC h5 (aC h6 (aC h7 (aC h8 (aC h6 (aC h7 (aC h8 (aC h9 (aC h10 (aC h11 (aO h12))))))))))))))) (by kernel_rfl) ih
theorem ref01_Over_L0e0_x0 {x8 : Int} {x9 x10 : List (List DV)} {x11 x12 : Nat} {x13 : Int} {w2 w3 w4 : List (List DV)} (h1 : ¬ x13 ≥ 0) :
    Lp E 5 F_ref01_Over 0 (ref01_Over_L0 x8 x9 x10 x11 x12 x13 w2 w3 w4) (.exit 0) (ref01_Over_L0e0 x8 x9 x11 x12 w2 w3 w4) := by
 exact lpOff [8, 9, 11, 12] [.t false] (aO (dF h1)) (by kernel_rfl) (by simp)
theorem ref01_Over_0 {a0 a1 : List (List DV)} {v1 : Int} (h1 : Fn E F_ref01_Cmp [.c (.list a0), .c (.list a1)] (.c (.i64 v1))) (h2 : v1 < 0) :
    Fn E F_ref01_Over [.c (.list a0), .c (.list a1)] (.tup [.c (.list []), .c (.list a0)]) := by
 exact fnMk [.v (.c (.i64 v1)), .t true] (by kernel_rfl) (by kernel_rfl) (aC h1 (aO (dT h2))) (by kernel_rfl)
theorem ref01_Over_1 {a0 a1 : List (List DV)} {v1 v2 : Int} {v3 : List (List DV)} {v4 : Int} {v5 : List (List DV)} (h1 : Fn E F_ref01_Cmp [.c (.list a0), .c (.list a1)] (.c (.i64 v1))) (h2 : ¬ v1 < 0) (h3 : (a1.length : Int) = 1) (h4 : a1[0]? = some [.u32 v2]) (h5 : Fn E F_ref01_small [.c (.list a0), .c (.u32 v2)] (.tup [.c (.list v3), .c (.u32 v4)])) (h6 : Fn E F_ref01_Small [.c (.u32 v4)] (.c (.list v5))) :
    Fn E F_ref01_Over [.c (.list a0), .c (.list a1)] (.tup [.c (.list v3), .c (.list v5)]) := by
 exact fnMk [.v (.c (.i64 v1)), .t false, .t true, .d [.u32 v2], .v (.tup [.c (.list v3), .c (.u32 v4)]), .v (.c (.list v5))] (by kernel_rfl) (by kernel_rfl) (aC h1 (aC (dF h2) (aC (beT h3) (aC (show (0 : Int) ≤ 0 from by decide) (aC h4 (aC h5 (aO h6))))))) (by kernel_rfl)
theorem ref01_Over_2 {a0 a1 : List (List DV)} {v1 v2 v3 v4 v5 v6 v7 : Int} {v8 v9 v10 v11 : List (List DV)} {v12 : Nat} {v13 : List (List DV)} {v14 : Nat} {v15 : Int} {v16 : Nat} {v17 : Int} {v18 : Nat} {v19 : Int} {v20 : Nat} {v21 : List (List DV)} {v22 : Int} {v23 v24 : List (List DV)} {v25 v26 : Nat} {v27 : Int} {v28 v29 : List (List DV)} {v30 : Int} {v31 : Nat} {v32 : List (List DV)} (e1 : IntKind.i64.wrap ((a1.length : Int) - 1) = v2) (e2 : IntKind.i64.wrap v3 = v4) (e3 : IntKind.i64.wrap (v4 + 1) = v5) (e4 : IntKind.i64.wrap (Int.tdiv 1000000000 v5) = v6) (e5 : IntKind.u32.wrap v6 = v7) (e6 : (([] : List (List DV)).take 0) ++ v10 = v11) (e7 : 0 + v10.length = v12) (e8 : (v11.take v12) ++ [[.u32 0], [.u32 0]] = v13) (e9 : v12 + 2 = v14) (e10 : IntKind.i64.wrap ((a0.length : Int) + 1) = v15) (e11 : (if ((v16 : Nat) : Int) > v15 then ((v16 : Nat) : Int) else v15) = v17) (e12 : (Int.toNat v17) = v18) (e13 : IntKind.i64.wrap (((v18 : Nat) : Int) - (a1.length : Int)) = v19) (e14 : Int.toNat v19 = v20) (e15 : List.replicate v20 [.u32 0] = v21) (e16 : IntKind.i64.wrap (v19 - 1) = v22) (e17 : (Int.toNat (a1.length : Int)) = v25) (e18 : (v23.take v26) = v28) (e19 : (v24.take v31) = v32) (h1 : Fn E F_ref01_Cmp [.c (.list a0), .c (.list a1)] (.c (.i64 v1))) (h2 : ¬ v1 < 0) (h3 : ¬ (a1.length : Int) = 1) (h4 : 0 ≤ v2) (h5 : a1[(Int.toNat v2)]? = some [.u32 v3]) (h6 : v5 ≠ 0) (h7 : Fn E F_ref01_Small [.c (.u32 v7)] (.c (.list v8))) (h8 : Fn E F_ref01_Times [.c (.list a1), .c (.list v8)] (.c (.list v9))) (h9 : Fn E F_ref01_Times [.c (.list a0), .c (.list v8)] (.c (.list v10))) (h10 : ∀ y ∈ v10, y.length = 1) (h11 : (0 + v10.length) * 4 ≤ 140737488355328 ∧ 0 + v10.length ≤ 140737488355328) (h12 : (v12 + 2) * 4 ≤ 140737488355328 ∧ v12 + 2 ≤ 140737488355328) (h13 : Rn E F_ref01_trim [.vec 3 v14] [some .dead, some .dead, some (.vec T_uint32 [[.u32 0], [.u32 0]]), some (.vec T_uint32 v13)] (.vec 3 v16) [some .dead, some .dead, some (.vec T_uint32 [[.u32 0], [.u32 0]]), some (.vec T_uint32 v13)]) (h14 : 0 ≤ v17 ∧ v17 ≤ ((v14 : Nat) : Int)) (h15 : 0 ≤ v19 ∧ v19 ≤ v19 ∧ (Int.toNat v19) * 4 ≤ 140737488355328 ∧ (Int.toNat v19) ≤ 140737488355328) (h16 : Lp E 5 F_ref01_Over 0 (ref01_Over_L0 (a1.length : Int) v8 v9 v18 v20 v22 [[.u32 0], [.u32 0]] v13 v21) (.exit 0) (ref01_Over_L0e0 (a1.length : Int) v8 v18 v20 [[.u32 0], [.u32 0]] v23 v24)) (h17 : 0 ≤ (a1.length : Int) ∧ (a1.length : Int) ≤ ((v18 : Nat) : Int)) (h18 : Rn E F_ref01_trim [.vec 3 v25] [some .dead, some .dead, some (.vec T_uint32 [[.u32 0], [.u32 0]]), some (.vec T_uint32 v23), some (.vec T_uint32 v24)] (.vec 3 v26) [some .dead, some .dead, some (.vec T_uint32 [[.u32 0], [.u32 0]]), some (.vec T_uint32 v23), some (.vec T_uint32 v24)]) (h19 : v8[0]? = some [.u32 v27]) (h20 : Fn E F_ref01_small [.c (.list v28), .c (.u32 v27)] (.tup [.c (.list v29), .c (.u32 v30)])) (h21 : Rn E F_ref01_trim [.vec 4 v20] [some .dead, some .dead, some (.vec T_uint32 [[.u32 0], [.u32 0]]), some (.fro v23), some (.vec T_uint32 v24)] (.vec 4 v31) [some .dead, some .dead, some (.vec T_uint32 [[.u32 0], [.u32 0]]), some (.fro v23), some (.vec T_uint32 v24)]) :
    Fn E F_ref01_Over [.c (.list a0), .c (.list a1)] (.tup [.c (.list v32), .c (.list v29)]) := by
 subst e1 e2 e3 e4 e5 e6 e7 e8 e9 e10 e11 e12 e13 e14 e15 e16 e17 e18 e19
 exact fnMk [.v (.c (.i64 v1)), .t false, .t false, .d [.u32 v3], .v (.c (.list v8)), .v (.c (.list v9)), .v (.c (.list v10)), .vt (.vec 3 v16) [some .dead, some .dead, some (.vec T_uint32 [[.u32 0], [.u32 0]]), some (.vec T_uint32 ((((([] : List (List DV)).take 0) ++ v10).take (0 + v10.length)) ++ [[.u32 0], [.u32 0]]))], .loop [8, 9, 10, 11, 12, 13] [] (.exit 0) (ref01_Over_L0e0 (a1.length : Int) v8 (Int.toNat (if ((v16 : Nat) : Int) > (IntKind.i64.wrap ((a0.length : Int) + 1)) then ((v16 : Nat) : Int) else (IntKind.i64.wrap ((a0.length : Int) + 1)))) (Int.toNat (IntKind.i64.wrap ((((Int.toNat (if ((v16 : Nat) : Int) > (IntKind.i64.wrap ((a0.length : Int) + 1)) then ((v16 : Nat) : Int) else (IntKind.i64.wrap ((a0.length : Int) + 1)))) : Nat) : Int) - (a1.length : Int)))) [[.u32 0], [.u32 0]] v23 v24), .vt (.vec 3 v26) [some .dead, some .dead, some (.vec T_uint32 [[.u32 0], [.u32 0]]), some (.vec T_uint32 v23), some (.vec T_uint32 v24)], .d [.u32 v27], .v (.tup [.c (.list v29), .c (.u32 v30)]), .vt (.vec 4 v31) [some .dead, some .dead, some (.vec T_uint32 [[.u32 0], [.u32 0]]), some (.fro v23), some (.vec T_uint32 v24)]] (by kernel_rfl) (by kernel_rfl) (aC h1 (aC (dF h2) (aC (beF h3) (aC h4 (aC h5 (aC h6 (aC h7 (aC h8 (aC h9 (aC h10 (aC h11 (aC (show ∀ y ∈ ([[.u32 0], [.u32 0]] : List (List DV)), y.length = 1 from by simp) (aC h12 (aC h13 (aC h14 (aC h15 (aC h16 (aC h17 (aC h18 (aC (show (0 : Int) ≤ 0 from by decide) (aC h19 (aC h20 (aO h21))))))))))))))))))))))) (by kernel_rfl)
def ref01_word_L0 (x0 : List (List DV)) (x3 : Int) (x4 : Int) : St := stOf 21 [(0, .c (.list x0)), (3, .c (.u64 x3)), (4, .c (.i64 x4))] []
def ref01_word_L0e0 (x3' : Int) : St := stOf 21 [(3, .c (.u64 x3'))] []
theorem ref01_word_L0_r0 {x0 : List (List DV)} {x3 x4 v1 v2 v3 v4 v5 : Int} (e1 : IntKind.u64.wrap (x3 * 1000000000) = v1) (e2 : IntKind.u64.wrap v2 = v3) (e3 : IntKind.u64.wrap (v1 + v3) = v4) (e4 : IntKind.i64.wrap (x4 - 1) = v5) (h1 : x4 ≥ 0) (h2 : 0 ≤ x4) (h3 : x0[(Int.toNat x4)]? = some [.u32 v2]) {o : Out} {st' : St} (ih : Lp E 0 F_ref01_word 0 (ref01_word_L0 x0 v4 v5) o st') :
    Lp E 0 F_ref01_word 0 (ref01_word_L0 x0 x3 x4) o st' := by
 subst e1 e2 e3 e4
 exact lpOn _ [0, 3, 4] [.t true, .d [.u32 v2]] (aC (dT h1) (aC h2 (aO h3))) (by kernel_rfl) ih
theorem ref01_word_L0e0_x0 {x0 : List (List DV)} {x3 x4 : Int} (h1 : ¬ x4 ≥ 0) :
    Lp E 0 F_ref01_word 0 (ref01_word_L0 x0 x3 x4) (.exit 0) (ref01_word_L0e0 x3) := by
 exact lpOff [3] [.t false] (aO (dF h1)) (by kernel_rfl) (by simp)
theorem ref01_word_0 {a0 : List (List DV)} {v1 v2 : Int} (e1 : IntKind.i64.wrap ((a0.length : Int) - 1) = v1) (h1 : Lp E 0 F_ref01_word 0 (ref01_word_L0 a0 0 v1) (.exit 0) (ref01_word_L0e0 v2)) :
    Fn E F_ref01_word [.c (.list a0)] (.c (.u64 v2)) := by
 subst e1
 exact fnMk [.loop [0, 3, 4] [] (.exit 0) (ref01_word_L0e0 v2)] (by kernel_rfl) (by kernel_rfl) (aO h1) (by kernel_rfl)
theorem ref01_wide_0 {a0 v1 v2 v3 v4 v5 v6 v7 : Int} {v8 : Nat} {v9 : List (List DV)} (e1 : Int.tmod a0 1000000000 = v1) (e2 : IntKind.u32.wrap v1 = v2) (e3 : IntKind.u64.wrap (Int.tdiv a0 1000000000) = v3) (e4 : Int.tmod v3 1000000000 = v4) (e5 : IntKind.u32.wrap v4 = v5) (e6 : IntKind.u64.wrap (Int.tdiv v3 1000000000) = v6) (e7 : IntKind.u32.wrap v6 = v7) (e8 : (([[.u32 v2], [.u32 v5], [.u32 v7]] : List (List DV)).take v8) = v9) (h1 : Rn E F_ref01_trim [.vec 0 3] [some (.vec T_uint32 [[.u32 v2], [.u32 v5], [.u32 v7]])] (.vec 0 v8) [some (.vec T_uint32 [[.u32 v2], [.u32 v5], [.u32 v7]])]) :
    Fn E F_ref01_wide [.c (.u64 a0)] (.c (.list v9)) := by
 subst e1 e2 e3 e4 e5 e6 e7 e8
 exact fnMk [.vt (.vec 0 v8) [some (.vec T_uint32 [[.u32 (IntKind.u32.wrap (Int.tmod a0 1000000000))], [.u32 (IntKind.u32.wrap (Int.tmod (IntKind.u64.wrap (Int.tdiv a0 1000000000)) 1000000000))], [.u32 (IntKind.u32.wrap (IntKind.u64.wrap (Int.tdiv (IntKind.u64.wrap (Int.tdiv a0 1000000000)) 1000000000)))]])]] (by kernel_rfl) (by kernel_rfl) (aC (show (1000000000 : Int) ≠ 0 from by decide) (aC (show (1000000000 : Int) ≠ 0 from by decide) (aC (show (1000000000 : Int) ≠ 0 from by decide) (aC (show (1000000000 : Int) ≠ 0 from by decide) (aC (show (1000000000 : Int) ≠ 0 from by decide) (aO h1)))))) (by kernel_rfl)
def ref01_Plus_L0 (x0 : List (List DV)) (x1 : List (List DV)) (x5 : Nat) (x6 : Int) (x7 : Int) (w0 : List (List DV)) : St := stOf 55 [(0, .c (.list x0)), (1, .c (.list x1)), (5, .vec 0 x5), (6, .c (.u32 x6)), (7, .c (.i64 x7))] [some (.vec T_uint32 w0)]
def ref01_Plus_L0e0 (x5' : Nat) (w0' : List (List DV)) : St := stOf 55 [(5, .vec 0 x5')] [some (.vec T_uint32 w0')]
theorem ref01_Plus_L0_r0 {x0 x1 : List (List DV)} {x5 : Nat} {x6 x7 : Int} {w0 : List (List DV)} {v1 v2 v3 v4 v5 : Int} {v6 : List (List DV)} {v7 : Nat} {v8 v9 : Int} (e1 : IntKind.u32.wrap (x6 + v1) = v2) (e2 : IntKind.u32.wrap (v2 + v3) = v4) (e3 : Int.tmod v4 1000000000 = v5) (e4 : (w0.take x5) ++ [[.u32 v5]] = v6) (e5 : x5 + 1 = v7) (e6 : IntKind.u32.wrap (Int.tdiv v4 1000000000) = v8) (e7 : IntKind.i64.wrap (x7 + 1) = v9) (h1 : x7 < (x0.length : Int)) (h2 : 0 ≤ x7) (h3 : x0[(Int.toNat x7)]? = some [.u32 v1]) (h4 : x7 < (x1.length : Int)) (h5 : x1[(Int.toNat x7)]? = some [.u32 v3]) (h6 : (x5 + 1) * 4 ≤ 140737488355328 ∧ x5 + 1 ≤ 140737488355328) {o : Out} {st' : St} (ih : Lp E 0 F_ref01_Plus 0 (ref01_Plus_L0 x0 x1 v7 v8 v9 v6) o st') :
    Lp E 0 F_ref01_Plus 0 (ref01_Plus_L0 x0 x1 x5 x6 x7 w0) o st' := by
 subst e1 e2 e3 e4 e5 e6 e7
 exact lpOn _ [0, 1, 5, 6, 7] [.t true, .t true, .d [.u32 v1], .t true, .d [.u32 v3]] (aC (dT h1) (aC (dT h1) (aC h2 (aC h3 (aC (dT h4) (aC h2 (aC h5 (aC (show (1000000000 : Int) ≠ 0 from by decide) (aC (show ∀ y ∈ ([[.u32 (Int.tmod (IntKind.u32.wrap ((IntKind.u32.wrap (x6 + v1)) + v3)) 1000000000)]] : List (List DV)), y.length = 1 from by simp) (aC h6 (aO (show (1000000000 : Int) ≠ 0 from by decide)))))))))))) (by kernel_rfl) ih
theorem ref01_Plus_L0_r1 {x0 x1 : List (List DV)} {x5 : Nat} {x6 x7 : Int} {w0 : List (List DV)} {v1 v2 v3 : Int} {v4 : List (List DV)} {v5 : Nat} {v6 v7 : Int} (e1 : IntKind.u32.wrap (x6 + v1) = v2) (e2 : Int.tmod v2 1000000000 = v3) (e3 : (w0.take x5) ++ [[.u32 v3]] = v4) (e4 : x5 + 1 = v5) (e5 : IntKind.u32.wrap (Int.tdiv v2 1000000000) = v6) (e6 : IntKind.i64.wrap (x7 + 1) = v7) (h1 : x7 < (x0.length : Int)) (h2 : 0 ≤ x7) (h3 : x0[(Int.toNat x7)]? = some [.u32 v1]) (h4 : ¬ x7 < (x1.length : Int)) (h5 : (x5 + 1) * 4 ≤ 140737488355328 ∧ x5 + 1 ≤ 140737488355328) {o : Out} {st' : St} (ih : Lp E 0 F_ref01_Plus 0 (ref01_Plus_L0 x0 x1 v5 v6 v7 v4) o st') :
    Lp E 0 F_ref01_Plus 0 (ref01_Plus_L0 x0 x1 x5 x6 x7 w0) o st' := by
 subst e1 e2 e3 e4 e5 e6
 exact lpOn _ [0, 1, 5, 6, 7] [.t true, .t true, .d [.u32 v1], .t false] (aC (dT h1) (aC (dT h1) (aC h2 (aC h3 (aC (dF h4) (aC (show (1000000000 : Int) ≠ 0 from by decide) (aC (show ∀ y ∈ ([[.u32 (Int.tmod (IntKind.u32.wrap (x6 + v1)) 1000000000)]] : List (List DV)), y.length = 1 from by simp) (aC h5 (aO (show (1000000000 : Int) ≠ 0 from by decide)))))))))) (by kernel_rfl) ih
theorem ref01_Plus_L0_r2 {x0 x1 : List (List DV)} {x5 : Nat} {x6 x7 : Int} {w0 : List (List DV)} {v1 v2 v3 : Int} {v4 : List (List DV)} {v5 : Nat} {v6 v7 : Int} (e1 : IntKind.u32.wrap (x6 + v1) = v2) (e2 : Int.tmod v2 1000000000 = v3) (e3 : (w0.take x5) ++ [[.u32 v3]] = v4) (e4 : x5 + 1 = v5) (e5 : IntKind.u32.wrap (Int.tdiv v2 1000000000) = v6) (e6 : IntKind.i64.wrap (x7 + 1) = v7) (h1 : ¬ x7 < (x0.length : Int)) (h2 : x7 < (x1.length : Int)) (h3 : 0 ≤ x7) (h4 : x1[(Int.toNat x7)]? = some [.u32 v1]) (h5 : (x5 + 1) * 4 ≤ 140737488355328 ∧ x5 + 1 ≤ 140737488355328) {o : Out} {st' : St} (ih : Lp E 0 F_ref01_Plus 0 (ref01_Plus_L0 x0 x1 v5 v6 v7 v4) o st') :
    Lp E 0 F_ref01_Plus 0 (ref01_Plus_L0 x0 x1 x5 x6 x7 w0) o st' := by
 subst e1 e2 e3 e4 e5 e6
 exact lpOn _ [0, 1, 5, 6, 7] [.t false, .t true, .t false, .t true, .d [.u32 v1]] (aC (dF h1) (aC (dT h2) (aC (dF h1) (aC (dT h2) (aC h3 (aC h4 (aC (show (1000000000 : Int) ≠ 0 from by decide) (aC (show ∀ y ∈ ([[.u32 (Int.tmod (IntKind.u32.wrap (x6 + v1)) 1000000000)]] : List (List DV)), y.length = 1 from by simp) (aC h5 (aO (show (1000000000 : Int) ≠ 0 from by decide))))))))))) (by kernel_rfl) ih
theorem ref01_Plus_L0_r3 {x0 x1 : List (List DV)} {x5 : Nat} {x6 x7 : Int} {w0 : List (List DV)} {v1 : Int} {v2 : List (List DV)} {v3 : Nat} {v4 v5 : Int} (e1 : Int.tmod x6 1000000000 = v1) (e2 : (w0.take x5) ++ [[.u32 v1]] = v2) (e3 : x5 + 1 = v3) (e4 : IntKind.u32.wrap (Int.tdiv x6 1000000000) = v4) (e5 : IntKind.i64.wrap (x7 + 1) = v5) (h1 : ¬ x7 < (x0.length : Int)) (h2 : ¬ x7 < (x1.length : Int)) (h3 : x6 > 0) (h4 : (x5 + 1) * 4 ≤ 140737488355328 ∧ x5 + 1 ≤ 140737488355328) {o : Out} {st' : St} (ih : Lp E 0 F_ref01_Plus 0 (ref01_Plus_L0 x0 x1 v3 v4 v5 v2) o st') :
    Lp E 0 F_ref01_Plus 0 (ref01_Plus_L0 x0 x1 x5 x6 x7 w0) o st' := by
 subst e1 e2 e3 e4 e5
 exact lpOn _ [0, 1, 5, 6, 7] [.t false, .t false, .t true, .t false, .t false] (aC (dF h1) (aC (dF h2) (aC (dT h3) (aC (dF h1) (aC (dF h2) (aC (show (1000000000 : Int) ≠ 0 from by decide) (aC (show ∀ y ∈ ([[.u32 (Int.tmod x6 1000000000)]] : List (List DV)), y.length = 1 from by simp) (aC h4 (aO (show (1000000000 : Int) ≠ 0 from by decide)))))))))) (by kernel_rfl) ih
theorem ref01_Plus_L0e0_x0 {x0 x1 : List (List DV)} {x5 : Nat} {x6 x7 : Int} {w0 : List (List DV)} (h1 : ¬ x7 < (x0.length : Int)) (h2 : ¬ x7 < (x1.length : Int)) (h3 : ¬ x6 > 0) :
    Lp E 0 F_ref01_Plus 0 (ref01_Plus_L0 x0 x1 x5 x6 x7 w0) (.exit 0) (ref01_Plus_L0e0 x5 w0) := by
 exact lpOff [5] [.t false, .t false, .t false] (aC (dF h1) (aC (dF h2) (aO (dF h3)))) (by kernel_rfl) (by simp)
theorem ref01_Plus_0 {a0 a1 : List (List DV)} {v1 : Nat} {v2 : List (List DV)} {v3 : Nat} {v4 : List (List DV)} (e1 : (v2.take v3) = v4) (h1 : Lp E 0 F_ref01_Plus 0 (ref01_Plus_L0 a0 a1 0 0 0 []) (.exit 0) (ref01_Plus_L0e0 v1 v2)) (h2 : Rn E F_ref01_trim [.vec 0 v1] [some (.vec T_uint32 v2)] (.vec 0 v3) [some (.vec T_uint32 v2)]) :
    Fn E F_ref01_Plus [.c (.list a0), .c (.list a1)] (.c (.list v4)) := by
 subst e1
 exact fnMk [.loop [0, 1, 5, 6, 7] [(5, T_uint32)] (.exit 0) (ref01_Plus_L0e0 v1 v2), .vt (.vec 0 v3) [some (.vec T_uint32 v2)]] (by kernel_rfl) (by kernel_rfl) (aC h1 (aO h2)) (by kernel_rfl)
def ref01_Minus_L0 (x0 : List (List DV)) (x1 : List (List DV)) (x5 : Nat) (x6 : Int) (x7 : Int) (w0 : List (List DV)) : St := stOf 44 [(0, .c (.list x0)), (1, .c (.list x1)), (5, .vec 0 x5), (6, .c (.i64 x6)), (7, .c (.i64 x7))] [some (.vec T_uint32 w0)]
def ref01_Minus_L0e0 (x5' : Nat) (w0' : List (List DV)) : St := stOf 44 [(5, .vec 0 x5')] [some (.vec T_uint32 w0')]
theorem ref01_Minus_L0_r0 {x0 x1 : List (List DV)} {x5 : Nat} {x6 x7 : Int} {w0 : List (List DV)} {v1 v2 v3 v4 v5 v6 v7 v8 : Int} {v9 : List (List DV)} {v10 : Nat} {v11 : Int} (e1 : IntKind.i64.wrap v1 = v2) (e2 : IntKind.i64.wrap (v2 - x6) = v3) (e3 : IntKind.i64.wrap v4 = v5) (e4 : IntKind.i64.wrap (v3 - v5) = v6) (e5 : IntKind.i64.wrap (v6 + 1000000000) = v7) (e6 : IntKind.u32.wrap v7 = v8) (e7 : (w0.take x5) ++ [[.u32 v8]] = v9) (e8 : x5 + 1 = v10) (e9 : IntKind.i64.wrap (x7 + 1) = v11) (h1 : x7 < (x0.length : Int)) (h2 : 0 ≤ x7) (h3 : x0[(Int.toNat x7)]? = some [.u32 v1]) (h4 : x7 < (x1.length : Int)) (h5 : x1[(Int.toNat x7)]? = some [.u32 v4]) (h6 : v6 < 0) (h7 : (x5 + 1) * 4 ≤ 140737488355328 ∧ x5 + 1 ≤ 140737488355328) {o : Out} {st' : St} (ih : Lp E 0 F_ref01_Minus 0 (ref01_Minus_L0 x0 x1 v10 1 v11 v9) o st') :
    Lp E 0 F_ref01_Minus 0 (ref01_Minus_L0 x0 x1 x5 x6 x7 w0) o st' := by
 subst e1 e2 e3 e4 e5 e6 e7 e8 e9
 exact lpOn _ [0, 1, 5, 6, 7] [.t true, .d [.u32 v1], .t true, .d [.u32 v4], .t true] (aC (dT h1) (aC h2 (aC h3 (aC (dT h4) (aC h2 (aC h5 (aC (dT h6) (aC (show ∀ y ∈ ([[.u32 (IntKind.u32.wrap (IntKind.i64.wrap ((IntKind.i64.wrap ((IntKind.i64.wrap ((IntKind.i64.wrap v1) - x6)) - (IntKind.i64.wrap v4))) + 1000000000)))]] : List (List DV)), y.length = 1 from by simp) (aO h7))))))))) (by kernel_rfl) ih
theorem ref01_Minus_L0_r1 {x0 x1 : List (List DV)} {x5 : Nat} {x6 x7 : Int} {w0 : List (List DV)} {v1 v2 v3 v4 v5 v6 v7 : Int} {v8 : List (List DV)} {v9 : Nat} {v10 : Int} (e1 : IntKind.i64.wrap v1 = v2) (e2 : IntKind.i64.wrap (v2 - x6) = v3) (e3 : IntKind.i64.wrap v4 = v5) (e4 : IntKind.i64.wrap (v3 - v5) = v6) (e5 : IntKind.u32.wrap v6 = v7) (e6 : (w0.take x5) ++ [[.u32 v7]] = v8) (e7 : x5 + 1 = v9) (e8 : IntKind.i64.wrap (x7 + 1) = v10) (h1 : x7 < (x0.length : Int)) (h2 : 0 ≤ x7) (h3 : x0[(Int.toNat x7)]? = some [.u32 v1]) (h4 : x7 < (x1.length : Int)) (h5 : x1[(Int.toNat x7)]? = some [.u32 v4]) (h6 : ¬ v6 < 0) (h7 : (x5 + 1) * 4 ≤ 140737488355328 ∧ x5 + 1 ≤ 140737488355328) {o : Out} {st' : St} (ih : Lp E 0 F_ref01_Minus 0 (ref01_Minus_L0 x0 x1 v9 0 v10 v8) o st') :
    Lp E 0 F_ref01_Minus 0 (ref01_Minus_L0 x0 x1 x5 x6 x7 w0) o st' := by
 subst e1 e2 e3 e4 e5 e6 e7 e8
 exact lpOn _ [0, 1, 5, 6, 7] [.t true, .d [.u32 v1], .t true, .d [.u32 v4], .t false] (aC (dT h1) (aC h2 (aC h3 (aC (dT h4) (aC h2 (aC h5 (aC (dF h6) (aC (show ∀ y ∈ ([[.u32 (IntKind.u32.wrap (IntKind.i64.wrap ((IntKind.i64.wrap ((IntKind.i64.wrap v1) - x6)) - (IntKind.i64.wrap v4))))]] : List (List DV)), y.length = 1 from by simp) (aO h7))))))))) (by kernel_rfl) ih
theorem ref01_Minus_L0_r2 {x0 x1 : List (List DV)} {x5 : Nat} {x6 x7 : Int} {w0 : List (List DV)} {v1 v2 v3 v4 v5 : Int} {v6 : List (List DV)} {v7 : Nat} {v8 : Int} (e1 : IntKind.i64.wrap v1 = v2) (e2 : IntKind.i64.wrap (v2 - x6) = v3) (e3 : IntKind.i64.wrap (v3 + 1000000000) = v4) (e4 : IntKind.u32.wrap v4 = v5) (e5 : (w0.take x5) ++ [[.u32 v5]] = v6) (e6 : x5 + 1 = v7) (e7 : IntKind.i64.wrap (x7 + 1) = v8) (h1 : x7 < (x0.length : Int)) (h2 : 0 ≤ x7) (h3 : x0[(Int.toNat x7)]? = some [.u32 v1]) (h4 : ¬ x7 < (x1.length : Int)) (h5 : v3 < 0) (h6 : (x5 + 1) * 4 ≤ 140737488355328 ∧ x5 + 1 ≤ 140737488355328) {o : Out} {st' : St} (ih : Lp E 0 F_ref01_Minus 0 (ref01_Minus_L0 x0 x1 v7 1 v8 v6) o st') :
    Lp E 0 F_ref01_Minus 0 (ref01_Minus_L0 x0 x1 x5 x6 x7 w0) o st' := by
 subst e1 e2 e3 e4 e5 e6 e7
 exact lpOn _ [0, 1, 5, 6, 7] [.t true, .d [.u32 v1], .t false, .t true] (aC (dT h1) (aC h2 (aC h3 (aC (dF h4) (aC (dT h5) (aC (show ∀ y ∈ ([[.u32 (IntKind.u32.wrap (IntKind.i64.wrap ((IntKind.i64.wrap ((IntKind.i64.wrap v1) - x6)) + 1000000000)))]] : List (List DV)), y.length = 1 from by simp) (aO h6))))))) (by kernel_rfl) ih
theorem ref01_Minus_L0_r3 {x0 x1 : List (List DV)} {x5 : Nat} {x6 x7 : Int} {w0 : List (List DV)} {v1 v2 v3 v4 : Int} {v5 : List (List DV)} {v6 : Nat} {v7 : Int} (e1 : IntKind.i64.wrap v1 = v2) (e2 : IntKind.i64.wrap (v2 - x6) = v3) (e3 : IntKind.u32.wrap v3 = v4) (e4 : (w0.take x5) ++ [[.u32 v4]] = v5) (e5 : x5 + 1 = v6) (e6 : IntKind.i64.wrap (x7 + 1) = v7) (h1 : x7 < (x0.length : Int)) (h2 : 0 ≤ x7) (h3 : x0[(Int.toNat x7)]? = some [.u32 v1]) (h4 : ¬ x7 < (x1.length : Int)) (h5 : ¬ v3 < 0) (h6 : (x5 + 1) * 4 ≤ 140737488355328 ∧ x5 + 1 ≤ 140737488355328) {o : Out} {st' : St} (ih : Lp E 0 F_ref01_Minus 0 (ref01_Minus_L0 x0 x1 v6 0 v7 v5) o st') :
    Lp E 0 F_ref01_Minus 0 (ref01_Minus_L0 x0 x1 x5 x6 x7 w0) o st' := by
 subst e1 e2 e3 e4 e5 e6
 exact lpOn _ [0, 1, 5, 6, 7] [.t true, .d [.u32 v1], .t false, .t false] (aC (dT h1) (aC h2 (aC h3 (aC (dF h4) (aC (dF h5) (aC (show ∀ y ∈ ([[.u32 (IntKind.u32.wrap (IntKind.i64.wrap ((IntKind.i64.wrap v1) - x6)))]] : List (List DV)), y.length = 1 from by simp) (aO h6))))))) (by kernel_rfl) ih
theorem ref01_Minus_L0e0_x0 {x0 x1 : List (List DV)} {x5 : Nat} {x6 x7 : Int} {w0 : List (List DV)} (h1 : ¬ x7 < (x0.length : Int)) :
    Lp E 0 F_ref01_Minus 0 (ref01_Minus_L0 x0 x1 x5 x6 x7 w0) (.exit 0) (ref01_Minus_L0e0 x5 w0) := by
 exact lpOff [5] [.t false] (aO (dF h1)) (by kernel_rfl) (by simp)
theorem ref01_Minus_0 {a0 a1 : List (List DV)} {v1 : Nat} {v2 : List (List DV)} {v3 : Nat} {v4 : List (List DV)} (e1 : (v2.take v3) = v4) (h1 : Lp E 0 F_ref01_Minus 0 (ref01_Minus_L0 a0 a1 0 0 0 []) (.exit 0) (ref01_Minus_L0e0 v1 v2)) (h2 : Rn E F_ref01_trim [.vec 0 v1] [some (.vec T_uint32 v2)] (.vec 0 v3) [some (.vec T_uint32 v2)]) :
    Fn E F_ref01_Minus [.c (.list a0), .c (.list a1)] (.c (.list v4)) := by
 subst e1
 exact fnMk [.loop [0, 1, 5, 6, 7] [(5, T_uint32)] (.exit 0) (ref01_Minus_L0e0 v1 v2), .vt (.vec 0 v3) [some (.vec T_uint32 v2)]] (by kernel_rfl) (by kernel_rfl) (aC h1 (aO h2)) (by kernel_rfl)
def ref01_small_L0 (x0 : List (List DV)) (x1 : Int) (x6 : Nat) (x7 : Int) (x8 : Int) (w0 : List (List DV)) : St := stOf 44 [(0, .c (.list x0)), (1, .c (.u32 x1)), (6, .vec 0 x6), (7, .c (.u64 x7)), (8, .c (.i64 x8))] [some (.vec T_uint32 w0)]
def ref01_small_L0e0 (x6 : Nat) (x7' : Int) (w0' : List (List DV)) : St := stOf 44 [(6, .vec 0 x6), (7, .c (.u64 x7'))] [some (.vec T_uint32 w0')]
theorem ref01_small_L0_r0 {x0 : List (List DV)} {x1 : Int} {x6 : Nat} {x7 x8 : Int} {w0 : List (List DV)} {v1 v2 v3 v4 v5 v6 v7 v8 : Int} {v9 : List (List DV)} {v10 v11 : Int} (e1 : IntKind.u64.wrap (x7 * 1000000000) = v1) (e2 : IntKind.u64.wrap v2 = v3) (e3 : IntKind.u64.wrap (v1 + v3) = v4) (e4 : IntKind.u64.wrap x1 = v5) (e5 : IntKind.u64.wrap (Int.tdiv v4 v5) = v6) (e6 : IntKind.u32.wrap v6 = v7) (e7 : List.set w0 (Int.toNat x8) [.u32 v7] = v9) (e8 : Int.tmod v4 v5 = v10) (e9 : IntKind.i64.wrap (x8 - 1) = v11) (h1 : x8 ≥ 0) (h2 : 0 ≤ x8) (h3 : x0[(Int.toNat x8)]? = some [.u32 v2]) (h4 : v5 ≠ 0) (h5 : 0 ≤ x8 ∧ x8 < ((x6 : Nat) : Int)) (h6 : w0[(Int.toNat x8)]? = some [.u32 v8]) {o : Out} {st' : St} (ih : Lp E 1 F_ref01_small 0 (ref01_small_L0 x0 x1 x6 v10 v11 v9) o st') :
    Lp E 1 F_ref01_small 0 (ref01_small_L0 x0 x1 x6 x7 x8 w0) o st' := by
 subst e1 e2 e3 e4 e5 e6 e7 e8 e9
 exact lpOn _ [0, 1, 6, 7, 8] [.t true, .d [.u32 v2], .d [.u32 v8]] (aC (dT h1) (aC h2 (aC h3 (aC h4 (aC h5 (aC h6 (aO h4))))))) (by kernel_rfl) ih
theorem ref01_small_L0e0_x0 {x0 : List (List DV)} {x1 : Int} {x6 : Nat} {x7 x8 : Int} {w0 : List (List DV)} (h1 : ¬ x8 ≥ 0) :
    Lp E 1 F_ref01_small 0 (ref01_small_L0 x0 x1 x6 x7 x8 w0) (.exit 0) (ref01_small_L0e0 x6 x7 w0) := by
 exact lpOff [6, 7] [.t false] (aO (dF h1)) (by kernel_rfl) (by simp)
theorem ref01_small_0 {a0 : List (List DV)} {a1 : Int} {v1 : Nat} {v2 : List (List DV)} {v3 v4 : Int} {v5 : List (List DV)} {v6 : Nat} {v7 : Int} {v8 : List (List DV)} (e1 : Int.toNat (a0.length : Int) = v1) (e2 : List.replicate v1 [.u32 0] = v2) (e3 : IntKind.i64.wrap ((a0.length : Int) - 1) = v3) (e4 : IntKind.u32.wrap v4 = v7) (e5 : (v5.take v6) = v8) (h1 : 0 ≤ (a0.length : Int) ∧ (a0.length : Int) ≤ (a0.length : Int) ∧ (Int.toNat (a0.length : Int)) * 4 ≤ 140737488355328 ∧ (Int.toNat (a0.length : Int)) ≤ 140737488355328) (h2 : Lp E 1 F_ref01_small 0 (ref01_small_L0 a0 a1 v1 0 v3 v2) (.exit 0) (ref01_small_L0e0 v1 v4 v5)) (h3 : Rn E F_ref01_trim [.vec 0 v1] [some (.vec T_uint32 v5)] (.vec 0 v6) [some (.vec T_uint32 v5)]) :
    Fn E F_ref01_small [.c (.list a0), .c (.u32 a1)] (.tup [.c (.list v8), .c (.u32 v7)]) := by
 subst e1 e2 e3 e4 e5
 exact fnMk [.loop [0, 1, 6, 7, 8] [] (.exit 0) (ref01_small_L0e0 (Int.toNat (a0.length : Int)) v4 v5), .vt (.vec 0 v6) [some (.vec T_uint32 v5)]] (by kernel_rfl) (by kernel_rfl) (aC h1 (aC h2 (aO h3))) (by kernel_rfl)
def ref01_reduce_L0 (x0 : Nat) (x1 : List (List DV)) (x2 : Int) (x3 : Int) (x9 : Int) (x10 : Int) (x11 : Int) (x12 : Int) (w0 : List (List DV)) : St := stOf 136 [(0, .vec 0 x0), (1, .c (.list x1)), (2, .c (.i64 x2)), (3, .c (.u64 x3)), (9, .c (.i64 x9)), (10, .c (.i64 x10)), (11, .c (.u64 x11)), (12, .c (.i64 x12))] [some (.vec T_uint32 w0)]
def ref01_reduce_L0e0 (x0 : Nat) (x1 : List (List DV)) (x2 : Int) (x3 : Int) (x9 : Int) (x10' : Int) (x11' : Int) (w0' : List (List DV)) : St := stOf 136 [(0, .vec 0 x0), (1, .c (.list x1)), (2, .c (.i64 x2)), (3, .c (.u64 x3)), (9, .c (.i64 x9)), (10, .c (.i64 x10')), (11, .c (.u64 x11'))] [some (.vec T_uint32 w0')]
theorem ref01_reduce_L0_r0 {x0 : Nat} {x1 : List (List DV)} {x2 x3 x9 x10 x11 x12 : Int} {w0 : List (List DV)} {v1 v2 v3 v4 v5 v6 v7 v8 v9 v10 v11 v12 v13 v14 : Int} {v15 : List (List DV)} {v16 : Int} (e1 : IntKind.u64.wrap v1 = v2) (e2 : IntKind.u64.wrap (x3 * v2) = v3) (e3 : IntKind.u64.wrap (v3 + x11) = v4) (e4 : IntKind.u64.wrap (Int.tdiv v4 1000000000) = v5) (e5 : IntKind.i64.wrap (x2 + x12) = v6) (e6 : IntKind.i64.wrap v7 = v8) (e7 : Int.tmod v4 1000000000 = v9) (e8 : IntKind.i64.wrap v9 = v10) (e9 : IntKind.i64.wrap (v8 - v10) = v11) (e10 : IntKind.i64.wrap (v11 - x10) = v12) (e11 : IntKind.i64.wrap (v12 + 1000000000) = v13) (e12 : IntKind.u32.wrap v13 = v14) (e13 : List.set w0 (Int.toNat v6) [.u32 v14] = v15) (e14 : IntKind.i64.wrap (x12 + 1) = v16) (h1 : x12 < x9) (h2 : 0 ≤ x12) (h3 : x1[(Int.toNat x12)]? = some [.u32 v1]) (h4 : 0 ≤ v6 ∧ v6 < ((x0 : Nat) : Int)) (h5 : w0[(Int.toNat v6)]? = some [.u32 v7]) (h6 : v12 < 0) {o : Out} {st' : St} (ih : Lp E 1 F_ref01_reduce 0 (ref01_reduce_L0 x0 x1 x2 x3 x9 1 v5 v16 v15) o st') :
    Lp E 1 F_ref01_reduce 0 (ref01_reduce_L0 x0 x1 x2 x3 x9 x10 x11 x12 w0) o st' := by
 subst e1 e2 e3 e4 e5 e6 e7 e8 e9 e10 e11 e12 e13 e14
 exact lpOn _ [0, 1, 2, 3, 9, 10, 11, 12] [.t true, .d [.u32 v1], .d [.u32 v7], .t true, .d [.u32 v7]] (aC (dT h1) (aC h2 (aC h3 (aC (show (1000000000 : Int) ≠ 0 from by decide) (aC h4 (aC h5 (aC (show (1000000000 : Int) ≠ 0 from by decide) (aC (dT h6) (aC h4 (aO h5)))))))))) (by kernel_rfl) ih
theorem ref01_reduce_L0_r1 {x0 : Nat} {x1 : List (List DV)} {x2 x3 x9 x10 x11 x12 : Int} {w0 : List (List DV)} {v1 v2 v3 v4 v5 v6 v7 v8 v9 v10 v11 v12 v13 : Int} {v14 : List (List DV)} {v15 : Int} (e1 : IntKind.u64.wrap v1 = v2) (e2 : IntKind.u64.wrap (x3 * v2) = v3) (e3 : IntKind.u64.wrap (v3 + x11) = v4) (e4 : IntKind.u64.wrap (Int.tdiv v4 1000000000) = v5) (e5 : IntKind.i64.wrap (x2 + x12) = v6) (e6 : IntKind.i64.wrap v7 = v8) (e7 : Int.tmod v4 1000000000 = v9) (e8 : IntKind.i64.wrap v9 = v10) (e9 : IntKind.i64.wrap (v8 - v10) = v11) (e10 : IntKind.i64.wrap (v11 - x10) = v12) (e11 : IntKind.u32.wrap v12 = v13) (e12 : List.set w0 (Int.toNat v6) [.u32 v13] = v14) (e13 : IntKind.i64.wrap (x12 + 1) = v15) (h1 : x12 < x9) (h2 : 0 ≤ x12) (h3 : x1[(Int.toNat x12)]? = some [.u32 v1]) (h4 : 0 ≤ v6 ∧ v6 < ((x0 : Nat) : Int)) (h5 : w0[(Int.toNat v6)]? = some [.u32 v7]) (h6 : ¬ v12 < 0) {o : Out} {st' : St} (ih : Lp E 1 F_ref01_reduce 0 (ref01_reduce_L0 x0 x1 x2 x3 x9 0 v5 v15 v14) o st') :
    Lp E 1 F_ref01_reduce 0 (ref01_reduce_L0 x0 x1 x2 x3 x9 x10 x11 x12 w0) o st' := by
 subst e1 e2 e3 e4 e5 e6 e7 e8 e9 e10 e11 e12 e13
 exact lpOn _ [0, 1, 2, 3, 9, 10, 11, 12] [.t true, .d [.u32 v1], .d [.u32 v7], .t false, .d [.u32 v7]] (aC (dT h1) (aC h2 (aC h3 (aC (show (1000000000 : Int) ≠ 0 from by decide) (aC h4 (aC h5 (aC (show (1000000000 : Int) ≠ 0 from by decide) (aC (dF h6) (aC h4 (aO h5)))))))))) (by kernel_rfl) ih
theorem ref01_reduce_L0e0_x0 {x0 : Nat} {x1 : List (List DV)} {x2 x3 x9 x10 x11 x12 : Int} {w0 : List (List DV)} (h1 : ¬ x12 < x9) :
    Lp E 1 F_ref01_reduce 0 (ref01_reduce_L0 x0 x1 x2 x3 x9 x10 x11 x12 w0) (.exit 0) (ref01_reduce_L0e0 x0 x1 x2 x3 x9 x10 x11 w0) := by
 exact lpOff [0, 1, 2, 3, 9, 10, 11] [.t false] (aO (dF h1)) (by kernel_rfl) (by simp)
def ref01_reduce_L1 (x0 : Nat) (x1 : List (List DV)) (x2 : Int) (x3 : Int) (x9 : Int) (x16 : Int) (x17 : Int) (w0 : List (List DV)) : St := stOf 136 [(0, .vec 0 x0), (1, .c (.list x1)), (2, .c (.i64 x2)), (3, .c (.u64 x3)), (9, .c (.i64 x9)), (16, .c (.u32 x16)), (17, .c (.i64 x17))] [some (.vec T_uint32 w0)]
def ref01_reduce_L1e0 (x0 : Nat) (x2 : Int) (x3 : Int) (x9 : Int) (x16' : Int) (w0' : List (List DV)) : St := stOf 136 [(0, .vec 0 x0), (2, .c (.i64 x2)), (3, .c (.u64 x3)), (9, .c (.i64 x9)), (16, .c (.u32 x16'))] [some (.vec T_uint32 w0')]
theorem ref01_reduce_L1_r0 {x0 : Nat} {x1 : List (List DV)} {x2 x3 x9 x16 x17 : Int} {w0 : List (List DV)} {v1 v2 v3 v4 v5 v6 : Int} {v7 : List (List DV)} {v8 v9 : Int} (e1 : IntKind.i64.wrap (x2 + x17) = v1) (e2 : IntKind.u32.wrap (v2 + v3) = v4) (e3 : IntKind.u32.wrap (v4 + x16) = v5) (e4 : Int.tmod v5 1000000000 = v6) (e5 : List.set w0 (Int.toNat v1) [.u32 v6] = v7) (e6 : IntKind.u32.wrap (Int.tdiv v5 1000000000) = v8) (e7 : IntKind.i64.wrap (x17 + 1) = v9) (h1 : x17 < x9) (h2 : 0 ≤ v1 ∧ v1 < ((x0 : Nat) : Int)) (h3 : w0[(Int.toNat v1)]? = some [.u32 v2]) (h4 : 0 ≤ x17) (h5 : x1[(Int.toNat x17)]? = some [.u32 v3]) {o : Out} {st' : St} (ih : Lp E 1 F_ref01_reduce 1 (ref01_reduce_L1 x0 x1 x2 x3 x9 v8 v9 v7) o st') :
    Lp E 1 F_ref01_reduce 1 (ref01_reduce_L1 x0 x1 x2 x3 x9 x16 x17 w0) o st' := by
 subst e1 e2 e3 e4 e5 e6 e7
 exact lpOn _ [0, 1, 2, 3, 9, 16, 17] [.t true, .d [.u32 v2], .d [.u32 v3], .d [.u32 v2]] (aC (dT h1) (aC h2 (aC h3 (aC h4 (aC h5 (aC (show (1000000000 : Int) ≠ 0 from by decide) (aC h2 (aC h3 (aO (show (1000000000 : Int) ≠ 0 from by decide)))))))))) (by kernel_rfl) ih
theorem ref01_reduce_L1e0_x0 {x0 : Nat} {x1 : List (List DV)} {x2 x3 x9 x16 x17 : Int} {w0 : List (List DV)} (h1 : ¬ x17 < x9) :
    Lp E 1 F_ref01_reduce 1 (ref01_reduce_L1 x0 x1 x2 x3 x9 x16 x17 w0) (.exit 2) (ref01_reduce_L1e0 x0 x2 x3 x9 x16 w0) := by
 exact lpOff [0, 2, 3, 9, 16] [.t false] (aO (dF h1)) (by kernel_rfl) (by simp)
theorem ref01_reduce_0 {w0 : List (List DV)} {a0 : Nat} {a1 : List (List DV)} {a2 a3 v1 v2 : Int} {v3 : List (List DV)} {v4 v5 v6 v7 v8 v9 v10 : Int} {v11 : List (List DV)} {v12 : Int} (e1 : IntKind.i64.wrap (a2 + (a1.length : Int)) = v4) (e2 : IntKind.i64.wrap v5 = v6) (e3 : IntKind.i64.wrap v2 = v7) (e4 : IntKind.i64.wrap (v6 - v7) = v8) (e5 : IntKind.i64.wrap (v8 - v1) = v9) (e6 : IntKind.u32.wrap v9 = v10) (e7 : List.set v3 (Int.toNat v4) [.u32 v10] = v11) (e8 : IntKind.u32.wrap a3 = v12) (h1 : Lp E 1 F_ref01_reduce 0 (ref01_reduce_L0 a0 a1 a2 a3 (a1.length : Int) 0 0 0 w0) (.exit 0) (ref01_reduce_L0e0 a0 a1 a2 a3 (a1.length : Int) v1 v2 v3)) (h2 : 0 ≤ v4 ∧ v4 < ((a0 : Nat) : Int)) (h3 : v3[(Int.toNat v4)]? = some [.u32 v5]) (h4 : v9 ≥ 0) :
    Rn E F_ref01_reduce [.vec 0 a0, .c (.list a1), .c (.i64 a2), .c (.u64 a3)] [some (.vec T_uint32 w0)] (.c (.u32 v12)) [some (.vec T_uint32 v11)] := by
 subst e1 e2 e3 e4 e5 e6 e7 e8
 exact rnMk [.loop [0, 1, 2, 3, 9, 10, 11, 12] [] (.exit 0) (ref01_reduce_L0e0 a0 a1 a2 a3 (a1.length : Int) v1 v2 v3), .d [.u32 v5], .t true, .d [.u32 v5]] (by kernel_rfl) (aC h1 (aC h2 (aC h3 (aC (dT h4) (aC h2 (aO h3)))))) (by kernel_rfl)
theorem ref01_reduce_1 {w0 : List (List DV)} {a0 : Nat} {a1 : List (List DV)} {a2 a3 v1 v2 : Int} {v3 : List (List DV)} {v4 v5 v6 v7 v8 v9 v10 v11 : Int} {v12 : List (List DV)} {v13 : Int} {v14 : List (List DV)} {v15 v16 v17 : Int} {v18 : List (List DV)} {v19 v20 : Int} (e1 : IntKind.i64.wrap (a2 + (a1.length : Int)) = v4) (e2 : IntKind.i64.wrap v5 = v6) (e3 : IntKind.i64.wrap v2 = v7) (e4 : IntKind.i64.wrap (v6 - v7) = v8) (e5 : IntKind.i64.wrap (v8 - v1) = v9) (e6 : IntKind.i64.wrap (v9 + 1000000000) = v10) (e7 : IntKind.u32.wrap v10 = v11) (e8 : List.set v3 (Int.toNat v4) [.u32 v11] = v12) (e9 : IntKind.u32.wrap (v15 + v13) = v16) (e10 : Int.tmod v16 1000000000 = v17) (e11 : List.set v14 (Int.toNat v4) [.u32 v17] = v18) (e12 : IntKind.u64.wrap (a3 - 1) = v19) (e13 : IntKind.u32.wrap v19 = v20) (h1 : Lp E 1 F_ref01_reduce 0 (ref01_reduce_L0 a0 a1 a2 a3 (a1.length : Int) 0 0 0 w0) (.exit 0) (ref01_reduce_L0e0 a0 a1 a2 a3 (a1.length : Int) v1 v2 v3)) (h2 : 0 ≤ v4 ∧ v4 < ((a0 : Nat) : Int)) (h3 : v3[(Int.toNat v4)]? = some [.u32 v5]) (h4 : ¬ v9 ≥ 0) (h5 : Lp E 1 F_ref01_reduce 1 (ref01_reduce_L1 a0 a1 a2 a3 (a1.length : Int) 0 0 v12) (.exit 2) (ref01_reduce_L1e0 a0 a2 a3 (a1.length : Int) v13 v14)) (h6 : v14[(Int.toNat v4)]? = some [.u32 v15]) :
    Rn E F_ref01_reduce [.vec 0 a0, .c (.list a1), .c (.i64 a2), .c (.u64 a3)] [some (.vec T_uint32 w0)] (.c (.u32 v20)) [some (.vec T_uint32 v18)] := by
 subst e1 e2 e3 e4 e5 e6 e7 e8 e9 e10 e11 e12 e13
 exact rnMk [.loop [0, 1, 2, 3, 9, 10, 11, 12] [] (.exit 0) (ref01_reduce_L0e0 a0 a1 a2 a3 (a1.length : Int) v1 v2 v3), .d [.u32 v5], .t false, .d [.u32 v5], .loop [0, 1, 2, 3, 9, 16, 17] [] (.exit 2) (ref01_reduce_L1e0 a0 a2 a3 (a1.length : Int) v13 v14), .d [.u32 v15], .d [.u32 v15]] (by kernel_rfl) (aC h1 (aC h2 (aC h3 (aC (dF h4) (aC h2 (aC h3 (aC h5 (aC h2 (aC h6 (aC (show (1000000000 : Int) ≠ 0 from by decide) (aC h2 (aO h6)))))))))))) (by kernel_rfl)
end Gev
namespace Gev
open Go Go.Proofs
variable {E : Env}
theorem ref02_To_0 {a0_1 : List (List DV)} {v1 v2 : ByteArray} (e1 : (⟨#[45]⟩ : ByteArray) ++ v1 = v2) (h1 : Fn E F_ref01_To [.c (.list a0_1)] (.c (.str v1))) (h2 : (⟨#[45]⟩ : ByteArray).size + v1.size ≤ 9223372036854775807) :
    Fn E F_ref02_To [.agg [.bool true, .list a0_1]] (.c (.str v2)) := by
 subst e1
 exact fnMk [.v (.c (.str v1))] (by kernel_rfl) (by kernel_rfl) (aC h1 (aO h2)) (by kernel_rfl)
theorem ref02_To_1 {a0_1 : List (List DV)} {v1 : ByteArray} (h1 : Fn E F_ref01_To [.c (.list a0_1)] (.c (.str v1))) :
    Fn E F_ref02_To [.agg [.bool false, .list a0_1]] (.c (.str v1)) := by
 exact fnMk [.v (.c (.str v1))] (by kernel_rfl) (by kernel_rfl) (aO h1) (by kernel_rfl)
theorem ref02_Valid_0 {a0 : ByteArray} {v1 : Int} {v2 : ByteArray} {v3 : Bool} (e1 : ((a0.data.toList.getD 0 0).toNat : Int) = v1) (e2 : a0.extract 1 (Int.toNat (a0.size : Int)) = v2) (h1 : (a0.size : Int) > 1) (h2 : 0 ≤ (0 : Int) ∧ (0 : Int) < a0.size) (h3 : v1 = 45) (h4 : ¬ a0 = (⟨#[45, 48]⟩ : ByteArray)) (h5 : 0 ≤ (1 : Int) ∧ (1 : Int) ≤ (a0.size : Int) ∧ (a0.size : Int) ≤ a0.size) (h6 : Fn E F_ref01_Valid [.c (.str v2)] (.c (.bool v3))) :
    Fn E F_ref02_Valid [.c (.str a0)] (.c (.bool v3)) := by
 subst e1 e2
 exact fnMk [.t true, .t true, .t true, .v (.c (.bool v3))] (by kernel_rfl) (by kernel_rfl) (aC (dT h1) (aC h2 (aC (beT h3) (aC (snT h4) (aC h5 (aO h6)))))) (by kernel_rfl)
theorem ref02_Valid_1 {a0 : ByteArray} {v1 : Int} (e1 : ((a0.data.toList.getD 0 0).toNat : Int) = v1) (h1 : (a0.size : Int) > 1) (h2 : 0 ≤ (0 : Int) ∧ (0 : Int) < a0.size) (h3 : v1 = 45) (h4 : a0 = (⟨#[45, 48]⟩ : ByteArray)) :
    Fn E F_ref02_Valid [.c (.str a0)] (.c (.bool false)) := by
 subst e1
 exact fnMk [.t true, .t true, .t false] (by kernel_rfl) (by kernel_rfl) (aC (dT h1) (aC h2 (aC (beT h3) (aO (snF h4))))) (by kernel_rfl)
theorem ref02_Valid_2 {a0 : ByteArray} {v1 : Int} {v2 : Bool} (e1 : ((a0.data.toList.getD 0 0).toNat : Int) = v1) (h1 : (a0.size : Int) > 1) (h2 : 0 ≤ (0 : Int) ∧ (0 : Int) < a0.size) (h3 : ¬ v1 = 45) (h4 : Fn E F_ref01_Valid [.c (.str a0)] (.c (.bool v2))) :
    Fn E F_ref02_Valid [.c (.str a0)] (.c (.bool v2)) := by
 subst e1
 exact fnMk [.t true, .t false, .v (.c (.bool v2))] (by kernel_rfl) (by kernel_rfl) (aC (dT h1) (aC h2 (aC (beF h3) (aO h4)))) (by kernel_rfl)
theorem ref02_Valid_3 {a0 : ByteArray} {v1 : Bool} (h1 : ¬ (a0.size : Int) > 1) (h2 : Fn E F_ref01_Valid [.c (.str a0)] (.c (.bool v1))) :
    Fn E F_ref02_Valid [.c (.str a0)] (.c (.bool v1)) := by
 exact fnMk [.t false, .v (.c (.bool v1))] (by kernel_rfl) (by kernel_rfl) (aC (dF h1) (aO h2)) (by kernel_rfl)
theorem ref02_Read_0 {a0 : ByteArray} {v1 : Int} {v2 : ByteArray} {v3 : List (List DV)} (e1 : ((a0.data.toList.getD 0 0).toNat : Int) = v1) (e2 : a0.extract 1 (Int.toNat (a0.size : Int)) = v2) (h1 : 0 ≤ (0 : Int) ∧ (0 : Int) < a0.size) (h2 : v1 = 45) (h3 : 0 ≤ (1 : Int) ∧ (1 : Int) ≤ (a0.size : Int) ∧ (a0.size : Int) ≤ a0.size) (h4 : Fn E F_ref01_From [.c (.str v2)] (.c (.list v3))) :
    Fn E F_ref02_Read [.c (.str a0)] (.agg [.bool true, .list v3]) := by
 subst e1 e2
 exact fnMk [.t true, .v (.c (.list v3))] (by kernel_rfl) (by kernel_rfl) (aC h1 (aC (beT h2) (aC h3 (aO h4)))) (by kernel_rfl)
theorem ref02_Read_1 {a0 : ByteArray} {v1 : Int} {v2 : List (List DV)} (e1 : ((a0.data.toList.getD 0 0).toNat : Int) = v1) (h1 : 0 ≤ (0 : Int) ∧ (0 : Int) < a0.size) (h2 : ¬ v1 = 45) (h3 : Fn E F_ref01_From [.c (.str a0)] (.c (.list v2))) :
    Fn E F_ref02_Read [.c (.str a0)] (.agg [.bool false, .list v2]) := by
 subst e1
 exact fnMk [.t false, .v (.c (.list v2))] (by kernel_rfl) (by kernel_rfl) (aC h1 (aC (beF h2) (aO h3))) (by kernel_rfl)
theorem ref02_Signum_0 {a0_1 : List (List DV)}  :
    Fn E F_ref02_Signum [.agg [.bool true, .list a0_1]] (.c (.i64 (-1))) := by
 exact fnMk [] (by kernel_rfl) (by kernel_rfl) aN (by kernel_rfl)
theorem ref02_Signum_1 {a0_1 : List (List DV)} (h1 : (a0_1.length : Int) > 0) :
    Fn E F_ref02_Signum [.agg [.bool false, .list a0_1]] (.c (.i64 1)) := by
 exact fnMk [.t true] (by kernel_rfl) (by kernel_rfl) (aO (dT h1)) (by kernel_rfl)
theorem ref02_Signum_2 {a0_1 : List (List DV)} (h1 : ¬ (a0_1.length : Int) > 0) :
    Fn E F_ref02_Signum [.agg [.bool false, .list a0_1]] (.c (.i64 0)) := by
 exact fnMk [.t false] (by kernel_rfl) (by kernel_rfl) (aO (dF h1)) (by kernel_rfl)
theorem ref02_Opposite_0 {a0_0 : Bool} {a0_1 : List (List DV)} {v1 : Bool} {v2 : List (List DV)} (h1 : Fn E F_ref02_Make [.c (.bool (!a0_0)), .c (.list a0_1)] (.agg [.bool v1, .list v2])) :
    Fn E F_ref02_Opposite [.agg [.bool a0_0, .list a0_1]] (.agg [.bool v1, .list v2]) := by
 exact fnMk [.v (.agg [.bool v1, .list v2])] (by kernel_rfl) (by kernel_rfl) (aO h1) (by kernel_rfl)
theorem ref02_Times_0 {a0_0 : Bool} {a0_1 : List (List DV)} {a1_0 : Bool} {a1_1 : List (List DV)} {v1 : Bool} {v2 : List (List DV)} {v3 : Bool} {v4 : List (List DV)} (e1 : (!(a0_0 == a1_0)) = v1) (h1 : Fn E F_ref01_Times [.c (.list a0_1), .c (.list a1_1)] (.c (.list v2))) (h2 : Fn E F_ref02_Make [.c (.bool v1), .c (.list v2)] (.agg [.bool v3, .list v4])) :
    Fn E F_ref02_Times [.agg [.bool a0_0, .list a0_1], .agg [.bool a1_0, .list a1_1]] (.agg [.bool v3, .list v4]) := by
 subst e1
 exact fnMk [.keep, .v (.c (.list v2)), .v (.agg [.bool v3, .list v4])] (by kernel_rfl) (by kernel_rfl) (aC h1 (aO h2)) (by kernel_rfl)
theorem ref02_Plus_0 {a0_0 : Bool} {a0_1 : List (List DV)} {a1_0 : Bool} {a1_1 v1 : List (List DV)} {v2 : Bool} {v3 : List (List DV)} (h1 : a0_0 = a1_0) (h2 : Fn E F_ref01_Plus [.c (.list a0_1), .c (.list a1_1)] (.c (.list v1))) (h3 : Fn E F_ref02_Make [.c (.bool a0_0), .c (.list v1)] (.agg [.bool v2, .list v3])) :
    Fn E F_ref02_Plus [.agg [.bool a0_0, .list a0_1], .agg [.bool a1_0, .list a1_1]] (.agg [.bool v2, .list v3]) := by
 exact fnMk [.t true, .v (.c (.list v1)), .v (.agg [.bool v2, .list v3])] (by kernel_rfl) (by kernel_rfl) (aC (beT h1) (aC h2 (aO h3))) (by kernel_rfl)
theorem ref02_Plus_1 {a0_0 : Bool} {a0_1 : List (List DV)} {a1_0 : Bool} {a1_1 : List (List DV)} {v1 : Int} {v2 : List (List DV)} {v3 : Bool} {v4 : List (List DV)} (h1 : ¬ a0_0 = a1_0) (h2 : Fn E F_ref01_Cmp [.c (.list a0_1), .c (.list a1_1)] (.c (.i64 v1))) (h3 : v1 ≥ 0) (h4 : Fn E F_ref01_Minus [.c (.list a0_1), .c (.list a1_1)] (.c (.list v2))) (h5 : Fn E F_ref02_Make [.c (.bool a0_0), .c (.list v2)] (.agg [.bool v3, .list v4])) :
    Fn E F_ref02_Plus [.agg [.bool a0_0, .list a0_1], .agg [.bool a1_0, .list a1_1]] (.agg [.bool v3, .list v4]) := by
 exact fnMk [.t false, .v (.c (.i64 v1)), .t true, .v (.c (.list v2)), .v (.agg [.bool v3, .list v4])] (by kernel_rfl) (by kernel_rfl) (aC (beF h1) (aC h2 (aC (dT h3) (aC h4 (aO h5))))) (by kernel_rfl)
theorem ref02_Plus_2 {a0_0 : Bool} {a0_1 : List (List DV)} {a1_0 : Bool} {a1_1 : List (List DV)} {v1 : Int} {v2 : List (List DV)} {v3 : Bool} {v4 : List (List DV)} (h1 : ¬ a0_0 = a1_0) (h2 : Fn E F_ref01_Cmp [.c (.list a0_1), .c (.list a1_1)] (.c (.i64 v1))) (h3 : ¬ v1 ≥ 0) (h4 : Fn E F_ref01_Minus [.c (.list a1_1), .c (.list a0_1)] (.c (.list v2))) (h5 : Fn E F_ref02_Make [.c (.bool a1_0), .c (.list v2)] (.agg [.bool v3, .list v4])) :
    Fn E F_ref02_Plus [.agg [.bool a0_0, .list a0_1], .agg [.bool a1_0, .list a1_1]] (.agg [.bool v3, .list v4]) := by
 exact fnMk [.t false, .v (.c (.i64 v1)), .t false, .v (.c (.list v2)), .v (.agg [.bool v3, .list v4])] (by kernel_rfl) (by kernel_rfl) (aC (beF h1) (aC h2 (aC (dF h3) (aC h4 (aO h5))))) (by kernel_rfl)
theorem ref02_Make_0 {a1 : List (List DV)} (h1 : (a1.length : Int) > 0) :
    Fn E F_ref02_Make [.c (.bool true), .c (.list a1)] (.agg [.bool true, .list a1]) := by
 exact fnMk [.t true] (by kernel_rfl) (by kernel_rfl) (aO (dT h1)) (by kernel_rfl)
theorem ref02_Make_1 {a1 : List (List DV)} (h1 : ¬ (a1.length : Int) > 0) :
    Fn E F_ref02_Make [.c (.bool true), .c (.list a1)] (.agg [.bool false, .list a1]) := by
 exact fnMk [.t false] (by kernel_rfl) (by kernel_rfl) (aO (dF h1)) (by kernel_rfl)
theorem ref02_Make_2 {a1 : List (List DV)}  :
    Fn E F_ref02_Make [.c (.bool false), .c (.list a1)] (.agg [.bool false, .list a1]) := by
 exact fnMk [] (by kernel_rfl) (by kernel_rfl) aN (by kernel_rfl)
theorem ref02_Small_0 {a0 v1 v2 : Int} {v3 : List (List DV)} {v4 : Bool} {v5 : List (List DV)} (e1 : IntKind.i64.wrap (0 - a0) = v1) (e2 : IntKind.u32.wrap v1 = v2) (h1 : a0 < 0) (h2 : Fn E F_ref01_Small [.c (.u32 v2)] (.c (.list v3))) (h3 : Fn E F_ref02_Make [.c (.bool true), .c (.list v3)] (.agg [.bool v4, .list v5])) :
    Fn E F_ref02_Small [.c (.i64 a0)] (.agg [.bool v4, .list v5]) := by
 subst e1 e2
 exact fnMk [.t true, .v (.c (.list v3)), .v (.agg [.bool v4, .list v5])] (by kernel_rfl) (by kernel_rfl) (aC (dT h1) (aC h2 (aO h3))) (by kernel_rfl)
theorem ref02_Small_1 {a0 v1 : Int} {v2 : List (List DV)} {v3 : Bool} {v4 : List (List DV)} (e1 : IntKind.u32.wrap a0 = v1) (h1 : ¬ a0 < 0) (h2 : Fn E F_ref01_Small [.c (.u32 v1)] (.c (.list v2))) (h3 : Fn E F_ref02_Make [.c (.bool false), .c (.list v2)] (.agg [.bool v3, .list v4])) :
    Fn E F_ref02_Small [.c (.i64 a0)] (.agg [.bool v3, .list v4]) := by
 subst e1
 exact fnMk [.t false, .v (.c (.list v2)), .v (.agg [.bool v3, .list v4])] (by kernel_rfl) (by kernel_rfl) (aC (dF h1) (aC h2 (aO h3))) (by kernel_rfl)
theorem ref02_Cmp_0 {a0_0 : Bool} {a0_1 : List (List DV)} {a1_0 : Bool} {a1_1 : List (List DV)} {v1 : Bool} {v2 : List (List DV)} {v3 : Int} (h1 : Fn E F_ref02_Minus [.agg [.bool a0_0, .list a0_1], .agg [.bool a1_0, .list a1_1]] (.agg [.bool v1, .list v2])) (h2 : Fn E F_ref02_Signum [.agg [.bool v1, .list v2]] (.c (.i64 v3))) :
    Fn E F_ref02_Cmp [.agg [.bool a0_0, .list a0_1], .agg [.bool a1_0, .list a1_1]] (.c (.i64 v3)) := by
 exact fnMk [.v (.agg [.bool v1, .list v2]), .v (.c (.i64 v3))] (by kernel_rfl) (by kernel_rfl) (aC h1 (aO h2)) (by kernel_rfl)
theorem ref02_Minus_0 {a0_0 : Bool} {a0_1 : List (List DV)} {a1_0 : Bool} {a1_1 : List (List DV)} {v1 : Bool} {v2 : List (List DV)} {v3 : Bool} {v4 : List (List DV)} (h1 : Fn E F_ref02_Opposite [.agg [.bool a1_0, .list a1_1]] (.agg [.bool v1, .list v2])) (h2 : Fn E F_ref02_Plus [.agg [.bool a0_0, .list a0_1], .agg [.bool v1, .list v2]] (.agg [.bool v3, .list v4])) :
    Fn E F_ref02_Minus [.agg [.bool a0_0, .list a0_1], .agg [.bool a1_0, .list a1_1]] (.agg [.bool v3, .list v4]) := by
 exact fnMk [.v (.agg [.bool v1, .list v2]), .v (.agg [.bool v3, .list v4])] (by kernel_rfl) (by kernel_rfl) (aC h1 (aO h2)) (by kernel_rfl)
end Gev
namespace Gev
open Go Go.Proofs
variable {E : Env}
theorem ref03_To_0 {a0_0 : Bool} {a0_1 a0_2 : List (List DV)} {v1 v2 v3 v4 : ByteArray} (e1 : (⟨#[47]⟩ : ByteArray) ++ v2 = v3) (e2 : v1 ++ v3 = v4) (h1 : Fn E F_ref02_To [.agg [.bool a0_0, .list a0_1]] (.c (.str v1))) (h2 : Fn E F_ref01_To [.c (.list a0_2)] (.c (.str v2))) (h3 : ¬ v2 = (⟨#[49]⟩ : ByteArray)) (h4 : (⟨#[47]⟩ : ByteArray).size + v2.size ≤ 9223372036854775807) (h5 : v1.size + v3.size ≤ 9223372036854775807) :
    Fn E F_ref03_To [.agg [.bool a0_0, .list a0_1, .list a0_2]] (.c (.str v4)) := by
 subst e1 e2
 exact fnMk [.v (.c (.str v1)), .v (.c (.str v2)), .t true] (by kernel_rfl) (by kernel_rfl) (aC h1 (aC h2 (aC (snT h3) (aC h4 (aO h5))))) (by kernel_rfl)
theorem ref03_To_1 {a0_0 : Bool} {a0_1 a0_2 : List (List DV)} {v1 v2 : ByteArray} (h1 : Fn E F_ref02_To [.agg [.bool a0_0, .list a0_1]] (.c (.str v1))) (h2 : Fn E F_ref01_To [.c (.list a0_2)] (.c (.str v2))) (h3 : v2 = (⟨#[49]⟩ : ByteArray)) :
    Fn E F_ref03_To [.agg [.bool a0_0, .list a0_1, .list a0_2]] (.c (.str v1)) := by
 exact fnMk [.v (.c (.str v1)), .v (.c (.str v2)), .t false] (by kernel_rfl) (by kernel_rfl) (aC h1 (aC h2 (aO (snF h3)))) (by kernel_rfl)
theorem ref03_From_0 {a0 v1 v2 : ByteArray} {v6 : Bool} {v7 v8 v9 : List (List DV)} {v10 v11 : Int} {v12 : List (List DV)} {v13 : Int} (h1 : Fn E F_ref03_split [.c (.str a0)] (.tup [.c (.str v1), .c (.str v2), .c (.bool true)])) (h2 : Fn E F_ref02_Valid [.c (.str v1)] (.c (.bool true))) (h3 : Fn E F_ref01_Valid [.c (.str v2)] (.c (.bool true))) (h4 : Fn E F_ref02_Read [.c (.str v1)] (.agg [.bool v6, .list v7])) (h5 : Fn E F_ref01_From [.c (.str v2)] (.c (.list v8))) (h6 : Fn E F_ref01_Small [.c (.u32 1)] (.c (.list v9))) (h7 : Fn E F_ref01_Cmp [.c (.list v8), .c (.list v9)] (.c (.i64 v10))) (h8 : v10 > 0) (h9 : Fn E F_ref02_Signum [.agg [.bool v6, .list v7]] (.c (.i64 v11))) (h10 : ¬ v11 = 0) (h11 : Fn E F_ref01_Common [.c (.list v7), .c (.list v8)] (.c (.list v12))) (h12 : Fn E F_ref01_Cmp [.c (.list v12), .c (.list v9)] (.c (.i64 v13))) (h13 : v13 = 0) :
    Fn E F_ref03_From [.c (.str a0)] (.tup [.agg [.bool v6, .list v7, .list v8], .c (.bool true)]) := by
 exact fnMk [.v (.tup [.c (.str v1), .c (.str v2), .c (.bool true)]), .v (.c (.bool true)), .v (.c (.bool true)), .v (.agg [.bool v6, .list v7]), .v (.c (.list v8)), .v (.c (.list v9)), .v (.c (.i64 v10)), .t true, .v (.c (.i64 v11)), .t true, .v (.c (.list v12)), .v (.c (.i64 v13)), .t true] (by kernel_rfl) (by kernel_rfl) (aC h1 (aC h2 (aC h3 (aC h4 (aC h5 (aC h6 (aC h7 (aC (dT h8) (aC h9 (aC (bnT h10) (aC h11 (aC h12 (aO (beT h13)))))))))))))) (by kernel_rfl)
theorem ref03_From_1 {a0 v1 v2 : ByteArray} {v6 : Bool} {v7 v8 v9 : List (List DV)} {v10 v11 : Int} {v12 : List (List DV)} {v13 : Int} {v14 : Bool} {v15 v16 : List (List DV)} (h1 : Fn E F_ref03_split [.c (.str a0)] (.tup [.c (.str v1), .c (.str v2), .c (.bool true)])) (h2 : Fn E F_ref02_Valid [.c (.str v1)] (.c (.bool true))) (h3 : Fn E F_ref01_Valid [.c (.str v2)] (.c (.bool true))) (h4 : Fn E F_ref02_Read [.c (.str v1)] (.agg [.bool v6, .list v7])) (h5 : Fn E F_ref01_From [.c (.str v2)] (.c (.list v8))) (h6 : Fn E F_ref01_Small [.c (.u32 1)] (.c (.list v9))) (h7 : Fn E F_ref01_Cmp [.c (.list v8), .c (.list v9)] (.c (.i64 v10))) (h8 : v10 > 0) (h9 : Fn E F_ref02_Signum [.agg [.bool v6, .list v7]] (.c (.i64 v11))) (h10 : ¬ v11 = 0) (h11 : Fn E F_ref01_Common [.c (.list v7), .c (.list v8)] (.c (.list v12))) (h12 : Fn E F_ref01_Cmp [.c (.list v12), .c (.list v9)] (.c (.i64 v13))) (h13 : ¬ v13 = 0) (h14 : Fn E F_ref03_Int [.c (.i64 0)] (.agg [.bool v14, .list v15, .list v16])) :
    Fn E F_ref03_From [.c (.str a0)] (.tup [.agg [.bool v14, .list v15, .list v16], .c (.bool false)]) := by
 exact fnMk [.v (.tup [.c (.str v1), .c (.str v2), .c (.bool true)]), .v (.c (.bool true)), .v (.c (.bool true)), .v (.agg [.bool v6, .list v7]), .v (.c (.list v8)), .v (.c (.list v9)), .v (.c (.i64 v10)), .t true, .v (.c (.i64 v11)), .t true, .v (.c (.list v12)), .v (.c (.i64 v13)), .t false, .v (.agg [.bool v14, .list v15, .list v16])] (by kernel_rfl) (by kernel_rfl) (aC h1 (aC h2 (aC h3 (aC h4 (aC h5 (aC h6 (aC h7 (aC (dT h8) (aC h9 (aC (bnT h10) (aC h11 (aC h12 (aC (beF h13) (aO h14)))))))))))))) (by kernel_rfl)
theorem ref03_From_2 {a0 v1 v2 : ByteArray} {v6 : Bool} {v7 v8 v9 : List (List DV)} {v10 v11 : Int} {v12 : Bool} {v13 v14 : List (List DV)} (h1 : Fn E F_ref03_split [.c (.str a0)] (.tup [.c (.str v1), .c (.str v2), .c (.bool true)])) (h2 : Fn E F_ref02_Valid [.c (.str v1)] (.c (.bool true))) (h3 : Fn E F_ref01_Valid [.c (.str v2)] (.c (.bool true))) (h4 : Fn E F_ref02_Read [.c (.str v1)] (.agg [.bool v6, .list v7])) (h5 : Fn E F_ref01_From [.c (.str v2)] (.c (.list v8))) (h6 : Fn E F_ref01_Small [.c (.u32 1)] (.c (.list v9))) (h7 : Fn E F_ref01_Cmp [.c (.list v8), .c (.list v9)] (.c (.i64 v10))) (h8 : v10 > 0) (h9 : Fn E F_ref02_Signum [.agg [.bool v6, .list v7]] (.c (.i64 v11))) (h10 : v11 = 0) (h11 : Fn E F_ref03_Int [.c (.i64 0)] (.agg [.bool v12, .list v13, .list v14])) :
    Fn E F_ref03_From [.c (.str a0)] (.tup [.agg [.bool v12, .list v13, .list v14], .c (.bool false)]) := by
 exact fnMk [.v (.tup [.c (.str v1), .c (.str v2), .c (.bool true)]), .v (.c (.bool true)), .v (.c (.bool true)), .v (.agg [.bool v6, .list v7]), .v (.c (.list v8)), .v (.c (.list v9)), .v (.c (.i64 v10)), .t true, .v (.c (.i64 v11)), .t false, .v (.agg [.bool v12, .list v13, .list v14])] (by kernel_rfl) (by kernel_rfl) (aC h1 (aC h2 (aC h3 (aC h4 (aC h5 (aC h6 (aC h7 (aC (dT h8) (aC h9 (aC (bnF h10) (aO h11))))))))))) (by kernel_rfl)
theorem ref03_From_3 {a0 v1 v2 : ByteArray} {v6 : Bool} {v7 v8 v9 : List (List DV)} {v10 : Int} {v11 : Bool} {v12 v13 : List (List DV)} (h1 : Fn E F_ref03_split [.c (.str a0)] (.tup [.c (.str v1), .c (.str v2), .c (.bool true)])) (h2 : Fn E F_ref02_Valid [.c (.str v1)] (.c (.bool true))) (h3 : Fn E F_ref01_Valid [.c (.str v2)] (.c (.bool true))) (h4 : Fn E F_ref02_Read [.c (.str v1)] (.agg [.bool v6, .list v7])) (h5 : Fn E F_ref01_From [.c (.str v2)] (.c (.list v8))) (h6 : Fn E F_ref01_Small [.c (.u32 1)] (.c (.list v9))) (h7 : Fn E F_ref01_Cmp [.c (.list v8), .c (.list v9)] (.c (.i64 v10))) (h8 : ¬ v10 > 0) (h9 : Fn E F_ref03_Int [.c (.i64 0)] (.agg [.bool v11, .list v12, .list v13])) :
    Fn E F_ref03_From [.c (.str a0)] (.tup [.agg [.bool v11, .list v12, .list v13], .c (.bool false)]) := by
 exact fnMk [.v (.tup [.c (.str v1), .c (.str v2), .c (.bool true)]), .v (.c (.bool true)), .v (.c (.bool true)), .v (.agg [.bool v6, .list v7]), .v (.c (.list v8)), .v (.c (.list v9)), .v (.c (.i64 v10)), .t false, .v (.agg [.bool v11, .list v12, .list v13])] (by kernel_rfl) (by kernel_rfl) (aC h1 (aC h2 (aC h3 (aC h4 (aC h5 (aC h6 (aC h7 (aC (dF h8) (aO h9))))))))) (by kernel_rfl)
theorem ref03_From_4 {a0 v1 v2 : ByteArray} {v6 : Bool} {v7 v8 : List (List DV)} (h1 : Fn E F_ref03_split [.c (.str a0)] (.tup [.c (.str v1), .c (.str v2), .c (.bool false)])) (h2 : Fn E F_ref02_Valid [.c (.str v1)] (.c (.bool true))) (h3 : Fn E F_ref01_Valid [.c (.str v2)] (.c (.bool true))) (h4 : Fn E F_ref02_Read [.c (.str v1)] (.agg [.bool v6, .list v7])) (h5 : Fn E F_ref01_From [.c (.str v2)] (.c (.list v8))) :
    Fn E F_ref03_From [.c (.str a0)] (.tup [.agg [.bool v6, .list v7, .list v8], .c (.bool true)]) := by
 exact fnMk [.v (.tup [.c (.str v1), .c (.str v2), .c (.bool false)]), .v (.c (.bool true)), .v (.c (.bool true)), .v (.agg [.bool v6, .list v7]), .v (.c (.list v8))] (by kernel_rfl) (by kernel_rfl) (aC h1 (aC h2 (aC h3 (aC h4 (aO h5))))) (by kernel_rfl)
theorem ref03_From_5 {a0 v1 v2 : ByteArray} {v3 v6 : Bool} {v7 v8 : List (List DV)} (h1 : Fn E F_ref03_split [.c (.str a0)] (.tup [.c (.str v1), .c (.str v2), .c (.bool v3)])) (h2 : Fn E F_ref02_Valid [.c (.str v1)] (.c (.bool true))) (h3 : Fn E F_ref01_Valid [.c (.str v2)] (.c (.bool false))) (h4 : Fn E F_ref03_Int [.c (.i64 0)] (.agg [.bool v6, .list v7, .list v8])) :
    Fn E F_ref03_From [.c (.str a0)] (.tup [.agg [.bool v6, .list v7, .list v8], .c (.bool false)]) := by
 exact fnMk [.v (.tup [.c (.str v1), .c (.str v2), .c (.bool v3)]), .v (.c (.bool true)), .v (.c (.bool false)), .v (.agg [.bool v6, .list v7, .list v8])] (by kernel_rfl) (by kernel_rfl) (aC h1 (aC h2 (aC h3 (aO h4)))) (by kernel_rfl)
theorem ref03_From_6 {a0 v1 v2 : ByteArray} {v3 v5 : Bool} {v6 v7 : List (List DV)} (h1 : Fn E F_ref03_split [.c (.str a0)] (.tup [.c (.str v1), .c (.str v2), .c (.bool v3)])) (h2 : Fn E F_ref02_Valid [.c (.str v1)] (.c (.bool false))) (h3 : Fn E F_ref03_Int [.c (.i64 0)] (.agg [.bool v5, .list v6, .list v7])) :
    Fn E F_ref03_From [.c (.str a0)] (.tup [.agg [.bool v5, .list v6, .list v7], .c (.bool false)]) := by
 exact fnMk [.v (.tup [.c (.str v1), .c (.str v2), .c (.bool v3)]), .v (.c (.bool false)), .v (.agg [.bool v5, .list v6, .list v7])] (by kernel_rfl) (by kernel_rfl) (aC h1 (aC h2 (aO h3))) (by kernel_rfl)
theorem ref03_Less_0 {a0_0 : Bool} {a0_1 a0_2 : List (List DV)} {a1_0 : Bool} {a1_1 a1_2 : List (List DV)} {v1 : Int} (h1 : Fn E F_ref03_Cmp [.agg [.bool a0_0, .list a0_1, .list a0_2], .agg [.bool a1_0, .list a1_1, .list a1_2]] (.c (.i64 v1))) (h2 : v1 < 0) :
    Fn E F_ref03_Less [.agg [.bool a0_0, .list a0_1, .list a0_2], .agg [.bool a1_0, .list a1_1, .list a1_2]] (.c (.bool true)) := by
 exact fnMk [.v (.c (.i64 v1)), .t true] (by kernel_rfl) (by kernel_rfl) (aC h1 (aO (dT h2))) (by kernel_rfl)
theorem ref03_Less_1 {a0_0 : Bool} {a0_1 a0_2 : List (List DV)} {a1_0 : Bool} {a1_1 a1_2 : List (List DV)} {v1 : Int} (h1 : Fn E F_ref03_Cmp [.agg [.bool a0_0, .list a0_1, .list a0_2], .agg [.bool a1_0, .list a1_1, .list a1_2]] (.c (.i64 v1))) (h2 : ¬ v1 < 0) :
    Fn E F_ref03_Less [.agg [.bool a0_0, .list a0_1, .list a0_2], .agg [.bool a1_0, .list a1_1, .list a1_2]] (.c (.bool false)) := by
 exact fnMk [.v (.c (.i64 v1)), .t false] (by kernel_rfl) (by kernel_rfl) (aC h1 (aO (dF h2))) (by kernel_rfl)
theorem ref03_Neg_0 {a0_0 : Bool} {a0_1 a0_2 : List (List DV)} {v1 : Bool} {v2 : List (List DV)} (h1 : Fn E F_ref02_Opposite [.agg [.bool a0_0, .list a0_1]] (.agg [.bool v1, .list v2])) :
    Fn E F_ref03_Neg [.agg [.bool a0_0, .list a0_1, .list a0_2]] (.agg [.bool v1, .list v2, .list a0_2]) := by
 exact fnMk [.v (.agg [.bool v1, .list v2])] (by kernel_rfl) (by kernel_rfl) (aO h1) (by kernel_rfl)
theorem ref03_Mul_0 {a0_0 : Bool} {a0_1 a0_2 : List (List DV)} {a1_0 : Bool} {a1_1 a1_2 : List (List DV)} {v1 : Bool} {v2 v3 : List (List DV)} {v4 : Bool} {v5 v6 : List (List DV)} (h1 : Fn E F_ref02_Times [.agg [.bool a0_0, .list a0_1], .agg [.bool a1_0, .list a1_1]] (.agg [.bool v1, .list v2])) (h2 : Fn E F_ref01_Times [.c (.list a0_2), .c (.list a1_2)] (.c (.list v3))) (h3 : Fn E F_ref03_lowest [.agg [.bool v1, .list v2], .c (.list v3)] (.agg [.bool v4, .list v5, .list v6])) :
    Fn E F_ref03_Mul [.agg [.bool a0_0, .list a0_1, .list a0_2], .agg [.bool a1_0, .list a1_1, .list a1_2]] (.agg [.bool v4, .list v5, .list v6]) := by
 exact fnMk [.v (.agg [.bool v1, .list v2]), .v (.c (.list v3)), .v (.agg [.bool v4, .list v5, .list v6])] (by kernel_rfl) (by kernel_rfl) (aC h1 (aC h2 (aO h3))) (by kernel_rfl)
theorem ref03_Add_0 {a0_0 : Bool} {a0_1 a0_2 : List (List DV)} {a1_0 : Bool} {a1_1 a1_2 : List (List DV)} {v1 : Int} {v2 : Bool} {v3 : List (List DV)} {v4 : Bool} {v5 v6 : List (List DV)} (h1 : Fn E F_ref01_Cmp [.c (.list a0_2), .c (.list a1_2)] (.c (.i64 v1))) (h2 : v1 = 0) (h3 : Fn E F_ref02_Plus [.agg [.bool a0_0, .list a0_1], .agg [.bool a1_0, .list a1_1]] (.agg [.bool v2, .list v3])) (h4 : Fn E F_ref03_lowest [.agg [.bool v2, .list v3], .c (.list a0_2)] (.agg [.bool v4, .list v5, .list v6])) :
    Fn E F_ref03_Add [.agg [.bool a0_0, .list a0_1, .list a0_2], .agg [.bool a1_0, .list a1_1, .list a1_2]] (.agg [.bool v4, .list v5, .list v6]) := by
 exact fnMk [.v (.c (.i64 v1)), .t true, .v (.agg [.bool v2, .list v3]), .v (.agg [.bool v4, .list v5, .list v6])] (by kernel_rfl) (by kernel_rfl) (aC h1 (aC (beT h2) (aC h3 (aO h4)))) (by kernel_rfl)
theorem ref03_Add_1 {a0_0 : Bool} {a0_1 a0_2 : List (List DV)} {a1_0 : Bool} {a1_1 a1_2 : List (List DV)} {v1 : Int} {v2 : List (List DV)} {v3 : Bool} {v4 v5 : List (List DV)} {v6 : Bool} {v7 : List (List DV)} {v8 : Bool} {v9 v10 : List (List DV)} {v11 : Bool} {v12 v13 : List (List DV)} (h1 : Fn E F_ref01_Cmp [.c (.list a0_2), .c (.list a1_2)] (.c (.i64 v1))) (h2 : ¬ v1 = 0) (h3 : Fn E F_ref01_Times [.c (.list a0_1), .c (.list a1_2)] (.c (.list v2))) (h4 : Fn E F_ref02_Make [.c (.bool a0_0), .c (.list v2)] (.agg [.bool v3, .list v4])) (h5 : Fn E F_ref01_Times [.c (.list a1_1), .c (.list a0_2)] (.c (.list v5))) (h6 : Fn E F_ref02_Make [.c (.bool a1_0), .c (.list v5)] (.agg [.bool v6, .list v7])) (h7 : Fn E F_ref02_Plus [.agg [.bool v3, .list v4], .agg [.bool v6, .list v7]] (.agg [.bool v8, .list v9])) (h8 : Fn E F_ref01_Times [.c (.list a0_2), .c (.list a1_2)] (.c (.list v10))) (h9 : Fn E F_ref03_lowest [.agg [.bool v8, .list v9], .c (.list v10)] (.agg [.bool v11, .list v12, .list v13])) :
    Fn E F_ref03_Add [.agg [.bool a0_0, .list a0_1, .list a0_2], .agg [.bool a1_0, .list a1_1, .list a1_2]] (.agg [.bool v11, .list v12, .list v13]) := by
 exact fnMk [.v (.c (.i64 v1)), .t false, .v (.c (.list v2)), .v (.agg [.bool v3, .list v4]), .v (.c (.list v5)), .v (.agg [.bool v6, .list v7]), .v (.agg [.bool v8, .list v9]), .v (.c (.list v10)), .v (.agg [.bool v11, .list v12, .list v13])] (by kernel_rfl) (by kernel_rfl) (aC h1 (aC (beF h2) (aC h3 (aC h4 (aC h5 (aC h6 (aC h7 (aC h8 (aO h9))))))))) (by kernel_rfl)
theorem ref03_Sign_0 {a0_0 : Bool} {a0_1 a0_2 : List (List DV)} {v1 : Int} (h1 : Fn E F_ref02_Signum [.agg [.bool a0_0, .list a0_1]] (.c (.i64 v1))) :
    Fn E F_ref03_Sign [.agg [.bool a0_0, .list a0_1, .list a0_2]] (.c (.i64 v1)) := by
 exact fnMk [.v (.c (.i64 v1))] (by kernel_rfl) (by kernel_rfl) (aO h1) (by kernel_rfl)
theorem ref03_Int_0 {a0 : Int} {v1 : Bool} {v2 v3 : List (List DV)} (h1 : Fn E F_ref02_Small [.c (.i64 a0)] (.agg [.bool v1, .list v2])) (h2 : Fn E F_ref01_Small [.c (.u32 1)] (.c (.list v3))) :
    Fn E F_ref03_Int [.c (.i64 a0)] (.agg [.bool v1, .list v2, .list v3]) := by
 exact fnMk [.v (.agg [.bool v1, .list v2]), .v (.c (.list v3))] (by kernel_rfl) (by kernel_rfl) (aC h1 (aO h2)) (by kernel_rfl)
theorem ref03_Sub_0 {a0_0 : Bool} {a0_1 a0_2 : List (List DV)} {a1_0 : Bool} {a1_1 a1_2 : List (List DV)} {v1 : Bool} {v2 v3 : List (List DV)} {v4 : Bool} {v5 v6 : List (List DV)} (h1 : Fn E F_ref03_Neg [.agg [.bool a1_0, .list a1_1, .list a1_2]] (.agg [.bool v1, .list v2, .list v3])) (h2 : Fn E F_ref03_Add [.agg [.bool a0_0, .list a0_1, .list a0_2], .agg [.bool v1, .list v2, .list v3]] (.agg [.bool v4, .list v5, .list v6])) :
    Fn E F_ref03_Sub [.agg [.bool a0_0, .list a0_1, .list a0_2], .agg [.bool a1_0, .list a1_1, .list a1_2]] (.agg [.bool v4, .list v5, .list v6]) := by
 exact fnMk [.v (.agg [.bool v1, .list v2, .list v3]), .v (.agg [.bool v4, .list v5, .list v6])] (by kernel_rfl) (by kernel_rfl) (aC h1 (aO h2)) (by kernel_rfl)
theorem ref03_Div_0 {a0_0 : Bool} {a0_1 a0_2 : List (List DV)} {a1_0 : Bool} {a1_1 a1_2 : List (List DV)} {v1 : Bool} {v2 v3 : List (List DV)} {v4 : Bool} {v5 v6 : List (List DV)} (h1 : Fn E F_ref03_Inv [.agg [.bool a1_0, .list a1_1, .list a1_2]] (.agg [.bool v1, .list v2, .list v3])) (h2 : Fn E F_ref03_Mul [.agg [.bool a0_0, .list a0_1, .list a0_2], .agg [.bool v1, .list v2, .list v3]] (.agg [.bool v4, .list v5, .list v6])) :
    Fn E F_ref03_Div [.agg [.bool a0_0, .list a0_1, .list a0_2], .agg [.bool a1_0, .list a1_1, .list a1_2]] (.agg [.bool v4, .list v5, .list v6]) := by
 exact fnMk [.v (.agg [.bool v1, .list v2, .list v3]), .v (.agg [.bool v4, .list v5, .list v6])] (by kernel_rfl) (by kernel_rfl) (aC h1 (aO h2)) (by kernel_rfl)
theorem ref03_Least_0 {a0_0 : Bool} {a0_1 a0_2 : List (List DV)} {a1_0 : Bool} {a1_1 a1_2 : List (List DV)} {v1 : Int} (h1 : Fn E F_ref03_Cmp [.agg [.bool a0_0, .list a0_1, .list a0_2], .agg [.bool a1_0, .list a1_1, .list a1_2]] (.c (.i64 v1))) (h2 : v1 ≤ 0) :
    Fn E F_ref03_Least [.agg [.bool a0_0, .list a0_1, .list a0_2], .agg [.bool a1_0, .list a1_1, .list a1_2]] (.agg [.bool a0_0, .list a0_1, .list a0_2]) := by
 exact fnMk [.v (.c (.i64 v1)), .t true] (by kernel_rfl) (by kernel_rfl) (aC h1 (aO (dT h2))) (by kernel_rfl)
theorem ref03_Least_1 {a0_0 : Bool} {a0_1 a0_2 : List (List DV)} {a1_0 : Bool} {a1_1 a1_2 : List (List DV)} {v1 : Int} (h1 : Fn E F_ref03_Cmp [.agg [.bool a0_0, .list a0_1, .list a0_2], .agg [.bool a1_0, .list a1_1, .list a1_2]] (.c (.i64 v1))) (h2 : ¬ v1 ≤ 0) :
    Fn E F_ref03_Least [.agg [.bool a0_0, .list a0_1, .list a0_2], .agg [.bool a1_0, .list a1_1, .list a1_2]] (.agg [.bool a1_0, .list a1_1, .list a1_2]) := by
 exact fnMk [.v (.c (.i64 v1)), .t false] (by kernel_rfl) (by kernel_rfl) (aC h1 (aO (dF h2))) (by kernel_rfl)
theorem ref03_Most_0 {a0_0 : Bool} {a0_1 a0_2 : List (List DV)} {a1_0 : Bool} {a1_1 a1_2 : List (List DV)} {v1 : Int} (h1 : Fn E F_ref03_Cmp [.agg [.bool a0_0, .list a0_1, .list a0_2], .agg [.bool a1_0, .list a1_1, .list a1_2]] (.c (.i64 v1))) (h2 : v1 ≥ 0) :
    Fn E F_ref03_Most [.agg [.bool a0_0, .list a0_1, .list a0_2], .agg [.bool a1_0, .list a1_1, .list a1_2]] (.agg [.bool a0_0, .list a0_1, .list a0_2]) := by
 exact fnMk [.v (.c (.i64 v1)), .t true] (by kernel_rfl) (by kernel_rfl) (aC h1 (aO (dT h2))) (by kernel_rfl)
theorem ref03_Most_1 {a0_0 : Bool} {a0_1 a0_2 : List (List DV)} {a1_0 : Bool} {a1_1 a1_2 : List (List DV)} {v1 : Int} (h1 : Fn E F_ref03_Cmp [.agg [.bool a0_0, .list a0_1, .list a0_2], .agg [.bool a1_0, .list a1_1, .list a1_2]] (.c (.i64 v1))) (h2 : ¬ v1 ≥ 0) :
    Fn E F_ref03_Most [.agg [.bool a0_0, .list a0_1, .list a0_2], .agg [.bool a1_0, .list a1_1, .list a1_2]] (.agg [.bool a1_0, .list a1_1, .list a1_2]) := by
 exact fnMk [.v (.c (.i64 v1)), .t false] (by kernel_rfl) (by kernel_rfl) (aC h1 (aO (dF h2))) (by kernel_rfl)
theorem ref03_Valid_0 {a0 : ByteArray} {v1 : Bool} {v2 v3 : List (List DV)} {v4 : Bool} (h1 : Fn E F_ref03_From [.c (.str a0)] (.tup [.agg [.bool v1, .list v2, .list v3], .c (.bool v4)])) :
    Fn E F_ref03_Valid [.c (.str a0)] (.c (.bool v4)) := by
 exact fnMk [.v (.tup [.agg [.bool v1, .list v2, .list v3], .c (.bool v4)])] (by kernel_rfl) (by kernel_rfl) (aO h1) (by kernel_rfl)
theorem ref03_Inv_0 {a0_0 : Bool} {a0_1 a0_2 : List (List DV)} {v1 : Bool} {v2 : List (List DV)} (h1 : Fn E F_ref02_Make [.c (.bool a0_0), .c (.list a0_2)] (.agg [.bool v1, .list v2])) :
    Fn E F_ref03_Inv [.agg [.bool a0_0, .list a0_1, .list a0_2]] (.agg [.bool v1, .list v2, .list a0_1]) := by
 exact fnMk [.v (.agg [.bool v1, .list v2])] (by kernel_rfl) (by kernel_rfl) (aO h1) (by kernel_rfl)
def ref03_split_L0 (x0 : ByteArray) (x5 : Int) : St := stOf 24 [(0, .c (.str x0)), (5, .c (.i64 x5))] []
def ref03_split_L0e0 (x2' : ByteArray) (x3' : ByteArray) : St := stOf 24 [(2, .c (.str x2')), (3, .c (.str x3')), (4, .c (.bool true))] []
def ref03_split_L0e1 (x0 : ByteArray) : St := stOf 24 [(0, .c (.str x0))] []
theorem ref03_split_L0_r0 {x0 : ByteArray} {x5 v1 v2 : Int} (e1 : ((x0.data.toList.getD (Int.toNat x5) 0).toNat : Int) = v1) (e2 : IntKind.i64.wrap (x5 + 1) = v2) (h1 : x5 < (x0.size : Int)) (h2 : 0 ≤ x5 ∧ x5 < x0.size) (h3 : ¬ v1 = 47) {o : Out} {st' : St} (ih : Lp E 0 F_ref03_split 0 (ref03_split_L0 x0 v2) o st') :
    Lp E 0 F_ref03_split 0 (ref03_split_L0 x0 x5) o st' := by
 subst e1 e2
 exact lpOn _ [0, 5] [.t true, .t false] (aC (dT h1) (aC h2 (aO (beF h3)))) (by kernel_rfl) ih
theorem ref03_split_L0e0_x0 {x0 : ByteArray} {x5 v1 : Int} {v2 : ByteArray} {v3 : Int} {v4 : ByteArray} (e1 : ((x0.data.toList.getD (Int.toNat x5) 0).toNat : Int) = v1) (e2 : x0.extract 0 (Int.toNat x5) = v2) (e3 : IntKind.i64.wrap (x5 + 1) = v3) (e4 : x0.extract (Int.toNat v3) (Int.toNat (x0.size : Int)) = v4) (h1 : x5 < (x0.size : Int)) (h2 : 0 ≤ x5 ∧ x5 < x0.size) (h3 : v1 = 47) (h4 : 0 ≤ (0 : Int) ∧ (0 : Int) ≤ x5 ∧ x5 ≤ x0.size) (h5 : 0 ≤ v3 ∧ v3 ≤ (x0.size : Int) ∧ (x0.size : Int) ≤ x0.size) :
    Lp E 0 F_ref03_split 0 (ref03_split_L0 x0 x5) .ret (ref03_split_L0e0 v2 v4) := by
 subst e1 e2 e3 e4
 exact lpOff [2, 3, 4] [.t true, .t true] (aC (dT h1) (aC h2 (aC (beT h3) (aC h4 (aO h5))))) (by kernel_rfl) (by simp)
theorem ref03_split_L0e1_x0 {x0 : ByteArray} {x5 : Int} (h1 : ¬ x5 < (x0.size : Int)) :
    Lp E 0 F_ref03_split 0 (ref03_split_L0 x0 x5) (.exit 0) (ref03_split_L0e1 x0) := by
 exact lpOff [0] [.t false] (aO (dF h1)) (by kernel_rfl) (by simp)
theorem ref03_split_0 {a0 v1 v2 : ByteArray} (h1 : Lp E 0 F_ref03_split 0 (ref03_split_L0 a0 0) .ret (ref03_split_L0e0 v1 v2)) :
    Fn E F_ref03_split [.c (.str a0)] (.tup [.c (.str v1), .c (.str v2), .c (.bool true)]) := by
 exact fnMk [.loop [0, 5] [] .ret (ref03_split_L0e0 v1 v2)] (by kernel_rfl) (by kernel_rfl) (aO h1) (by kernel_rfl)
theorem ref03_split_1 {a0 : ByteArray} (h1 : Lp E 0 F_ref03_split 0 (ref03_split_L0 a0 0) (.exit 0) (ref03_split_L0e1 a0)) :
    Fn E F_ref03_split [.c (.str a0)] (.tup [.c (.str a0), .c (.str ⟨#[49]⟩), .c (.bool false)]) := by
 exact fnMk [.loop [0, 5] [] (.exit 0) (ref03_split_L0e1 a0)] (by kernel_rfl) (by kernel_rfl) (aO h1) (by kernel_rfl)
theorem ref03_Cmp_0 {a0_0 : Bool} {a0_1 a0_2 : List (List DV)} {a1_0 : Bool} {a1_1 a1_2 : List (List DV)} {v1 v2 : Int} (h1 : Fn E F_ref03_Sign [.agg [.bool a0_0, .list a0_1, .list a0_2]] (.c (.i64 v1))) (h2 : Fn E F_ref03_Sign [.agg [.bool a1_0, .list a1_1, .list a1_2]] (.c (.i64 v2))) (h3 : ¬ v1 = v2) (h4 : v1 < v2) :
    Fn E F_ref03_Cmp [.agg [.bool a0_0, .list a0_1, .list a0_2], .agg [.bool a1_0, .list a1_1, .list a1_2]] (.c (.i64 (-1))) := by
 exact fnMk [.v (.c (.i64 v1)), .v (.c (.i64 v2)), .t true, .t true] (by kernel_rfl) (by kernel_rfl) (aC h1 (aC h2 (aC (bnT h3) (aO (dT h4))))) (by kernel_rfl)
theorem ref03_Cmp_1 {a0_0 : Bool} {a0_1 a0_2 : List (List DV)} {a1_0 : Bool} {a1_1 a1_2 : List (List DV)} {v1 v2 : Int} (h1 : Fn E F_ref03_Sign [.agg [.bool a0_0, .list a0_1, .list a0_2]] (.c (.i64 v1))) (h2 : Fn E F_ref03_Sign [.agg [.bool a1_0, .list a1_1, .list a1_2]] (.c (.i64 v2))) (h3 : ¬ v1 = v2) (h4 : ¬ v1 < v2) :
    Fn E F_ref03_Cmp [.agg [.bool a0_0, .list a0_1, .list a0_2], .agg [.bool a1_0, .list a1_1, .list a1_2]] (.c (.i64 1)) := by
 exact fnMk [.v (.c (.i64 v1)), .v (.c (.i64 v2)), .t true, .t false] (by kernel_rfl) (by kernel_rfl) (aC h1 (aC h2 (aC (bnT h3) (aO (dF h4))))) (by kernel_rfl)
theorem ref03_Cmp_2 {a0_0 : Bool} {a0_1 a0_2 : List (List DV)} {a1_0 : Bool} {a1_1 a1_2 : List (List DV)} {v1 v2 : Int} {v3 : List (List DV)} {v4 : Bool} {v5 v6 : List (List DV)} {v7 : Bool} {v8 : List (List DV)} {v9 : Int} (h1 : Fn E F_ref03_Sign [.agg [.bool a0_0, .list a0_1, .list a0_2]] (.c (.i64 v1))) (h2 : Fn E F_ref03_Sign [.agg [.bool a1_0, .list a1_1, .list a1_2]] (.c (.i64 v2))) (h3 : v1 = v2) (h4 : Fn E F_ref01_Times [.c (.list a0_1), .c (.list a1_2)] (.c (.list v3))) (h5 : Fn E F_ref02_Make [.c (.bool a0_0), .c (.list v3)] (.agg [.bool v4, .list v5])) (h6 : Fn E F_ref01_Times [.c (.list a1_1), .c (.list a0_2)] (.c (.list v6))) (h7 : Fn E F_ref02_Make [.c (.bool a1_0), .c (.list v6)] (.agg [.bool v7, .list v8])) (h8 : Fn E F_ref02_Cmp [.agg [.bool v4, .list v5], .agg [.bool v7, .list v8]] (.c (.i64 v9))) :
    Fn E F_ref03_Cmp [.agg [.bool a0_0, .list a0_1, .list a0_2], .agg [.bool a1_0, .list a1_1, .list a1_2]] (.c (.i64 v9)) := by
 exact fnMk [.v (.c (.i64 v1)), .v (.c (.i64 v2)), .t false, .v (.c (.list v3)), .v (.agg [.bool v4, .list v5]), .v (.c (.list v6)), .v (.agg [.bool v7, .list v8]), .v (.c (.i64 v9))] (by kernel_rfl) (by kernel_rfl) (aC h1 (aC h2 (aC (bnF h3) (aC h4 (aC h5 (aC h6 (aC h7 (aO h8)))))))) (by kernel_rfl)
theorem ref03_lowest_0 {a0_0 : Bool} {a0_1 a1 v1 : List (List DV)} {v2 : Int} (h1 : Fn E F_ref01_Common [.c (.list a0_1), .c (.list a1)] (.c (.list v1))) (h2 : (v1.length : Int) = 1) (h3 : v1[0]? = some [.u32 v2]) (h4 : v2 = 1) :
    Fn E F_ref03_lowest [.agg [.bool a0_0, .list a0_1], .c (.list a1)] (.agg [.bool a0_0, .list a0_1, .list a1]) := by
 exact fnMk [.v (.c (.list v1)), .t true, .d [.u32 v2], .t true] (by kernel_rfl) (by kernel_rfl) (aC h1 (aC (beT h2) (aC (show (0 : Int) ≤ 0 from by decide) (aC h3 (aO (beT h4)))))) (by kernel_rfl)
theorem ref03_lowest_1 {a0_0 : Bool} {a0_1 a1 v1 : List (List DV)} {v2 : Int} {v3 v4 v5 v6 : List (List DV)} {v7 : Bool} {v8 : List (List DV)} (h1 : Fn E F_ref01_Common [.c (.list a0_1), .c (.list a1)] (.c (.list v1))) (h2 : (v1.length : Int) = 1) (h3 : v1[0]? = some [.u32 v2]) (h4 : ¬ v2 = 1) (h5 : Fn E F_ref01_Over [.c (.list a0_1), .c (.list v1)] (.tup [.c (.list v3), .c (.list v4)])) (h6 : Fn E F_ref01_Over [.c (.list a1), .c (.list v1)] (.tup [.c (.list v5), .c (.list v6)])) (h7 : Fn E F_ref02_Make [.c (.bool a0_0), .c (.list v3)] (.agg [.bool v7, .list v8])) :
    Fn E F_ref03_lowest [.agg [.bool a0_0, .list a0_1], .c (.list a1)] (.agg [.bool v7, .list v8, .list v5]) := by
 exact fnMk [.v (.c (.list v1)), .t true, .d [.u32 v2], .t false, .v (.tup [.c (.list v3), .c (.list v4)]), .v (.tup [.c (.list v5), .c (.list v6)]), .v (.agg [.bool v7, .list v8])] (by kernel_rfl) (by kernel_rfl) (aC h1 (aC (beT h2) (aC (show (0 : Int) ≤ 0 from by decide) (aC h3 (aC (beF h4) (aC h5 (aC h6 (aO h7)))))))) (by kernel_rfl)
theorem ref03_lowest_2 {a0_0 : Bool} {a0_1 a1 v1 v2 v3 v4 v5 : List (List DV)} {v6 : Bool} {v7 : List (List DV)} (h1 : Fn E F_ref01_Common [.c (.list a0_1), .c (.list a1)] (.c (.list v1))) (h2 : ¬ (v1.length : Int) = 1) (h3 : Fn E F_ref01_Over [.c (.list a0_1), .c (.list v1)] (.tup [.c (.list v2), .c (.list v3)])) (h4 : Fn E F_ref01_Over [.c (.list a1), .c (.list v1)] (.tup [.c (.list v4), .c (.list v5)])) (h5 : Fn E F_ref02_Make [.c (.bool a0_0), .c (.list v2)] (.agg [.bool v6, .list v7])) :
    Fn E F_ref03_lowest [.agg [.bool a0_0, .list a0_1], .c (.list a1)] (.agg [.bool v6, .list v7, .list v4]) := by
 exact fnMk [.v (.c (.list v1)), .t false, .v (.tup [.c (.list v2), .c (.list v3)]), .v (.tup [.c (.list v4), .c (.list v5)]), .v (.agg [.bool v6, .list v7])] (by kernel_rfl) (by kernel_rfl) (aC h1 (aC (beF h2) (aC h3 (aC h4 (aO h5))))) (by kernel_rfl)
end Gev
namespace Gev
open Go Go.Proofs
variable {E : Env}
theorem ref47_Num_0 {a0 : ByteArray} {v1 : Bool} {v2 v3 : List (List DV)} {v4 : Bool} (h1 : Fn E F_ref03_From [.c (.str a0)] (.tup [.agg [.bool v1, .list v2, .list v3], .c (.bool v4)])) :
    Fn E F_ref47_Num [.c (.str a0)] (.agg [.bool v1, .list v2, .list v3]) := by
 exact fnMk [.v (.tup [.agg [.bool v1, .list v2, .list v3], .c (.bool v4)])] (by kernel_rfl) (by kernel_rfl) (aO h1) (by kernel_rfl)
end Gev
namespace Gev
open Go Go.Proofs
variable {E : Env}
def slices_Equal_Rat_L0 (x0 : List (List DV)) (x1 : List (List DV)) (x12 : Int) (x13 : Int) : St := stOf 26 [(0, .c (.list x0)), (1, .c (.list x1)), (12, .c (.i64 x12)), (13, .c (.i64 x13))] []
def slices_Equal_Rat_L0e1 : St := stOf 26 [] []
theorem slices_Equal_Rat_L0_r0 {x0 x1 : List (List DV)} {x12 x13 : Int} {v1 v2 : ByteArray} {v3 : Int} (e1 : IntKind.i64.wrap (x13 + 1) = v3) (h1 : x13 < x12) (h2 : 0 ≤ x13) (h3 : x0[(Int.toNat x13)]? = some [.str v1]) (h4 : x1[(Int.toNat x13)]? = some [.str v2]) (h5 : v1 = v2) {o : Out} {st' : St} (ih : Lp E 0 F_slices_Equal_Rat 0 (slices_Equal_Rat_L0 x0 x1 x12 v3) o st') :
    Lp E 0 F_slices_Equal_Rat 0 (slices_Equal_Rat_L0 x0 x1 x12 x13) o st' := by
 subst e1
 exact lpOn _ [0, 1, 12, 13] [.t true, .d [.str v1], .d [.str v2], .t false] (aC (dT h1) (aC h2 (aC h3 (aC h2 (aC h4 (aO (snF h5))))))) (by kernel_rfl) ih
theorem slices_Equal_Rat_L0e1_x0 {x0 x1 : List (List DV)} {x12 x13 : Int} (h1 : ¬ x13 < x12) :
    Lp E 0 F_slices_Equal_Rat 0 (slices_Equal_Rat_L0 x0 x1 x12 x13) (.exit 0) (slices_Equal_Rat_L0e1) := by
 exact lpOff [] [.t false] (aO (dF h1)) (by kernel_rfl) (by simp)
theorem slices_Equal_Rat_2 {a0 a1 : List (List DV)} (h1 : (a0.length : Int) = (a1.length : Int)) (h2 : Lp E 0 F_slices_Equal_Rat 0 (slices_Equal_Rat_L0 a0 a1 (a0.length : Int) 0) (.exit 0) (slices_Equal_Rat_L0e1)) :
    Fn E F_slices_Equal_Rat [.c (.list a0), .c (.list a1)] (.c (.bool true)) := by
 exact fnMk [.t false, .loop [0, 1, 12, 13] [] (.exit 0) (slices_Equal_Rat_L0e1)] (by kernel_rfl) (by kernel_rfl) (aC (bnF h1) (aO h2)) (by kernel_rfl)
def slices_Reverse_Lump_L0 (x0 : Nat) (x2 : Int) (x3 : Int) (w0 : List (List DV)) (c1_0 : ByteArray) (c1_1 : ByteArray) (w2 : List (List DV)) : St := stOf 28 [(0, .vec 2 x0), (2, .c (.i64 x2)), (3, .c (.i64 x3))] [some (.fro w0), some (.cells [.c (.str c1_0), .c (.str c1_1)]), some (.vec T_api_Lump w2)]
def slices_Reverse_Lump_L0e0 (w0 : List (List DV)) (c1_0 : ByteArray) (c1_1 : ByteArray) (w2' : List (List DV)) : St := stOf 28 [] [some (.fro w0), some (.cells [.c (.str c1_0), .c (.str c1_1)]), some (.vec T_api_Lump w2')]
theorem slices_Reverse_Lump_L0_r0 {x0 : Nat} {x2 x3 : Int} {w0 : List (List DV)} {c1_0 c1_1 : ByteArray} {w2 : List (List DV)} {v1 v2 v3 v4 : ByteArray} {v5 : List (List DV)} {v6 v7 : ByteArray} {v8 : List (List DV)} {v9 v10 : Int} (e1 : List.set w2 (Int.toNat x2) [.str v1, .str v2] = v5) (e2 : List.set v5 (Int.toNat x3) [.str v3, .str v4] = v8) (e3 : IntKind.i64.wrap (x2 + 1) = v9) (e4 : IntKind.i64.wrap (x3 - 1) = v10) (h1 : x2 < x3) (h2 : 0 ≤ x3 ∧ x3 < ((x0 : Nat) : Int)) (h3 : w2[(Int.toNat x3)]? = some [.str v1, .str v2]) (h4 : 0 ≤ x2 ∧ x2 < ((x0 : Nat) : Int)) (h5 : w2[(Int.toNat x2)]? = some [.str v3, .str v4]) (h6 : v5[(Int.toNat x3)]? = some [.str v6, .str v7]) {o : Out} {st' : St} (ih : Lp E 3 F_slices_Reverse_Lump 0 (slices_Reverse_Lump_L0 x0 v9 v10 w0 c1_0 c1_1 v8) o st') :
    Lp E 3 F_slices_Reverse_Lump 0 (slices_Reverse_Lump_L0 x0 x2 x3 w0 c1_0 c1_1 w2) o st' := by
 subst e1 e2 e3 e4
 exact lpOn _ [0, 2, 3] [.t true, .d [.str v1, .str v2], .d [.str v3, .str v4], .d [.str v3, .str v4], .d [.str v6, .str v7]] (aC (dT h1) (aC h2 (aC h3 (aC h4 (aC h5 (aC h4 (aC h5 (aC h2 (aO h6))))))))) (by kernel_rfl) ih
theorem slices_Reverse_Lump_L0e0_x0 {x0 : Nat} {x2 x3 : Int} {w0 : List (List DV)} {c1_0 c1_1 : ByteArray} {w2 : List (List DV)} (h1 : ¬ x2 < x3) :
    Lp E 3 F_slices_Reverse_Lump 0 (slices_Reverse_Lump_L0 x0 x2 x3 w0 c1_0 c1_1 w2) (.exit 0) (slices_Reverse_Lump_L0e0 w0 c1_0 c1_1 w2) := by
 exact lpOff [] [.t false] (aO (dF h1)) (by kernel_rfl) (by simp)
theorem slices_Reverse_Lump_0 {w0 : List (List DV)} {c1_0 c1_1 : ByteArray} {w2 : List (List DV)} {a0 : Nat} {v1 : Int} {v2 : List (List DV)} (e1 : IntKind.i64.wrap (((a0 : Nat) : Int) - 1) = v1) (h1 : Lp E 3 F_slices_Reverse_Lump 0 (slices_Reverse_Lump_L0 a0 0 v1 w0 c1_0 c1_1 w2) (.exit 0) (slices_Reverse_Lump_L0e0 w0 c1_0 c1_1 v2)) :
    Rn E F_slices_Reverse_Lump [.vec 2 a0] [some (.fro w0), some (.cells [.c (.str c1_0), .c (.str c1_1)]), some (.vec T_api_Lump w2)] (.tup []) [some (.fro w0), some (.cells [.c (.str c1_0), .c (.str c1_1)]), some (.vec T_api_Lump v2)] := by
 subst e1
 exact rnMk [.loop [0, 2, 3] [] (.exit 0) (slices_Reverse_Lump_L0e0 w0 c1_0 c1_1 v2)] (by kernel_rfl) (aO h1) (by kernel_rfl)
theorem slices_ContainsFunc_Lump__incline_Correct_1_0 {a0 : List (List DV)} {v1 : Int} (h1 : Fn E F_slices_IndexFunc_Lump [.c (.list a0), .fn F_incline_Correct_1 []] (.c (.i64 v1))) (h2 : v1 ≥ 0) :
    Fn E F_slices_ContainsFunc_Lump [.c (.list a0), .fn F_incline_Correct_1 []] (.c (.bool true)) := by
 exact fnMk [.v (.c (.i64 v1)), .t true] (by kernel_rfl) (by kernel_rfl) (aC h1 (aO (dT h2))) (by kernel_rfl)
theorem slices_ContainsFunc_Lump__incline_Correct_1_1 {a0 : List (List DV)} {v1 : Int} (h1 : Fn E F_slices_IndexFunc_Lump [.c (.list a0), .fn F_incline_Correct_1 []] (.c (.i64 v1))) (h2 : ¬ v1 ≥ 0) :
    Fn E F_slices_ContainsFunc_Lump [.c (.list a0), .fn F_incline_Correct_1 []] (.c (.bool false)) := by
 exact fnMk [.v (.c (.i64 v1)), .t false] (by kernel_rfl) (by kernel_rfl) (aC h1 (aO (dF h2))) (by kernel_rfl)
theorem slices_ContainsFunc_Shift__incline_right_1_0 {a0 : List (List DV)} {v1 : Int} (h1 : Fn E F_slices_IndexFunc_Shift [.c (.list a0), .fn F_incline_right_1 []] (.c (.i64 v1))) (h2 : v1 ≥ 0) :
    Fn E F_slices_ContainsFunc_Shift [.c (.list a0), .fn F_incline_right_1 []] (.c (.bool true)) := by
 exact fnMk [.v (.c (.i64 v1)), .t true] (by kernel_rfl) (by kernel_rfl) (aC h1 (aO (dT h2))) (by kernel_rfl)
theorem slices_ContainsFunc_Shift__incline_right_1_1 {a0 : List (List DV)} {v1 : Int} (h1 : Fn E F_slices_IndexFunc_Shift [.c (.list a0), .fn F_incline_right_1 []] (.c (.i64 v1))) (h2 : ¬ v1 ≥ 0) :
    Fn E F_slices_ContainsFunc_Shift [.c (.list a0), .fn F_incline_right_1 []] (.c (.bool false)) := by
 exact fnMk [.v (.c (.i64 v1)), .t false] (by kernel_rfl) (by kernel_rfl) (aC h1 (aO (dF h2))) (by kernel_rfl)
theorem slices_ContainsFunc_Rat__incline_valid_1_0 {a0 : List (List DV)} {v1 : Int} (h1 : Fn E F_slices_IndexFunc_Rat [.c (.list a0), .fn F_incline_valid_1 []] (.c (.i64 v1))) (h2 : v1 ≥ 0) :
    Fn E F_slices_ContainsFunc_Rat [.c (.list a0), .fn F_incline_valid_1 []] (.c (.bool true)) := by
 exact fnMk [.v (.c (.i64 v1)), .t true] (by kernel_rfl) (by kernel_rfl) (aC h1 (aO (dT h2))) (by kernel_rfl)
theorem slices_ContainsFunc_Rat__incline_valid_1_1 {a0 : List (List DV)} {v1 : Int} (h1 : Fn E F_slices_IndexFunc_Rat [.c (.list a0), .fn F_incline_valid_1 []] (.c (.i64 v1))) (h2 : ¬ v1 ≥ 0) :
    Fn E F_slices_ContainsFunc_Rat [.c (.list a0), .fn F_incline_valid_1 []] (.c (.bool false)) := by
 exact fnMk [.v (.c (.i64 v1)), .t false] (by kernel_rfl) (by kernel_rfl) (aC h1 (aO (dF h2))) (by kernel_rfl)
def slices_IndexFunc_Lump_L0 (x0 : List (List DV)) (x7 : Int) (x8 : Int) : St := stOf 19 [(0, .c (.list x0)), (1, .fn F_incline_Correct_1 []), (7, .c (.i64 x7)), (8, .c (.i64 x8))] []
def slices_IndexFunc_Lump_L0e0 (x4' : Int) : St := stOf 19 [(4, .c (.i64 x4'))] []
def slices_IndexFunc_Lump_L0e1 : St := stOf 19 [] []
theorem slices_IndexFunc_Lump_L0_r0 {x0 : List (List DV)} {x7 x8 : Int} {v1 v2 : ByteArray} {v4 : Int} (e1 : IntKind.i64.wrap (x8 + 1) = v4) (h1 : x8 < x7) (h2 : 0 ≤ x8) (h3 : x0[(Int.toNat x8)]? = some [.str v1, .str v2]) (h4 : Fn E F_incline_Correct_1 [.agg [.str v1, .str v2]] (.c (.bool false))) {o : Out} {st' : St} (ih : Lp E 0 F_slices_IndexFunc_Lump 0 (slices_IndexFunc_Lump_L0 x0 x7 v4) o st') :
    Lp E 0 F_slices_IndexFunc_Lump 0 (slices_IndexFunc_Lump_L0 x0 x7 x8) o st' := by
 subst e1
 exact lpOn _ [0, 1, 7, 8] [.t true, .d [.str v1, .str v2], .v (.c (.bool false))] (aC (dT h1) (aC h2 (aC h3 (aO h4)))) (by kernel_rfl) ih
theorem slices_IndexFunc_Lump_L0e0_x0 {x0 : List (List DV)} {x7 x8 : Int} {v1 v2 : ByteArray} (h1 : x8 < x7) (h2 : 0 ≤ x8) (h3 : x0[(Int.toNat x8)]? = some [.str v1, .str v2]) (h4 : Fn E F_incline_Correct_1 [.agg [.str v1, .str v2]] (.c (.bool true))) :
    Lp E 0 F_slices_IndexFunc_Lump 0 (slices_IndexFunc_Lump_L0 x0 x7 x8) .ret (slices_IndexFunc_Lump_L0e0 x8) := by
 exact lpOff [4] [.t true, .d [.str v1, .str v2], .v (.c (.bool true))] (aC (dT h1) (aC h2 (aC h3 (aO h4)))) (by kernel_rfl) (by simp)
theorem slices_IndexFunc_Lump_L0e1_x0 {x0 : List (List DV)} {x7 x8 : Int} (h1 : ¬ x8 < x7) :
    Lp E 0 F_slices_IndexFunc_Lump 0 (slices_IndexFunc_Lump_L0 x0 x7 x8) (.exit 0) (slices_IndexFunc_Lump_L0e1) := by
 exact lpOff [] [.t false] (aO (dF h1)) (by kernel_rfl) (by simp)
theorem slices_IndexFunc_Lump__incline_Correct_1_0 {a0 : List (List DV)} {v1 : Int} (h1 : Lp E 0 F_slices_IndexFunc_Lump 0 (slices_IndexFunc_Lump_L0 a0 (a0.length : Int) 0) .ret (slices_IndexFunc_Lump_L0e0 v1)) :
    Fn E F_slices_IndexFunc_Lump [.c (.list a0), .fn F_incline_Correct_1 []] (.c (.i64 v1)) := by
 exact fnMk [.loop [0, 1, 7, 8] [] .ret (slices_IndexFunc_Lump_L0e0 v1)] (by kernel_rfl) (by kernel_rfl) (aO h1) (by kernel_rfl)
theorem slices_IndexFunc_Lump__incline_Correct_1_1 {a0 : List (List DV)} (h1 : Lp E 0 F_slices_IndexFunc_Lump 0 (slices_IndexFunc_Lump_L0 a0 (a0.length : Int) 0) (.exit 0) (slices_IndexFunc_Lump_L0e1)) :
    Fn E F_slices_IndexFunc_Lump [.c (.list a0), .fn F_incline_Correct_1 []] (.c (.i64 (-1))) := by
 exact fnMk [.loop [0, 1, 7, 8] [] (.exit 0) (slices_IndexFunc_Lump_L0e1)] (by kernel_rfl) (by kernel_rfl) (aO h1) (by kernel_rfl)
def slices_IndexFunc_Shift_L0 (x0 : List (List DV)) (x7 : Int) (x8 : Int) : St := stOf 19 [(0, .c (.list x0)), (1, .fn F_incline_right_1 []), (7, .c (.i64 x7)), (8, .c (.i64 x8))] []
def slices_IndexFunc_Shift_L0e0 (x4' : Int) : St := stOf 19 [(4, .c (.i64 x4'))] []
def slices_IndexFunc_Shift_L0e1 : St := stOf 19 [] []
theorem slices_IndexFunc_Shift_L0_r0 {x0 : List (List DV)} {x7 x8 : Int} {v1 v2 : ByteArray} {v4 : Int} (e1 : IntKind.i64.wrap (x8 + 1) = v4) (h1 : x8 < x7) (h2 : 0 ≤ x8) (h3 : x0[(Int.toNat x8)]? = some [.str v1, .str v2]) (h4 : Fn E F_incline_right_1 [.agg [.str v1, .str v2]] (.c (.bool false))) {o : Out} {st' : St} (ih : Lp E 0 F_slices_IndexFunc_Shift 0 (slices_IndexFunc_Shift_L0 x0 x7 v4) o st') :
    Lp E 0 F_slices_IndexFunc_Shift 0 (slices_IndexFunc_Shift_L0 x0 x7 x8) o st' := by
 subst e1
 exact lpOn _ [0, 1, 7, 8] [.t true, .d [.str v1, .str v2], .v (.c (.bool false))] (aC (dT h1) (aC h2 (aC h3 (aO h4)))) (by kernel_rfl) ih
theorem slices_IndexFunc_Shift_L0e0_x0 {x0 : List (List DV)} {x7 x8 : Int} {v1 v2 : ByteArray} (h1 : x8 < x7) (h2 : 0 ≤ x8) (h3 : x0[(Int.toNat x8)]? = some [.str v1, .str v2]) (h4 : Fn E F_incline_right_1 [.agg [.str v1, .str v2]] (.c (.bool true))) :
    Lp E 0 F_slices_IndexFunc_Shift 0 (slices_IndexFunc_Shift_L0 x0 x7 x8) .ret (slices_IndexFunc_Shift_L0e0 x8) := by
 exact lpOff [4] [.t true, .d [.str v1, .str v2], .v (.c (.bool true))] (aC (dT h1) (aC h2 (aC h3 (aO h4)))) (by kernel_rfl) (by simp)
theorem slices_IndexFunc_Shift_L0e1_x0 {x0 : List (List DV)} {x7 x8 : Int} (h1 : ¬ x8 < x7) :
    Lp E 0 F_slices_IndexFunc_Shift 0 (slices_IndexFunc_Shift_L0 x0 x7 x8) (.exit 0) (slices_IndexFunc_Shift_L0e1) := by
 exact lpOff [] [.t false] (aO (dF h1)) (by kernel_rfl) (by simp)
theorem slices_IndexFunc_Shift__incline_right_1_0 {a0 : List (List DV)} {v1 : Int} (h1 : Lp E 0 F_slices_IndexFunc_Shift 0 (slices_IndexFunc_Shift_L0 a0 (a0.length : Int) 0) .ret (slices_IndexFunc_Shift_L0e0 v1)) :
    Fn E F_slices_IndexFunc_Shift [.c (.list a0), .fn F_incline_right_1 []] (.c (.i64 v1)) := by
 exact fnMk [.loop [0, 1, 7, 8] [] .ret (slices_IndexFunc_Shift_L0e0 v1)] (by kernel_rfl) (by kernel_rfl) (aO h1) (by kernel_rfl)
theorem slices_IndexFunc_Shift__incline_right_1_1 {a0 : List (List DV)} (h1 : Lp E 0 F_slices_IndexFunc_Shift 0 (slices_IndexFunc_Shift_L0 a0 (a0.length : Int) 0) (.exit 0) (slices_IndexFunc_Shift_L0e1)) :
    Fn E F_slices_IndexFunc_Shift [.c (.list a0), .fn F_incline_right_1 []] (.c (.i64 (-1))) := by
 exact fnMk [.loop [0, 1, 7, 8] [] (.exit 0) (slices_IndexFunc_Shift_L0e1)] (by kernel_rfl) (by kernel_rfl) (aO h1) (by kernel_rfl)
def slices_IndexFunc_Rat_L0 (x0 : List (List DV)) (x7 : Int) (x8 : Int) : St := stOf 19 [(0, .c (.list x0)), (1, .fn F_incline_valid_1 []), (7, .c (.i64 x7)), (8, .c (.i64 x8))] []
def slices_IndexFunc_Rat_L0e0 (x4' : Int) : St := stOf 19 [(4, .c (.i64 x4'))] []
def slices_IndexFunc_Rat_L0e1 : St := stOf 19 [] []
theorem slices_IndexFunc_Rat_L0_r0 {x0 : List (List DV)} {x7 x8 : Int} {v1 : ByteArray} {v3 : Int} (e1 : IntKind.i64.wrap (x8 + 1) = v3) (h1 : x8 < x7) (h2 : 0 ≤ x8) (h3 : x0[(Int.toNat x8)]? = some [.str v1]) (h4 : Fn E F_incline_valid_1 [.c (.str v1)] (.c (.bool false))) {o : Out} {st' : St} (ih : Lp E 0 F_slices_IndexFunc_Rat 0 (slices_IndexFunc_Rat_L0 x0 x7 v3) o st') :
    Lp E 0 F_slices_IndexFunc_Rat 0 (slices_IndexFunc_Rat_L0 x0 x7 x8) o st' := by
 subst e1
 exact lpOn _ [0, 1, 7, 8] [.t true, .d [.str v1], .v (.c (.bool false))] (aC (dT h1) (aC h2 (aC h3 (aO h4)))) (by kernel_rfl) ih
theorem slices_IndexFunc_Rat_L0e0_x0 {x0 : List (List DV)} {x7 x8 : Int} {v1 : ByteArray} (h1 : x8 < x7) (h2 : 0 ≤ x8) (h3 : x0[(Int.toNat x8)]? = some [.str v1]) (h4 : Fn E F_incline_valid_1 [.c (.str v1)] (.c (.bool true))) :
    Lp E 0 F_slices_IndexFunc_Rat 0 (slices_IndexFunc_Rat_L0 x0 x7 x8) .ret (slices_IndexFunc_Rat_L0e0 x8) := by
 exact lpOff [4] [.t true, .d [.str v1], .v (.c (.bool true))] (aC (dT h1) (aC h2 (aC h3 (aO h4)))) (by kernel_rfl) (by simp)
theorem slices_IndexFunc_Rat_L0e1_x0 {x0 : List (List DV)} {x7 x8 : Int} (h1 : ¬ x8 < x7) :
    Lp E 0 F_slices_IndexFunc_Rat 0 (slices_IndexFunc_Rat_L0 x0 x7 x8) (.exit 0) (slices_IndexFunc_Rat_L0e1) := by
 exact lpOff [] [.t false] (aO (dF h1)) (by kernel_rfl) (by simp)
theorem slices_IndexFunc_Rat__incline_valid_1_0 {a0 : List (List DV)} {v1 : Int} (h1 : Lp E 0 F_slices_IndexFunc_Rat 0 (slices_IndexFunc_Rat_L0 a0 (a0.length : Int) 0) .ret (slices_IndexFunc_Rat_L0e0 v1)) :
    Fn E F_slices_IndexFunc_Rat [.c (.list a0), .fn F_incline_valid_1 []] (.c (.i64 v1)) := by
 exact fnMk [.loop [0, 1, 7, 8] [] .ret (slices_IndexFunc_Rat_L0e0 v1)] (by kernel_rfl) (by kernel_rfl) (aO h1) (by kernel_rfl)
theorem slices_IndexFunc_Rat__incline_valid_1_1 {a0 : List (List DV)} (h1 : Lp E 0 F_slices_IndexFunc_Rat 0 (slices_IndexFunc_Rat_L0 a0 (a0.length : Int) 0) (.exit 0) (slices_IndexFunc_Rat_L0e1)) :
    Fn E F_slices_IndexFunc_Rat [.c (.list a0), .fn F_incline_valid_1 []] (.c (.i64 (-1))) := by
 exact fnMk [.loop [0, 1, 7, 8] [] (.exit 0) (slices_IndexFunc_Rat_L0e1)] (by kernel_rfl) (by kernel_rfl) (aO h1) (by kernel_rfl)
end Gev
namespace Gev
open Go Go.Proofs
variable {E : Env}
theorem incline_compare_0 {a0 a1 : ByteArray} {v1 v2 : Int} (h1 : Fn E F_rational_Compare [.c (.str a0), .c (.str a1)] (.tup [.c (.i64 v1), .c (.i64 v2)])) :
    Fn E F_incline_compare [.c (.str a0), .c (.str a1)] (.c (.i64 v1)) := by
 exact fnMk [.v (.tup [.c (.i64 v1), .c (.i64 v2)])] (by kernel_rfl) (by kernel_rfl) (aO h1) (by kernel_rfl)
theorem incline_start_0 {a0 : List (List DV)} (h1 : Fn E F_incline_right [.c (.list a0)] (.c (.bool true))) (h2 : (a0.length : Int) < 2) :
    Fn E F_incline_start [.c (.list a0)] (.c (.i64 9)) := by
 exact fnMk [.v (.c (.bool true)), .t true] (by kernel_rfl) (by kernel_rfl) (aC h1 (aO (dT h2))) (by kernel_rfl)
theorem incline_start_1 {a0 : List (List DV)} (h1 : Fn E F_incline_right [.c (.list a0)] (.c (.bool true))) (h2 : ¬ (a0.length : Int) < 2) (h3 : (a0.length : Int) > 16) :
    Fn E F_incline_start [.c (.list a0)] (.c (.i64 8)) := by
 exact fnMk [.v (.c (.bool true)), .t false, .t true] (by kernel_rfl) (by kernel_rfl) (aC h1 (aC (dF h2) (aO (dT h3)))) (by kernel_rfl)
theorem incline_start_2 {a0 : List (List DV)} (h1 : Fn E F_incline_right [.c (.list a0)] (.c (.bool true))) (h2 : ¬ (a0.length : Int) < 2) (h3 : ¬ (a0.length : Int) > 16) :
    Fn E F_incline_start [.c (.list a0)] (.c (.i64 0)) := by
 exact fnMk [.v (.c (.bool true)), .t false, .t false] (by kernel_rfl) (by kernel_rfl) (aC h1 (aC (dF h2) (aO (dF h3)))) (by kernel_rfl)
theorem incline_start_3 {a0 : List (List DV)} (h1 : Fn E F_incline_right [.c (.list a0)] (.c (.bool false))) :
    Fn E F_incline_start [.c (.list a0)] (.c (.i64 1)) := by
 exact fnMk [.v (.c (.bool false))] (by kernel_rfl) (by kernel_rfl) (aO h1) (by kernel_rfl)
theorem incline_Fit_0 {a0 : List (List DV)} {v1 : Int} (h1 : Fn E F_incline_start [.c (.list a0)] (.c (.i64 v1))) (h2 : ¬ v1 = 0) :
    Fn E F_incline_Fit [.c (.list a0)] (.tup [.agg [.str ⟨#[]⟩, .str ⟨#[]⟩, .str ⟨#[]⟩], .c (.i64 v1)]) := by
 exact fnMk [.v (.c (.i64 v1)), .t true] (by kernel_rfl) (by kernel_rfl) (aC h1 (aO (bnT h2))) (by kernel_rfl)
theorem incline_Fit_1 {a0 : List (List DV)} {v1 : Int} {v2 v3 v4 v5 v6 v7 : ByteArray} {v8 : Int} (h1 : Fn E F_incline_start [.c (.list a0)] (.c (.i64 v1))) (h2 : v1 = 0) (h3 : Fn E F_incline_number [.c (.i64 (a0.length : Int))] (.c (.str v2))) (h4 : Fn E F_incline_sum [.c (.list a0), .fn F_incline_Fit_1 []] (.c (.str v3))) (h5 : Fn E F_incline_div [.c (.str v3), .c (.str v2)] (.c (.str v4))) (h6 : Fn E F_incline_sum [.c (.list a0), .fn F_incline_Fit_2 []] (.c (.str v5))) (h7 : Fn E F_incline_div [.c (.str v5), .c (.str v2)] (.c (.str v6))) (h8 : Rn E F_incline_sum [.c (.list a0), .fn F_incline_Fit_3 [.ptr 1 0]] [some (.cells [.c (.str ⟨#[]⟩), .c (.str ⟨#[]⟩), .c (.str ⟨#[]⟩)]), some (.cells [.c (.str v4)]), some (.cells [.c (.str v6)])] (.c (.str v7)) [some (.cells [.c (.str ⟨#[]⟩), .c (.str ⟨#[]⟩), .c (.str ⟨#[]⟩)]), some (.cells [.c (.str v4)]), some (.cells [.c (.str v6)])]) (h9 : Fn E F_incline_sign [.c (.str v7)] (.c (.i64 v8))) (h10 : v8 = 0) :
    Fn E F_incline_Fit [.c (.list a0)] (.tup [.agg [.str ⟨#[]⟩, .str ⟨#[]⟩, .str ⟨#[]⟩], .c (.i64 18)]) := by
 exact fnMk [.v (.c (.i64 v1)), .t false, .v (.c (.str v2)), .v (.c (.str v3)), .v (.c (.str v4)), .v (.c (.str v5)), .v (.c (.str v6)), .vt (.c (.str v7)) [some (.cells [.c (.str ⟨#[]⟩), .c (.str ⟨#[]⟩), .c (.str ⟨#[]⟩)]), some (.cells [.c (.str v4)]), some (.cells [.c (.str v6)])], .v (.c (.i64 v8)), .t true] (by kernel_rfl) (by kernel_rfl) (aC h1 (aC (bnF h2) (aC h3 (aC h4 (aC h5 (aC h6 (aC h7 (aC h8 (aC h9 (aO (beT h10))))))))))) (by kernel_rfl)
theorem incline_Fit_2 {a0 : List (List DV)} {v1 : Int} {v2 v3 v4 v5 v6 v7 : ByteArray} {v8 : Int} {v9 v10 v11 v12 v13 v14 v15 : ByteArray} (h1 : Fn E F_incline_start [.c (.list a0)] (.c (.i64 v1))) (h2 : v1 = 0) (h3 : Fn E F_incline_number [.c (.i64 (a0.length : Int))] (.c (.str v2))) (h4 : Fn E F_incline_sum [.c (.list a0), .fn F_incline_Fit_1 []] (.c (.str v3))) (h5 : Fn E F_incline_div [.c (.str v3), .c (.str v2)] (.c (.str v4))) (h6 : Fn E F_incline_sum [.c (.list a0), .fn F_incline_Fit_2 []] (.c (.str v5))) (h7 : Fn E F_incline_div [.c (.str v5), .c (.str v2)] (.c (.str v6))) (h8 : Rn E F_incline_sum [.c (.list a0), .fn F_incline_Fit_3 [.ptr 1 0]] [some (.cells [.c (.str ⟨#[]⟩), .c (.str ⟨#[]⟩), .c (.str ⟨#[]⟩)]), some (.cells [.c (.str v4)]), some (.cells [.c (.str v6)])] (.c (.str v7)) [some (.cells [.c (.str ⟨#[]⟩), .c (.str ⟨#[]⟩), .c (.str ⟨#[]⟩)]), some (.cells [.c (.str v4)]), some (.cells [.c (.str v6)])]) (h9 : Fn E F_incline_sign [.c (.str v7)] (.c (.i64 v8))) (h10 : ¬ v8 = 0) (h11 : Rn E F_incline_sum [.c (.list a0), .fn F_incline_Fit_4 [.ptr 1 0, .ptr 2 0]] [some (.cells [.c (.str ⟨#[]⟩), .c (.str ⟨#[]⟩), .c (.str ⟨#[]⟩)]), some (.cells [.c (.str v4)]), some (.cells [.c (.str v6)])] (.c (.str v9)) [some (.cells [.c (.str ⟨#[]⟩), .c (.str ⟨#[]⟩), .c (.str ⟨#[]⟩)]), some (.cells [.c (.str v4)]), some (.cells [.c (.str v6)])]) (h12 : Fn E F_incline_div [.c (.str v9), .c (.str v7)] (.c (.str v10))) (h13 : Fn E F_incline_mul [.c (.str v10), .c (.str v4)] (.c (.str v11))) (h14 : Fn E F_incline_sub [.c (.str v6), .c (.str v11)] (.c (.str v12))) (h15 : Fn E F_incline_line [.c (.list a0), .c (.str v10), .c (.str v12)] (.agg [.str v13, .str v14, .str v15])) :
    Fn E F_incline_Fit [.c (.list a0)] (.tup [.agg [.str v13, .str v14, .str v15], .c (.i64 0)]) := by
 exact fnMk [.v (.c (.i64 v1)), .t false, .v (.c (.str v2)), .v (.c (.str v3)), .v (.c (.str v4)), .v (.c (.str v5)), .v (.c (.str v6)), .vt (.c (.str v7)) [some (.cells [.c (.str ⟨#[]⟩), .c (.str ⟨#[]⟩), .c (.str ⟨#[]⟩)]), some (.cells [.c (.str v4)]), some (.cells [.c (.str v6)])], .v (.c (.i64 v8)), .t false, .vt (.c (.str v9)) [some (.cells [.c (.str ⟨#[]⟩), .c (.str ⟨#[]⟩), .c (.str ⟨#[]⟩)]), some (.cells [.c (.str v4)]), some (.cells [.c (.str v6)])], .v (.c (.str v10)), .v (.c (.str v11)), .v (.c (.str v12)), .v (.agg [.str v13, .str v14, .str v15])] (by kernel_rfl) (by kernel_rfl) (aC h1 (aC (bnF h2) (aC h3 (aC h4 (aC h5 (aC h6 (aC h7 (aC h8 (aC h9 (aC (beF h10) (aC h11 (aC h12 (aC h13 (aC h14 (aO h15))))))))))))))) (by kernel_rfl)
theorem incline_Through_0 {a0 : List (List DV)} {v1 : Int} (h1 : Fn E F_incline_start [.c (.list a0)] (.c (.i64 v1))) (h2 : ¬ v1 = 0) :
    Fn E F_incline_Through [.c (.list a0)] (.tup [.agg [.str ⟨#[]⟩, .str ⟨#[]⟩, .str ⟨#[]⟩], .c (.i64 v1)]) := by
 exact fnMk [.v (.c (.i64 v1)), .t true] (by kernel_rfl) (by kernel_rfl) (aC h1 (aO (bnT h2))) (by kernel_rfl)
theorem incline_Through_1 {a0 : List (List DV)} {v1 : Int} {v2 : ByteArray} {v3 : Int} (h1 : Fn E F_incline_start [.c (.list a0)] (.c (.i64 v1))) (h2 : v1 = 0) (h3 : Fn E F_incline_sum [.c (.list a0), .fn F_incline_Through_1 []] (.c (.str v2))) (h4 : Fn E F_incline_sign [.c (.str v2)] (.c (.i64 v3))) (h5 : v3 = 0) :
    Fn E F_incline_Through [.c (.list a0)] (.tup [.agg [.str ⟨#[]⟩, .str ⟨#[]⟩, .str ⟨#[]⟩], .c (.i64 18)]) := by
 exact fnMk [.v (.c (.i64 v1)), .t false, .v (.c (.str v2)), .v (.c (.i64 v3)), .t true] (by kernel_rfl) (by kernel_rfl) (aC h1 (aC (bnF h2) (aC h3 (aC h4 (aO (beT h5)))))) (by kernel_rfl)
theorem incline_Through_2 {a0 : List (List DV)} {v1 : Int} {v2 : ByteArray} {v3 : Int} {v4 v5 v6 v7 v8 : ByteArray} (h1 : Fn E F_incline_start [.c (.list a0)] (.c (.i64 v1))) (h2 : v1 = 0) (h3 : Fn E F_incline_sum [.c (.list a0), .fn F_incline_Through_1 []] (.c (.str v2))) (h4 : Fn E F_incline_sign [.c (.str v2)] (.c (.i64 v3))) (h5 : ¬ v3 = 0) (h6 : Fn E F_incline_sum [.c (.list a0), .fn F_incline_Through_2 []] (.c (.str v4))) (h7 : Fn E F_incline_div [.c (.str v4), .c (.str v2)] (.c (.str v5))) (h8 : Fn E F_incline_line [.c (.list a0), .c (.str v5), .c (.str ⟨#[48]⟩)] (.agg [.str v6, .str v7, .str v8])) :
    Fn E F_incline_Through [.c (.list a0)] (.tup [.agg [.str v6, .str v7, .str v8], .c (.i64 0)]) := by
 exact fnMk [.v (.c (.i64 v1)), .t false, .v (.c (.str v2)), .v (.c (.i64 v3)), .t false, .v (.c (.str v4)), .v (.c (.str v5)), .v (.agg [.str v6, .str v7, .str v8])] (by kernel_rfl) (by kernel_rfl) (aC h1 (aC (bnF h2) (aC h3 (aC h4 (aC (beF h5) (aC h6 (aC h7 (aO h8)))))))) (by kernel_rfl)
def incline_Differences_L0 (x6 : Nat) (x24 : List (List DV)) (x25 : Int) (x26 : Int) (c0_0 : ByteArray) (c0_1 : ByteArray) (c0_2 : ByteArray) (w1 : List (List DV)) (w2 : List (List DV)) : St := stOf 38 [(3, .ptr 0 0), (6, .vec 2 x6), (24, .c (.list x24)), (25, .c (.i64 x25)), (26, .c (.i64 x26))] [some (.cells [.c (.str c0_0), .c (.str c0_1), .c (.str c0_2)]), some (.fro w1), some (.vec T_api_Rat w2)]
def incline_Differences_L0e0 (c0_0 : ByteArray) (c0_1 : ByteArray) (c0_2 : ByteArray) (w1 : List (List DV)) (x6' : Nat) (w2' : List (List DV)) : St := stOf 38 [(6, .vec 2 x6')] [some (.cells [.c (.str c0_0), .c (.str c0_1), .c (.str c0_2)]), some (.fro w1), some (.vec T_api_Rat w2')]
theorem incline_Differences_L0_r0 {x6 : Nat} {x24 : List (List DV)} {x25 x26 : Int} {c0_0 c0_1 c0_2 : ByteArray} {w1 w2 : List (List DV)} {v1 v2 v3 : ByteArray} {v4 : List (List DV)} {v5 : Nat} {v6 : Int} (e1 : (w2.take x6) ++ [[.str v3]] = v4) (e2 : x6 + 1 = v5) (e3 : IntKind.i64.wrap (x26 + 1) = v6) (h1 : x26 < x25) (h2 : 0 ≤ x26) (h3 : x24[(Int.toNat x26)]? = some [.str v1, .str v2]) (h4 : Fn E F_incline_difference [.agg [.str v1, .str v2], .agg [.str c0_0, .str c0_1, .str c0_2]] (.c (.str v3))) (h5 : (x6 + 1) * 16 ≤ 140737488355328 ∧ x6 + 1 ≤ 140737488355328) {o : Out} {st' : St} (ih : Lp E 2 F_incline_Differences 0 (incline_Differences_L0 v5 x24 x25 v6 c0_0 c0_1 c0_2 w1 v4) o st') :
    Lp E 2 F_incline_Differences 0 (incline_Differences_L0 x6 x24 x25 x26 c0_0 c0_1 c0_2 w1 w2) o st' := by
 subst e1 e2 e3
 exact lpOn _ [3, 6, 24, 25, 26] [.t true, .d [.str v1, .str v2], .v (.c (.str v3))] (aC (dT h1) (aC h2 (aC h3 (aC h4 (aC (show ∀ y ∈ ([[.str v3]] : List (List DV)), y.length = 1 from by simp) (aO h5)))))) (by kernel_rfl) ih
theorem incline_Differences_L0e0_x0 {x6 : Nat} {x24 : List (List DV)} {x25 x26 : Int} {c0_0 c0_1 c0_2 : ByteArray} {w1 w2 : List (List DV)} (h1 : ¬ x26 < x25) :
    Lp E 2 F_incline_Differences 0 (incline_Differences_L0 x6 x24 x25 x26 c0_0 c0_1 c0_2 w1 w2) (.exit 0) (incline_Differences_L0e0 c0_0 c0_1 c0_2 w1 x6 w2) := by
 exact lpOff [6] [.t false] (aO (dF h1)) (by kernel_rfl) (by simp)
theorem incline_Differences_0 {a0 : List (List DV)} {a1_0 a1_1 a1_2 : ByteArray} {v2 : List (List DV)} (e1 : (([[.str a1_0], [.str a1_1]] : List (List DV)).take 2) = v2) (h1 : Fn E F_incline_right [.c (.list a0)] (.c (.bool true))) (h2 : Fn E F_incline_valid [.c (.list v2)] (.c (.bool true))) (h3 : (a0.length : Int) > 16) :
    Fn E F_incline_Differences [.c (.list a0), .agg [.str a1_0, .str a1_1, .str a1_2]] (.tup [.c (.list []), .c (.i64 8)]) := by
 subst e1
 exact fnMk [.v (.c (.bool true)), .v (.c (.bool true)), .t true] (by kernel_rfl) (by kernel_rfl) (aC h1 (aC h2 (aO (dT h3)))) (by kernel_rfl)
theorem incline_Differences_1 {a0 : List (List DV)} {a1_0 a1_1 a1_2 : ByteArray} {v2 : List (List DV)} {v4 : Nat} {v5 v6 : List (List DV)} (e1 : (([[.str a1_0], [.str a1_1]] : List (List DV)).take 2) = v2) (e2 : (v5.take v4) = v6) (h1 : Fn E F_incline_right [.c (.list a0)] (.c (.bool true))) (h2 : Fn E F_incline_valid [.c (.list v2)] (.c (.bool true))) (h3 : ¬ (a0.length : Int) > 16) (h4 : Lp E 2 F_incline_Differences 0 (incline_Differences_L0 0 a0 (a0.length : Int) 0 a1_0 a1_1 a1_2 [[.str a1_0], [.str a1_1]] []) (.exit 0) (incline_Differences_L0e0 a1_0 a1_1 a1_2 [[.str a1_0], [.str a1_1]] v4 v5)) :
    Fn E F_incline_Differences [.c (.list a0), .agg [.str a1_0, .str a1_1, .str a1_2]] (.tup [.c (.list v6), .c (.i64 0)]) := by
 subst e1 e2
 exact fnMk [.v (.c (.bool true)), .v (.c (.bool true)), .t false, .loop [3, 6, 24, 25, 26] [(6, T_api_Rat)] (.exit 0) (incline_Differences_L0e0 a1_0 a1_1 a1_2 [[.str a1_0], [.str a1_1]] v4 v5)] (by kernel_rfl) (by kernel_rfl) (aC h1 (aC h2 (aC (dF h3) (aO h4)))) (by kernel_rfl)
theorem incline_Differences_2 {a0 : List (List DV)} {a1_0 a1_1 a1_2 : ByteArray} {v2 : List (List DV)} (e1 : (([[.str a1_0], [.str a1_1]] : List (List DV)).take 2) = v2) (h1 : Fn E F_incline_right [.c (.list a0)] (.c (.bool true))) (h2 : Fn E F_incline_valid [.c (.list v2)] (.c (.bool false))) :
    Fn E F_incline_Differences [.c (.list a0), .agg [.str a1_0, .str a1_1, .str a1_2]] (.tup [.c (.list []), .c (.i64 1)]) := by
 subst e1
 exact fnMk [.v (.c (.bool true)), .v (.c (.bool false))] (by kernel_rfl) (by kernel_rfl) (aC h1 (aO h2)) (by kernel_rfl)
theorem incline_Differences_3 {a0 : List (List DV)} {a1_0 a1_1 a1_2 : ByteArray} (h1 : Fn E F_incline_right [.c (.list a0)] (.c (.bool false))) :
    Fn E F_incline_Differences [.c (.list a0), .agg [.str a1_0, .str a1_1, .str a1_2]] (.tup [.c (.list []), .c (.i64 1)]) := by
 exact fnMk [.v (.c (.bool false))] (by kernel_rfl) (by kernel_rfl) (aO h1) (by kernel_rfl)
theorem incline_Height_0 {a0_0 a0_1 a0_2 a1 : ByteArray} {v1 : List (List DV)} {v3 : Int} (e1 : (([[.str a0_0], [.str a1]] : List (List DV)).take 2) = v1) (h1 : Fn E F_incline_valid [.c (.list v1)] (.c (.bool true))) (h2 : Fn E F_incline_sign [.c (.str a0_0)] (.c (.i64 v3))) (h3 : v3 ≤ 0) :
    Fn E F_incline_Height [.agg [.str a0_0, .str a0_1, .str a0_2], .c (.str a1)] (.tup [.c (.str ⟨#[]⟩), .c (.i64 2)]) := by
 subst e1
 exact fnMk [.v (.c (.bool true)), .v (.c (.i64 v3)), .t true] (by kernel_rfl) (by kernel_rfl) (aC h1 (aC h2 (aO (dT h3)))) (by kernel_rfl)
theorem incline_Height_1 {a0_0 a0_1 a0_2 a1 : ByteArray} {v1 : List (List DV)} {v3 v4 : Int} (e1 : (([[.str a0_0], [.str a1]] : List (List DV)).take 2) = v1) (h1 : Fn E F_incline_valid [.c (.list v1)] (.c (.bool true))) (h2 : Fn E F_incline_sign [.c (.str a0_0)] (.c (.i64 v3))) (h3 : ¬ v3 ≤ 0) (h4 : Fn E F_incline_sign [.c (.str a1)] (.c (.i64 v4))) (h5 : v4 ≤ 0) :
    Fn E F_incline_Height [.agg [.str a0_0, .str a0_1, .str a0_2], .c (.str a1)] (.tup [.c (.str ⟨#[]⟩), .c (.i64 2)]) := by
 subst e1
 exact fnMk [.v (.c (.bool true)), .v (.c (.i64 v3)), .t false, .v (.c (.i64 v4)), .t true] (by kernel_rfl) (by kernel_rfl) (aC h1 (aC h2 (aC (dF h3) (aC h4 (aO (dT h5)))))) (by kernel_rfl)
theorem incline_Height_2 {a0_0 a0_1 a0_2 a1 : ByteArray} {v1 : List (List DV)} {v3 v4 : Int} {v5 v6 : ByteArray} (e1 : (([[.str a0_0], [.str a1]] : List (List DV)).take 2) = v1) (h1 : Fn E F_incline_valid [.c (.list v1)] (.c (.bool true))) (h2 : Fn E F_incline_sign [.c (.str a0_0)] (.c (.i64 v3))) (h3 : ¬ v3 ≤ 0) (h4 : Fn E F_incline_sign [.c (.str a1)] (.c (.i64 v4))) (h5 : ¬ v4 ≤ 0) (h6 : Fn E F_incline_mul [.c (.str a1), .c (.str a0_0)] (.c (.str v5))) (h7 : Fn E F_incline_div [.c (.str ⟨#[49]⟩), .c (.str v5)] (.c (.str v6))) :
    Fn E F_incline_Height [.agg [.str a0_0, .str a0_1, .str a0_2], .c (.str a1)] (.tup [.c (.str v6), .c (.i64 0)]) := by
 subst e1
 exact fnMk [.v (.c (.bool true)), .v (.c (.i64 v3)), .t false, .v (.c (.i64 v4)), .t false, .v (.c (.str v5)), .v (.c (.str v6))] (by kernel_rfl) (by kernel_rfl) (aC h1 (aC h2 (aC (dF h3) (aC h4 (aC (dF h5) (aC h6 (aO h7))))))) (by kernel_rfl)
theorem incline_Height_3 {a0_0 a0_1 a0_2 a1 : ByteArray} {v1 : List (List DV)} (e1 : (([[.str a0_0], [.str a1]] : List (List DV)).take 2) = v1) (h1 : Fn E F_incline_valid [.c (.list v1)] (.c (.bool false))) :
    Fn E F_incline_Height [.agg [.str a0_0, .str a0_1, .str a0_2], .c (.str a1)] (.tup [.c (.str ⟨#[]⟩), .c (.i64 1)]) := by
 subst e1
 exact fnMk [.v (.c (.bool false))] (by kernel_rfl) (by kernel_rfl) (aO h1) (by kernel_rfl)
theorem incline_Centre_0 {a0 : List (List DV)} {a1 a2 : ByteArray} {v1 : List (List DV)} {v3 v4 v5 : ByteArray} {v6 : Int} (e1 : (([[.str a1], [.str a2]] : List (List DV)).take 2) = v1) (h1 : Fn E F_incline_valid [.c (.list v1)] (.c (.bool true))) (h2 : Fn E F_incline_Fit [.c (.list a0)] (.tup [.agg [.str v3, .str v4, .str v5], .c (.i64 v6)])) (h3 : ¬ v6 = 0) :
    Fn E F_incline_Centre [.c (.list a0), .c (.str a1), .c (.str a2)] (.tup [.c (.str ⟨#[]⟩), .c (.i64 v6)]) := by
 subst e1
 exact fnMk [.v (.c (.bool true)), .v (.tup [.agg [.str v3, .str v4, .str v5], .c (.i64 v6)]), .t true] (by kernel_rfl) (by kernel_rfl) (aC h1 (aC h2 (aO (bnT h3)))) (by kernel_rfl)
theorem incline_Centre_1 {a0 : List (List DV)} {a1 a2 : ByteArray} {v1 : List (List DV)} {v3 v4 v5 : ByteArray} {v6 : Int} {v7 : ByteArray} {v8 : Int} (e1 : (([[.str a1], [.str a2]] : List (List DV)).take 2) = v1) (h1 : Fn E F_incline_valid [.c (.list v1)] (.c (.bool true))) (h2 : Fn E F_incline_Fit [.c (.list a0)] (.tup [.agg [.str v3, .str v4, .str v5], .c (.i64 v6)])) (h3 : v6 = 0) (h4 : Fn E F_incline_Height [.agg [.str v3, .str v4, .str v5], .c (.str a1)] (.tup [.c (.str v7), .c (.i64 v8)])) (h5 : ¬ v8 = 0) :
    Fn E F_incline_Centre [.c (.list a0), .c (.str a1), .c (.str a2)] (.tup [.c (.str ⟨#[]⟩), .c (.i64 v8)]) := by
 subst e1
 exact fnMk [.v (.c (.bool true)), .v (.tup [.agg [.str v3, .str v4, .str v5], .c (.i64 v6)]), .t false, .v (.tup [.c (.str v7), .c (.i64 v8)]), .t true] (by kernel_rfl) (by kernel_rfl) (aC h1 (aC h2 (aC (bnF h3) (aC h4 (aO (bnT h5)))))) (by kernel_rfl)
theorem incline_Centre_2 {a0 : List (List DV)} {a1 a2 : ByteArray} {v1 : List (List DV)} {v3 v4 v5 : ByteArray} {v6 : Int} {v7 : ByteArray} {v8 : Int} {v9 : ByteArray} (e1 : (([[.str a1], [.str a2]] : List (List DV)).take 2) = v1) (h1 : Fn E F_incline_valid [.c (.list v1)] (.c (.bool true))) (h2 : Fn E F_incline_Fit [.c (.list a0)] (.tup [.agg [.str v3, .str v4, .str v5], .c (.i64 v6)])) (h3 : v6 = 0) (h4 : Fn E F_incline_Height [.agg [.str v3, .str v4, .str v5], .c (.str a1)] (.tup [.c (.str v7), .c (.i64 v8)])) (h5 : v8 = 0) (h6 : Fn E F_incline_sub [.c (.str a2), .c (.str v7)] (.c (.str v9))) :
    Fn E F_incline_Centre [.c (.list a0), .c (.str a1), .c (.str a2)] (.tup [.c (.str v9), .c (.i64 0)]) := by
 subst e1
 exact fnMk [.v (.c (.bool true)), .v (.tup [.agg [.str v3, .str v4, .str v5], .c (.i64 v6)]), .t false, .v (.tup [.c (.str v7), .c (.i64 v8)]), .t false, .v (.c (.str v9))] (by kernel_rfl) (by kernel_rfl) (aC h1 (aC h2 (aC (bnF h3) (aC h4 (aC (bnF h5) (aO h6)))))) (by kernel_rfl)
theorem incline_Centre_3 {a0 : List (List DV)} {a1 a2 : ByteArray} {v1 : List (List DV)} (e1 : (([[.str a1], [.str a2]] : List (List DV)).take 2) = v1) (h1 : Fn E F_incline_valid [.c (.list v1)] (.c (.bool false))) :
    Fn E F_incline_Centre [.c (.list a0), .c (.str a1), .c (.str a2)] (.tup [.c (.str ⟨#[]⟩), .c (.i64 1)]) := by
 subst e1
 exact fnMk [.v (.c (.bool false))] (by kernel_rfl) (by kernel_rfl) (aO h1) (by kernel_rfl)
def incline_Correct_L0 (x0 : ByteArray) (x8 : ByteArray) (x28 : List (List DV)) (x29 : Int) (x30 : Int) (c0_0 : ByteArray) (c0_1 : ByteArray) (w1 : List (List DV)) : St := stOf 55 [(0, .c (.str x0)), (6, .ptr 0 0), (8, .c (.str x8)), (28, .c (.list x28)), (29, .c (.i64 x29)), (30, .c (.i64 x30))] [some (.cells [.c (.str c0_0), .c (.str c0_1)]), some (.fro w1)]
def incline_Correct_L0e0 (c0_0 : ByteArray) (c0_1 : ByteArray) (w1 : List (List DV)) (x0' : ByteArray) (x8' : ByteArray) : St := stOf 55 [(0, .c (.str x0')), (6, .ptr 0 0), (8, .c (.str x8'))] [some (.cells [.c (.str c0_0), .c (.str c0_1)]), some (.fro w1)]
theorem incline_Correct_L0_r0 {x0 x8 : ByteArray} {x28 : List (List DV)} {x29 x30 : Int} {c0_0 c0_1 : ByteArray} {w1 : List (List DV)} {v1 v2 v3 v4 v5 : ByteArray} {v6 : Int} (e1 : IntKind.i64.wrap (x30 + 1) = v6) (h1 : x30 < x29) (h2 : 0 ≤ x30) (h3 : x28[(Int.toNat x30)]? = some [.str v1, .str v2]) (h4 : Fn E F_incline_add [.c (.str x0), .c (.str v1)] (.c (.str v3))) (h5 : Fn E F_incline_mul [.c (.str v1), .c (.str v2)] (.c (.str v4))) (h6 : Fn E F_incline_add [.c (.str x8), .c (.str v4)] (.c (.str v5))) {o : Out} {st' : St} (ih : Lp E 2 F_incline_Correct 0 (incline_Correct_L0 v3 v5 x28 x29 v6 c0_0 c0_1 w1) o st') :
    Lp E 2 F_incline_Correct 0 (incline_Correct_L0 x0 x8 x28 x29 x30 c0_0 c0_1 w1) o st' := by
 subst e1
 exact lpOn _ [0, 6, 8, 28, 29, 30] [.t true, .d [.str v1, .str v2], .v (.c (.str v3)), .v (.c (.str v4)), .v (.c (.str v5))] (aC (dT h1) (aC h2 (aC h3 (aC h4 (aC h5 (aO h6)))))) (by kernel_rfl) ih
theorem incline_Correct_L0e0_x0 {x0 x8 : ByteArray} {x28 : List (List DV)} {x29 x30 : Int} {c0_0 c0_1 : ByteArray} {w1 : List (List DV)} (h1 : ¬ x30 < x29) :
    Lp E 2 F_incline_Correct 0 (incline_Correct_L0 x0 x8 x28 x29 x30 c0_0 c0_1 w1) (.exit 0) (incline_Correct_L0e0 c0_0 c0_1 w1 x0 x8) := by
 exact lpOff [0, 6, 8] [.t false] (aO (dF h1)) (by kernel_rfl) (by simp)
theorem incline_Correct_0 {a0 a1 : ByteArray} {a2 v1 : List (List DV)} (e1 : (([[.str a0], [.str a1]] : List (List DV)).take 2) = v1) (h1 : Fn E F_incline_valid [.c (.list v1)] (.c (.bool true))) (h2 : Fn E F_slices_ContainsFunc_Lump [.c (.list a2), .fn F_incline_Correct_1 []] (.c (.bool true))) :
    Fn E F_incline_Correct [.c (.str a0), .c (.str a1), .c (.list a2)] (.tup [.agg [.str ⟨#[]⟩, .str ⟨#[]⟩], .c (.i64 1)]) := by
 subst e1
 exact fnMk [.v (.c (.bool true)), .v (.c (.bool true))] (by kernel_rfl) (by kernel_rfl) (aC h1 (aO h2)) (by kernel_rfl)
theorem incline_Correct_1 {a0 a1 : ByteArray} {a2 v1 : List (List DV)} (e1 : (([[.str a0], [.str a1]] : List (List DV)).take 2) = v1) (h1 : Fn E F_incline_valid [.c (.list v1)] (.c (.bool true))) (h2 : Fn E F_slices_ContainsFunc_Lump [.c (.list a2), .fn F_incline_Correct_1 []] (.c (.bool false))) (h3 : (a2.length : Int) > 64) :
    Fn E F_incline_Correct [.c (.str a0), .c (.str a1), .c (.list a2)] (.tup [.agg [.str ⟨#[]⟩, .str ⟨#[]⟩], .c (.i64 8)]) := by
 subst e1
 exact fnMk [.v (.c (.bool true)), .v (.c (.bool false)), .t true] (by kernel_rfl) (by kernel_rfl) (aC h1 (aC h2 (aO (dT h3)))) (by kernel_rfl)
theorem incline_Correct_2 {a0 a1 : ByteArray} {a2 v1 : List (List DV)} {v4 v5 v6 : ByteArray} {v7 : Int} (e1 : (([[.str a0], [.str a1]] : List (List DV)).take 2) = v1) (h1 : Fn E F_incline_valid [.c (.list v1)] (.c (.bool true))) (h2 : Fn E F_slices_ContainsFunc_Lump [.c (.list a2), .fn F_incline_Correct_1 []] (.c (.bool false))) (h3 : ¬ (a2.length : Int) > 64) (h4 : Fn E F_incline_mul [.c (.str a0), .c (.str a1)] (.c (.str v4))) (h5 : Lp E 2 F_incline_Correct 0 (incline_Correct_L0 a0 v4 a2 (a2.length : Int) 0 ⟨#[]⟩ ⟨#[]⟩ [[.str a0], [.str a1]]) (.exit 0) (incline_Correct_L0e0 ⟨#[]⟩ ⟨#[]⟩ [[.str a0], [.str a1]] v5 v6)) (h6 : Fn E F_incline_sign [.c (.str v5)] (.c (.i64 v7))) (h7 : v7 = 0) :
    Fn E F_incline_Correct [.c (.str a0), .c (.str a1), .c (.list a2)] (.tup [.agg [.str ⟨#[]⟩, .str ⟨#[]⟩], .c (.i64 16)]) := by
 subst e1
 exact fnMk [.v (.c (.bool true)), .v (.c (.bool false)), .t false, .v (.c (.str v4)), .loop [0, 6, 8, 28, 29, 30] [] (.exit 0) (incline_Correct_L0e0 ⟨#[]⟩ ⟨#[]⟩ [[.str a0], [.str a1]] v5 v6), .v (.c (.i64 v7)), .t true] (by kernel_rfl) (by kernel_rfl) (aC h1 (aC h2 (aC (dF h3) (aC h4 (aC h5 (aC h6 (aO (beT h7)))))))) (by kernel_rfl)
theorem incline_Correct_3 {a0 a1 : ByteArray} {a2 v1 : List (List DV)} {v4 v5 v6 : ByteArray} {v7 : Int} {v8 : ByteArray} (e1 : (([[.str a0], [.str a1]] : List (List DV)).take 2) = v1) (h1 : Fn E F_incline_valid [.c (.list v1)] (.c (.bool true))) (h2 : Fn E F_slices_ContainsFunc_Lump [.c (.list a2), .fn F_incline_Correct_1 []] (.c (.bool false))) (h3 : ¬ (a2.length : Int) > 64) (h4 : Fn E F_incline_mul [.c (.str a0), .c (.str a1)] (.c (.str v4))) (h5 : Lp E 2 F_incline_Correct 0 (incline_Correct_L0 a0 v4 a2 (a2.length : Int) 0 ⟨#[]⟩ ⟨#[]⟩ [[.str a0], [.str a1]]) (.exit 0) (incline_Correct_L0e0 ⟨#[]⟩ ⟨#[]⟩ [[.str a0], [.str a1]] v5 v6)) (h6 : Fn E F_incline_sign [.c (.str v5)] (.c (.i64 v7))) (h7 : ¬ v7 = 0) (h8 : Fn E F_incline_div [.c (.str v6), .c (.str v5)] (.c (.str v8))) :
    Fn E F_incline_Correct [.c (.str a0), .c (.str a1), .c (.list a2)] (.tup [.agg [.str v5, .str v8], .c (.i64 0)]) := by
 subst e1
 exact fnMk [.v (.c (.bool true)), .v (.c (.bool false)), .t false, .v (.c (.str v4)), .loop [0, 6, 8, 28, 29, 30] [] (.exit 0) (incline_Correct_L0e0 ⟨#[]⟩ ⟨#[]⟩ [[.str a0], [.str a1]] v5 v6), .v (.c (.i64 v7)), .t false, .v (.c (.str v8))] (by kernel_rfl) (by kernel_rfl) (aC h1 (aC h2 (aC (dF h3) (aC h4 (aC h5 (aC h6 (aC (beF h7) (aO h8)))))))) (by kernel_rfl)
theorem incline_Correct_4 {a0 a1 : ByteArray} {a2 v1 : List (List DV)} (e1 : (([[.str a0], [.str a1]] : List (List DV)).take 2) = v1) (h1 : Fn E F_incline_valid [.c (.list v1)] (.c (.bool false))) :
    Fn E F_incline_Correct [.c (.str a0), .c (.str a1), .c (.list a2)] (.tup [.agg [.str ⟨#[]⟩, .str ⟨#[]⟩], .c (.i64 1)]) := by
 subst e1
 exact fnMk [.v (.c (.bool false))] (by kernel_rfl) (by kernel_rfl) (aO h1) (by kernel_rfl)
theorem incline_right_0 {a0 : List (List DV)} {v1 : Bool} (h1 : Fn E F_slices_ContainsFunc_Shift [.c (.list a0), .fn F_incline_right_1 []] (.c (.bool v1))) :
    Fn E F_incline_right [.c (.list a0)] (.c (.bool (!v1))) := by
 exact fnMk [.v (.c (.bool v1))] (by kernel_rfl) (by kernel_rfl) (aO h1) (by kernel_rfl)
theorem incline_number_0 {a0 : Int} {v1 : ByteArray} (h1 : Fn E F_strconv_Itoa [.c (.i64 a0)] (.c (.str v1))) :
    Fn E F_incline_number [.c (.i64 a0)] (.c (.str v1)) := by
 exact fnMk [.v (.c (.str v1))] (by kernel_rfl) (by kernel_rfl) (aO h1) (by kernel_rfl)
def incline_sum_L0 (x5 : ByteArray) (x8 : List (List DV)) (x9 : Int) (x10 : Int) : St := stOf 21 [(1, .fn F_incline_Fit_1 []), (5, .c (.str x5)), (8, .c (.list x8)), (9, .c (.i64 x9)), (10, .c (.i64 x10))] []
def incline_sum_L0e0 (x5' : ByteArray) : St := stOf 21 [(5, .c (.str x5'))] []
theorem incline_sum_L0_r0 {x5 : ByteArray} {x8 : List (List DV)} {x9 x10 : Int} {v1 v2 v3 v4 : ByteArray} {v5 : Int} (e1 : IntKind.i64.wrap (x10 + 1) = v5) (h1 : x10 < x9) (h2 : 0 ≤ x10) (h3 : x8[(Int.toNat x10)]? = some [.str v1, .str v2]) (h4 : Fn E F_incline_Fit_1 [.agg [.str v1, .str v2]] (.c (.str v3))) (h5 : Fn E F_incline_add [.c (.str x5), .c (.str v3)] (.c (.str v4))) {o : Out} {st' : St} (ih : Lp E 0 F_incline_sum 0 (incline_sum_L0 v4 x8 x9 v5) o st') :
    Lp E 0 F_incline_sum 0 (incline_sum_L0 x5 x8 x9 x10) o st' := by
 subst e1
 exact lpOn _ [1, 5, 8, 9, 10] [.t true, .d [.str v1, .str v2], .v (.c (.str v3)), .v (.c (.str v4))] (aC (dT h1) (aC h2 (aC h3 (aC h4 (aO h5))))) (by kernel_rfl) ih
theorem incline_sum_L0e0_x0 {x5 : ByteArray} {x8 : List (List DV)} {x9 x10 : Int} (h1 : ¬ x10 < x9) :
    Lp E 0 F_incline_sum 0 (incline_sum_L0 x5 x8 x9 x10) (.exit 0) (incline_sum_L0e0 x5) := by
 exact lpOff [5] [.t false] (aO (dF h1)) (by kernel_rfl) (by simp)
theorem incline_sum__incline_Fit_1_0 {a0 : List (List DV)} {v1 : ByteArray} (h1 : Lp E 0 F_incline_sum 0 (incline_sum_L0 ⟨#[48]⟩ a0 (a0.length : Int) 0) (.exit 0) (incline_sum_L0e0 v1)) :
    Fn E F_incline_sum [.c (.list a0), .fn F_incline_Fit_1 []] (.c (.str v1)) := by
 exact fnMk [.loop [1, 5, 8, 9, 10] [] (.exit 0) (incline_sum_L0e0 v1)] (by kernel_rfl) (by kernel_rfl) (aO h1) (by kernel_rfl)
theorem incline_div_0 {a0 a1 v1 : ByteArray} {v2 : Int} (h1 : Fn E F_rational_Div [.c (.str a0), .c (.str a1)] (.tup [.c (.str v1), .c (.i64 v2)])) :
    Fn E F_incline_div [.c (.str a0), .c (.str a1)] (.c (.str v1)) := by
 exact fnMk [.v (.tup [.c (.str v1), .c (.i64 v2)])] (by kernel_rfl) (by kernel_rfl) (aO h1) (by kernel_rfl)
def incline_sum_L0a (x5 : ByteArray) (x8 : List (List DV)) (x9 : Int) (x10 : Int) : St := stOf 21 [(1, .fn F_incline_Fit_2 []), (5, .c (.str x5)), (8, .c (.list x8)), (9, .c (.i64 x9)), (10, .c (.i64 x10))] []
def incline_sum_L0ae0 (x5' : ByteArray) : St := stOf 21 [(5, .c (.str x5'))] []
theorem incline_sum_L0a_r0 {x5 : ByteArray} {x8 : List (List DV)} {x9 x10 : Int} {v1 v2 v3 v4 : ByteArray} {v5 : Int} (e1 : IntKind.i64.wrap (x10 + 1) = v5) (h1 : x10 < x9) (h2 : 0 ≤ x10) (h3 : x8[(Int.toNat x10)]? = some [.str v1, .str v2]) (h4 : Fn E F_incline_Fit_2 [.agg [.str v1, .str v2]] (.c (.str v3))) (h5 : Fn E F_incline_add [.c (.str x5), .c (.str v3)] (.c (.str v4))) {o : Out} {st' : St} (ih : Lp E 0 F_incline_sum 0 (incline_sum_L0a v4 x8 x9 v5) o st') :
    Lp E 0 F_incline_sum 0 (incline_sum_L0a x5 x8 x9 x10) o st' := by
 subst e1
 exact lpOn _ [1, 5, 8, 9, 10] [.t true, .d [.str v1, .str v2], .v (.c (.str v3)), .v (.c (.str v4))] (aC (dT h1) (aC h2 (aC h3 (aC h4 (aO h5))))) (by kernel_rfl) ih
theorem incline_sum_L0ae0_x0 {x5 : ByteArray} {x8 : List (List DV)} {x9 x10 : Int} (h1 : ¬ x10 < x9) :
    Lp E 0 F_incline_sum 0 (incline_sum_L0a x5 x8 x9 x10) (.exit 0) (incline_sum_L0ae0 x5) := by
 exact lpOff [5] [.t false] (aO (dF h1)) (by kernel_rfl) (by simp)
theorem incline_sum__incline_Fit_2_0 {a0 : List (List DV)} {v1 : ByteArray} (h1 : Lp E 0 F_incline_sum 0 (incline_sum_L0a ⟨#[48]⟩ a0 (a0.length : Int) 0) (.exit 0) (incline_sum_L0ae0 v1)) :
    Fn E F_incline_sum [.c (.list a0), .fn F_incline_Fit_2 []] (.c (.str v1)) := by
 exact fnMk [.loop [1, 5, 8, 9, 10] [] (.exit 0) (incline_sum_L0ae0 v1)] (by kernel_rfl) (by kernel_rfl) (aO h1) (by kernel_rfl)
def incline_sum_L0b (x5 : ByteArray) (x8 : List (List DV)) (x9 : Int) (x10 : Int) (c0_0 : ByteArray) : St := stOf 21 [(1, .fn F_incline_Fit_3 [.ptr 0 0]), (5, .c (.str x5)), (8, .c (.list x8)), (9, .c (.i64 x9)), (10, .c (.i64 x10))] [some (.cells [.c (.str c0_0)])]
def incline_sum_L0be0 (c0_0 : ByteArray) (x5' : ByteArray) : St := stOf 21 [(5, .c (.str x5'))] [some (.cells [.c (.str c0_0)])]
theorem incline_sum_L0b_r0 {x5 : ByteArray} {x8 : List (List DV)} {x9 x10 : Int} {c0_0 v1 v2 v3 v4 : ByteArray} {v5 : Int} (e1 : IntKind.i64.wrap (x10 + 1) = v5) (h1 : x10 < x9) (h2 : 0 ≤ x10) (h3 : x8[(Int.toNat x10)]? = some [.str v1, .str v2]) (h4 : Rn E F_incline_Fit_3 [.agg [.str v1, .str v2], .ptr 0 0] [some (.cells [.c (.str c0_0)]), some (.cells [.c (.str v1), .c (.str v2)])] (.c (.str v3)) [some (.cells [.c (.str c0_0)]), some (.cells [.c (.str v1), .c (.str v2)])]) (h5 : Fn E F_incline_add [.c (.str x5), .c (.str v3)] (.c (.str v4))) {o : Out} {st' : St} (ih : Lp E 1 F_incline_sum 0 (incline_sum_L0b v4 x8 x9 v5 c0_0) o st') :
    Lp E 1 F_incline_sum 0 (incline_sum_L0b x5 x8 x9 x10 c0_0) o st' := by
 subst e1
 exact lpOn _ [1, 5, 8, 9, 10] [.t true, .d [.str v1, .str v2], .vt (.c (.str v3)) [some (.cells [.c (.str c0_0)]), some (.cells [.c (.str v1), .c (.str v2)])], .v (.c (.str v4))] (aC (dT h1) (aC h2 (aC h3 (aC h4 (aO h5))))) (by kernel_rfl) ih
theorem incline_sum_L0be0_x0 {x5 : ByteArray} {x8 : List (List DV)} {x9 x10 : Int} {c0_0 : ByteArray} (h1 : ¬ x10 < x9) :
    Lp E 1 F_incline_sum 0 (incline_sum_L0b x5 x8 x9 x10 c0_0) (.exit 0) (incline_sum_L0be0 c0_0 x5) := by
 exact lpOff [5] [.t false] (aO (dF h1)) (by kernel_rfl) (by simp)
theorem incline_sum__incline_Fit_3_0 {a0 : List (List DV)} {c0_0 v1 : ByteArray} (h1 : Lp E 1 F_incline_sum 0 (incline_sum_L0b ⟨#[48]⟩ a0 (a0.length : Int) 0 c0_0) (.exit 0) (incline_sum_L0be0 c0_0 v1)) :
    Rn E F_incline_sum [.c (.list a0), .fn F_incline_Fit_3 [.ptr 0 0]] [some (.cells [.c (.str c0_0)])] (.c (.str v1)) [some (.cells [.c (.str c0_0)])] := by
 exact rnMk [.loop [1, 5, 8, 9, 10] [] (.exit 0) (incline_sum_L0be0 c0_0 v1)] (by kernel_rfl) (aO h1) (by kernel_rfl)
theorem incline_sign_0 {a0 : ByteArray} {v1 : Int} (h1 : Fn E F_incline_compare [.c (.str a0), .c (.str ⟨#[48]⟩)] (.c (.i64 v1))) :
    Fn E F_incline_sign [.c (.str a0)] (.c (.i64 v1)) := by
 exact fnMk [.v (.c (.i64 v1))] (by kernel_rfl) (by kernel_rfl) (aO h1) (by kernel_rfl)
def incline_sum_L0c (x5 : ByteArray) (x8 : List (List DV)) (x9 : Int) (x10 : Int) (c0_0 : ByteArray) (c1_0 : ByteArray) : St := stOf 21 [(1, .fn F_incline_Fit_4 [.ptr 0 0, .ptr 1 0]), (5, .c (.str x5)), (8, .c (.list x8)), (9, .c (.i64 x9)), (10, .c (.i64 x10))] [some (.cells [.c (.str c0_0)]), some (.cells [.c (.str c1_0)])]
def incline_sum_L0ce0 (c0_0 : ByteArray) (c1_0 : ByteArray) (x5' : ByteArray) : St := stOf 21 [(5, .c (.str x5'))] [some (.cells [.c (.str c0_0)]), some (.cells [.c (.str c1_0)])]
theorem incline_sum_L0c_r0 {x5 : ByteArray} {x8 : List (List DV)} {x9 x10 : Int} {c0_0 c1_0 v1 v2 v3 v4 : ByteArray} {v5 : Int} (e1 : IntKind.i64.wrap (x10 + 1) = v5) (h1 : x10 < x9) (h2 : 0 ≤ x10) (h3 : x8[(Int.toNat x10)]? = some [.str v1, .str v2]) (h4 : Rn E F_incline_Fit_4 [.agg [.str v1, .str v2], .ptr 0 0, .ptr 1 0] [some (.cells [.c (.str c0_0)]), some (.cells [.c (.str c1_0)]), some (.cells [.c (.str v1), .c (.str v2)])] (.c (.str v3)) [some (.cells [.c (.str c0_0)]), some (.cells [.c (.str c1_0)]), some (.cells [.c (.str v1), .c (.str v2)])]) (h5 : Fn E F_incline_add [.c (.str x5), .c (.str v3)] (.c (.str v4))) {o : Out} {st' : St} (ih : Lp E 2 F_incline_sum 0 (incline_sum_L0c v4 x8 x9 v5 c0_0 c1_0) o st') :
    Lp E 2 F_incline_sum 0 (incline_sum_L0c x5 x8 x9 x10 c0_0 c1_0) o st' := by
 subst e1
 exact lpOn _ [1, 5, 8, 9, 10] [.t true, .d [.str v1, .str v2], .vt (.c (.str v3)) [some (.cells [.c (.str c0_0)]), some (.cells [.c (.str c1_0)]), some (.cells [.c (.str v1), .c (.str v2)])], .v (.c (.str v4))] (aC (dT h1) (aC h2 (aC h3 (aC h4 (aO h5))))) (by kernel_rfl) ih
theorem incline_sum_L0ce0_x0 {x5 : ByteArray} {x8 : List (List DV)} {x9 x10 : Int} {c0_0 c1_0 : ByteArray} (h1 : ¬ x10 < x9) :
    Lp E 2 F_incline_sum 0 (incline_sum_L0c x5 x8 x9 x10 c0_0 c1_0) (.exit 0) (incline_sum_L0ce0 c0_0 c1_0 x5) := by
 exact lpOff [5] [.t false] (aO (dF h1)) (by kernel_rfl) (by simp)
theorem incline_sum__incline_Fit_4_0 {a0 : List (List DV)} {c0_0 c1_0 v1 : ByteArray} (h1 : Lp E 2 F_incline_sum 0 (incline_sum_L0c ⟨#[48]⟩ a0 (a0.length : Int) 0 c0_0 c1_0) (.exit 0) (incline_sum_L0ce0 c0_0 c1_0 v1)) :
    Rn E F_incline_sum [.c (.list a0), .fn F_incline_Fit_4 [.ptr 0 0, .ptr 1 0]] [some (.cells [.c (.str c0_0)]), some (.cells [.c (.str c1_0)])] (.c (.str v1)) [some (.cells [.c (.str c0_0)]), some (.cells [.c (.str c1_0)])] := by
 exact rnMk [.loop [1, 5, 8, 9, 10] [] (.exit 0) (incline_sum_L0ce0 c0_0 c1_0 v1)] (by kernel_rfl) (aO h1) (by kernel_rfl)
theorem incline_mul_0 {a0 a1 v1 : ByteArray} {v2 : Int} (h1 : Fn E F_rational_Mul [.c (.str a0), .c (.str a1)] (.tup [.c (.str v1), .c (.i64 v2)])) :
    Fn E F_incline_mul [.c (.str a0), .c (.str a1)] (.c (.str v1)) := by
 exact fnMk [.v (.tup [.c (.str v1), .c (.i64 v2)])] (by kernel_rfl) (by kernel_rfl) (aO h1) (by kernel_rfl)
theorem incline_sub_0 {a0 a1 v1 : ByteArray} {v2 : Int} (h1 : Fn E F_rational_Sub [.c (.str a0), .c (.str a1)] (.tup [.c (.str v1), .c (.i64 v2)])) :
    Fn E F_incline_sub [.c (.str a0), .c (.str a1)] (.c (.str v1)) := by
 exact fnMk [.v (.tup [.c (.str v1), .c (.i64 v2)])] (by kernel_rfl) (by kernel_rfl) (aO h1) (by kernel_rfl)
theorem incline_line_0 {a0 : List (List DV)} {a1 a2 v1 : ByteArray} (h1 : Rn E F_incline_sum [.c (.list a0), .fn F_incline_line_1 [.ptr 1 0]] [some (.cells [.c (.str ⟨#[]⟩), .c (.str ⟨#[]⟩), .c (.str ⟨#[]⟩)]), some (.cells [.c (.str a1), .c (.str a2), .c (.str ⟨#[]⟩)])] (.c (.str v1)) [some (.cells [.c (.str ⟨#[]⟩), .c (.str ⟨#[]⟩), .c (.str ⟨#[]⟩)]), some (.cells [.c (.str a1), .c (.str a2), .c (.str ⟨#[]⟩)])]) :
    Fn E F_incline_line [.c (.list a0), .c (.str a1), .c (.str a2)] (.agg [.str a1, .str a2, .str v1]) := by
 exact fnMk [.vt (.c (.str v1)) [some (.cells [.c (.str ⟨#[]⟩), .c (.str ⟨#[]⟩), .c (.str ⟨#[]⟩)]), some (.cells [.c (.str a1), .c (.str a2), .c (.str ⟨#[]⟩)])]] (by kernel_rfl) (by kernel_rfl) (aO h1) (by kernel_rfl)
def incline_sum_L0d (x5 : ByteArray) (x8 : List (List DV)) (x9 : Int) (x10 : Int) : St := stOf 21 [(1, .fn F_incline_Through_1 []), (5, .c (.str x5)), (8, .c (.list x8)), (9, .c (.i64 x9)), (10, .c (.i64 x10))] []
def incline_sum_L0de0 (x5' : ByteArray) : St := stOf 21 [(5, .c (.str x5'))] []
theorem incline_sum_L0d_r0 {x5 : ByteArray} {x8 : List (List DV)} {x9 x10 : Int} {v1 v2 v3 v4 : ByteArray} {v5 : Int} (e1 : IntKind.i64.wrap (x10 + 1) = v5) (h1 : x10 < x9) (h2 : 0 ≤ x10) (h3 : x8[(Int.toNat x10)]? = some [.str v1, .str v2]) (h4 : Fn E F_incline_Through_1 [.agg [.str v1, .str v2]] (.c (.str v3))) (h5 : Fn E F_incline_add [.c (.str x5), .c (.str v3)] (.c (.str v4))) {o : Out} {st' : St} (ih : Lp E 0 F_incline_sum 0 (incline_sum_L0d v4 x8 x9 v5) o st') :
    Lp E 0 F_incline_sum 0 (incline_sum_L0d x5 x8 x9 x10) o st' := by
 subst e1
 exact lpOn _ [1, 5, 8, 9, 10] [.t true, .d [.str v1, .str v2], .v (.c (.str v3)), .v (.c (.str v4))] (aC (dT h1) (aC h2 (aC h3 (aC h4 (aO h5))))) (by kernel_rfl) ih
theorem incline_sum_L0de0_x0 {x5 : ByteArray} {x8 : List (List DV)} {x9 x10 : Int} (h1 : ¬ x10 < x9) :
    Lp E 0 F_incline_sum 0 (incline_sum_L0d x5 x8 x9 x10) (.exit 0) (incline_sum_L0de0 x5) := by
 exact lpOff [5] [.t false] (aO (dF h1)) (by kernel_rfl) (by simp)
theorem incline_sum__incline_Through_1_0 {a0 : List (List DV)} {v1 : ByteArray} (h1 : Lp E 0 F_incline_sum 0 (incline_sum_L0d ⟨#[48]⟩ a0 (a0.length : Int) 0) (.exit 0) (incline_sum_L0de0 v1)) :
    Fn E F_incline_sum [.c (.list a0), .fn F_incline_Through_1 []] (.c (.str v1)) := by
 exact fnMk [.loop [1, 5, 8, 9, 10] [] (.exit 0) (incline_sum_L0de0 v1)] (by kernel_rfl) (by kernel_rfl) (aO h1) (by kernel_rfl)
def incline_sum_L0e (x5 : ByteArray) (x8 : List (List DV)) (x9 : Int) (x10 : Int) : St := stOf 21 [(1, .fn F_incline_Through_2 []), (5, .c (.str x5)), (8, .c (.list x8)), (9, .c (.i64 x9)), (10, .c (.i64 x10))] []
def incline_sum_L0ee0 (x5' : ByteArray) : St := stOf 21 [(5, .c (.str x5'))] []
theorem incline_sum_L0e_r0 {x5 : ByteArray} {x8 : List (List DV)} {x9 x10 : Int} {v1 v2 v3 v4 : ByteArray} {v5 : Int} (e1 : IntKind.i64.wrap (x10 + 1) = v5) (h1 : x10 < x9) (h2 : 0 ≤ x10) (h3 : x8[(Int.toNat x10)]? = some [.str v1, .str v2]) (h4 : Fn E F_incline_Through_2 [.agg [.str v1, .str v2]] (.c (.str v3))) (h5 : Fn E F_incline_add [.c (.str x5), .c (.str v3)] (.c (.str v4))) {o : Out} {st' : St} (ih : Lp E 0 F_incline_sum 0 (incline_sum_L0e v4 x8 x9 v5) o st') :
    Lp E 0 F_incline_sum 0 (incline_sum_L0e x5 x8 x9 x10) o st' := by
 subst e1
 exact lpOn _ [1, 5, 8, 9, 10] [.t true, .d [.str v1, .str v2], .v (.c (.str v3)), .v (.c (.str v4))] (aC (dT h1) (aC h2 (aC h3 (aC h4 (aO h5))))) (by kernel_rfl) ih
theorem incline_sum_L0ee0_x0 {x5 : ByteArray} {x8 : List (List DV)} {x9 x10 : Int} (h1 : ¬ x10 < x9) :
    Lp E 0 F_incline_sum 0 (incline_sum_L0e x5 x8 x9 x10) (.exit 0) (incline_sum_L0ee0 x5) := by
 exact lpOff [5] [.t false] (aO (dF h1)) (by kernel_rfl) (by simp)
theorem incline_sum__incline_Through_2_0 {a0 : List (List DV)} {v1 : ByteArray} (h1 : Lp E 0 F_incline_sum 0 (incline_sum_L0e ⟨#[48]⟩ a0 (a0.length : Int) 0) (.exit 0) (incline_sum_L0ee0 v1)) :
    Fn E F_incline_sum [.c (.list a0), .fn F_incline_Through_2 []] (.c (.str v1)) := by
 exact fnMk [.loop [1, 5, 8, 9, 10] [] (.exit 0) (incline_sum_L0ee0 v1)] (by kernel_rfl) (by kernel_rfl) (aO h1) (by kernel_rfl)
theorem incline_valid_0 {a0 : List (List DV)} {v1 : Bool} (h1 : Fn E F_slices_ContainsFunc_Rat [.c (.list a0), .fn F_incline_valid_1 []] (.c (.bool v1))) :
    Fn E F_incline_valid [.c (.list a0)] (.c (.bool (!v1))) := by
 exact fnMk [.v (.c (.bool v1))] (by kernel_rfl) (by kernel_rfl) (aO h1) (by kernel_rfl)
theorem incline_difference_0 {a0_0 a0_1 a1_0 a1_1 a1_2 v1 v2 v3 : ByteArray} (h1 : Fn E F_incline_mul [.c (.str a1_0), .c (.str a0_0)] (.c (.str v1))) (h2 : Fn E F_incline_add [.c (.str a1_1), .c (.str v1)] (.c (.str v2))) (h3 : Fn E F_incline_sub [.c (.str a0_1), .c (.str v2)] (.c (.str v3))) :
    Fn E F_incline_difference [.agg [.str a0_0, .str a0_1], .agg [.str a1_0, .str a1_1, .str a1_2]] (.c (.str v3)) := by
 exact fnMk [.v (.c (.str v1)), .v (.c (.str v2)), .v (.c (.str v3))] (by kernel_rfl) (by kernel_rfl) (aC h1 (aC h2 (aO h3))) (by kernel_rfl)
theorem incline_add_0 {a0 a1 v1 : ByteArray} {v2 : Int} (h1 : Fn E F_rational_Add [.c (.str a0), .c (.str a1)] (.tup [.c (.str v1), .c (.i64 v2)])) :
    Fn E F_incline_add [.c (.str a0), .c (.str a1)] (.c (.str v1)) := by
 exact fnMk [.v (.tup [.c (.str v1), .c (.i64 v2)])] (by kernel_rfl) (by kernel_rfl) (aO h1) (by kernel_rfl)
theorem incline_Fit_1_0 {a0_0 a0_1 : ByteArray}  :
    Fn E F_incline_Fit_1 [.agg [.str a0_0, .str a0_1]] (.c (.str a0_0)) := by
 exact fnMk [] (by kernel_rfl) (by kernel_rfl) aN (by kernel_rfl)
theorem incline_Fit_2_0 {a0_0 a0_1 : ByteArray}  :
    Fn E F_incline_Fit_2 [.agg [.str a0_0, .str a0_1]] (.c (.str a0_1)) := by
 exact fnMk [] (by kernel_rfl) (by kernel_rfl) aN (by kernel_rfl)
theorem incline_Fit_3_0 {a0_0 a0_1 c0_0 v1 v2 : ByteArray} (h1 : Fn E F_incline_sub [.c (.str a0_0), .c (.str c0_0)] (.c (.str v1))) (h2 : Fn E F_incline_mul [.c (.str v1), .c (.str v1)] (.c (.str v2))) :
    Rn E F_incline_Fit_3 [.agg [.str a0_0, .str a0_1], .ptr 0 0] [some (.cells [.c (.str c0_0)])] (.c (.str v2)) [some (.cells [.c (.str c0_0)])] := by
 exact rnMk [.v (.c (.str v1)), .v (.c (.str v1)), .v (.c (.str v2))] (by kernel_rfl) (aC h1 (aC h1 (aO h2))) (by kernel_rfl)
theorem incline_Fit_4_0 {a0_0 a0_1 c0_0 c1_0 v1 v2 v3 : ByteArray} (h1 : Fn E F_incline_sub [.c (.str a0_0), .c (.str c0_0)] (.c (.str v1))) (h2 : Fn E F_incline_sub [.c (.str a0_1), .c (.str c1_0)] (.c (.str v2))) (h3 : Fn E F_incline_mul [.c (.str v1), .c (.str v2)] (.c (.str v3))) :
    Rn E F_incline_Fit_4 [.agg [.str a0_0, .str a0_1], .ptr 0 0, .ptr 1 0] [some (.cells [.c (.str c0_0)]), some (.cells [.c (.str c1_0)])] (.c (.str v3)) [some (.cells [.c (.str c0_0)]), some (.cells [.c (.str c1_0)])] := by
 exact rnMk [.v (.c (.str v1)), .v (.c (.str v2)), .v (.c (.str v3))] (by kernel_rfl) (aC h1 (aC h2 (aO h3))) (by kernel_rfl)
def incline_sum_L0f (x5 : ByteArray) (x8 : List (List DV)) (x9 : Int) (x10 : Int) (c0_0 : ByteArray) (c0_1 : ByteArray) (c0_2 : ByteArray) : St := stOf 21 [(1, .fn F_incline_line_1 [.ptr 0 0]), (5, .c (.str x5)), (8, .c (.list x8)), (9, .c (.i64 x9)), (10, .c (.i64 x10))] [some (.cells [.c (.str c0_0), .c (.str c0_1), .c (.str c0_2)])]
def incline_sum_L0fe0 (c0_0 : ByteArray) (c0_1 : ByteArray) (c0_2 : ByteArray) (x5' : ByteArray) : St := stOf 21 [(5, .c (.str x5'))] [some (.cells [.c (.str c0_0), .c (.str c0_1), .c (.str c0_2)])]
theorem incline_sum_L0f_r0 {x5 : ByteArray} {x8 : List (List DV)} {x9 x10 : Int} {c0_0 c0_1 c0_2 v1 v2 v3 v4 : ByteArray} {v5 : Int} (e1 : IntKind.i64.wrap (x10 + 1) = v5) (h1 : x10 < x9) (h2 : 0 ≤ x10) (h3 : x8[(Int.toNat x10)]? = some [.str v1, .str v2]) (h4 : Rn E F_incline_line_1 [.agg [.str v1, .str v2], .ptr 0 0] [some (.cells [.c (.str c0_0), .c (.str c0_1), .c (.str c0_2)]), some (.cells [.c (.str v1), .c (.str v2)])] (.c (.str v3)) [some (.cells [.c (.str c0_0), .c (.str c0_1), .c (.str c0_2)]), some (.cells [.c (.str v1), .c (.str v2)])]) (h5 : Fn E F_incline_add [.c (.str x5), .c (.str v3)] (.c (.str v4))) {o : Out} {st' : St} (ih : Lp E 1 F_incline_sum 0 (incline_sum_L0f v4 x8 x9 v5 c0_0 c0_1 c0_2) o st') :
    Lp E 1 F_incline_sum 0 (incline_sum_L0f x5 x8 x9 x10 c0_0 c0_1 c0_2) o st' := by
 subst e1
 exact lpOn _ [1, 5, 8, 9, 10] [.t true, .d [.str v1, .str v2], .vt (.c (.str v3)) [some (.cells [.c (.str c0_0), .c (.str c0_1), .c (.str c0_2)]), some (.cells [.c (.str v1), .c (.str v2)])], .v (.c (.str v4))] (aC (dT h1) (aC h2 (aC h3 (aC h4 (aO h5))))) (by kernel_rfl) ih
theorem incline_sum_L0fe0_x0 {x5 : ByteArray} {x8 : List (List DV)} {x9 x10 : Int} {c0_0 c0_1 c0_2 : ByteArray} (h1 : ¬ x10 < x9) :
    Lp E 1 F_incline_sum 0 (incline_sum_L0f x5 x8 x9 x10 c0_0 c0_1 c0_2) (.exit 0) (incline_sum_L0fe0 c0_0 c0_1 c0_2 x5) := by
 exact lpOff [5] [.t false] (aO (dF h1)) (by kernel_rfl) (by simp)
theorem incline_sum__incline_line_1_0 {a0 : List (List DV)} {c0_0 c0_1 c0_2 v1 : ByteArray} (h1 : Lp E 1 F_incline_sum 0 (incline_sum_L0f ⟨#[48]⟩ a0 (a0.length : Int) 0 c0_0 c0_1 c0_2) (.exit 0) (incline_sum_L0fe0 c0_0 c0_1 c0_2 v1)) :
    Rn E F_incline_sum [.c (.list a0), .fn F_incline_line_1 [.ptr 0 0]] [some (.cells [.c (.str c0_0), .c (.str c0_1), .c (.str c0_2)])] (.c (.str v1)) [some (.cells [.c (.str c0_0), .c (.str c0_1), .c (.str c0_2)])] := by
 exact rnMk [.loop [1, 5, 8, 9, 10] [] (.exit 0) (incline_sum_L0fe0 c0_0 c0_1 c0_2 v1)] (by kernel_rfl) (aO h1) (by kernel_rfl)
theorem incline_Through_1_0 {a0_0 a0_1 v1 : ByteArray} (h1 : Fn E F_incline_mul [.c (.str a0_0), .c (.str a0_0)] (.c (.str v1))) :
    Fn E F_incline_Through_1 [.agg [.str a0_0, .str a0_1]] (.c (.str v1)) := by
 exact fnMk [.v (.c (.str v1))] (by kernel_rfl) (by kernel_rfl) (aO h1) (by kernel_rfl)
theorem incline_Through_2_0 {a0_0 a0_1 v1 : ByteArray} (h1 : Fn E F_incline_mul [.c (.str a0_0), .c (.str a0_1)] (.c (.str v1))) :
    Fn E F_incline_Through_2 [.agg [.str a0_0, .str a0_1]] (.c (.str v1)) := by
 exact fnMk [.v (.c (.str v1))] (by kernel_rfl) (by kernel_rfl) (aO h1) (by kernel_rfl)
theorem incline_line_1_0 {a0_0 a0_1 c0_0 c0_1 c0_2 v1 v2 : ByteArray} (h1 : Fn E F_incline_difference [.agg [.str a0_0, .str a0_1], .agg [.str c0_0, .str c0_1, .str c0_2]] (.c (.str v1))) (h2 : Fn E F_incline_mul [.c (.str v1), .c (.str v1)] (.c (.str v2))) :
    Rn E F_incline_line_1 [.agg [.str a0_0, .str a0_1], .ptr 0 0] [some (.cells [.c (.str c0_0), .c (.str c0_1), .c (.str c0_2)])] (.c (.str v2)) [some (.cells [.c (.str c0_0), .c (.str c0_1), .c (.str c0_2)])] := by
 exact rnMk [.v (.c (.str v1)), .v (.c (.str v2))] (by kernel_rfl) (aC h1 (aO h2)) (by kernel_rfl)
theorem incline_Correct_1_0 {a0_0 a0_1 : ByteArray} {v1 : List (List DV)} {v2 : Bool} (e1 : (([[.str a0_0], [.str a0_1]] : List (List DV)).take 2) = v1) (h1 : Fn E F_incline_valid [.c (.list v1)] (.c (.bool v2))) :
    Fn E F_incline_Correct_1 [.agg [.str a0_0, .str a0_1]] (.c (.bool (!v2))) := by
 subst e1
 exact fnMk [.v (.c (.bool v2))] (by kernel_rfl) (by kernel_rfl) (aO h1) (by kernel_rfl)
theorem incline_right_1_0 {a0_0 a0_1 : ByteArray} {v1 : List (List DV)} {v2 : Bool} (e1 : (([[.str a0_0], [.str a0_1]] : List (List DV)).take 2) = v1) (h1 : Fn E F_incline_valid [.c (.list v1)] (.c (.bool v2))) :
    Fn E F_incline_right_1 [.agg [.str a0_0, .str a0_1]] (.c (.bool (!v2))) := by
 subst e1
 exact fnMk [.v (.c (.bool v2))] (by kernel_rfl) (by kernel_rfl) (aO h1) (by kernel_rfl)
theorem incline_valid_1_0 {a0 : ByteArray} {v1 : Bool} (h1 : Fn E F_rational_Valid [.c (.str a0)] (.c (.bool v1))) :
    Fn E F_incline_valid_1 [.c (.str a0)] (.c (.bool (!v1))) := by
 exact fnMk [.v (.c (.bool v1))] (by kernel_rfl) (by kernel_rfl) (aO h1) (by kernel_rfl)
end Gev
