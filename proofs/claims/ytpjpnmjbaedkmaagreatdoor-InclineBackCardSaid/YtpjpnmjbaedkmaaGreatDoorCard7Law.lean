/- The law of the last text of this claim: its walk, its plain words. -/
import Derived.Test.YtpjpnmjbaedkmaaGreatDoorF
import Derived.KernelRfl
import Derived.Shelf.SlicesE.Clone
import Derived.Test.YtpjpnmjbaedkmaaGreatDoorTie
import Derived.Test.YtpjpnmjbaedkmaaGreatDoorCards
set_option linter.unusedSectionVars false
set_option linter.unusedVariables false
set_option linter.unusedSimpArgs false
namespace Gev
open Go Go.Proofs
variable {E : Env}
def law54_InclineBack_L0 (x0 : ByteArray) (x1 : ByteArray) (x12 : Nat) (x75 : List (List DV)) (x76 : Int) (x77 : Int) (w0 : List (List DV)) (c1_0 : ByteArray) (c1_1 : ByteArray) (w2 : List (List DV)) (c3_0 : ByteArray) (c3_1 : ByteArray) (w4 : List (List DV)) : St := stOf 153 [(0, .c (.str x0)), (1, .c (.str x1)), (7, .ptr 1 0), (12, .vec 4 x12), (75, .c (.list x75)), (76, .c (.i64 x76)), (77, .c (.i64 x77))] [some (.fro w0), some (.cells [.c (.str c1_0), .c (.str c1_1)]), some (.fro w2), some (.cells [.c (.str c3_0), .c (.str c3_1)]), some (.vec T_api_Lump w4)]
def law54_InclineBack_L0e0 (x0 : ByteArray) (x1 : ByteArray) (w0 : List (List DV)) (c1_0 : ByteArray) (c1_1 : ByteArray) (w2 : List (List DV)) (c3_0 : ByteArray) (c3_1 : ByteArray) (x12' : Nat) (w4' : List (List DV)) : St := stOf 153 [(0, .c (.str x0)), (1, .c (.str x1)), (7, .ptr 1 0), (12, .vec 4 x12')] [some (.fro w0), some (.cells [.c (.str c1_0), .c (.str c1_1)]), some (.fro w2), some (.cells [.c (.str c3_0), .c (.str c3_1)]), some (.vec T_api_Lump w4')]
theorem law54_InclineBack_L0_r0 {x0 x1 : ByteArray} {x12 : Nat} {x75 : List (List DV)} {x76 x77 : Int} {w0 : List (List DV)} {c1_0 c1_1 : ByteArray} {w2 : List (List DV)} {c3_0 c3_1 : ByteArray} {w4 : List (List DV)} {v1 v2 : ByteArray} {v3 : Bool} {v4 v5 : List (List DV)} {v6 v7 : Bool} {v8 v9 : List (List DV)} {v10 : ByteArray} {v11 : List (List DV)} {v12 : Nat} {v13 : Int} (e1 : (w4.take x12) ++ [[.str v10, .str v2]] = v11) (e2 : x12 + 1 = v12) (e3 : IntKind.i64.wrap (x77 + 1) = v13) (h1 : x77 < x76) (h2 : 0 ≤ x77) (h3 : x75[(Int.toNat x77)]? = some [.str v1, .str v2]) (h4 : Fn E F_ref03_From [.c (.str v1)] (.tup [.agg [.bool v3, .list v4, .list v5], .c (.bool v6)])) (h5 : Fn E F_ref03_Neg [.agg [.bool v3, .list v4, .list v5]] (.agg [.bool v7, .list v8, .list v9])) (h6 : Fn E F_ref03_To [.agg [.bool v7, .list v8, .list v9]] (.c (.str v10))) (h7 : (x12 + 1) * 32 ≤ 140737488355328 ∧ x12 + 1 ≤ 140737488355328) {o : Out} {st' : St} (ih : Lp E 4 F_law54_InclineBack 0 (law54_InclineBack_L0 x0 x1 v12 x75 x76 v13 w0 c1_0 c1_1 w2 c3_0 c3_1 v11) o st') :
    Lp E 4 F_law54_InclineBack 0 (law54_InclineBack_L0 x0 x1 x12 x75 x76 x77 w0 c1_0 c1_1 w2 c3_0 c3_1 w4) o st' := by
 subst e1 e2 e3
 exact lpOn _ [0, 1, 7, 12, 75, 76, 77] [.t true, .d [.str v1, .str v2], .v (.tup [.agg [.bool v3, .list v4, .list v5], .c (.bool v6)]), .v (.agg [.bool v7, .list v8, .list v9]), .v (.c (.str v10))] (aC (dT h1) (aC h2 (aC h3 (aC h4 (aC h5 (aC h6 (aC (show ∀ y ∈ ([[.str v10, .str v2]] : List (List DV)), y.length = 2 from by simp) (aO h7)))))))) (by kernel_rfl) ih
theorem law54_InclineBack_L0e0_x0 {x0 x1 : ByteArray} {x12 : Nat} {x75 : List (List DV)} {x76 x77 : Int} {w0 : List (List DV)} {c1_0 c1_1 : ByteArray} {w2 : List (List DV)} {c3_0 c3_1 : ByteArray} {w4 : List (List DV)} (h1 : ¬ x77 < x76) :
    Lp E 4 F_law54_InclineBack 0 (law54_InclineBack_L0 x0 x1 x12 x75 x76 x77 w0 c1_0 c1_1 w2 c3_0 c3_1 w4) (.exit 0) (law54_InclineBack_L0e0 x0 x1 w0 c1_0 c1_1 w2 c3_0 c3_1 x12 w4) := by
 exact lpOff [0, 1, 7, 12] [.t false] (aO (dF h1)) (by kernel_rfl) (by simp)
theorem law54_InclineBack_0 {a0 a1 : ByteArray} {a2 : List (List DV)} (h1 : Fn E F_law54_awake [] (.c (.bool true))) (h2 : Fn E F_ref54_Few [.c (.list []), .c (.list a2)] (.c (.bool true))) (h3 : (a2.length : Int) > 12) :
    Fn E F_law54_InclineBack [.c (.str a0), .c (.str a1), .c (.list a2)] (.c (.bool true)) := by
 exact fnMk [.v (.c (.bool true)), .v (.c (.bool true)), .t true] (by kernel_rfl) (by kernel_rfl) (aC h1 (aC h2 (aO (dT h3)))) (by kernel_rfl)
theorem law54_InclineBack_1 {a0 a1 : ByteArray} {a2 : List (List DV)} (h1 : Fn E F_law54_awake [] (.c (.bool true))) (h2 : Fn E F_ref54_Few [.c (.list []), .c (.list a2)] (.c (.bool true))) (h3 : ¬ (a2.length : Int) > 12) (h4 : (a0.size : Int) > 40) :
    Fn E F_law54_InclineBack [.c (.str a0), .c (.str a1), .c (.list a2)] (.c (.bool true)) := by
 exact fnMk [.v (.c (.bool true)), .v (.c (.bool true)), .t false, .t true] (by kernel_rfl) (by kernel_rfl) (aC h1 (aC h2 (aC (dF h3) (aO (dT h4))))) (by kernel_rfl)
theorem law54_InclineBack_2 {a0 a1 : ByteArray} {a2 : List (List DV)} (h1 : Fn E F_law54_awake [] (.c (.bool true))) (h2 : Fn E F_ref54_Few [.c (.list []), .c (.list a2)] (.c (.bool true))) (h3 : ¬ (a2.length : Int) > 12) (h4 : ¬ (a0.size : Int) > 40) (h5 : (a1.size : Int) > 40) :
    Fn E F_law54_InclineBack [.c (.str a0), .c (.str a1), .c (.list a2)] (.c (.bool true)) := by
 exact fnMk [.v (.c (.bool true)), .v (.c (.bool true)), .t false, .t false, .t true] (by kernel_rfl) (by kernel_rfl) (aC h1 (aC h2 (aC (dF h3) (aC (dF h4) (aO (dT h5)))))) (by kernel_rfl)
theorem law54_InclineBack_5 {a0 a1 : ByteArray} {a2 : List (List DV)} {v3 : Nat} {v4 v5 : List (List DV)} {v6 v7 : ByteArray} {v8 : Int} {v9 : Nat} {v10 v11 v12 : List (List DV)} {v13 v14 : ByteArray} {v15 : Int} (e1 : (v4.take v3) = v5) (e2 : (v11.take v9) = v12) (h1 : Fn E F_law54_awake [] (.c (.bool true))) (h2 : Fn E F_ref54_Few [.c (.list []), .c (.list a2)] (.c (.bool true))) (h3 : ¬ (a2.length : Int) > 12) (h4 : ¬ (a0.size : Int) > 40) (h5 : ¬ (a1.size : Int) > 40) (h6 : Rn E F_slices_Clone_Lump [.c (.list a2)] [] (.vec 0 v3) [some (.vec T_api_Lump v4)]) (h7 : Fn E F_incline_Correct [.c (.str a0), .c (.str a1), .c (.list v5)] (.tup [.agg [.str v6, .str v7], .c (.i64 v8)])) (h8 : Rn E F_slices_Clone_Lump [.c (.list a2)] [] (.vec 0 v9) [some (.vec T_api_Lump v10)]) (h9 : Rn E F_slices_Reverse_Lump [.vec 2 v9] [some (.fro v4), some (.cells [.c (.str v6), .c (.str v7)]), some (.vec T_api_Lump v10)] (.tup []) [some (.fro v4), some (.cells [.c (.str v6), .c (.str v7)]), some (.vec T_api_Lump v11)]) (h10 : Fn E F_incline_Correct [.c (.str a0), .c (.str a1), .c (.list v12)] (.tup [.agg [.str v13, .str v14], .c (.i64 v15)])) (h11 : (!((v6 == v13) && ((v7 == v14) && true))) = false) (h12 : v8 = v15) (h13 : ¬ v8 = 0) (h14 : ((v6 == (⟨#[]⟩ : ByteArray)) && ((v7 == (⟨#[]⟩ : ByteArray)) && true)) = true) :
    Fn E F_law54_InclineBack [.c (.str a0), .c (.str a1), .c (.list a2)] (.c (.bool true)) := by
 subst e1 e2
 exact fnMk [.v (.c (.bool true)), .v (.c (.bool true)), .t false, .t false, .t false, .nw v3 T_api_Lump v4, .v (.tup [.agg [.str v6, .str v7], .c (.i64 v8)]), .nw v9 T_api_Lump v10, .vt (.tup []) [some (.fro v4), some (.cells [.c (.str v6), .c (.str v7)]), some (.vec T_api_Lump v11)], .v (.tup [.agg [.str v13, .str v14], .c (.i64 v15)]), .t false, .t false, .t true, .t true] (by kernel_rfl) (by kernel_rfl) (aC h1 (aC h2 (aC (dF h3) (aC (dF h4) (aC (dF h5) (aC h6 (aC h7 (aC h8 (aC h9 (aC h10 (aC (id h11) (aC (bnF h12) (aC (bnT h13) (aO (id h14))))))))))))))) (by kernel_rfl)
theorem law54_InclineBack_7 {a0 a1 : ByteArray} {a2 : List (List DV)} {v3 : Nat} {v4 v5 : List (List DV)} {v6 v7 : ByteArray} {v8 : Int} {v9 : Nat} {v10 v11 v12 : List (List DV)} {v13 v14 : ByteArray} {v15 : Int} {v16 : Nat} {v17 v18 : List (List DV)} {v19 v20 : ByteArray} {v21 : Int} {v22 : Bool} {v23 v24 : List (List DV)} {v26 : Int} (e1 : (v4.take v3) = v5) (e2 : (v11.take v9) = v12) (e3 : (v17.take v16) = v18) (h1 : Fn E F_law54_awake [] (.c (.bool true))) (h2 : Fn E F_ref54_Few [.c (.list []), .c (.list a2)] (.c (.bool true))) (h3 : ¬ (a2.length : Int) > 12) (h4 : ¬ (a0.size : Int) > 40) (h5 : ¬ (a1.size : Int) > 40) (h6 : Rn E F_slices_Clone_Lump [.c (.list a2)] [] (.vec 0 v3) [some (.vec T_api_Lump v4)]) (h7 : Fn E F_incline_Correct [.c (.str a0), .c (.str a1), .c (.list v5)] (.tup [.agg [.str v6, .str v7], .c (.i64 v8)])) (h8 : Rn E F_slices_Clone_Lump [.c (.list a2)] [] (.vec 0 v9) [some (.vec T_api_Lump v10)]) (h9 : Rn E F_slices_Reverse_Lump [.vec 2 v9] [some (.fro v4), some (.cells [.c (.str v6), .c (.str v7)]), some (.vec T_api_Lump v10)] (.tup []) [some (.fro v4), some (.cells [.c (.str v6), .c (.str v7)]), some (.vec T_api_Lump v11)]) (h10 : Fn E F_incline_Correct [.c (.str a0), .c (.str a1), .c (.list v12)] (.tup [.agg [.str v13, .str v14], .c (.i64 v15)])) (h11 : (!((v6 == v13) && ((v7 == v14) && true))) = false) (h12 : v8 = v15) (h13 : v8 = 0) (h14 : Lp E 4 F_law54_InclineBack 0 (law54_InclineBack_L0 a0 a1 0 a2 (a2.length : Int) 0 v4 v6 v7 v11 v13 v14 []) (.exit 0) (law54_InclineBack_L0e0 a0 a1 v4 v6 v7 v11 v13 v14 v16 v17)) (h15 : Fn E F_incline_Correct [.c (.str v6), .c (.str v7), .c (.list v18)] (.tup [.agg [.str v19, .str v20], .c (.i64 v21)])) (h16 : Fn E F_ref03_From [.c (.str a0)] (.tup [.agg [.bool v22, .list v23, .list v24], .c (.bool true)])) (h17 : Fn E F_ref03_Sign [.agg [.bool v22, .list v23, .list v24]] (.c (.i64 v26))) (h18 : v26 = 0) (h19 : v21 = 16) :
    Fn E F_law54_InclineBack [.c (.str a0), .c (.str a1), .c (.list a2)] (.c (.bool true)) := by
 subst e1 e2 e3
 exact fnMk [.v (.c (.bool true)), .v (.c (.bool true)), .t false, .t false, .t false, .nw v3 T_api_Lump v4, .v (.tup [.agg [.str v6, .str v7], .c (.i64 v8)]), .nw v9 T_api_Lump v10, .vt (.tup []) [some (.fro v4), some (.cells [.c (.str v6), .c (.str v7)]), some (.vec T_api_Lump v11)], .v (.tup [.agg [.str v13, .str v14], .c (.i64 v15)]), .t false, .t false, .t false, .loop [0, 1, 7, 12, 75, 76, 77] [(12, T_api_Lump)] (.exit 0) (law54_InclineBack_L0e0 a0 a1 v4 v6 v7 v11 v13 v14 v16 v17), .v (.tup [.agg [.str v19, .str v20], .c (.i64 v21)]), .v (.tup [.agg [.bool v22, .list v23, .list v24], .c (.bool true)]), .v (.c (.i64 v26)), .t true, .t true] (by kernel_rfl) (by kernel_rfl) (aC h1 (aC h2 (aC (dF h3) (aC (dF h4) (aC (dF h5) (aC h6 (aC h7 (aC h8 (aC h9 (aC h10 (aC (id h11) (aC (bnF h12) (aC (bnF h13) (aC h14 (aC h15 (aC h16 (aC h17 (aC (beT h18) (aO (beT h19)))))))))))))))))))) (by kernel_rfl)
theorem law54_InclineBack_9 {a0 a1 : ByteArray} {a2 : List (List DV)} {v3 : Nat} {v4 v5 : List (List DV)} {v6 v7 : ByteArray} {v8 : Int} {v9 : Nat} {v10 v11 v12 : List (List DV)} {v13 v14 : ByteArray} {v15 : Int} {v16 : Nat} {v17 v18 : List (List DV)} {v19 v20 : ByteArray} {v21 : Int} {v22 : Bool} {v23 v24 : List (List DV)} {v26 : Int} {v27 : List (List DV)} {v28 v29 : ByteArray} {v30 : Int} (e1 : (v4.take v3) = v5) (e2 : (v11.take v9) = v12) (e3 : (v17.take v16) = v18) (e4 : (([[.str v6, .str v7]] : List (List DV)).take 1) = v27) (h1 : Fn E F_law54_awake [] (.c (.bool true))) (h2 : Fn E F_ref54_Few [.c (.list []), .c (.list a2)] (.c (.bool true))) (h3 : ¬ (a2.length : Int) > 12) (h4 : ¬ (a0.size : Int) > 40) (h5 : ¬ (a1.size : Int) > 40) (h6 : Rn E F_slices_Clone_Lump [.c (.list a2)] [] (.vec 0 v3) [some (.vec T_api_Lump v4)]) (h7 : Fn E F_incline_Correct [.c (.str a0), .c (.str a1), .c (.list v5)] (.tup [.agg [.str v6, .str v7], .c (.i64 v8)])) (h8 : Rn E F_slices_Clone_Lump [.c (.list a2)] [] (.vec 0 v9) [some (.vec T_api_Lump v10)]) (h9 : Rn E F_slices_Reverse_Lump [.vec 2 v9] [some (.fro v4), some (.cells [.c (.str v6), .c (.str v7)]), some (.vec T_api_Lump v10)] (.tup []) [some (.fro v4), some (.cells [.c (.str v6), .c (.str v7)]), some (.vec T_api_Lump v11)]) (h10 : Fn E F_incline_Correct [.c (.str a0), .c (.str a1), .c (.list v12)] (.tup [.agg [.str v13, .str v14], .c (.i64 v15)])) (h11 : (!((v6 == v13) && ((v7 == v14) && true))) = false) (h12 : v8 = v15) (h13 : v8 = 0) (h14 : Lp E 4 F_law54_InclineBack 0 (law54_InclineBack_L0 a0 a1 0 a2 (a2.length : Int) 0 v4 v6 v7 v11 v13 v14 []) (.exit 0) (law54_InclineBack_L0e0 a0 a1 v4 v6 v7 v11 v13 v14 v16 v17)) (h15 : Fn E F_incline_Correct [.c (.str v6), .c (.str v7), .c (.list v18)] (.tup [.agg [.str v19, .str v20], .c (.i64 v21)])) (h16 : Fn E F_ref03_From [.c (.str a0)] (.tup [.agg [.bool v22, .list v23, .list v24], .c (.bool true)])) (h17 : Fn E F_ref03_Sign [.agg [.bool v22, .list v23, .list v24]] (.c (.i64 v26))) (h18 : ¬ v26 = 0) (h19 : Fn E F_incline_Correct [.c (.str v6), .c (.str v7), .c (.list v27)] (.tup [.agg [.str v28, .str v29], .c (.i64 v30)])) (h20 : v21 = 0) (h21 : ((v19 == a0) && ((v20 == a1) && true)) = true) (h22 : v30 = 0) (h23 : v29 = v7) :
    Fn E F_law54_InclineBack [.c (.str a0), .c (.str a1), .c (.list a2)] (.c (.bool true)) := by
 subst e1 e2 e3 e4
 exact fnMk [.v (.c (.bool true)), .v (.c (.bool true)), .t false, .t false, .t false, .nw v3 T_api_Lump v4, .v (.tup [.agg [.str v6, .str v7], .c (.i64 v8)]), .nw v9 T_api_Lump v10, .vt (.tup []) [some (.fro v4), some (.cells [.c (.str v6), .c (.str v7)]), some (.vec T_api_Lump v11)], .v (.tup [.agg [.str v13, .str v14], .c (.i64 v15)]), .t false, .t false, .t false, .loop [0, 1, 7, 12, 75, 76, 77] [(12, T_api_Lump)] (.exit 0) (law54_InclineBack_L0e0 a0 a1 v4 v6 v7 v11 v13 v14 v16 v17), .v (.tup [.agg [.str v19, .str v20], .c (.i64 v21)]), .v (.tup [.agg [.bool v22, .list v23, .list v24], .c (.bool true)]), .v (.c (.i64 v26)), .t false, .v (.tup [.agg [.str v28, .str v29], .c (.i64 v30)]), .t true, .t true, .t true, .t true] (by kernel_rfl) (by kernel_rfl) (aC h1 (aC h2 (aC (dF h3) (aC (dF h4) (aC (dF h5) (aC h6 (aC h7 (aC h8 (aC h9 (aC h10 (aC (id h11) (aC (bnF h12) (aC (bnF h13) (aC h14 (aC h15 (aC h16 (aC h17 (aC (beF h18) (aC h19 (aC (beT h20) (aC (id h21) (aC (beT h22) (aO (seT h23)))))))))))))))))))))))) (by kernel_rfl)
theorem law54_InclineBack_19 {a0 a1 : ByteArray} {a2 : List (List DV)} (h1 : Fn E F_law54_awake [] (.c (.bool true))) (h2 : Fn E F_ref54_Few [.c (.list []), .c (.list a2)] (.c (.bool false))) :
    Fn E F_law54_InclineBack [.c (.str a0), .c (.str a1), .c (.list a2)] (.c (.bool true)) := by
 exact fnMk [.v (.c (.bool true)), .v (.c (.bool false))] (by kernel_rfl) (by kernel_rfl) (aC h1 (aO h2)) (by kernel_rfl)
theorem law54_awake_0 {v1 : List (List DV)} {v2 v3 v4 : ByteArray} {v5 : Int} {v6 : ByteArray} {v7 : Int} {v8 : ByteArray} {v9 : Int} {v10 : List (List DV)} {v11 v12 : ByteArray} {v13 : Int} {v14 v15 : ByteArray} {v16 : Int} {v17 v18 v19 : ByteArray} {v20 : Int} {v21 : List (List DV)} {v22 : Int} {v23 : List (List DV)} {v24 : Bool} (e1 : (([[.str ⟨#[45, 49, 48, 48]⟩, .str ⟨#[49, 50]⟩]] : List (List DV)).take 1) = v10) (e2 : (([[.str ⟨#[48]⟩], [.str ⟨#[48]⟩], [.str ⟨#[48]⟩]] : List (List DV)).take 3) = v23) (h1 : Fn E F_law54_Three [] (.c (.list v1))) (h2 : Fn E F_incline_Fit [.c (.list v1)] (.tup [.agg [.str v2, .str v3, .str v4], .c (.i64 v5)])) (h3 : Fn E F_incline_Height [.agg [.str v2, .str v3, .str v4], .c (.str ⟨#[50, 53, 48, 48]⟩)] (.tup [.c (.str v6), .c (.i64 v7)])) (h4 : Fn E F_incline_Centre [.c (.list v1), .c (.str ⟨#[50, 53, 48, 48]⟩), .c (.str ⟨#[57]⟩)] (.tup [.c (.str v8), .c (.i64 v9)])) (h5 : Fn E F_incline_Correct [.c (.str ⟨#[50, 53, 48, 48]⟩), .c (.str ⟨#[55]⟩), .c (.list v10)] (.tup [.agg [.str v11, .str v12], .c (.i64 v13)])) (h6 : Fn E F_incline_Spread [.c (.list v1)] (.tup [.agg [.str v14, .str v15], .c (.i64 v16)])) (h7 : Fn E F_incline_Through [.c (.list v1)] (.tup [.agg [.str v17, .str v18, .str v19], .c (.i64 v20)])) (h8 : Fn E F_incline_Differences [.c (.list v1), .agg [.str v2, .str v3, .str v4]] (.tup [.c (.list v21), .c (.i64 v22)])) (h9 : v5 = 0) (h10 : v7 = 0) (h11 : v9 = 0) (h12 : v13 = 0) (h13 : v16 = 0) (h14 : v20 = 0) (h15 : v22 = 0) (h16 : ((v2 == (⟨#[49, 47, 53, 48, 48, 48]⟩ : ByteArray)) && ((v3 == (⟨#[48]⟩ : ByteArray)) && ((v4 == (⟨#[48]⟩ : ByteArray)) && true))) = true) (h17 : v6 = (⟨#[50]⟩ : ByteArray)) (h18 : v8 = (⟨#[55]⟩ : ByteArray)) (h19 : ((v11 == (⟨#[50, 52, 48, 48]⟩ : ByteArray)) && ((v12 == (⟨#[49, 54, 51, 47, 50, 52]⟩ : ByteArray)) && true)) = true) (h20 : ((v14 == (⟨#[49, 47, 53, 48, 48, 48]⟩ : ByteArray)) && ((v15 == (⟨#[49, 47, 53, 48, 48, 48]⟩ : ByteArray)) && true)) = true) (h21 : ((v17 == v2) && ((v18 == v3) && ((v19 == v4) && true))) = true) (h22 : Fn E F_slices_Equal_Rat [.c (.list v21), .c (.list v23)] (.c (.bool v24))) :
    Fn E F_law54_awake [] (.c (.bool v24)) := by
 subst e1 e2
 exact fnMk [.v (.c (.list v1)), .v (.tup [.agg [.str v2, .str v3, .str v4], .c (.i64 v5)]), .v (.tup [.c (.str v6), .c (.i64 v7)]), .v (.c (.list v1)), .v (.tup [.c (.str v8), .c (.i64 v9)]), .v (.tup [.agg [.str v11, .str v12], .c (.i64 v13)]), .v (.c (.list v1)), .v (.tup [.agg [.str v14, .str v15], .c (.i64 v16)]), .v (.c (.list v1)), .v (.tup [.agg [.str v17, .str v18, .str v19], .c (.i64 v20)]), .v (.c (.list v1)), .v (.tup [.c (.list v21), .c (.i64 v22)]), .t true, .t true, .t true, .t true, .t true, .t true, .t true, .t true, .t true, .t true, .t true, .t true, .t true, .v (.c (.bool v24))] (by kernel_rfl) (by kernel_rfl) (aC h1 (aC h2 (aC h3 (aC h1 (aC h4 (aC h5 (aC h1 (aC h6 (aC h1 (aC h7 (aC h1 (aC h8 (aC (beT h9) (aC (beT h10) (aC (beT h11) (aC (beT h12) (aC (beT h13) (aC (beT h14) (aC (beT h15) (aC (id h16) (aC (seT h17) (aC (seT h18) (aC (id h19) (aC (id h20) (aC (id h21) (aO h22)))))))))))))))))))))))))) (by kernel_rfl)
theorem law54_Three_0 {v1 : List (List DV)} (e1 : (([[.str ⟨#[48]⟩, .str ⟨#[48]⟩], [.str ⟨#[49, 48, 48]⟩, .str ⟨#[49, 47, 53, 48]⟩], [.str ⟨#[50, 48, 48]⟩, .str ⟨#[49, 47, 50, 53]⟩]] : List (List DV)).take 3) = v1) :
    Fn E F_law54_Three [] (.c (.list v1)) := by
 subst e1
 exact fnMk [] (by kernel_rfl) (by kernel_rfl) aN (by kernel_rfl)
end Gev
namespace Gev
open Go Gb
variable {E : Env}
def sh (p : List UInt8 × List UInt8) : Bool := decide (p.1.length ≤ 40) && decide (p.2.length ≤ 40)
theorem few_loop0 {l m : List (List UInt8 × List UInt8)} (hl : l.length ≤ 9223372036854775807) : ∀ d i : Nat, i + d = l.length →
    (l.drop i).all sh = true ∧ Lp E 0 F_ref54_Few 0 (ref54_Few_L0 (R2 l) (R2 m) (i : Nat)) (.exit 0) (ref54_Few_L0e1 (R2 l) (R2 m)) ∨
    (l.drop i).all sh = false ∧ Lp E 0 F_ref54_Few 0 (ref54_Few_L0 (R2 l) (R2 m) (i : Nat)) .ret ref54_Few_L0e0
 | 0, i, hi => .inl ⟨by rw [List.drop_eq_nil_of_le (by omega)]; rfl, ref54_Few_L0e1_x0 (by rw [R2_len]; omega)⟩
 | d + 1, i, hi => by
  obtain ⟨c, hc⟩ := get_ex (l := l) (i := i) (by omega)
  have g := R2_get hc
  rw [← Int.toNat_natCast i] at g
  rw [drop_get hc, List.all_cons]
  have hb1 : (i : Int) < ((R2 l).length : Int) := by rw [R2_len]; omega
  by_cases h1 : c.1.length ≤ 40
  · by_cases h2 : c.2.length ≤ 40
    · have e : sh c = true := by unfold sh; rw [decide_eq_true h1, decide_eq_true h2]; rfl
      rw [e, Bool.true_and]
      have st : ∀ {o s}, Lp E 0 F_ref54_Few 0 (ref54_Few_L0 (R2 l) (R2 m) ((i + 1 : Nat) : Int)) o s → Lp E 0 F_ref54_Few 0 (ref54_Few_L0 (R2 l) (R2 m) (i : Nat)) o s := fun h => ref54_Few_L0_r0 (wi (by omega)) hb1 (by omega) g (by rw [B_size]; omega) (by rw [B_size]; omega) h
      rcases few_loop0 hl d (i + 1) (by omega) with ⟨k1, k2⟩ | ⟨k1, k2⟩
      · exact .inl ⟨k1, st k2⟩
      · exact .inr ⟨k1, st k2⟩
    · have e : sh c = false := by unfold sh; rw [decide_eq_false h2, Bool.and_false]
      rw [e]
      exact .inr ⟨rfl, ref54_Few_L0e0_x1 hb1 (by omega) g (by rw [B_size]; omega) (by rw [B_size]; omega)⟩
  · have e : sh c = false := by unfold sh; rw [decide_eq_false h1, Bool.false_and]
    rw [e]
    exact .inr ⟨rfl, ref54_Few_L0e0_x0 hb1 (by omega) g (by rw [B_size]; omega)⟩
theorem few_loop1 {l m : List (List UInt8 × List UInt8)} (hl : m.length ≤ 9223372036854775807) : ∀ d i : Nat, i + d = m.length →
    (m.drop i).all sh = true ∧ Lp E 0 F_ref54_Few 1 (ref54_Few_L1 (R2 l) (R2 m) (i : Nat)) (.exit 2) (ref54_Few_L1e1 (R2 l) (R2 m)) ∨
    (m.drop i).all sh = false ∧ Lp E 0 F_ref54_Few 1 (ref54_Few_L1 (R2 l) (R2 m) (i : Nat)) .ret ref54_Few_L1e0
 | 0, i, hi => .inl ⟨by rw [List.drop_eq_nil_of_le (by omega)]; rfl, ref54_Few_L1e1_x0 (by rw [R2_len]; omega)⟩
 | d + 1, i, hi => by
  obtain ⟨c, hc⟩ := get_ex (l := m) (i := i) (by omega)
  have g := R2_get hc
  rw [← Int.toNat_natCast i] at g
  rw [drop_get hc, List.all_cons]
  have hb1 : (i : Int) < ((R2 m).length : Int) := by rw [R2_len]; omega
  by_cases h1 : c.1.length ≤ 40
  · by_cases h2 : c.2.length ≤ 40
    · have e : sh c = true := by unfold sh; rw [decide_eq_true h1, decide_eq_true h2]; rfl
      rw [e, Bool.true_and]
      have st : ∀ {o s}, Lp E 0 F_ref54_Few 1 (ref54_Few_L1 (R2 l) (R2 m) ((i + 1 : Nat) : Int)) o s → Lp E 0 F_ref54_Few 1 (ref54_Few_L1 (R2 l) (R2 m) (i : Nat)) o s := fun h => ref54_Few_L1_r0 (wi (by omega)) hb1 (by omega) g (by rw [B_size]; omega) (by rw [B_size]; omega) h
      rcases few_loop1 hl d (i + 1) (by omega) with ⟨k1, k2⟩ | ⟨k1, k2⟩
      · exact .inl ⟨k1, st k2⟩
      · exact .inr ⟨k1, st k2⟩
    · have e : sh c = false := by unfold sh; rw [decide_eq_false h2, Bool.and_false]
      rw [e]
      exact .inr ⟨rfl, ref54_Few_L1e0_x1 hb1 (by omega) g (by rw [B_size]; omega) (by rw [B_size]; omega)⟩
  · have e : sh c = false := by unfold sh; rw [decide_eq_false h1, Bool.false_and]
    rw [e]
    exact .inr ⟨rfl, ref54_Few_L1e0_x0 hb1 (by omega) g (by rw [B_size]; omega)⟩
def fewB (l m : List (List UInt8 × List UInt8)) : Bool := l.all sh && m.all sh && (decide (l.length ≤ 17) && (decide (m.length ≤ 12) || decide (m.length = 65)))
theorem r54_Few {l m : List (List UInt8 × List UInt8)} (hl : l.length ≤ 9223372036854775807) (hm : m.length ≤ 9223372036854775807) : Fn E F_ref54_Few [.c (.list (R2 l)), .c (.list (R2 m))] (.c (.bool (fewB l m))) := by
 have h0 := few_loop0 (E := E) (m := m) hl l.length 0 (by omega)
 have h1 := few_loop1 (E := E) (l := l) hm m.length 0 (by omega)
 rw [List.drop_zero] at h0 h1
 unfold fewB
 rcases h0 with ⟨a1, a2⟩ | ⟨a1, a2⟩
 · rw [a1, Bool.true_and]
   rcases h1 with ⟨b1, b2⟩ | ⟨b1, b2⟩
   · rw [b1, Bool.true_and]
     by_cases c1 : l.length ≤ 17
     · rw [decide_eq_true c1, Bool.true_and]
       by_cases c2 : m.length ≤ 12
       · rw [decide_eq_true c2, Bool.true_or]; exact ref54_Few_2 a2 b2 (by rw [R2_len]; omega) (by rw [R2_len]; omega)
       · rw [decide_eq_false c2, Bool.false_or]
         by_cases c3 : m.length = 65
         · rw [decide_eq_true c3]; exact ref54_Few_3 a2 b2 (by rw [R2_len]; omega) (by rw [R2_len]; omega) (by rw [R2_len]; omega)
         · rw [decide_eq_false c3]; exact ref54_Few_4 a2 b2 (by rw [R2_len]; omega) (by rw [R2_len]; omega) (by rw [R2_len]; omega)
     · rw [decide_eq_false c1, Bool.false_and]; exact ref54_Few_5 a2 b2 (by rw [R2_len]; omega)
   · rw [b1, Bool.false_and]; exact ref54_Few_1 a2 b2
 · rw [a1, Bool.false_and, Bool.false_and]; exact ref54_Few_0 a2
theorem fewB_few {l m : List (List UInt8 × List UInt8)} (h : fewB l m = true) : Few l ∧ Few m ∧ l.length ≤ 17 ∧ (m.length ≤ 12 ∨ m.length = 65) := by
 unfold fewB at h
 simp only [Bool.and_eq_true, Bool.or_eq_true, decide_eq_true_eq, List.all_eq_true] at h
 obtain ⟨⟨h1, h2⟩, h3, h4⟩ := h
 have s : ∀ x, sh x = true → x.1.length ≤ 40 ∧ x.2.length ≤ 40 := fun x hx => by unfold sh at hx; simpa using hx
 have s' : ∀ x, sh x = true → x.1.length ≤ 4000 ∧ x.2.length ≤ 4000 := fun x hx => by have := s x hx; omega
 exact ⟨⟨by omega, fun x hx => s' x (h1 x hx)⟩, ⟨by omega, fun x hx => s' x (h2 x hx)⟩, h3, h4⟩
theorem fewB_short {l m : List (List UInt8 × List UInt8)} (h : fewB l m = true) : (∀ x ∈ l, x.1.length ≤ 40 ∧ x.2.length ≤ 40) ∧ ∀ x ∈ m, x.1.length ≤ 40 ∧ x.2.length ≤ 40 := by
 unfold fewB at h
 simp only [Bool.and_eq_true, Bool.or_eq_true, decide_eq_true_eq, List.all_eq_true] at h
 obtain ⟨⟨h1, h2⟩, h3, h4⟩ := h
 have s : ∀ x, sh x = true → x.1.length ≤ 40 ∧ x.2.length ≤ 40 := fun x hx => by unfold sh at hx; simpa using hx
 exact ⟨fun x hx => s x (h1 x hx), fun x hx => s x (h2 x hx)⟩
theorem equal_loop {xs : List Rat} (hl : xs.length < 9223372036854775807) : ∀ d i : Nat, i + d = xs.length → Lp E 0 F_slices_Equal_Rat 0 (slices_Equal_Rat_L0 (Q1 xs) (Q1 xs) (xs.length : Nat) (i : Nat)) (.exit 0) slices_Equal_Rat_L0e1
 | 0, i, hi => slices_Equal_Rat_L0e1_x0 (by omega)
 | d + 1, i, hi => by
  obtain ⟨c, hc⟩ := get_ex (l := xs) (i := i) (by omega)
  have g := Q1_get hc
  rw [← Int.toNat_natCast i] at g
  exact slices_Equal_Rat_L0_r0 (wi (by omega)) (by omega) (by omega) g g rfl (equal_loop hl d (i + 1) (by omega))
theorem equal_same {xs : List Rat} (hl : xs.length < 9223372036854775807) : Fn E F_slices_Equal_Rat [.c (.list (Q1 xs)), .c (.list (Q1 xs))] (.c (.bool true)) := by
 have h := equal_loop (E := E) hl xs.length 0 (by omega)
 rw [← Q1_len xs] at h
 exact slices_Equal_Rat_2 rfl h
end Gev
namespace Gev
open Go Gb Go.Proofs
variable {E : Env}
def three : List (Rat × Rat) := [(0, 0), (100, mkRat 1 50), (200, mkRat 1 25)]
theorem txn {l : List UInt8} {q : Rat} (hd : q.den = 1) (hn : q.num = (dval l : Nat)) (h : natB l = true) : decQ q = l := by
 rw [decQ_int hd, hn, decZ_nat]; exact ((natB_iff.1 h).eq_dec).symm
theorem txf {a b : List UInt8} {q : Rat} (hn : q.num = (dval a : Nat)) (hd : q.den = dval b) (h1 : q.den ≠ 1) (ha : natB a = true) (hb : natB b = true) : decQ q = a ++ 47 :: b := by
 rw [decQ_frac h1, hn, hd, decZ_nat, ← (natB_iff.1 ha).eq_dec, ← (natB_iff.1 hb).eq_dec]
theorem d0 : decQ 0 = [48] := decQ_zero
theorem d2 : decQ 2 = [50] := txn (by kernel_rfl) (by kernel_rfl) (by decide)
theorem d7 : decQ 7 = [55] := txn (by kernel_rfl) (by kernel_rfl) (by decide)
theorem d9 : decQ 9 = [57] := txn (by kernel_rfl) (by kernel_rfl) (by decide)
theorem d12 : decQ 12 = [49, 50] := txn (by kernel_rfl) (by kernel_rfl) (by decide)
theorem d100 : decQ 100 = [49, 48, 48] := txn (by kernel_rfl) (by kernel_rfl) (by decide)
theorem d200 : decQ 200 = [50, 48, 48] := txn (by kernel_rfl) (by kernel_rfl) (by decide)
theorem d2400 : decQ 2400 = [50, 52, 48, 48] := txn (by kernel_rfl) (by kernel_rfl) (by decide)
theorem d2500 : decQ 2500 = [50, 53, 48, 48] := txn (by kernel_rfl) (by kernel_rfl) (by decide)
theorem d1_50 : decQ (mkRat 1 50) = [49, 47, 53, 48] := txf (a := [49]) (b := [53, 48]) (by kernel_rfl) (by kernel_rfl) (by decide) (by decide) (by decide)
theorem d1_25 : decQ (mkRat 1 25) = [49, 47, 50, 53] := txf (a := [49]) (b := [50, 53]) (by kernel_rfl) (by kernel_rfl) (by decide) (by decide) (by decide)
theorem d1_5000 : decQ (mkRat 1 5000) = [49, 47, 53, 48, 48, 48] := txf (a := [49]) (b := [53, 48, 48, 48]) (by kernel_rfl) (by kernel_rfl) (by decide) (by decide) (by decide)
theorem d163_24 : decQ (mkRat 163 24) = [49, 54, 51, 47, 50, 52] := txf (a := [49, 54, 51]) (b := [50, 52]) (by kernel_rfl) (by kernel_rfl) (by decide) (by decide) (by decide)
theorem dm100 : decQ (-100) = [45, 49, 48, 48] := by
 rw [decQ_int (by kernel_rfl), show (-100 : Rat).num = -100 from (by kernel_rfl), decZ_neg (by decide), show (-100 : Int).natAbs = 100 from rfl]
 have := d100
 rw [decQ_int (by kernel_rfl), show (100 : Rat).num = ((100 : Nat) : Int) from (by kernel_rfl), decZ_nat] at this
 rw [this]
theorem Tx_three : Tx three = [([48], [48]), ([49, 48, 48], [49, 47, 53, 48]), ([50, 48, 48], [49, 47, 50, 53])] := by
 show [(decQ 0, decQ 0), (decQ 100, decQ (mkRat 1 50)), (decQ 200, decQ (mkRat 1 25))] = _
 rw [d0, d100, d200, d1_50, d1_25]
theorem few_three : Few (Tx three) := by
 rw [Tx_three]
 refine ⟨by decide, fun x hx => ?_⟩
 simp only [List.mem_cons, List.not_mem_nil, or_false] at hx
 rcases hx with rfl | rfl | rfl <;> decide
theorem start_three : startI (Tx three) = 0 := by
 unfold startI
 rw [if_pos (Tx_ok three), Tx_len, if_neg (by decide), if_neg (by decide)]
theorem fit_three : fitI three = some (mkRat 1 5000, 0) := by kernel_rfl
theorem ssq_three : ssq (mkRat 1 5000) 0 three = 0 := by kernel_rfl
theorem through_three : throughI three = some (mkRat 1 5000, 0) := by kernel_rfl
theorem three_ok : Fn E F_law54_Three [] (.c (.list (R2 (Tx three)))) := by
 rw [Tx_three]
 exact law54_Three_0 rfl
theorem line_three : Line (mkRat 1 5000) 0 three = .agg [.str (B [49, 47, 53, 48, 48, 48]), .str (B [48]), .str (B [48])] := by unfold Line; rw [ssq_three, d1_5000, d0]
theorem fit3 (hlib : Lib E) : Fn E F_incline_Fit [.c (.list (R2 (Tx three)))] (.tup [.agg [.str (B [49, 47, 53, 48, 48, 48]), .str (B [48]), .str (B [48])], .c (.i64 0)]) := by
 have h := inc_Fit hlib few_three
 unfold ansI at h
 rw [if_pos start_three, nums_Tx, fit_three] at h
 rw [← line_three]; exact h
theorem through3 (hlib : Lib E) : Fn E F_incline_Through [.c (.list (R2 (Tx three)))] (.tup [.agg [.str (B [49, 47, 53, 48, 48, 48]), .str (B [48]), .str (B [48])], .c (.i64 0)]) := by
 have h := inc_Through hlib few_three
 unfold ansI at h
 rw [if_pos start_three, nums_Tx, through_three] at h
 rw [← line_three]; exact h
theorem height_three : heightI [49, 47, 53, 48, 48, 48] [50, 53, 48, 48] = (0, [50]) := by
 unfold heightI
 rw [← d1_5000, ← d2500, ← d2]
 rw [if_pos (by unfold ok2; rw [ok1_dec, ok1_dec]; rfl), rd_decQ, rd_decQ]
 show (if 0 < mkRat 1 5000 ∧ (0 : Rat) < 2500 then (0, decQ (2500 * mkRat 1 5000)⁻¹) else (2, [])) = (0, decQ 2)
 rw [if_pos (by decide), show ((2500 : Rat) * mkRat 1 5000)⁻¹ = 2 from (by kernel_rfl)]
theorem centre_three : centreI fitI (Tx three) [50, 53, 48, 48] [57] = (0, [55]) := by
 unfold centreI
 rw [if_pos (by rw [← d2500, ← d9]; unfold ok2; rw [ok1_dec, ok1_dec]; rfl), if_pos start_three, nums_Tx, fit_three]
 simp only
 rw [d1_5000, height_three, if_pos rfl]
 simp only
 rw [← d9, ← d2, rd_decQ, rd_decQ, ← d7]
 rw [show (some (9 : Rat)).getD 0 - (some (2 : Rat)).getD 0 = 7 from (by kernel_rfl)]
theorem correct_three : correctI [50, 53, 48, 48] [55] [([45, 49, 48, 48], [49, 50])] = (0, [50, 52, 48, 48], [49, 54, 51, 47, 50, 52]) := by
 have e : ([([45, 49, 48, 48], [49, 50])] : List (List UInt8 × List UInt8)) = Tx [(-100, 12)] := by
  show _ = [(decQ (-100), decQ 12)]
  rw [dm100, d12]
 unfold correctI
 rw [e, nums_Tx, Tx_ok, Bool.and_true, Tx_len, ← d2500, ← d7]
 rw [if_pos (by unfold ok2; rw [ok1_dec, ok1_dec]; rfl), if_neg (by decide), rd_decQ, rd_decQ]
 show (if wsum 2500 [(-100, 12)] = 0 then (16, [], []) else (0, decQ (wsum 2500 [(-100, 12)]), decQ (msum 2500 7 [(-100, 12)] / wsum 2500 [(-100, 12)]))) = _
 rw [show wsum 2500 [(-100, 12)] = 2400 from (by kernel_rfl), show msum 2500 7 [(-100, 12)] / 2400 = mkRat 163 24 from (by kernel_rfl), if_neg (by decide), d2400, d163_24]
theorem diff_three : diffI (Tx three) [49, 47, 53, 48, 48, 48] [48] = (0, [0, 0, 0]) := by
 unfold diffI
 rw [Tx_ok, Bool.true_and, Tx_len, nums_Tx, ← d1_5000, ← d0]
 rw [if_pos (by unfold ok2; rw [ok1_dec, ok1_dec]; rfl), if_neg (by decide), rd_decQ, rd_decQ]
 show (0, three.map (dif (mkRat 1 5000) 0)) = (0, [0, 0, 0])
 rw [show three.map (dif (mkRat 1 5000) 0) = [0, 0, 0] from (by kernel_rfl)]
theorem b_self (l : List UInt8) : (B l == B l) = true := by rw [B_beq]; simp
theorem and3 (a b c : List UInt8) : ((B a == B a) && ((B b == B b) && ((B c == B c) && true))) = true := by rw [b_self, b_self, b_self]; rfl
theorem and2 (a b : List UInt8) : ((B a == B a) && ((B b == B b) && true)) = true := by rw [b_self, b_self]; rfl
theorem awake_ok (hlib : Lib E) (hsp : Fn E F_incline_Spread [.c (.list (R2 (Tx three)))] (.tup [.agg [.str (B [49, 47, 53, 48, 48, 48]), .str (B [49, 47, 53, 48, 48, 48])], .c (.i64 0)])) : Fn E F_law54_awake [] (.c (.bool true)) := by
 have hh := inc_Height hlib (p := [49, 47, 53, 48, 48, 48]) (e := [50, 53, 48, 48]) (s := B [48]) (t := B [48]) (by decide) (by decide)
 rw [height_three] at hh
 have hc := inc_Centre hlib (e := [50, 53, 48, 48]) (d := [57]) few_three (by decide) (by decide)
 rw [centre_three] at hc
 have hk := inc_Correct hlib (p := [50, 53, 48, 48]) (e := [55]) (l := [([45, 49, 48, 48], [49, 50])]) ⟨by decide, fun x hx => by simp only [List.mem_singleton] at hx; subst hx; decide⟩ (by decide) (by decide)
 rw [correct_three] at hk
 have hd := inc_Differences hlib (p := [49, 47, 53, 48, 48, 48]) (e := [48]) (s := B [48]) few_three (by decide) (by decide)
 rw [diff_three] at hd
 have he := equal_same (E := E) (xs := [0, 0, 0]) (by decide)
 have e3 : Q1 [0, 0, 0] = [[.str (B [48])], [.str (B [48])], [.str (B [48])]] := by
  show [[DV.str (B (decQ 0))], [DV.str (B (decQ 0))], [DV.str (B (decQ 0))]] = _
  rw [d0]
 unfold Lc at hd
 rw [e3] at he hd
 exact law54_awake_0 rfl rfl three_ok (fit3 hlib) hh hc hk hsp (through3 hlib) hd rfl rfl rfl rfl rfl rfl rfl (and3 [49, 47, 53, 48, 48, 48] [48] [48]) rfl rfl (and2 [50, 52, 48, 48] [49, 54, 51, 47, 50, 52]) (and2 [49, 47, 53, 48, 48, 48] [49, 47, 53, 48, 48, 48]) (and3 [49, 47, 53, 48, 48, 48] [48] [48]) he
end Gev
namespace Gev
open Go Gb Go.Proofs
variable {E : Env}
structure Cl (E : Env) : Prop where
 shift : ∀ l : List (List UInt8 × List UInt8), l.length < 1000 → Rn E F_slices_Clone_Shift [.c (.list (R2 l))] [] (.vec 0 l.length) [some (.vec T_api_Shift (R2 l))]
 lump : ∀ l : List (List UInt8 × List UInt8), l.length < 1000 → Rn E F_slices_Clone_Lump [.c (.list (R2 l))] [] (.vec 0 l.length) [some (.vec T_api_Lump (R2 l))]
theorem R2_take (l : List (List UInt8 × List UInt8)) : (R2 l).take l.length = R2 l := List.take_of_length_le (by rw [R2_len]; omega)
structure Sp (E : Env) : Prop where
 same : ∀ l : List (List UInt8 × List UInt8), Few l → ∃ (x y : List UInt8) (c : Int), Fn E F_incline_Spread [.c (.list (R2 l))] (.tup [.agg [.str (B x), .str (B y)], .c (.i64 c)]) ∧ Fn E F_ref54_Spread [.c (.list (R2 l))] (.tup [.agg [.str (B x), .str (B y)], .c (.i64 c)])
end Gev
namespace Gev
open Go Gb Go.Proofs
variable {E : Env}
theorem two_rep' {Γ : Ctx} (x y : ByteArray) : RepA DD Γ (.agg #[.string x, .string y]) (.agg [.str x, .str y]) := by
 refine .agg #[_, _] _ rfl fun j u d h1 h2 => ?_
 match j, h1, h2 with
 | 0, h1, h2 => cases h1; cases h2; exact .str _
 | 1, h1, h2 => cases h1; cases h2; exact .str _
theorem incline_Spread_err {a0 : List (List DV)} {v1 : Int} (h1 : Fn E F_incline_start [.c (.list a0)] (.c (.i64 v1))) (h2 : ¬ v1 = 0) : Fn E F_incline_Spread [.c (.list a0)] (.tup [.agg [.str ⟨#[]⟩, .str ⟨#[]⟩], .c (.i64 v1)]) :=
 fnMk [.v (.c (.i64 v1)), .t true] (by kernel_rfl) (by kernel_rfl) (aC h1 (aO (bnT h2))) (by kernel_rfl)
theorem inc_Spread (hlib : Lib E) {l : List (List UInt8 × List UInt8)} (hf : Few l) : Fn E F_incline_Spread [.c (.list (R2 l))] (sprI l) := by
 have hst := inc_start hlib hf
 unfold sprI
 by_cases h0 : startI l = 0
 · rw [if_pos h0]
   rw [h0] at hst
   obtain ⟨qs, rfl, h2, hn⟩ := start_zero h0
   have hq := Tx_in hf
   rw [Tx_R2] at hst ⊢
   rw [nums_Tx]
   have hdat : (ivI (spreadI qs)).Data := by
    cases spreadI qs with
    | none => exact AV.isData_ok rfl
    | some p => exact AV.isData_ok rfl
   refine ⟨enters_known (by kernel_rfl), hdat, fun w ext cargs hg hB hx hcl ha => ?_⟩
   obtain ⟨v, rfl⟩ : ∃ v, cargs = #[v] := by
    match cargs, hcl with
    | ⟨[v]⟩, _ => exact ⟨v, rfl⟩
   have hc0 := ha 0 v _ rfl rfl
   have hc1 := hc0
   cases hc0 with
   | c hr =>
    generalize hxs : Q2 qs = xs at hr
    cases hr with
    | list A c xs sz u hc hA hx' hu hd =>
     subst hxs
     rw [Q2_len] at hc hc1 ⊢
     obtain ⟨a, rfl, hab, _⟩ := hA (by intro e; have h9 := congrArg List.length e; rw [Q2_len, List.length_nil] at h9; omega)
     have hsz : sz = 2 := by
      obtain ⟨q, hq0⟩ := get_ex' (l := qs) (i := 0) (by omega)
      rw [← hx' _ (List.mem_of_getElem? (Q2_get hq0))]; rfl
     subst hsz
     have hrow : RowQ a qs w := fun j q hj => by
      have g := Q2_get hj
      have e0 := hu a j _ 0 _ rfl g rfl
      have e1 := hu a j _ 1 _ rfl g rfl
      have d0 := hd j _ 0 _ g rfl
      have d1 := hd j _ 1 _ g rfl
      rw [Nat.add_zero] at e0
      rw [add_add, e0, e1]
      generalize u j 0 = p0 at d0
      generalize u j 1 = p1 at d1
      cases d0; cases d1; exact ⟨rfl, rfl⟩
     refine Calls.mono (spread_raw hlib hq (by omega) a c hc w hg hB hab hrow (loT (spreadI qs)) (hiT (spreadI qs)) _ rfl rfl rfl ?_) ?_
     · intro w' hk
       have hg' : E.Gd w' := E.hs w _ (fun b hb => hk.heap b (by omega) id) hk.size hg
       refine Calls.mono (hst.calls w' (fun _ => False) #[_] hg' (Nat.le_trans hB hk.size) (fun _ h => h.elim) rfl fun i v x h1 h2 => ?_) ?_
       · match i, h1, h2 with
         | 0, h1, h2 =>
          cases h1; cases h2
          cases hc1 with | c hr => exact .c (hr.mono (hk.mono fun _ h => False.elim h) fun b _ h => False.elim (h.elim id no_mine))
       · rintro e w2 ⟨v, rfl, _, k2, k3⟩
         cases k3 with | c k3 => cases k3; exact ⟨rfl, k2⟩
     · rintro e w' ⟨rfl, hk⟩
       refine ⟨_, rfl, E.hs w _ (fun b hb => hk.heap b (by omega) id) hk.size hg, hk, ?_⟩
       cases spreadI qs with
       | none =>
        refine .tup [_, _] _ rfl fun i v a h1 h2 => ?_
        match i, h1, h2 with
        | 0, h1, h2 => cases h1; cases h2; exact two_rep' _ _
        | 1, h1, h2 => cases h1; cases h2; exact .c (.int _ _)
       | some p =>
        refine .tup [_, _] _ rfl fun i v a h1 h2 => ?_
        match i, h1, h2 with
        | 0, h1, h2 => cases h1; cases h2; exact two_rep' _ _
        | 1, h1, h2 => cases h1; cases h2; exact .c (.int _ _)
 · rw [if_neg h0]; exact incline_Spread_err hst h0
end Gev
namespace Gev
open Go Gb Go.Proofs
variable {E : Env}
def vals : List (List UInt8 × List UInt8) → List Value
 | [] => []
 | p :: l => .string (B p.1) :: .string (B p.2) :: vals l
theorem vals_len : ∀ l, (vals l).length = l.length * 2
 | [] => rfl
 | p :: l => by show (vals l).length + 1 + 1 = (l.length + 1) * 2; rw [vals_len l]; omega
theorem vals_get : ∀ {l : List (List UInt8 × List UInt8)} {j : Nat} {u : Value}, (vals l)[j]? = some u → ∃ i p, l[i]? = some p ∧ ((j = i * 2 + 0 ∧ u = .string (B p.1)) ∨ (j = i * 2 + 1 ∧ u = .string (B p.2)))
 | [], j, u, h => by cases h
 | p :: l, 0, u, h => by cases h; exact ⟨0, p, rfl, .inl ⟨rfl, rfl⟩⟩
 | p :: l, 1, u, h => by cases h; exact ⟨0, p, rfl, .inr ⟨rfl, rfl⟩⟩
 | p :: l, j + 2, u, h => by
  obtain ⟨i, q, h1, h2⟩ := vals_get (l := l) (j := j) h
  exact ⟨i + 1, q, h1, h2.imp (fun h => ⟨by omega, h.2⟩) fun h => ⟨by omega, h.2⟩⟩
theorem vals_at : ∀ {l : List (List UInt8 × List UInt8)} {i : Nat} {p}, l[i]? = some p → (vals l)[i * 2 + 0]? = some (.string (B p.1)) ∧ (vals l)[i * 2 + 1]? = some (.string (B p.2))
 | q :: l, 0, p, h => by cases h; exact ⟨rfl, rfl⟩
 | q :: l, i + 1, p, h => by
  have := vals_at (l := l) (i := i) (p := p) h
  rw [show (i + 1) * 2 + 0 = i * 2 + 0 + 2 by omega, show (i + 1) * 2 + 1 = i * 2 + 1 + 2 by omega]
  exact this
theorem own_row {P : Program} {Γ : Ctx} {B0 : Nat} {Gd : World → Prop} (hs : Stable B0 Gd) (ho : Γ.objs = []) (hG : Good DD B0 Gd Γ) {w' : World} (hk : Kept (fun _ => False) Γ.w w') {T : Nat} {ti : TI} (ht : DD.ty T = some ti) (h2 : ti.size = 2) {l : List (List UInt8 × List UInt8)} {v : Value}
    (hr : w'.ownsRow Γ.w.heap.size T 2 v l.length (vals l)) : ∃ Γ' : Ctx, Γ'.objs = [some (.vec T (R2 l))] ∧ Γ'.w = w' ∧ Good DD B0 Gd Γ' ∧ Tr DD Γ Γ' ∧ RepA DD Γ' v (.vec 0 l.length) := by
 have hnone : ∀ k, lk Γ.objs k = none := fun k => by rw [ho]; rfl
 have hmine : ∀ b, ¬ Γ.mine b := fun b ⟨k, o, h, _⟩ => by rw [hnone] at h; cases h
 have hgd : Gd w' := hs _ _ (fun b hb => hk.heap b (Nat.lt_of_lt_of_le hb hG.size) id) hk.size hG.gd
 have hlen : ∀ x ∈ R2 l, x.length = ti.size := fun x hx => by
  unfold R2 at hx
  obtain ⟨p, _, rfl⟩ := List.mem_map.1 hx
  rw [h2]; rfl
 have mk : ∀ (ob : Option Nat), (∀ b, ob = some b → Γ.w.heap.size ≤ b) → ∀ Γ' : Ctx, Γ' = ⟨⟨fun k => if k = 0 then ob else none, Γ.S.ext⟩, [some (.vec T (R2 l))], w'⟩ → ObRep DD Γ' 0 (.vec T (R2 l)) → Good DD B0 Gd Γ' ∧ Tr DD Γ Γ' := by
  intro ob hob Γ' e hob2
  have hm : ∀ b, Γ'.mine b → Γ.w.heap.size ≤ b := fun b ⟨k, o, h, _, hS⟩ => by
   subst e
   have hS : (if k = 0 then ob else none) = some b := hS
   split at hS
   · exact hob b hS
   · cases hS
  have hl : ∀ k o, lk Γ'.objs k = some o → k = 0 ∧ o = .vec T (R2 l) := fun k o h => by
   subst e
   match k, h with
   | 0, h => cases h; exact ⟨rfl, rfl⟩
  have hw : Γ'.w = w' := by subst e; rfl
  have hex : Γ'.S.ext = Γ.S.ext := by subst e; rfl
  refine ⟨⟨fun k o h => ?_, fun k k' o o' b h h' _ _ _ _ => ?_, fun b hb => ?_, fun b hb => ⟨?_, fun h => ?_⟩, ?_, ?_⟩, ⟨by rw [hw]; exact hk.mono fun _ h => h.elim, hex, fun b hb => .inr (hm b hb), fun k cs h => ?_, fun v k len h => ?_, fun v k i off h => ?_⟩⟩
  · obtain ⟨rfl, rfl⟩ := hl k o h; exact hob2
  · rw [(hl k o h).1, (hl k' o' h').1]
  · rcases hb with hb | hb
    · exact hG.own b (.inl (hex ▸ hb))
    · exact Nat.le_trans hG.size (hm b hb)
  · rw [hw]; exact Nat.lt_of_lt_of_le (hG.ext b (hex ▸ hb)).1 hk.size
  · have := hm b h; have := (hG.ext b (hex ▸ hb)).1; omega
  · rw [hw]; exact Nat.le_trans hG.size hk.size
  · rw [hw]; exact hgd
  · rw [hnone] at h; cases h
  · cases h with
    | vnil _ _ h1 => rw [hnone] at h1; cases h1
    | vec _ _ _ _ _ _ _ _ h1 => rw [hnone] at h1; cases h1
    | fvec _ _ _ h1 => rw [hnone] at h1; cases h1
    | gone _ _ h1 => rw [hnone] at h1; cases h1
  · cases h with
    | vptr _ _ _ _ _ _ _ h1 => rw [hnone] at h1; cases h1
    | fptr _ _ _ _ _ _ h1 => rw [hnone] at h1; cases h1
    | pgone _ _ _ h1 => rw [hnone] at h1; cases h1
 obtain ⟨_, hr⟩ := hr
 rcases hr with ⟨rfl, h0⟩ | ⟨g, cap, cur, rfl, hb, hg, hnc, _, hsz, hcur⟩
 · have hl0 : l = [] := List.eq_nil_of_length_eq_zero h0
   subst hl0
   obtain ⟨a1, a2⟩ := mk none (fun _ h => by cases h) _ rfl ⟨ti, ht, hlen, .inl ⟨rfl, rfl⟩⟩
   exact ⟨_, rfl, rfl, a1, a2, .vnil 0 T rfl rfl⟩
 · obtain ⟨a1, a2⟩ := mk (some g) (fun b h => by cases h; exact hb) _ rfl ⟨ti, ht, hlen, .inr ⟨g, cur, cap, rfl, hg, by rw [h2]; exact hsz, by rw [R2_len]; exact hnc, fun i x j d u h1 h3 h4 => by
    rw [h2] at h4
    unfold R2 at h1
    rw [List.getElem?_map] at h1
    cases hp : l[i]? with
    | none => rw [hp] at h1; cases h1
    | some p =>
     rw [hp] at h1; cases h1
     have hi := (List.getElem?_eq_some_iff.1 hp).1
     have hv := vals_at hp
     have hcg : ∀ j, j < l.length * 2 → cur[j]? = (vals l)[j]? := fun j hj => by rw [← hcur, List.getElem?_take, if_pos hj, Array.getElem?_toList]
     match j, h3, h4 with
     | 0, h3, h4 => cases h3; rw [hcg _ (by omega), hv.1] at h4; cases h4; exact .str _
     | 1, h3, h4 => cases h3; rw [hcg _ (by omega), hv.2] at h4; cases h4; exact .str _⟩⟩
   exact ⟨_, rfl, rfl, a1, a2, .vec 0 l.length cap g T ti (R2 l) cur rfl ht rfl (by rw [R2_len]; exact Nat.le_refl _) hg (by rw [h2]; exact hsz) (by rw [R2_len]; exact hnc)⟩
end Gev
namespace Go.Proofs
open Go.RowKit Go.Shelf Go.Sort Go.Lib Gev
set_option maxHeartbeats 2000000 in
set_option maxRecDepth 100000 in
theorem clone_shift (a : Addr) (n c : Nat) (news : List Value) (w : World) (hl : news.length = n * 2) (hn : n ≤ 100000) (hc : ∀ j u, news[j]? = some u → w.cell? (a.add j) = some u) (h1 : ∀ u ∈ news, u.oneCell' = true) :
    Calls Tryz.prog 13 #[.slice (some a) n c] w fun e w' => ∃ v', e = .returned v' ∧ w'.ownsRow w.heap.size 33 2 v' n news ∧ Below w.heap.size w w' := by
 have t22 : Tryz.prog.underlying 22 = some (.slice 33) := by kernel_rfl
 have q22 : ∀ (w : World) (a : Option Addr) (n c n' c' : Nat), (binOp .eql 22 (.slice a n c) (.slice none n' c')).run Tryz.prog w = .ok (.bool a.isNone) w := fun w a n c n' c' => Lib.run_eql_slice_nil w _ _ a n c n' c' t22
 obtain ⟨i0, hi, hz0, hz1, hz2⟩ := info_parts (by kernel_rfl : (Tryz.prog.info? 33).map (fun i => (i.zero, i.size, i.bytes)) = some (some (.agg #[.string ⟨#[]⟩, .string ⟨#[]⟩]), 2, 32))
 have A : Aside (∀ j u, news[j]? = some u → w.cell? (a.add j) = some u) := hc
 clear hc
 go_enter Tryz.func13, Tryz.ntmps13
 go_wp2_with (at_builtin; refine wpList_append_own _ rfl _ _ 22 rfl w.heap.size 33 i0 (.agg #[.string ⟨#[]⟩, .string ⟨#[]⟩]) 2 32 t22 hi hz0 hz1 hz2 rfl (by decide) _ _ _ rfl (World.ownsRow_made w #[] 0 (Nat.le_refl _) (Nat.zero_le _) (by simp)) a n c news rfl ?qc1 ?qc2 ?qc3 ?qc4 ?qc5 ?qc6 ?_)
 case qc1 => exact hl
 case qc2 => exact fun j u hj => Lib.cell?_alloc_some _ (A.out j u hj)
 case qc3 => exact h1
 case qc4 => rw [Nat.zero_add]; unfold maxLen; omega
 case qc5 => rw [Nat.zero_add]; omega
 case qc6 => simp
 intro v' w1 hown hgrow hnil
 go_wp2
 go_ret
 refine ⟨v', rfl, by simpa using hown, ?_⟩
 exact ((Below.refl _ w).alloc (Nat.le_refl _) _).grown hgrow (by simp) (by intro k hk; simp [Value.ownBlock] at hk; omega)
set_option maxRecDepth 100000 in
theorem clone_shift_nil (n c : Nat) (w : World) : Calls Tryz.prog 13 #[.slice none n c] w fun e w' => e = .returned (.slice none 0 0) ∧ w' = w := by
 have t22 : Tryz.prog.underlying 22 = some (.slice 33) := by kernel_rfl
 have q22 : ∀ (w : World) (a : Option Addr) (n c n' c' : Nat), (binOp .eql 22 (.slice a n c) (.slice none n' c')).run Tryz.prog w = .ok (.bool a.isNone) w := fun w a n c n' c' => Lib.run_eql_slice_nil w _ _ a n c n' c' t22
 go_enter Tryz.func13, Tryz.ntmps13
 go_wp2
 go_ret
 exact ⟨rfl, rfl⟩
set_option maxHeartbeats 2000000 in
set_option maxRecDepth 100000 in
theorem clone_lump (a : Addr) (n c : Nat) (news : List Value) (w : World) (hl : news.length = n * 2) (hn : n ≤ 100000) (hc : ∀ j u, news[j]? = some u → w.cell? (a.add j) = some u) (h1 : ∀ u ∈ news, u.oneCell' = true) :
    Calls Tryz.prog 27 #[.slice (some a) n c] w fun e w' => ∃ v', e = .returned v' ∧ w'.ownsRow w.heap.size 49 2 v' n news ∧ Below w.heap.size w w' := by
 have t22 : Tryz.prog.underlying 47 = some (.slice 49) := by kernel_rfl
 have q22 : ∀ (w : World) (a : Option Addr) (n c n' c' : Nat), (binOp .eql 47 (.slice a n c) (.slice none n' c')).run Tryz.prog w = .ok (.bool a.isNone) w := fun w a n c n' c' => Lib.run_eql_slice_nil w _ _ a n c n' c' t22
 obtain ⟨i0, hi, hz0, hz1, hz2⟩ := info_parts (by kernel_rfl : (Tryz.prog.info? 49).map (fun i => (i.zero, i.size, i.bytes)) = some (some (.agg #[.string ⟨#[]⟩, .string ⟨#[]⟩]), 2, 32))
 have A : Aside (∀ j u, news[j]? = some u → w.cell? (a.add j) = some u) := hc
 clear hc
 go_enter Tryz.func27, Tryz.ntmps27
 go_wp2_with (at_builtin; refine wpList_append_own _ rfl _ _ 47 rfl w.heap.size 49 i0 (.agg #[.string ⟨#[]⟩, .string ⟨#[]⟩]) 2 32 t22 hi hz0 hz1 hz2 rfl (by decide) _ _ _ rfl (World.ownsRow_made w #[] 0 (Nat.le_refl _) (Nat.zero_le _) (by simp)) a n c news rfl ?qc1 ?qc2 ?qc3 ?qc4 ?qc5 ?qc6 ?_)
 case qc1 => exact hl
 case qc2 => exact fun j u hj => Lib.cell?_alloc_some _ (A.out j u hj)
 case qc3 => exact h1
 case qc4 => rw [Nat.zero_add]; unfold maxLen; omega
 case qc5 => rw [Nat.zero_add]; omega
 case qc6 => simp
 intro v' w1 hown hgrow hnil
 go_wp2
 go_ret
 refine ⟨v', rfl, by simpa using hown, ?_⟩
 exact ((Below.refl _ w).alloc (Nat.le_refl _) _).grown hgrow (by simp) (by intro k hk; simp [Value.ownBlock] at hk; omega)
set_option maxRecDepth 100000 in
theorem clone_lump_nil (n c : Nat) (w : World) : Calls Tryz.prog 27 #[.slice none n c] w fun e w' => e = .returned (.slice none 0 0) ∧ w' = w := by
 have t22 : Tryz.prog.underlying 47 = some (.slice 49) := by kernel_rfl
 have q22 : ∀ (w : World) (a : Option Addr) (n c n' c' : Nat), (binOp .eql 47 (.slice a n c) (.slice none n' c')).run Tryz.prog w = .ok (.bool a.isNone) w := fun w a n c n' c' => Lib.run_eql_slice_nil w _ _ a n c n' c' t22
 go_enter Tryz.func27, Tryz.ntmps27
 go_wp2
 go_ret
 exact ⟨rfl, rfl⟩
end Go.Proofs
namespace Gev
open Go Gb Go.Proofs
variable {E : Env}
theorem rn_clone_shift (l : List (List UInt8 × List UInt8)) (hl : l.length < 1000) : Rn E F_slices_Clone_Shift [.c (.list (R2 l))] [] (.vec 0 l.length) [some (.vec T_api_Shift (R2 l))] := by
 have hti : ∃ ti, DD.ty T_api_Shift = some ti ∧ ti.size = 2 := by
  have h : (DD.ty T_api_Shift).map (·.size) = some 2 := by kernel_rfl
  cases ht : DD.ty T_api_Shift with
  | none => rw [ht] at h; cases h
  | some ti => rw [ht] at h; exact ⟨ti, rfl, Option.some.inj h⟩
 obtain ⟨ti, ht, h2⟩ := hti
 refine ⟨enters_known (by kernel_rfl), fun Γ cargs ho hG hcl ha => ?_⟩
 obtain ⟨v, rfl⟩ : ∃ v, cargs = #[v] := by
  match cargs, hcl with
  | ⟨[v]⟩, _ => exact ⟨v, rfl⟩
 have hc0 := ha 0 v _ rfl rfl
 cases hc0 with
 | c hr =>
  generalize hxs : R2 l = xs at hr
  cases hr with
  | list A c xs sz u hc hA hx' hu hd =>
   subst hxs
   rw [R2_len] at hc ⊢
   cases A with
   | none =>
    have hl0 : l = [] := by
     cases l with
     | nil => rfl
     | cons p l => obtain ⟨a, h, _⟩ := hA (by intro e; cases e); cases h
    subst hl0
    refine Calls.mono (clone_shift_nil _ c Γ.w) ?_
    rintro e w' ⟨rfl, rfl⟩
    obtain ⟨Γ', a1, a2, a3, a4, a5⟩ := own_row (P := PP) E.hs ho hG (Kept.refl _ _) ht h2 (l := []) (v := .slice none 0 0) ⟨rfl, .inl ⟨rfl, rfl⟩⟩
    exact ⟨_, Γ', rfl, a1, a2, a3, a4, a5⟩
   | some a =>
    refine Calls.mono (clone_shift a l.length c (vals l) Γ.w (vals_len l) (by omega) (fun j u hj => ?_) (fun u hu => ?_)) ?_
    · obtain ⟨i, p, h3, h4⟩ := vals_get hj
      have g := R2_get h3
      have hsz : sz = 2 := by rw [← hx' _ (List.mem_of_getElem? g)]; rfl
      subst hsz
      rcases h4 with ⟨rfl, rfl⟩ | ⟨rfl, rfl⟩
      · have d0 := hd i _ 0 _ g rfl
        rw [hu a i _ 0 _ rfl g rfl]
        generalize u i 0 = q at d0
        cases d0; rfl
      · have d0 := hd i _ 1 _ g rfl
        rw [hu a i _ 1 _ rfl g rfl]
        generalize u i 1 = q at d0
        cases d0; rfl
    · obtain ⟨j, hj⟩ := List.getElem?_of_mem hu
      obtain ⟨i, p, _, h4⟩ := vals_get hj
      rcases h4 with ⟨_, rfl⟩ | ⟨_, rfl⟩ <;> rfl
    · rintro e w' ⟨v', rfl, hown, hb⟩
      obtain ⟨Γ', a1, a2, a3, a4, a5⟩ := own_row (P := PP) E.hs ho hG (Kept.of_below hb) ht h2 hown
      exact ⟨_, Γ', rfl, a1, a2, a3, a4, a5⟩
theorem rn_clone_lump (l : List (List UInt8 × List UInt8)) (hl : l.length < 1000) : Rn E F_slices_Clone_Lump [.c (.list (R2 l))] [] (.vec 0 l.length) [some (.vec T_api_Lump (R2 l))] := by
 have hti : ∃ ti, DD.ty T_api_Lump = some ti ∧ ti.size = 2 := by
  have h : (DD.ty T_api_Lump).map (·.size) = some 2 := by kernel_rfl
  cases ht : DD.ty T_api_Lump with
  | none => rw [ht] at h; cases h
  | some ti => rw [ht] at h; exact ⟨ti, rfl, Option.some.inj h⟩
 obtain ⟨ti, ht, h2⟩ := hti
 refine ⟨enters_known (by kernel_rfl), fun Γ cargs ho hG hcl ha => ?_⟩
 obtain ⟨v, rfl⟩ : ∃ v, cargs = #[v] := by
  match cargs, hcl with
  | ⟨[v]⟩, _ => exact ⟨v, rfl⟩
 have hc0 := ha 0 v _ rfl rfl
 cases hc0 with
 | c hr =>
  generalize hxs : R2 l = xs at hr
  cases hr with
  | list A c xs sz u hc hA hx' hu hd =>
   subst hxs
   rw [R2_len] at hc ⊢
   cases A with
   | none =>
    have hl0 : l = [] := by
     cases l with
     | nil => rfl
     | cons p l => obtain ⟨a, h, _⟩ := hA (by intro e; cases e); cases h
    subst hl0
    refine Calls.mono (clone_lump_nil _ c Γ.w) ?_
    rintro e w' ⟨rfl, rfl⟩
    obtain ⟨Γ', a1, a2, a3, a4, a5⟩ := own_row (P := PP) E.hs ho hG (Kept.refl _ _) ht h2 (l := []) (v := .slice none 0 0) ⟨rfl, .inl ⟨rfl, rfl⟩⟩
    exact ⟨_, Γ', rfl, a1, a2, a3, a4, a5⟩
   | some a =>
    refine Calls.mono (clone_lump a l.length c (vals l) Γ.w (vals_len l) (by omega) (fun j u hj => ?_) (fun u hu => ?_)) ?_
    · obtain ⟨i, p, h3, h4⟩ := vals_get hj
      have g := R2_get h3
      have hsz : sz = 2 := by rw [← hx' _ (List.mem_of_getElem? g)]; rfl
      subst hsz
      rcases h4 with ⟨rfl, rfl⟩ | ⟨rfl, rfl⟩
      · have d0 := hd i _ 0 _ g rfl
        rw [hu a i _ 0 _ rfl g rfl]
        generalize u i 0 = q at d0
        cases d0; rfl
      · have d0 := hd i _ 1 _ g rfl
        rw [hu a i _ 1 _ rfl g rfl]
        generalize u i 1 = q at d0
        cases d0; rfl
    · obtain ⟨j, hj⟩ := List.getElem?_of_mem hu
      obtain ⟨i, p, _, h4⟩ := vals_get hj
      rcases h4 with ⟨_, rfl⟩ | ⟨_, rfl⟩ <;> rfl
    · rintro e w' ⟨v', rfl, hown, hb⟩
      obtain ⟨Γ', a1, a2, a3, a4, a5⟩ := own_row (P := PP) E.hs ho hG (Kept.of_below hb) ht h2 hown
      exact ⟨_, Γ', rfl, a1, a2, a3, a4, a5⟩
theorem cl_ok : Cl E := ⟨rn_clone_shift, rn_clone_lump⟩
end Gev
namespace Gev
open Go Gb
def r0 (a b : Rat) (qs : List (Rat × Rat)) : Rat := qsum (dif a b) qs
def r1 (a b : Rat) (qs : List (Rat × Rat)) : Rat := qsum (fun q => dif a b q * q.1) qs
end Gev
namespace Gev
open Go Gb Go.Proofs
variable {E : Env}
attribute [local irreducible] Sz
end Gev
namespace Gev
open Go Gb Go.Proofs
variable {E : Env}
attribute [local irreducible] Sz
end Gev
namespace Gev
open Go Gb
end Gev
namespace Gev
open Go Gb Go.Proofs
variable {E : Env}
attribute [local irreducible] Sz
end Gev
namespace Gev
open Go Gb Go.Proofs
variable {E : Env}
attribute [local irreducible] Sz
theorem nand2 (x y : List UInt8) : (!((B x == B x) && ((B y == B y) && true))) = false := by rw [and2]; rfl
theorem qsum_reverse {α : Type} (g : α → Rat) : ∀ l : List α, qsum g l.reverse = qsum g l
 | [] => rfl
 | a :: l => by rw [List.reverse_cons, qsum_snoc, qsum_reverse g l, qsum_cons, Rat.add_comm]
theorem R2_set (ws : List (List UInt8 × List UInt8)) (i : Nat) (p : List UInt8 × List UInt8) : (R2 ws).set i [.str (B p.1), .str (B p.2)] = R2 (ws.set i p) := by unfold R2; rw [List.map_set]
theorem reverse_loop {l : List (List UInt8 × List UInt8)} (hl : l.length < 1000) {w0 : List (List DV)} {c1 c2 : ByteArray} : ∀ (d i : Nat) (ws : List (List UInt8 × List UInt8)), ws.length = l.length → l.length ≤ i + i + d → (∀ j : Nat, j < l.length → ws[j]? = if j < i ∨ l.length ≤ j + i then l[l.length - 1 - j]? else l[j]?) →
    Lp E 3 F_slices_Reverse_Lump 0 (slices_Reverse_Lump_L0 l.length (i : Nat) ((l.length : Int) - 1 - i) w0 c1 c2 (R2 ws)) (.exit 0) (slices_Reverse_Lump_L0e0 w0 c1 c2 (R2 l.reverse)) := by
 have fin : ∀ (i : Nat) (ws : List (List UInt8 × List UInt8)), ws.length = l.length → l.length ≤ i + i + 1 → (∀ j : Nat, j < l.length → ws[j]? = if j < i ∨ l.length ≤ j + i then l[l.length - 1 - j]? else l[j]?) → ws = l.reverse := by
  intro i ws hw hi h
  apply List.ext_getElem?
  intro j
  by_cases hj : j < l.length
  · rw [h j hj, List.getElem?_reverse hj]
    split
    · rfl
    · rw [show l.length - 1 - j = j by omega]
  · rw [List.getElem?_eq_none (by omega), List.getElem?_eq_none (by rw [List.length_reverse]; omega)]
 intro d
 induction d with
 | zero =>
  intro i ws hw hi h
  rw [fin i ws hw (by omega) h]
  exact slices_Reverse_Lump_L0e0_x0 (by omega)
 | succ d ih =>
  intro i ws hw hi h
  by_cases hlt : (i : Int) < (l.length : Int) - 1 - i
  · obtain ⟨k, hk⟩ : ∃ k : Nat, (l.length : Int) - 1 - i = k := ⟨l.length - 1 - i, by omega⟩
    obtain ⟨p, hp⟩ := get_ex (l := ws) (i := k) (by omega)
    obtain ⟨q, hq⟩ := get_ex (l := ws) (i := i) (by omega)
    obtain ⟨r, hr⟩ := get_ex (l := ws.set i p) (i := k) (by rw [List.length_set]; omega)
    have hn := ih (i + 1) ((ws.set i p).set k q) (by simp [hw]) (by omega) (fun j hj => by
     have ep := h k (by omega)
     have eq := h i (by omega)
     rw [hp, if_neg (by omega)] at ep
     rw [hq, if_neg (by omega)] at eq
     by_cases h1 : j = k
     · subst h1
       rw [List.getElem?_set_self (by rw [List.length_set]; omega), if_pos (by omega), show l.length - 1 - j = i by omega]
       exact eq
     · rw [List.getElem?_set_ne (fun e => h1 e.symm)]
       by_cases h2 : j = i
       · subst h2
         rw [List.getElem?_set_self (by omega), if_pos (by omega), show l.length - 1 - j = k by omega]
         exact ep
       · rw [List.getElem?_set_ne (fun e => h2 e.symm), h j hj]
         by_cases h3 : j < i ∨ l.length ≤ j + i
         · rw [if_pos h3, if_pos (by omega)]
         · rw [if_neg h3, if_neg (by omega)])
    rw [show (l.length : Int) - 1 - ((i + 1 : Nat) : Int) = (k : Int) - 1 by omega] at hn
    rw [hk]
    refine slices_Reverse_Lump_L0_r0 (v9 := ((i + 1 : Nat) : Int)) (v10 := (k : Int) - 1) (v1 := B p.1) (v2 := B p.2) (v3 := B q.1) (v4 := B q.2) (v5 := R2 (ws.set i p)) (v6 := B r.1) (v7 := B r.2) (v8 := R2 ((ws.set i p).set k q)) ?_ ?_ (wi (by omega)) (wi (by omega)) (by omega) (by omega) ?_ (by omega) ?_ ?_ hn
    · rw [Int.toNat_natCast]; exact R2_set _ _ _
    · rw [Int.toNat_natCast]; exact R2_set _ _ _
    · rw [Int.toNat_natCast]; exact R2_get hp
    · rw [Int.toNat_natCast]; exact R2_get hq
    · rw [Int.toNat_natCast]; exact R2_get hr
  · rw [fin i ws hw (by omega) h]
    exact slices_Reverse_Lump_L0e0_x0 hlt
theorem rn_reverse {l : List (List UInt8 × List UInt8)} (hl : l.length < 1000) {w0 : List (List DV)} {c1 c2 : ByteArray} : Rn E F_slices_Reverse_Lump [.vec 2 l.length] [some (.fro w0), some (.cells [.c (.str c1), .c (.str c2)]), some (.vec T_api_Lump (R2 l))] (.tup []) [some (.fro w0), some (.cells [.c (.str c1), .c (.str c2)]), some (.vec T_api_Lump (R2 l.reverse))] := by
 have h := reverse_loop (E := E) hl (w0 := w0) (c1 := c1) (c2 := c2) l.length 0 l rfl (by omega) (fun j hj => by rw [if_neg (by omega)])
 rw [show (l.length : Int) - 1 - ((0 : Nat) : Int) = (l.length : Int) - 1 by omega] at h
 exact slices_Reverse_Lump_0 (wi (by omega)) h
theorem all_reverse {α : Type} (f : α → Bool) (l : List α) : l.reverse.all f = l.all f := by simp
theorem correct_reverse (p e : List UInt8) (l : List (List UInt8 × List UInt8)) : correctI p e l.reverse = correctI p e l := by
 unfold correctI
 rw [all_reverse, List.length_reverse]
 have hn : nums l.reverse = (nums l).reverse := by unfold nums; rw [List.map_reverse]
 have h1 : ∀ a qs, wsum a qs.reverse = wsum a qs := fun a qs => by unfold wsum; rw [qsum_reverse]
 have h2 : ∀ a b qs, msum a b qs.reverse = msum a b qs := fun a b qs => by unfold msum; rw [qsum_reverse]
 rw [hn, h1, h2]
theorem Few.reverse {l : List (List UInt8 × List UInt8)} (h : Few l) : Few l.reverse := ⟨by rw [List.length_reverse]; exact h.1, fun x hx => h.2 x (List.mem_reverse.1 hx)⟩
def opp (q : Rat × Rat) : Rat × Rat := (-q.1, q.2)
theorem back_loop {qs : List (Rat × Rat)} (hq : ∀ q ∈ qs, Sz q.1 40 ∧ Sz q.2 40) (hn : qs.length ≤ 12) {p e c1 c2 c3 c4 : ByteArray} {w0 w2 : List (List DV)} : ∀ d i : Nat, i + d = qs.length →
    Lp E 4 F_law54_InclineBack 0 (law54_InclineBack_L0 p e i (Q2 qs) (qs.length : Nat) (i : Nat) w0 c1 c2 w2 c3 c4 (Q2 ((qs.take i).map opp))) (.exit 0) (law54_InclineBack_L0e0 p e w0 c1 c2 w2 c3 c4 qs.length (Q2 (qs.map opp)))
 | 0, i, hi => by
  obtain rfl : i = qs.length := by omega
  rw [List.take_length]
  exact law54_InclineBack_L0e0_x0 (by omega)
 | d + 1, i, hi => by
  have hl := Lim_val
  obtain ⟨q, hc⟩ := get_ex (l := qs) (i := i) (by omega)
  have zq := hq q (List.mem_of_getElem? hc)
  have hf := r3_From (E := E) (l := decQ q.1) (by have := zq.1.len; omega)
  rw [rd_decQ] at hf
  refine law54_InclineBack_L0_r0 (v12 := i + 1) (v13 := ((i + 1 : Nat) : Int)) ?_ rfl (wi (by omega)) (by omega) (by omega) (by rw [Int.toNat_natCast]; exact Q2_get hc) hf (r3_Neg q.1) (r3_To zq.1.neg (by omega)) (by omega) (back_loop hq hn d (i + 1) (by omega))
  rw [take_get hc, List.map_append, List.take_of_length_le (by rw [Q2_len, List.length_map, List.length_take]; omega)]
  unfold Q2
  rw [List.map_append]; rfl
theorem opp_w (M : Rat) : ∀ qs, wsum M (qs.map opp) = M - qsum (·.1) qs := by
 intro qs
 unfold wsum
 have : qsum (fun q : Rat × Rat => q.1) (qs.map opp) = - qsum (fun q : Rat × Rat => q.1) qs := by
  induction qs with
  | nil => show (0 : Rat) = -0; grind
  | cons q qs ih => rw [List.map_cons, qsum_cons, qsum_cons, ih]; show -q.1 + _ = _; grind
 rw [this]; grind
theorem opp_m (M H : Rat) : ∀ qs, msum M H (qs.map opp) = M * H - qsum (fun q => q.1 * q.2) qs := by
 intro qs
 unfold msum
 have : qsum (fun q : Rat × Rat => q.1 * q.2) (qs.map opp) = - qsum (fun q : Rat × Rat => q.1 * q.2) qs := by
  induction qs with
  | nil => show (0 : Rat) = -0; grind
  | cons q qs ih => rw [List.map_cons, qsum_cons, qsum_cons, ih]; show -q.1 * q.2 + _ = _; grind
 rw [this]; grind
theorem correct_Tx {a b : Rat} {qs : List (Rat × Rat)} (hn : qs.length ≤ 64) : correctI (decQ a) (decQ b) (Tx qs) = if wsum a qs = 0 then (16, [], []) else (0, decQ (wsum a qs), decQ (msum a b qs / wsum a qs)) := by
 have h2 : ok2 (decQ a, decQ b) = true := by show (ok1 (decQ a) && ok1 (decQ b)) = true; rw [ok1_dec, ok1_dec]; rfl
 unfold correctI
 rw [Tx_ok, h2, Bool.true_and, if_pos rfl, Tx_len, if_neg (by omega), nums_Tx, rd_decQ, rd_decQ]; rfl
theorem correct_ok {p e : List UInt8} {l : List (List UInt8 × List UInt8)} (h : (correctI p e l).1 = 0) : ∃ a b qs, p = decQ a ∧ e = decQ b ∧ l = Tx qs ∧ qs.length ≤ 64 ∧ wsum a qs ≠ 0 := by
 unfold correctI at h
 split at h
 · rename_i ho
   rw [Bool.and_eq_true] at ho
   obtain ⟨ho, hl⟩ := ho
   unfold ok2 at ho
   rw [Bool.and_eq_true] at ho
   obtain ⟨a, ea⟩ := ok1_some ho.1
   obtain ⟨x, ex⟩ := ok1_some ho.2
   have ea : p = decQ a := ea
   have ex : e = decQ x := ex
   subst ea ex
   obtain ⟨qs, rfl⟩ := Tx_of hl
   split at h
   · exact absurd h (by decide)
   · rename_i h64
     rw [Tx_len] at h64
     rw [rd_decQ, nums_Tx] at h
     split at h
     · exact absurd h (by decide)
     · rename_i hw
       exact ⟨a, x, qs, rfl, rfl, rfl, by omega, hw⟩
 · exact absurd h (by decide)
theorem correct_no {p e : List UInt8} {l : List (List UInt8 × List UInt8)} (h : (correctI p e l).1 ≠ 0) : (correctI p e l).2 = ([], []) := by
 unfold correctI at h ⊢
 split
 · rename_i ho
   rw [if_pos ho] at h
   split
   · rfl
   · rename_i h64
     rw [if_neg h64] at h
     split
     · rfl
     · rename_i hw
       rw [if_neg hw] at h
       exact absurd rfl h
 · rfl
theorem law_Back (hlib : Lib E) (hcl : Cl E) (haw : Fn E F_law54_awake [] (.c (.bool true))) (p e : List UInt8) (l : List (List UInt8 × List UInt8)) (hl : l.length ≤ 9223372036854775807) : Fn E F_law54_InclineBack [.c (.str (B p)), .c (.str (B e)), .c (.list (R2 l))] (.c (.bool true)) := by
 have hf := r54_Few (E := E) (l := []) (m := l) (by decide) hl
 cases hb : fewB [] l with
 | false => rw [hb] at hf; exact law54_InclineBack_19 haw hf
 | true =>
  rw [hb] at hf
  obtain ⟨_, hm, _, _⟩ := fewB_few hb
  have hsh := (fewB_short hb).2
  have hL := Lim_val
  by_cases h12 : 12 < l.length
  · exact law54_InclineBack_0 haw hf (by rw [R2_len]; omega)
  · have n0 : ¬ ((R2 l).length : Int) > 12 := by rw [R2_len]; omega
    by_cases h1 : p.length ≤ 40
    · by_cases h2 : e.length ≤ 40
      · have n1 : ¬ ((B p).size : Int) > 40 := by rw [B_size]; omega
        have n2 : ¬ ((B e).size : Int) > 40 := by rw [B_size]; omega
        have hc := hcl.lump l hm.1
        have k1 := inc_Correct hlib hm (p := p) (e := e) (by omega) (by omega)
        have k2 := inc_Correct hlib hm.reverse (p := p) (e := e) (by omega) (by omega)
        rw [correct_reverse] at k2
        have hrev : (R2 l.reverse).take l.length = R2 l.reverse := by have := R2_take l.reverse; rwa [List.length_reverse] at this
        by_cases h0 : (correctI p e l).1 = 0
        · obtain ⟨a, b, qs, rfl, rfl, rfl, h64, hw⟩ := correct_ok h0
          rw [Tx_len] at h12
          rw [correct_Tx h64, if_neg hw] at k1 k2
          have hq : ∀ q ∈ qs, Sz q.1 40 ∧ Sz q.2 40 := fun q hq => by
           have := hsh (decQ q.1, decQ q.2) (List.mem_map_of_mem (f := fun q : Rat × Rat => (decQ q.1, decQ q.2)) hq)
           exact ⟨Sz.of_len this.1, Sz.of_len this.2⟩
          have za := Sz.of_len h1
          have zb := Sz.of_len h2
          have m12 : qs.length * (40 + 1) ≤ 12 * (40 + 1) := Nat.mul_le_mul_right _ (by omega)
          have m12' : qs.length * (80 + 1) ≤ 12 * (80 + 1) := Nat.mul_le_mul_right _ (by omega)
          have zM : Sz (wsum a qs) 600 := Sz_add_qsum za (K := 40) (fun q h => (hq q h).1) (by omega)
          have zS : Sz (msum a b qs) 1200 := Sz_add_qsum (za.mul zb) (K := 80) (fun q h => (hq q h).1.mul (hq q h).2) (by omega)
          have zH : Sz (msum a b qs / wsum a qs) 1800 := (zS.div zM).mono (by omega)
          have eH : wsum a qs * (msum a b qs / wsum a qs) = msum a b qs := by rw [Rat.mul_comm, Rat.div_def, Rat.mul_assoc, Rat.inv_mul_cancel _ hw, Rat.mul_one]
          have hop : Few (Tx (qs.map opp)) := by
           refine ⟨by rw [Tx_len, List.length_map]; omega, fun x hx => ?_⟩
           unfold Tx at hx
           obtain ⟨q', hq', rfl⟩ := List.mem_map.1 hx
           obtain ⟨q, h, rfl⟩ := List.mem_map.1 hq'
           have z1 := (hq q h).1.neg.len
           have z2 := (hq q h).2.len
           exact ⟨by show (decQ (-q.1)).length ≤ 4000; omega, by show (decQ q.2).length ≤ 4000; omega⟩
          have lM := zM.len
          have lH := zH.len
          have k3 := inc_Correct hlib hop (p := decQ (wsum a qs)) (e := decQ (msum a b qs / wsum a qs)) (by omega) (by omega)
          rw [correct_Tx (by rw [List.length_map]; exact h64), opp_w, opp_m, eH, Tx_R2] at k3
          have e1 : wsum a qs - qsum (·.1) qs = a := by unfold wsum; grind
          have e2 : msum a b qs - qsum (fun q => q.1 * q.2) qs = a * b := by unfold msum; grind
          rw [e1, e2] at k3
          have hlp := back_loop (E := E) hq (by omega) (p := B (decQ a)) (e := B (decQ b)) (c1 := B (decQ (wsum a qs))) (c2 := B (decQ (msum a b qs / wsum a qs))) (c3 := B (decQ (wsum a qs))) (c4 := B (decQ (msum a b qs / wsum a qs))) (w0 := R2 (Tx qs)) (w2 := R2 (Tx qs).reverse) qs.length 0 (by omega)
          rw [List.take_zero, ← Q2_len qs, ← Tx_R2] at hlp
          have hpf := r3_From (E := E) (l := decQ a) (by omega)
          rw [rd_decQ] at hpf
          have ht : (Q2 (qs.map opp)).take (R2 (Tx qs)).length = Q2 (qs.map opp) := List.take_of_length_le (by rw [R2_len, Tx_len, Q2_len, List.length_map]; omega)
          by_cases ha0 : a = 0
          · subst ha0
            rw [if_pos rfl] at k3
            exact law54_InclineBack_7 (v3 := (Tx qs).length) (v9 := (Tx qs).length) (R2_take _) hrev ht haw hf n0 n1 n2 hc k1 hc (rn_reverse hm.1) k2 (nand2 _ _) rfl rfl hlp k3 hpf (r3_Sign 0) (sgn_zero.2 rfl) rfl
          · rw [if_neg ha0] at k3
            have eb : a * b / a = b := by rw [Rat.mul_comm, Rat.div_def, Rat.mul_assoc, Rat.mul_inv_cancel _ ha0, Rat.mul_one]
            rw [eb] at k3
            have hmo : Few (Tx [(wsum a qs, msum a b qs / wsum a qs)]) := by
             refine ⟨by rw [Tx_len]; simp, fun x hx => ?_⟩
             simp [Tx] at hx
             subst hx
             exact ⟨by show (decQ (wsum a qs)).length ≤ 4000; omega, by show (decQ (msum a b qs / wsum a qs)).length ≤ 4000; omega⟩
            have k4 := inc_Correct hlib hmo (p := decQ (wsum a qs)) (e := decQ (msum a b qs / wsum a qs)) (by omega) (by omega)
            have w2 : wsum (wsum a qs) [(wsum a qs, msum a b qs / wsum a qs)] = 2 * wsum a qs := by show wsum a qs + (wsum a qs + 0) = _; grind
            have m2 : msum (wsum a qs) (msum a b qs / wsum a qs) [(wsum a qs, msum a b qs / wsum a qs)] = 2 * msum a b qs := by
             show wsum a qs * (msum a b qs / wsum a qs) + (wsum a qs * (msum a b qs / wsum a qs) + 0) = _
             rw [eH]; grind
            have hw2 : 2 * wsum a qs ≠ 0 := fun h => (Rat.mul_eq_zero.1 h).elim (by decide) hw
            have e5 : 2 * msum a b qs / (2 * wsum a qs) = msum a b qs / wsum a qs := by
             have h2 : (2 * msum a b qs / (2 * wsum a qs)) * (2 * wsum a qs) = 2 * msum a b qs := by rw [Rat.div_def, Rat.mul_assoc, Rat.inv_mul_cancel _ hw2, Rat.mul_one]
             generalize 2 * msum a b qs / (2 * wsum a qs) = X at h2 ⊢
             generalize msum a b qs / wsum a qs = Y at eH ⊢
             have h3 : (X - Y) * wsum a qs = 0 := by grind
             have := (Rat.mul_eq_zero.1 h3).resolve_right hw
             grind
            rw [correct_Tx (by simp), w2, m2, if_neg hw2, e5] at k4
            exact law54_InclineBack_9 (v3 := (Tx qs).length) (v9 := (Tx qs).length) (R2_take _) hrev ht rfl haw hf n0 n1 n2 hc k1 hc (rn_reverse hm.1) k2 (nand2 _ _) rfl rfl hlp k3 hpf (r3_Sign a) (fun h => ha0 (sgn_zero.1 h)) k4 rfl (and2 _ _) rfl rfl
        · have hno := correct_no h0
          generalize correctI p e l = r at k1 k2 h0 hno
          obtain ⟨c, t⟩ := r
          subst hno
          exact law54_InclineBack_5 (v3 := l.length) (v9 := l.length) (R2_take _) hrev haw hf n0 n1 n2 hc k1 hc (rn_reverse hm.1) k2 (nand2 _ _) rfl h0 rfl
      · exact law54_InclineBack_2 haw hf n0 (by rw [B_size]; omega) (by rw [B_size]; omega)
    · exact law54_InclineBack_1 haw hf n0 (by rw [B_size]; omega)
end Gev
namespace Gev
open Go Gb Go.Proofs
variable {P : Program}
theorem uStr {t : TypeId} (h : P.underlying t = some .string) {ds : List DV} (hd : TyD P t ds) : ∃ l, ds = [.str (B l)] := by
 cases hd with
 | str s hu => exact ⟨s.data.toList, by rw [B_of]⟩
 | int n hu hw => rw [h] at hu; cases hu
 | bool b hu => rw [h] at hu; cases hu
 | slice xs hu hx hl => rw [h] at hu; cases hu
 | struct ds hu hl hp => rw [h] at hu; cases hu
def fieldsOf (P : Program) (e : TypeId) : Option (List (Nat × TypeId)) := match P.underlying e with | some (.struct fs) => some (fs.toList.map fun f => (f.offset, f.type)) | _ => none
theorem fields_get {e : TypeId} {l : List (Nat × TypeId)} (h : fieldsOf P e = some l) : ∃ fs, P.underlying e = some (.struct fs) ∧ fs.toList.map (fun f => (f.offset, f.type)) = l := by
 unfold fieldsOf at h
 split at h
 · rename_i fs hu; exact ⟨fs, hu, Option.some.inj h⟩
 · cases h
theorem uStruct {e : TypeId} {l : List (Nat × TypeId)} (h : fieldsOf P e = some l) {ds : List DV} (hd : TyD P e ds) : ds.length = P.cellsOf e ∧ ∀ x ∈ l, TyD P x.2 ((ds.drop x.1).take (P.cellsOf x.2)) := by
 obtain ⟨fs, hu0, rfl⟩ := fields_get h
 cases hd with
 | struct _ hu hl hp =>
  rw [hu0] at hu; cases hu
  refine ⟨hl, fun x hx => ?_⟩
  obtain ⟨f, hf, rfl⟩ := List.mem_map.1 hx
  exact hp f hf
 | int n hu hw => rw [hu0] at hu; cases hu
 | bool b hu => rw [hu0] at hu; cases hu
 | str s hu => rw [hu0] at hu; cases hu
 | slice xs hu hx hl => rw [hu0] at hu; cases hu
theorem uSlice {t e : TypeId} (ht : P.underlying t = some (.slice e)) {d : DV} (hd : TyD P t [d]) : ∃ xs, d = .list xs ∧ (∀ x ∈ xs, TyD P e x) ∧ xs.length ≤ 9223372036854775807 := by
 generalize hds : [d] = ds at hd
 cases hd with
 | slice xs hu hx hl => rw [ht] at hu; cases hu; cases hds; exact ⟨xs, rfl, hx, hl⟩
 | int n hu hw => rw [ht] at hu; cases hu
 | bool b hu => rw [ht] at hu; cases hu
 | str s hu => rw [ht] at hu; cases hu
 | struct ds hu hl hp => rw [ht] at hu; cases hu
theorem two_cells {x : List DV} (h : x.length = 2) : ∃ a b, x = [a, b] := by
 match x, h with
 | [a, b], _ => exact ⟨a, b, rfl⟩
theorem uPair {e s : TypeId} (he : fieldsOf P e = some [(0, s), (1, s)]) (c2 : P.cellsOf e = 2) (cs : P.cellsOf s = 1) (hs : P.underlying s = some .string) {x : List DV} (hd : TyD P e x) : ∃ p q, x = [.str (B p), .str (B q)] := by
 obtain ⟨hl, hp⟩ := uStruct he hd
 rw [c2] at hl
 obtain ⟨a, b, rfl⟩ := two_cells hl
 have ha := hp (0, s) (by simp)
 have hb := hp (1, s) (by simp)
 simp only [cs, List.drop_zero, List.drop_succ_cons, List.take_succ_cons, List.take_zero] at ha hb
 obtain ⟨p, e1⟩ := uStr hs ha
 obtain ⟨q, e2⟩ := uStr hs hb
 cases e1; cases e2; exact ⟨p, q, rfl⟩
theorem uPairs {t e s : TypeId} (ht : P.underlying t = some (.slice e)) (he : fieldsOf P e = some [(0, s), (1, s)]) (c2 : P.cellsOf e = 2) (cs : P.cellsOf s = 1) (hs : P.underlying s = some .string) {d : DV} (hd : TyD P t [d]) : ∃ l, d = .list (R2 l) ∧ l.length ≤ 9223372036854775807 := by
 obtain ⟨xs, rfl, hx, hl⟩ := uSlice ht hd
 have hex : ∀ xs : List (List DV), (∀ x ∈ xs, TyD P e x) → ∃ l, xs = R2 l := by
  intro xs
  induction xs with
  | nil => exact fun _ => ⟨[], rfl⟩
  | cons x xs ih =>
   intro hx
   obtain ⟨l, rfl⟩ := ih fun y hy => hx y (by simp [hy])
   obtain ⟨p, q, rfl⟩ := uPair he c2 cs hs (hx x (by simp))
   exact ⟨(p, q) :: l, rfl⟩
 obtain ⟨l, rfl⟩ := hex xs hx
 exact ⟨l, rfl, by rw [R2_len] at hl; exact hl⟩
theorem uText {s : TypeId} (hs : P.underlying s = some .string) {d : DV} (hd : TyD P s [d]) : ∃ p, d = .str (B p) := by
 obtain ⟨p, e⟩ := uStr hs hd
 cases e; exact ⟨p, rfl⟩
theorem spread3 (hlib : Lib E0) : Fn E0 F_incline_Spread [.c (.list (R2 (Tx three)))] (.tup [.agg [.str (B [49, 47, 53, 48, 48, 48]), .str (B [49, 47, 53, 48, 48, 48])], .c (.i64 0)]) := by
 have h := inc_Spread hlib few_three
 unfold sprI at h
 rw [if_pos start_three, nums_Tx, show spreadI three = some (mkRat 1 5000, mkRat 1 5000) by kernel_rfl] at h
 simp only [ivI] at h
 rw [d1_5000] at h
 exact h
theorem awake0 : Fn E0 F_law54_awake [] (.c (.bool true)) := awake_ok lib0 (spread3 lib0)
end Gev
