/- A part of the proof: see the last text of this claim. -/
import Derived.Test.YtpjpnmjbaedkmaaGreatDoorC
set_option linter.unusedSectionVars false
set_option linter.unusedVariables false
set_option linter.unusedSimpArgs false
namespace Gev
open Go Go.Proofs
variable {E : Env}
def ref54_Few_L0 (x0 : List (List DV)) (x1 : List (List DV)) (x5 : Int) : St := stOf 64 [(0, .c (.list x0)), (1, .c (.list x1)), (5, .c (.i64 x5))] []
def ref54_Few_L0e0 : St := stOf 64 [(4, .c (.bool false))] []
def ref54_Few_L0e1 (x0 : List (List DV)) (x1 : List (List DV)) : St := stOf 64 [(0, .c (.list x0)), (1, .c (.list x1))] []
theorem ref54_Few_L0_r0 {x0 x1 : List (List DV)} {x5 : Int} {v1 v2 : ByteArray} {v3 : Int} (e1 : IntKind.i64.wrap (x5 + 1) = v3) (h1 : x5 < (x0.length : Int)) (h2 : 0 ≤ x5) (h3 : x0[(Int.toNat x5)]? = some [.str v1, .str v2]) (h4 : ¬ (v1.size : Int) > 40) (h5 : ¬ (v2.size : Int) > 40) {o : Out} {st' : St} (ih : Lp E 0 F_ref54_Few 0 (ref54_Few_L0 x0 x1 v3) o st') :
    Lp E 0 F_ref54_Few 0 (ref54_Few_L0 x0 x1 x5) o st' := by
 subst e1
 exact lpOn _ [0, 1, 5] [.t true, .d [.str v1, .str v2], .t false, .d [.str v1, .str v2], .t false] (aC (dT h1) (aC h2 (aC h3 (aC (dF h4) (aC h2 (aC h3 (aO (dF h5)))))))) (by kernel_rfl) ih
theorem ref54_Few_L0e0_x0 {x0 x1 : List (List DV)} {x5 : Int} {v1 v2 : ByteArray} (h1 : x5 < (x0.length : Int)) (h2 : 0 ≤ x5) (h3 : x0[(Int.toNat x5)]? = some [.str v1, .str v2]) (h4 : (v1.size : Int) > 40) :
    Lp E 0 F_ref54_Few 0 (ref54_Few_L0 x0 x1 x5) .ret (ref54_Few_L0e0) := by
 exact lpOff [4] [.t true, .d [.str v1, .str v2], .t true] (aC (dT h1) (aC h2 (aC h3 (aO (dT h4))))) (by kernel_rfl) (by simp)
theorem ref54_Few_L0e0_x1 {x0 x1 : List (List DV)} {x5 : Int} {v1 v2 : ByteArray} (h1 : x5 < (x0.length : Int)) (h2 : 0 ≤ x5) (h3 : x0[(Int.toNat x5)]? = some [.str v1, .str v2]) (h4 : ¬ (v1.size : Int) > 40) (h5 : (v2.size : Int) > 40) :
    Lp E 0 F_ref54_Few 0 (ref54_Few_L0 x0 x1 x5) .ret (ref54_Few_L0e0) := by
 exact lpOff [4] [.t true, .d [.str v1, .str v2], .t false, .d [.str v1, .str v2], .t true] (aC (dT h1) (aC h2 (aC h3 (aC (dF h4) (aC h2 (aC h3 (aO (dT h5)))))))) (by kernel_rfl) (by simp)
theorem ref54_Few_L0e1_x0 {x0 x1 : List (List DV)} {x5 : Int} (h1 : ¬ x5 < (x0.length : Int)) :
    Lp E 0 F_ref54_Few 0 (ref54_Few_L0 x0 x1 x5) (.exit 0) (ref54_Few_L0e1 x0 x1) := by
 exact lpOff [0, 1] [.t false] (aO (dF h1)) (by kernel_rfl) (by simp)
def ref54_Few_L1 (x0 : List (List DV)) (x1 : List (List DV)) (x6 : Int) : St := stOf 64 [(0, .c (.list x0)), (1, .c (.list x1)), (6, .c (.i64 x6))] []
def ref54_Few_L1e0 : St := stOf 64 [(4, .c (.bool false))] []
def ref54_Few_L1e1 (x0 : List (List DV)) (x1 : List (List DV)) : St := stOf 64 [(0, .c (.list x0)), (1, .c (.list x1))] []
theorem ref54_Few_L1_r0 {x0 x1 : List (List DV)} {x6 : Int} {v1 v2 : ByteArray} {v3 : Int} (e1 : IntKind.i64.wrap (x6 + 1) = v3) (h1 : x6 < (x1.length : Int)) (h2 : 0 ≤ x6) (h3 : x1[(Int.toNat x6)]? = some [.str v1, .str v2]) (h4 : ¬ (v1.size : Int) > 40) (h5 : ¬ (v2.size : Int) > 40) {o : Out} {st' : St} (ih : Lp E 0 F_ref54_Few 1 (ref54_Few_L1 x0 x1 v3) o st') :
    Lp E 0 F_ref54_Few 1 (ref54_Few_L1 x0 x1 x6) o st' := by
 subst e1
 exact lpOn _ [0, 1, 6] [.t true, .d [.str v1, .str v2], .t false, .d [.str v1, .str v2], .t false] (aC (dT h1) (aC h2 (aC h3 (aC (dF h4) (aC h2 (aC h3 (aO (dF h5)))))))) (by kernel_rfl) ih
theorem ref54_Few_L1e0_x0 {x0 x1 : List (List DV)} {x6 : Int} {v1 v2 : ByteArray} (h1 : x6 < (x1.length : Int)) (h2 : 0 ≤ x6) (h3 : x1[(Int.toNat x6)]? = some [.str v1, .str v2]) (h4 : (v1.size : Int) > 40) :
    Lp E 0 F_ref54_Few 1 (ref54_Few_L1 x0 x1 x6) .ret (ref54_Few_L1e0) := by
 exact lpOff [4] [.t true, .d [.str v1, .str v2], .t true] (aC (dT h1) (aC h2 (aC h3 (aO (dT h4))))) (by kernel_rfl) (by simp)
theorem ref54_Few_L1e0_x1 {x0 x1 : List (List DV)} {x6 : Int} {v1 v2 : ByteArray} (h1 : x6 < (x1.length : Int)) (h2 : 0 ≤ x6) (h3 : x1[(Int.toNat x6)]? = some [.str v1, .str v2]) (h4 : ¬ (v1.size : Int) > 40) (h5 : (v2.size : Int) > 40) :
    Lp E 0 F_ref54_Few 1 (ref54_Few_L1 x0 x1 x6) .ret (ref54_Few_L1e0) := by
 exact lpOff [4] [.t true, .d [.str v1, .str v2], .t false, .d [.str v1, .str v2], .t true] (aC (dT h1) (aC h2 (aC h3 (aC (dF h4) (aC h2 (aC h3 (aO (dT h5)))))))) (by kernel_rfl) (by simp)
theorem ref54_Few_L1e1_x0 {x0 x1 : List (List DV)} {x6 : Int} (h1 : ¬ x6 < (x1.length : Int)) :
    Lp E 0 F_ref54_Few 1 (ref54_Few_L1 x0 x1 x6) (.exit 2) (ref54_Few_L1e1 x0 x1) := by
 exact lpOff [0, 1] [.t false] (aO (dF h1)) (by kernel_rfl) (by simp)
theorem ref54_Few_0 {a0 a1 : List (List DV)} (h1 : Lp E 0 F_ref54_Few 0 (ref54_Few_L0 a0 a1 0) .ret (ref54_Few_L0e0)) :
    Fn E F_ref54_Few [.c (.list a0), .c (.list a1)] (.c (.bool false)) := by
 exact fnMk [.loop [0, 1, 5] [] .ret (ref54_Few_L0e0)] (by kernel_rfl) (by kernel_rfl) (aO h1) (by kernel_rfl)
theorem ref54_Few_1 {a0 a1 : List (List DV)} (h1 : Lp E 0 F_ref54_Few 0 (ref54_Few_L0 a0 a1 0) (.exit 0) (ref54_Few_L0e1 a0 a1)) (h2 : Lp E 0 F_ref54_Few 1 (ref54_Few_L1 a0 a1 0) .ret (ref54_Few_L1e0)) :
    Fn E F_ref54_Few [.c (.list a0), .c (.list a1)] (.c (.bool false)) := by
 exact fnMk [.loop [0, 1, 5] [] (.exit 0) (ref54_Few_L0e1 a0 a1), .loop [0, 1, 6] [] .ret (ref54_Few_L1e0)] (by kernel_rfl) (by kernel_rfl) (aC h1 (aO h2)) (by kernel_rfl)
theorem ref54_Few_2 {a0 a1 : List (List DV)} (h1 : Lp E 0 F_ref54_Few 0 (ref54_Few_L0 a0 a1 0) (.exit 0) (ref54_Few_L0e1 a0 a1)) (h2 : Lp E 0 F_ref54_Few 1 (ref54_Few_L1 a0 a1 0) (.exit 2) (ref54_Few_L1e1 a0 a1)) (h3 : (a0.length : Int) ≤ 17) (h4 : (a1.length : Int) ≤ 12) :
    Fn E F_ref54_Few [.c (.list a0), .c (.list a1)] (.c (.bool true)) := by
 exact fnMk [.loop [0, 1, 5] [] (.exit 0) (ref54_Few_L0e1 a0 a1), .loop [0, 1, 6] [] (.exit 2) (ref54_Few_L1e1 a0 a1), .t true, .t true] (by kernel_rfl) (by kernel_rfl) (aC h1 (aC h2 (aC (dT h3) (aO (dT h4))))) (by kernel_rfl)
theorem ref54_Few_3 {a0 a1 : List (List DV)} (h1 : Lp E 0 F_ref54_Few 0 (ref54_Few_L0 a0 a1 0) (.exit 0) (ref54_Few_L0e1 a0 a1)) (h2 : Lp E 0 F_ref54_Few 1 (ref54_Few_L1 a0 a1 0) (.exit 2) (ref54_Few_L1e1 a0 a1)) (h3 : (a0.length : Int) ≤ 17) (h4 : ¬ (a1.length : Int) ≤ 12) (h5 : (a1.length : Int) = 65) :
    Fn E F_ref54_Few [.c (.list a0), .c (.list a1)] (.c (.bool true)) := by
 exact fnMk [.loop [0, 1, 5] [] (.exit 0) (ref54_Few_L0e1 a0 a1), .loop [0, 1, 6] [] (.exit 2) (ref54_Few_L1e1 a0 a1), .t true, .t false, .t true] (by kernel_rfl) (by kernel_rfl) (aC h1 (aC h2 (aC (dT h3) (aC (dF h4) (aO (beT h5)))))) (by kernel_rfl)
theorem ref54_Few_4 {a0 a1 : List (List DV)} (h1 : Lp E 0 F_ref54_Few 0 (ref54_Few_L0 a0 a1 0) (.exit 0) (ref54_Few_L0e1 a0 a1)) (h2 : Lp E 0 F_ref54_Few 1 (ref54_Few_L1 a0 a1 0) (.exit 2) (ref54_Few_L1e1 a0 a1)) (h3 : (a0.length : Int) ≤ 17) (h4 : ¬ (a1.length : Int) ≤ 12) (h5 : ¬ (a1.length : Int) = 65) :
    Fn E F_ref54_Few [.c (.list a0), .c (.list a1)] (.c (.bool false)) := by
 exact fnMk [.loop [0, 1, 5] [] (.exit 0) (ref54_Few_L0e1 a0 a1), .loop [0, 1, 6] [] (.exit 2) (ref54_Few_L1e1 a0 a1), .t true, .t false, .t false] (by kernel_rfl) (by kernel_rfl) (aC h1 (aC h2 (aC (dT h3) (aC (dF h4) (aO (beF h5)))))) (by kernel_rfl)
theorem ref54_Few_5 {a0 a1 : List (List DV)} (h1 : Lp E 0 F_ref54_Few 0 (ref54_Few_L0 a0 a1 0) (.exit 0) (ref54_Few_L0e1 a0 a1)) (h2 : Lp E 0 F_ref54_Few 1 (ref54_Few_L1 a0 a1 0) (.exit 2) (ref54_Few_L1e1 a0 a1)) (h3 : ¬ (a0.length : Int) ≤ 17) :
    Fn E F_ref54_Few [.c (.list a0), .c (.list a1)] (.c (.bool false)) := by
 exact fnMk [.loop [0, 1, 5] [] (.exit 0) (ref54_Few_L0e1 a0 a1), .loop [0, 1, 6] [] (.exit 2) (ref54_Few_L1e1 a0 a1), .t false] (by kernel_rfl) (by kernel_rfl) (aC h1 (aC h2 (aO (dF h3)))) (by kernel_rfl)
theorem ref54_Fit_0 {a0 : List (List DV)} {v1 : Int} (h1 : Fn E F_ref54_ready [.c (.list a0)] (.c (.i64 v1))) (h2 : ¬ v1 = 0) :
    Fn E F_ref54_Fit [.c (.list a0)] (.tup [.agg [.str ⟨#[]⟩, .str ⟨#[]⟩, .str ⟨#[]⟩], .c (.i64 v1)]) := by
 exact fnMk [.v (.c (.i64 v1)), .t true] (by kernel_rfl) (by kernel_rfl) (aC h1 (aO (bnT h2))) (by kernel_rfl)
theorem ref54_Fit_1 {a0 : List (List DV)} {v1 : Int} {v2 : Bool} {v3 v4 : List (List DV)} {v5 : Bool} {v6 v7 : List (List DV)} {v8 : Bool} {v9 v10 : List (List DV)} {v11 : Bool} {v12 v13 : List (List DV)} {v14 : Bool} {v15 v16 : List (List DV)} {v17 : Bool} {v18 v19 : List (List DV)} {v20 : Bool} {v21 v22 : List (List DV)} {v23 : Bool} {v24 v25 : List (List DV)} {v26 : Int} (h1 : Fn E F_ref54_ready [.c (.list a0)] (.c (.i64 v1))) (h2 : v1 = 0) (h3 : Fn E F_ref54_sums [.c (.list a0)] (.tup [.agg [.bool v2, .list v3, .list v4], .agg [.bool v5, .list v6, .list v7], .agg [.bool v8, .list v9, .list v10], .agg [.bool v11, .list v12, .list v13]])) (h4 : Fn E F_ref03_Int [.c (.i64 (a0.length : Int))] (.agg [.bool v14, .list v15, .list v16])) (h5 : Fn E F_ref03_Mul [.agg [.bool v14, .list v15, .list v16], .agg [.bool v8, .list v9, .list v10]] (.agg [.bool v17, .list v18, .list v19])) (h6 : Fn E F_ref03_Mul [.agg [.bool v2, .list v3, .list v4], .agg [.bool v2, .list v3, .list v4]] (.agg [.bool v20, .list v21, .list v22])) (h7 : Fn E F_ref03_Sub [.agg [.bool v17, .list v18, .list v19], .agg [.bool v20, .list v21, .list v22]] (.agg [.bool v23, .list v24, .list v25])) (h8 : Fn E F_ref03_Sign [.agg [.bool v23, .list v24, .list v25]] (.c (.i64 v26))) (h9 : v26 = 0) :
    Fn E F_ref54_Fit [.c (.list a0)] (.tup [.agg [.str ⟨#[]⟩, .str ⟨#[]⟩, .str ⟨#[]⟩], .c (.i64 18)]) := by
 exact fnMk [.v (.c (.i64 v1)), .t false, .v (.tup [.agg [.bool v2, .list v3, .list v4], .agg [.bool v5, .list v6, .list v7], .agg [.bool v8, .list v9, .list v10], .agg [.bool v11, .list v12, .list v13]]), .v (.agg [.bool v14, .list v15, .list v16]), .v (.agg [.bool v17, .list v18, .list v19]), .v (.agg [.bool v20, .list v21, .list v22]), .v (.agg [.bool v23, .list v24, .list v25]), .v (.c (.i64 v26)), .t true] (by kernel_rfl) (by kernel_rfl) (aC h1 (aC (bnF h2) (aC h3 (aC h4 (aC h5 (aC h6 (aC h7 (aC h8 (aO (beT h9)))))))))) (by kernel_rfl)
theorem ref54_Fit_2 {a0 : List (List DV)} {v1 : Int} {v2 : Bool} {v3 v4 : List (List DV)} {v5 : Bool} {v6 v7 : List (List DV)} {v8 : Bool} {v9 v10 : List (List DV)} {v11 : Bool} {v12 v13 : List (List DV)} {v14 : Bool} {v15 v16 : List (List DV)} {v17 : Bool} {v18 v19 : List (List DV)} {v20 : Bool} {v21 v22 : List (List DV)} {v23 : Bool} {v24 v25 : List (List DV)} {v26 : Int} {v27 : Bool} {v28 v29 : List (List DV)} {v30 : Bool} {v31 v32 : List (List DV)} {v33 : Bool} {v34 v35 : List (List DV)} {v36 : Bool} {v37 v38 : List (List DV)} {v39 : Bool} {v40 v41 : List (List DV)} {v42 : Bool} {v43 v44 : List (List DV)} {v45 : Bool} {v46 v47 : List (List DV)} {v48 v49 v50 : ByteArray} (h1 : Fn E F_ref54_ready [.c (.list a0)] (.c (.i64 v1))) (h2 : v1 = 0) (h3 : Fn E F_ref54_sums [.c (.list a0)] (.tup [.agg [.bool v2, .list v3, .list v4], .agg [.bool v5, .list v6, .list v7], .agg [.bool v8, .list v9, .list v10], .agg [.bool v11, .list v12, .list v13]])) (h4 : Fn E F_ref03_Int [.c (.i64 (a0.length : Int))] (.agg [.bool v14, .list v15, .list v16])) (h5 : Fn E F_ref03_Mul [.agg [.bool v14, .list v15, .list v16], .agg [.bool v8, .list v9, .list v10]] (.agg [.bool v17, .list v18, .list v19])) (h6 : Fn E F_ref03_Mul [.agg [.bool v2, .list v3, .list v4], .agg [.bool v2, .list v3, .list v4]] (.agg [.bool v20, .list v21, .list v22])) (h7 : Fn E F_ref03_Sub [.agg [.bool v17, .list v18, .list v19], .agg [.bool v20, .list v21, .list v22]] (.agg [.bool v23, .list v24, .list v25])) (h8 : Fn E F_ref03_Sign [.agg [.bool v23, .list v24, .list v25]] (.c (.i64 v26))) (h9 : ¬ v26 = 0) (h10 : Fn E F_ref03_Mul [.agg [.bool v14, .list v15, .list v16], .agg [.bool v11, .list v12, .list v13]] (.agg [.bool v27, .list v28, .list v29])) (h11 : Fn E F_ref03_Mul [.agg [.bool v2, .list v3, .list v4], .agg [.bool v5, .list v6, .list v7]] (.agg [.bool v30, .list v31, .list v32])) (h12 : Fn E F_ref03_Sub [.agg [.bool v27, .list v28, .list v29], .agg [.bool v30, .list v31, .list v32]] (.agg [.bool v33, .list v34, .list v35])) (h13 : Fn E F_ref03_Div [.agg [.bool v33, .list v34, .list v35], .agg [.bool v23, .list v24, .list v25]] (.agg [.bool v36, .list v37, .list v38])) (h14 : Fn E F_ref03_Mul [.agg [.bool v36, .list v37, .list v38], .agg [.bool v2, .list v3, .list v4]] (.agg [.bool v39, .list v40, .list v41])) (h15 : Fn E F_ref03_Sub [.agg [.bool v5, .list v6, .list v7], .agg [.bool v39, .list v40, .list v41]] (.agg [.bool v42, .list v43, .list v44])) (h16 : Fn E F_ref03_Div [.agg [.bool v42, .list v43, .list v44], .agg [.bool v14, .list v15, .list v16]] (.agg [.bool v45, .list v46, .list v47])) (h17 : Fn E F_ref54_line [.c (.list a0), .agg [.bool v36, .list v37, .list v38], .agg [.bool v45, .list v46, .list v47]] (.agg [.str v48, .str v49, .str v50])) :
    Fn E F_ref54_Fit [.c (.list a0)] (.tup [.agg [.str v48, .str v49, .str v50], .c (.i64 0)]) := by
 exact fnMk [.v (.c (.i64 v1)), .t false, .v (.tup [.agg [.bool v2, .list v3, .list v4], .agg [.bool v5, .list v6, .list v7], .agg [.bool v8, .list v9, .list v10], .agg [.bool v11, .list v12, .list v13]]), .v (.agg [.bool v14, .list v15, .list v16]), .v (.agg [.bool v17, .list v18, .list v19]), .v (.agg [.bool v20, .list v21, .list v22]), .v (.agg [.bool v23, .list v24, .list v25]), .v (.c (.i64 v26)), .t false, .v (.agg [.bool v27, .list v28, .list v29]), .v (.agg [.bool v30, .list v31, .list v32]), .v (.agg [.bool v33, .list v34, .list v35]), .v (.agg [.bool v36, .list v37, .list v38]), .v (.agg [.bool v39, .list v40, .list v41]), .v (.agg [.bool v42, .list v43, .list v44]), .v (.agg [.bool v45, .list v46, .list v47]), .v (.agg [.str v48, .str v49, .str v50])] (by kernel_rfl) (by kernel_rfl) (aC h1 (aC (bnF h2) (aC h3 (aC h4 (aC h5 (aC h6 (aC h7 (aC h8 (aC (beF h9) (aC h10 (aC h11 (aC h12 (aC h13 (aC h14 (aC h15 (aC h16 (aO h17))))))))))))))))) (by kernel_rfl)
theorem ref54_Through_0 {a0 : List (List DV)} {v1 : Int} (h1 : Fn E F_ref54_ready [.c (.list a0)] (.c (.i64 v1))) (h2 : ¬ v1 = 0) :
    Fn E F_ref54_Through [.c (.list a0)] (.tup [.agg [.str ⟨#[]⟩, .str ⟨#[]⟩, .str ⟨#[]⟩], .c (.i64 v1)]) := by
 exact fnMk [.v (.c (.i64 v1)), .t true] (by kernel_rfl) (by kernel_rfl) (aC h1 (aO (bnT h2))) (by kernel_rfl)
theorem ref54_Through_1 {a0 : List (List DV)} {v1 : Int} {v2 : Bool} {v3 v4 : List (List DV)} {v5 : Bool} {v6 v7 : List (List DV)} {v8 : Bool} {v9 v10 : List (List DV)} {v11 : Bool} {v12 v13 : List (List DV)} {v14 : Int} (h1 : Fn E F_ref54_ready [.c (.list a0)] (.c (.i64 v1))) (h2 : v1 = 0) (h3 : Fn E F_ref54_sums [.c (.list a0)] (.tup [.agg [.bool v2, .list v3, .list v4], .agg [.bool v5, .list v6, .list v7], .agg [.bool v8, .list v9, .list v10], .agg [.bool v11, .list v12, .list v13]])) (h4 : Fn E F_ref03_Sign [.agg [.bool v8, .list v9, .list v10]] (.c (.i64 v14))) (h5 : v14 = 0) :
    Fn E F_ref54_Through [.c (.list a0)] (.tup [.agg [.str ⟨#[]⟩, .str ⟨#[]⟩, .str ⟨#[]⟩], .c (.i64 18)]) := by
 exact fnMk [.v (.c (.i64 v1)), .t false, .v (.tup [.agg [.bool v2, .list v3, .list v4], .agg [.bool v5, .list v6, .list v7], .agg [.bool v8, .list v9, .list v10], .agg [.bool v11, .list v12, .list v13]]), .v (.c (.i64 v14)), .t true] (by kernel_rfl) (by kernel_rfl) (aC h1 (aC (bnF h2) (aC h3 (aC h4 (aO (beT h5)))))) (by kernel_rfl)
theorem ref54_Through_2 {a0 : List (List DV)} {v1 : Int} {v2 : Bool} {v3 v4 : List (List DV)} {v5 : Bool} {v6 v7 : List (List DV)} {v8 : Bool} {v9 v10 : List (List DV)} {v11 : Bool} {v12 v13 : List (List DV)} {v14 : Int} {v15 : Bool} {v16 v17 : List (List DV)} {v18 : Bool} {v19 v20 : List (List DV)} {v21 v22 v23 : ByteArray} (h1 : Fn E F_ref54_ready [.c (.list a0)] (.c (.i64 v1))) (h2 : v1 = 0) (h3 : Fn E F_ref54_sums [.c (.list a0)] (.tup [.agg [.bool v2, .list v3, .list v4], .agg [.bool v5, .list v6, .list v7], .agg [.bool v8, .list v9, .list v10], .agg [.bool v11, .list v12, .list v13]])) (h4 : Fn E F_ref03_Sign [.agg [.bool v8, .list v9, .list v10]] (.c (.i64 v14))) (h5 : ¬ v14 = 0) (h6 : Fn E F_ref03_Div [.agg [.bool v11, .list v12, .list v13], .agg [.bool v8, .list v9, .list v10]] (.agg [.bool v15, .list v16, .list v17])) (h7 : Fn E F_ref03_Int [.c (.i64 0)] (.agg [.bool v18, .list v19, .list v20])) (h8 : Fn E F_ref54_line [.c (.list a0), .agg [.bool v15, .list v16, .list v17], .agg [.bool v18, .list v19, .list v20]] (.agg [.str v21, .str v22, .str v23])) :
    Fn E F_ref54_Through [.c (.list a0)] (.tup [.agg [.str v21, .str v22, .str v23], .c (.i64 0)]) := by
 exact fnMk [.v (.c (.i64 v1)), .t false, .v (.tup [.agg [.bool v2, .list v3, .list v4], .agg [.bool v5, .list v6, .list v7], .agg [.bool v8, .list v9, .list v10], .agg [.bool v11, .list v12, .list v13]]), .v (.c (.i64 v14)), .t false, .v (.agg [.bool v15, .list v16, .list v17]), .v (.agg [.bool v18, .list v19, .list v20]), .v (.agg [.str v21, .str v22, .str v23])] (by kernel_rfl) (by kernel_rfl) (aC h1 (aC (bnF h2) (aC h3 (aC h4 (aC (beF h5) (aC h6 (aC h7 (aO h8)))))))) (by kernel_rfl)
def ref54_Spread_L1 (x0 : List (List DV)) (x5 : Bool) (x8 : Int) (x9 : Int) (c0_0 : ByteArray) (c0_1 : ByteArray) (c1_0 : Bool) (c1_1 : List (List DV)) (c1_2 : List (List DV)) (c2_0 : Bool) (c2_1 : List (List DV)) (c2_2 : List (List DV)) : St := stOf 80 [(0, .c (.list x0)), (2, .ptr 0 0), (5, .c (.bool x5)), (6, .ptr 1 0), (7, .ptr 2 0), (8, .c (.i64 x8)), (9, .c (.i64 x9))] [some (.cells [.c (.str c0_0), .c (.str c0_1)]), some (.cells [.c (.bool c1_0), .c (.list c1_1), .c (.list c1_2)]), some (.cells [.c (.bool c2_0), .c (.list c2_1), .c (.list c2_2)])]
def ref54_Spread_L1e0 (x0 : List (List DV)) (x8 : Int) (c0_0 : ByteArray) (c0_1 : ByteArray) (x5' : Bool) (c1_0' : Bool) (c1_1' : List (List DV)) (c1_2' : List (List DV)) (c2_0' : Bool) (c2_1' : List (List DV)) (c2_2' : List (List DV)) : St := stOf 80 [(0, .c (.list x0)), (2, .ptr 0 0), (5, .c (.bool x5')), (6, .ptr 1 0), (7, .ptr 2 0), (8, .c (.i64 x8))] [some (.cells [.c (.str c0_0), .c (.str c0_1)]), some (.cells [.c (.bool c1_0'), .c (.list c1_1'), .c (.list c1_2')]), some (.cells [.c (.bool c2_0'), .c (.list c2_1'), .c (.list c2_2')])]
theorem ref54_Spread_L1_r0 {x0 : List (List DV)} {x5 : Bool} {x8 x9 : Int} {c0_0 c0_1 : ByteArray} {c1_0 : Bool} {c1_1 c1_2 : List (List DV)} {c2_0 : Bool} {c2_1 c2_2 : List (List DV)} {v1 v2 : ByteArray} {v3 : Bool} {v4 v5 : List (List DV)} {v6 v7 : ByteArray} {v8 : Bool} {v9 v10 : List (List DV)} {v11 : Bool} {v12 v13 : List (List DV)} {v14 v15 : Int} (e1 : IntKind.i64.wrap (x9 + 1) = v15) (h1 : x9 < x8) (h2 : 0 ≤ x8) (h3 : x0[(Int.toNat x8)]? = some [.str v1, .str v2]) (h4 : Fn E F_ref54_num [.c (.str v1)] (.agg [.bool v3, .list v4, .list v5])) (h5 : 0 ≤ x9) (h6 : x0[(Int.toNat x9)]? = some [.str v6, .str v7]) (h7 : Fn E F_ref54_num [.c (.str v6)] (.agg [.bool v8, .list v9, .list v10])) (h8 : Fn E F_ref03_Sub [.agg [.bool v3, .list v4, .list v5], .agg [.bool v8, .list v9, .list v10]] (.agg [.bool v11, .list v12, .list v13])) (h9 : Fn E F_ref03_Sign [.agg [.bool v11, .list v12, .list v13]] (.c (.i64 v14))) (h10 : v14 = 0) {o : Out} {st' : St} (ih : Lp E 3 F_ref54_Spread 1 (ref54_Spread_L1 x0 x5 x8 v15 c0_0 c0_1 c1_0 c1_1 c1_2 c2_0 c2_1 c2_2) o st') :
    Lp E 3 F_ref54_Spread 1 (ref54_Spread_L1 x0 x5 x8 x9 c0_0 c0_1 c1_0 c1_1 c1_2 c2_0 c2_1 c2_2) o st' := by
 subst e1
 exact lpOn _ [0, 2, 5, 6, 7, 8, 9] [.t true, .d [.str v1, .str v2], .v (.agg [.bool v3, .list v4, .list v5]), .d [.str v6, .str v7], .v (.agg [.bool v8, .list v9, .list v10]), .v (.agg [.bool v11, .list v12, .list v13]), .v (.c (.i64 v14)), .t true] (aC (dT h1) (aC h2 (aC h3 (aC h4 (aC h5 (aC h6 (aC h7 (aC h8 (aC h9 (aO (beT h10))))))))))) (by kernel_rfl) ih
theorem ref54_Spread_L1_r1 {x0 : List (List DV)} {x8 x9 : Int} {c0_0 c0_1 : ByteArray} {c1_0 : Bool} {c1_1 c1_2 : List (List DV)} {c2_0 : Bool} {c2_1 c2_2 : List (List DV)} {v1 v2 : ByteArray} {v3 : Bool} {v4 v5 : List (List DV)} {v6 v7 : ByteArray} {v8 : Bool} {v9 v10 : List (List DV)} {v11 : Bool} {v12 v13 : List (List DV)} {v14 : Int} {v15 : Bool} {v16 v17 : List (List DV)} {v18 : Bool} {v19 v20 : List (List DV)} {v21 : Bool} {v22 v23 : List (List DV)} {v24 : Bool} {v25 v26 : List (List DV)} {v27 : Bool} {v28 v29 : List (List DV)} {v30 : Bool} {v31 v32 : List (List DV)} {v33 : Int} (e1 : IntKind.i64.wrap (x9 + 1) = v33) (h1 : x9 < x8) (h2 : 0 ≤ x8) (h3 : x0[(Int.toNat x8)]? = some [.str v1, .str v2]) (h4 : Fn E F_ref54_num [.c (.str v1)] (.agg [.bool v3, .list v4, .list v5])) (h5 : 0 ≤ x9) (h6 : x0[(Int.toNat x9)]? = some [.str v6, .str v7]) (h7 : Fn E F_ref54_num [.c (.str v6)] (.agg [.bool v8, .list v9, .list v10])) (h8 : Fn E F_ref03_Sub [.agg [.bool v3, .list v4, .list v5], .agg [.bool v8, .list v9, .list v10]] (.agg [.bool v11, .list v12, .list v13])) (h9 : Fn E F_ref03_Sign [.agg [.bool v11, .list v12, .list v13]] (.c (.i64 v14))) (h10 : ¬ v14 = 0) (h11 : Fn E F_ref54_num [.c (.str v2)] (.agg [.bool v15, .list v16, .list v17])) (h12 : Fn E F_ref54_num [.c (.str v7)] (.agg [.bool v18, .list v19, .list v20])) (h13 : Fn E F_ref03_Sub [.agg [.bool v15, .list v16, .list v17], .agg [.bool v18, .list v19, .list v20]] (.agg [.bool v21, .list v22, .list v23])) (h14 : Fn E F_ref03_Div [.agg [.bool v21, .list v22, .list v23], .agg [.bool v11, .list v12, .list v13]] (.agg [.bool v24, .list v25, .list v26])) (h15 : Fn E F_ref03_Least [.agg [.bool c1_0, .list c1_1, .list c1_2], .agg [.bool v24, .list v25, .list v26]] (.agg [.bool v27, .list v28, .list v29])) (h16 : Fn E F_ref03_Most [.agg [.bool c2_0, .list c2_1, .list c2_2], .agg [.bool v24, .list v25, .list v26]] (.agg [.bool v30, .list v31, .list v32])) {o : Out} {st' : St} (ih : Lp E 3 F_ref54_Spread 1 (ref54_Spread_L1 x0 true x8 v33 c0_0 c0_1 v27 v28 v29 v30 v31 v32) o st') :
    Lp E 3 F_ref54_Spread 1 (ref54_Spread_L1 x0 true x8 x9 c0_0 c0_1 c1_0 c1_1 c1_2 c2_0 c2_1 c2_2) o st' := by
 subst e1
 exact lpOn _ [0, 2, 5, 6, 7, 8, 9] [.t true, .d [.str v1, .str v2], .v (.agg [.bool v3, .list v4, .list v5]), .d [.str v6, .str v7], .v (.agg [.bool v8, .list v9, .list v10]), .v (.agg [.bool v11, .list v12, .list v13]), .v (.c (.i64 v14)), .t false, .d [.str v1, .str v2], .v (.agg [.bool v15, .list v16, .list v17]), .d [.str v6, .str v7], .v (.agg [.bool v18, .list v19, .list v20]), .v (.agg [.bool v21, .list v22, .list v23]), .v (.agg [.bool v24, .list v25, .list v26]), .v (.agg [.bool v27, .list v28, .list v29]), .v (.agg [.bool v30, .list v31, .list v32])] (aC (dT h1) (aC h2 (aC h3 (aC h4 (aC h5 (aC h6 (aC h7 (aC h8 (aC h9 (aC (beF h10) (aC h2 (aC h3 (aC h11 (aC h5 (aC h6 (aC h12 (aC h13 (aC h14 (aC h15 (aO h16)))))))))))))))))))) (by kernel_rfl) ih
theorem ref54_Spread_L1_r2 {x0 : List (List DV)} {x8 x9 : Int} {c0_0 c0_1 : ByteArray} {c1_0 : Bool} {c1_1 c1_2 : List (List DV)} {c2_0 : Bool} {c2_1 c2_2 : List (List DV)} {v1 v2 : ByteArray} {v3 : Bool} {v4 v5 : List (List DV)} {v6 v7 : ByteArray} {v8 : Bool} {v9 v10 : List (List DV)} {v11 : Bool} {v12 v13 : List (List DV)} {v14 : Int} {v15 : Bool} {v16 v17 : List (List DV)} {v18 : Bool} {v19 v20 : List (List DV)} {v21 : Bool} {v22 v23 : List (List DV)} {v24 : Bool} {v25 v26 : List (List DV)} {v27 : Bool} {v28 v29 : List (List DV)} {v30 : Bool} {v31 v32 : List (List DV)} {v33 : Int} (e1 : IntKind.i64.wrap (x9 + 1) = v33) (h1 : x9 < x8) (h2 : 0 ≤ x8) (h3 : x0[(Int.toNat x8)]? = some [.str v1, .str v2]) (h4 : Fn E F_ref54_num [.c (.str v1)] (.agg [.bool v3, .list v4, .list v5])) (h5 : 0 ≤ x9) (h6 : x0[(Int.toNat x9)]? = some [.str v6, .str v7]) (h7 : Fn E F_ref54_num [.c (.str v6)] (.agg [.bool v8, .list v9, .list v10])) (h8 : Fn E F_ref03_Sub [.agg [.bool v3, .list v4, .list v5], .agg [.bool v8, .list v9, .list v10]] (.agg [.bool v11, .list v12, .list v13])) (h9 : Fn E F_ref03_Sign [.agg [.bool v11, .list v12, .list v13]] (.c (.i64 v14))) (h10 : ¬ v14 = 0) (h11 : Fn E F_ref54_num [.c (.str v2)] (.agg [.bool v15, .list v16, .list v17])) (h12 : Fn E F_ref54_num [.c (.str v7)] (.agg [.bool v18, .list v19, .list v20])) (h13 : Fn E F_ref03_Sub [.agg [.bool v15, .list v16, .list v17], .agg [.bool v18, .list v19, .list v20]] (.agg [.bool v21, .list v22, .list v23])) (h14 : Fn E F_ref03_Div [.agg [.bool v21, .list v22, .list v23], .agg [.bool v11, .list v12, .list v13]] (.agg [.bool v24, .list v25, .list v26])) (h15 : Fn E F_ref03_Least [.agg [.bool v24, .list v25, .list v26], .agg [.bool v24, .list v25, .list v26]] (.agg [.bool v27, .list v28, .list v29])) (h16 : Fn E F_ref03_Most [.agg [.bool v24, .list v25, .list v26], .agg [.bool v24, .list v25, .list v26]] (.agg [.bool v30, .list v31, .list v32])) {o : Out} {st' : St} (ih : Lp E 3 F_ref54_Spread 1 (ref54_Spread_L1 x0 true x8 v33 c0_0 c0_1 v27 v28 v29 v30 v31 v32) o st') :
    Lp E 3 F_ref54_Spread 1 (ref54_Spread_L1 x0 false x8 x9 c0_0 c0_1 c1_0 c1_1 c1_2 c2_0 c2_1 c2_2) o st' := by
 subst e1
 exact lpOn _ [0, 2, 5, 6, 7, 8, 9] [.t true, .d [.str v1, .str v2], .v (.agg [.bool v3, .list v4, .list v5]), .d [.str v6, .str v7], .v (.agg [.bool v8, .list v9, .list v10]), .v (.agg [.bool v11, .list v12, .list v13]), .v (.c (.i64 v14)), .t false, .d [.str v1, .str v2], .v (.agg [.bool v15, .list v16, .list v17]), .d [.str v6, .str v7], .v (.agg [.bool v18, .list v19, .list v20]), .v (.agg [.bool v21, .list v22, .list v23]), .v (.agg [.bool v24, .list v25, .list v26]), .v (.agg [.bool v27, .list v28, .list v29]), .v (.agg [.bool v30, .list v31, .list v32])] (aC (dT h1) (aC h2 (aC h3 (aC h4 (aC h5 (aC h6 (aC h7 (aC h8 (aC h9 (aC (beF h10) (aC h2 (aC h3 (aC h11 (aC h5 (aC h6 (aC h12 (aC h13 (aC h14 (aC h15 (aO h16)))))))))))))))))))) (by kernel_rfl) ih
theorem ref54_Spread_L1e0_x0 {x0 : List (List DV)} {x5 : Bool} {x8 x9 : Int} {c0_0 c0_1 : ByteArray} {c1_0 : Bool} {c1_1 c1_2 : List (List DV)} {c2_0 : Bool} {c2_1 c2_2 : List (List DV)} (h1 : ¬ x9 < x8) :
    Lp E 3 F_ref54_Spread 1 (ref54_Spread_L1 x0 x5 x8 x9 c0_0 c0_1 c1_0 c1_1 c1_2 c2_0 c2_1 c2_2) (.exit 2) (ref54_Spread_L1e0 x0 x8 c0_0 c0_1 x5 c1_0 c1_1 c1_2 c2_0 c2_1 c2_2) := by
 exact lpOff [0, 2, 5, 6, 7, 8] [.t false] (aO (dF h1)) (by kernel_rfl) (by simp)
def ref54_Spread_L0 (x0 : List (List DV)) (x5 : Bool) (x8 : Int) (c0_0 : ByteArray) (c0_1 : ByteArray) (c1_0 : Bool) (c1_1 : List (List DV)) (c1_2 : List (List DV)) (c2_0 : Bool) (c2_1 : List (List DV)) (c2_2 : List (List DV)) : St := stOf 80 [(0, .c (.list x0)), (2, .ptr 0 0), (5, .c (.bool x5)), (6, .ptr 1 0), (7, .ptr 2 0), (8, .c (.i64 x8))] [some (.cells [.c (.str c0_0), .c (.str c0_1)]), some (.cells [.c (.bool c1_0), .c (.list c1_1), .c (.list c1_2)]), some (.cells [.c (.bool c2_0), .c (.list c2_1), .c (.list c2_2)])]
def ref54_Spread_L0e0 (c0_0 : ByteArray) (c0_1 : ByteArray) (x5' : Bool) (c1_0' : Bool) (c1_1' : List (List DV)) (c1_2' : List (List DV)) (c2_0' : Bool) (c2_1' : List (List DV)) (c2_2' : List (List DV)) : St := stOf 80 [(2, .ptr 0 0), (5, .c (.bool x5')), (6, .ptr 1 0), (7, .ptr 2 0)] [some (.cells [.c (.str c0_0), .c (.str c0_1)]), some (.cells [.c (.bool c1_0'), .c (.list c1_1'), .c (.list c1_2')]), some (.cells [.c (.bool c2_0'), .c (.list c2_1'), .c (.list c2_2')])]
theorem ref54_Spread_L0_r0 {x0 : List (List DV)} {x5 : Bool} {x8 : Int} {c0_0 c0_1 : ByteArray} {c1_0 : Bool} {c1_1 c1_2 : List (List DV)} {c2_0 : Bool} {c2_1 c2_2 : List (List DV)} {v1 v2 : Bool} {v3 v4 : List (List DV)} {v5 : Bool} {v6 v7 : List (List DV)} {v8 : Int} (e1 : IntKind.i64.wrap (x8 + 1) = v8) (h1 : x8 < (x0.length : Int)) (h2 : Lp E 3 F_ref54_Spread 1 (ref54_Spread_L1 x0 x5 x8 0 c0_0 c0_1 c1_0 c1_1 c1_2 c2_0 c2_1 c2_2) (.exit 2) (ref54_Spread_L1e0 x0 x8 c0_0 c0_1 v1 v2 v3 v4 v5 v6 v7)) {o : Out} {st' : St} (ih : Lp E 3 F_ref54_Spread 0 (ref54_Spread_L0 x0 v1 v8 c0_0 c0_1 v2 v3 v4 v5 v6 v7) o st') :
    Lp E 3 F_ref54_Spread 0 (ref54_Spread_L0 x0 x5 x8 c0_0 c0_1 c1_0 c1_1 c1_2 c2_0 c2_1 c2_2) o st' := by
 subst e1
 exact lpOn _ [0, 2, 5, 6, 7, 8] [.t true, .loop [0, 2, 5, 6, 7, 8, 9] [] (.exit 2) (ref54_Spread_L1e0 x0 x8 c0_0 c0_1 v1 v2 v3 v4 v5 v6 v7)] (aC (dT h1) (aO h2)) (by kernel_rfl) ih
theorem ref54_Spread_L0e0_x0 {x0 : List (List DV)} {x5 : Bool} {x8 : Int} {c0_0 c0_1 : ByteArray} {c1_0 : Bool} {c1_1 c1_2 : List (List DV)} {c2_0 : Bool} {c2_1 c2_2 : List (List DV)} (h1 : ¬ x8 < (x0.length : Int)) :
    Lp E 3 F_ref54_Spread 0 (ref54_Spread_L0 x0 x5 x8 c0_0 c0_1 c1_0 c1_1 c1_2 c2_0 c2_1 c2_2) (.exit 0) (ref54_Spread_L0e0 c0_0 c0_1 x5 c1_0 c1_1 c1_2 c2_0 c2_1 c2_2) := by
 exact lpOff [2, 5, 6, 7] [.t false] (aO (dF h1)) (by kernel_rfl) (by simp)
theorem ref54_Spread_0 {a0 : List (List DV)} {v1 : Int} (h1 : Fn E F_ref54_ready [.c (.list a0)] (.c (.i64 v1))) (h2 : ¬ v1 = 0) :
    Fn E F_ref54_Spread [.c (.list a0)] (.tup [.agg [.str ⟨#[]⟩, .str ⟨#[]⟩], .c (.i64 v1)]) := by
 exact fnMk [.v (.c (.i64 v1)), .t true] (by kernel_rfl) (by kernel_rfl) (aC h1 (aO (bnT h2))) (by kernel_rfl)
theorem ref54_Spread_1 {a0 : List (List DV)} {v1 : Int} {v2 : Bool} {v3 v4 : List (List DV)} {v6 : Bool} {v7 v8 : List (List DV)} {v9 : Bool} {v10 v11 : List (List DV)} {v12 v13 : ByteArray} (h1 : Fn E F_ref54_ready [.c (.list a0)] (.c (.i64 v1))) (h2 : v1 = 0) (h3 : Fn E F_ref03_Int [.c (.i64 0)] (.agg [.bool v2, .list v3, .list v4])) (h4 : Lp E 3 F_ref54_Spread 0 (ref54_Spread_L0 a0 false 0 ⟨#[]⟩ ⟨#[]⟩ v2 v3 v4 v2 v3 v4) (.exit 0) (ref54_Spread_L0e0 ⟨#[]⟩ ⟨#[]⟩ true v6 v7 v8 v9 v10 v11)) (h5 : Fn E F_ref03_To [.agg [.bool v6, .list v7, .list v8]] (.c (.str v12))) (h6 : Fn E F_ref03_To [.agg [.bool v9, .list v10, .list v11]] (.c (.str v13))) :
    Fn E F_ref54_Spread [.c (.list a0)] (.tup [.agg [.str v12, .str v13], .c (.i64 0)]) := by
 exact fnMk [.v (.c (.i64 v1)), .t false, .v (.agg [.bool v2, .list v3, .list v4]), .v (.agg [.bool v2, .list v3, .list v4]), .loop [0, 2, 5, 6, 7, 8] [] (.exit 0) (ref54_Spread_L0e0 ⟨#[]⟩ ⟨#[]⟩ true v6 v7 v8 v9 v10 v11), .v (.c (.str v12)), .v (.c (.str v13))] (by kernel_rfl) (by kernel_rfl) (aC h1 (aC (bnF h2) (aC h3 (aC h3 (aC h4 (aC h5 (aO h6))))))) (by kernel_rfl)
theorem ref54_Spread_2 {a0 : List (List DV)} {v1 : Int} {v2 : Bool} {v3 v4 : List (List DV)} {v6 : Bool} {v7 v8 : List (List DV)} {v9 : Bool} {v10 v11 : List (List DV)} (h1 : Fn E F_ref54_ready [.c (.list a0)] (.c (.i64 v1))) (h2 : v1 = 0) (h3 : Fn E F_ref03_Int [.c (.i64 0)] (.agg [.bool v2, .list v3, .list v4])) (h4 : Lp E 3 F_ref54_Spread 0 (ref54_Spread_L0 a0 false 0 ⟨#[]⟩ ⟨#[]⟩ v2 v3 v4 v2 v3 v4) (.exit 0) (ref54_Spread_L0e0 ⟨#[]⟩ ⟨#[]⟩ false v6 v7 v8 v9 v10 v11)) :
    Fn E F_ref54_Spread [.c (.list a0)] (.tup [.agg [.str ⟨#[]⟩, .str ⟨#[]⟩], .c (.i64 18)]) := by
 exact fnMk [.v (.c (.i64 v1)), .t false, .v (.agg [.bool v2, .list v3, .list v4]), .v (.agg [.bool v2, .list v3, .list v4]), .loop [0, 2, 5, 6, 7, 8] [] (.exit 0) (ref54_Spread_L0e0 ⟨#[]⟩ ⟨#[]⟩ false v6 v7 v8 v9 v10 v11)] (by kernel_rfl) (by kernel_rfl) (aC h1 (aC (bnF h2) (aC h3 (aC h3 (aO h4))))) (by kernel_rfl)
def ref54_Differences_L0 (x0 : List (List DV)) (x6 : Nat) (x7 : Int) (c0_0 : ByteArray) (c0_1 : ByteArray) (c0_2 : ByteArray) (w1 : List (List DV)) : St := stOf 48 [(0, .c (.list x0)), (3, .ptr 0 0), (6, .vec 1 x6), (7, .c (.i64 x7))] [some (.cells [.c (.str c0_0), .c (.str c0_1), .c (.str c0_2)]), some (.vec T_api_Rat w1)]
def ref54_Differences_L0e0 (c0_0 : ByteArray) (c0_1 : ByteArray) (c0_2 : ByteArray) (x6' : Nat) (w1' : List (List DV)) : St := stOf 48 [(6, .vec 1 x6')] [some (.cells [.c (.str c0_0), .c (.str c0_1), .c (.str c0_2)]), some (.vec T_api_Rat w1')]
theorem ref54_Differences_L0_r0 {x0 : List (List DV)} {x6 : Nat} {x7 : Int} {c0_0 c0_1 c0_2 : ByteArray} {w1 : List (List DV)} {v1 v2 : ByteArray} {v3 : Bool} {v4 v5 : List (List DV)} {v6 : Bool} {v7 v8 : List (List DV)} {v9 : Bool} {v10 v11 : List (List DV)} {v12 : ByteArray} {v13 : List (List DV)} {v14 : Nat} {v15 : Int} (e1 : (w1.take x6) ++ [[.str v12]] = v13) (e2 : x6 + 1 = v14) (e3 : IntKind.i64.wrap (x7 + 1) = v15) (h1 : x7 < (x0.length : Int)) (h2 : 0 ≤ x7) (h3 : x0[(Int.toNat x7)]? = some [.str v1, .str v2]) (h4 : Fn E F_ref54_num [.c (.str c0_0)] (.agg [.bool v3, .list v4, .list v5])) (h5 : Fn E F_ref54_num [.c (.str c0_1)] (.agg [.bool v6, .list v7, .list v8])) (h6 : Fn E F_ref54_difference [.agg [.str v1, .str v2], .agg [.bool v3, .list v4, .list v5], .agg [.bool v6, .list v7, .list v8]] (.agg [.bool v9, .list v10, .list v11])) (h7 : Fn E F_ref03_To [.agg [.bool v9, .list v10, .list v11]] (.c (.str v12))) (h8 : (x6 + 1) * 16 ≤ 140737488355328 ∧ x6 + 1 ≤ 140737488355328) {o : Out} {st' : St} (ih : Lp E 1 F_ref54_Differences 0 (ref54_Differences_L0 x0 v14 v15 c0_0 c0_1 c0_2 v13) o st') :
    Lp E 1 F_ref54_Differences 0 (ref54_Differences_L0 x0 x6 x7 c0_0 c0_1 c0_2 w1) o st' := by
 subst e1 e2 e3
 exact lpOn _ [0, 3, 6, 7] [.t true, .d [.str v1, .str v2], .v (.agg [.bool v3, .list v4, .list v5]), .v (.agg [.bool v6, .list v7, .list v8]), .v (.agg [.bool v9, .list v10, .list v11]), .v (.c (.str v12))] (aC (dT h1) (aC h2 (aC h3 (aC h4 (aC h5 (aC h6 (aC h7 (aC (show ∀ y ∈ ([[.str v12]] : List (List DV)), y.length = 1 from by simp) (aO h8))))))))) (by kernel_rfl) ih
theorem ref54_Differences_L0e0_x0 {x0 : List (List DV)} {x6 : Nat} {x7 : Int} {c0_0 c0_1 c0_2 : ByteArray} {w1 : List (List DV)} (h1 : ¬ x7 < (x0.length : Int)) :
    Lp E 1 F_ref54_Differences 0 (ref54_Differences_L0 x0 x6 x7 c0_0 c0_1 c0_2 w1) (.exit 0) (ref54_Differences_L0e0 c0_0 c0_1 c0_2 x6 w1) := by
 exact lpOff [6] [.t false] (aO (dF h1)) (by kernel_rfl) (by simp)
theorem ref54_Differences_0 {a0 : List (List DV)} {a1_0 a1_1 a1_2 : ByteArray} (h1 : Fn E F_ref54_numbers [.c (.list a0)] (.c (.bool true))) (h2 : Fn E F_ref03_Valid [.c (.str a1_0)] (.c (.bool true))) (h3 : Fn E F_ref03_Valid [.c (.str a1_1)] (.c (.bool true))) (h4 : (a0.length : Int) > 16) :
    Fn E F_ref54_Differences [.c (.list a0), .agg [.str a1_0, .str a1_1, .str a1_2]] (.tup [.c (.list []), .c (.i64 8)]) := by
 exact fnMk [.v (.c (.bool true)), .v (.c (.bool true)), .v (.c (.bool true)), .t true] (by kernel_rfl) (by kernel_rfl) (aC h1 (aC h2 (aC h3 (aO (dT h4))))) (by kernel_rfl)
theorem ref54_Differences_1 {a0 : List (List DV)} {a1_0 a1_1 a1_2 : ByteArray} {v4 : Nat} {v5 v6 : List (List DV)} (e1 : (v5.take v4) = v6) (h1 : Fn E F_ref54_numbers [.c (.list a0)] (.c (.bool true))) (h2 : Fn E F_ref03_Valid [.c (.str a1_0)] (.c (.bool true))) (h3 : Fn E F_ref03_Valid [.c (.str a1_1)] (.c (.bool true))) (h4 : ¬ (a0.length : Int) > 16) (h5 : Lp E 1 F_ref54_Differences 0 (ref54_Differences_L0 a0 0 0 a1_0 a1_1 a1_2 []) (.exit 0) (ref54_Differences_L0e0 a1_0 a1_1 a1_2 v4 v5)) :
    Fn E F_ref54_Differences [.c (.list a0), .agg [.str a1_0, .str a1_1, .str a1_2]] (.tup [.c (.list v6), .c (.i64 0)]) := by
 subst e1
 exact fnMk [.v (.c (.bool true)), .v (.c (.bool true)), .v (.c (.bool true)), .t false, .loop [0, 3, 6, 7] [(6, T_api_Rat)] (.exit 0) (ref54_Differences_L0e0 a1_0 a1_1 a1_2 v4 v5)] (by kernel_rfl) (by kernel_rfl) (aC h1 (aC h2 (aC h3 (aC (dF h4) (aO h5))))) (by kernel_rfl)
theorem ref54_Differences_2 {a0 : List (List DV)} {a1_0 a1_1 a1_2 : ByteArray} (h1 : Fn E F_ref54_numbers [.c (.list a0)] (.c (.bool true))) (h2 : Fn E F_ref03_Valid [.c (.str a1_0)] (.c (.bool true))) (h3 : Fn E F_ref03_Valid [.c (.str a1_1)] (.c (.bool false))) :
    Fn E F_ref54_Differences [.c (.list a0), .agg [.str a1_0, .str a1_1, .str a1_2]] (.tup [.c (.list []), .c (.i64 1)]) := by
 exact fnMk [.v (.c (.bool true)), .v (.c (.bool true)), .v (.c (.bool false))] (by kernel_rfl) (by kernel_rfl) (aC h1 (aC h2 (aO h3))) (by kernel_rfl)
theorem ref54_Differences_3 {a0 : List (List DV)} {a1_0 a1_1 a1_2 : ByteArray} (h1 : Fn E F_ref54_numbers [.c (.list a0)] (.c (.bool true))) (h2 : Fn E F_ref03_Valid [.c (.str a1_0)] (.c (.bool false))) :
    Fn E F_ref54_Differences [.c (.list a0), .agg [.str a1_0, .str a1_1, .str a1_2]] (.tup [.c (.list []), .c (.i64 1)]) := by
 exact fnMk [.v (.c (.bool true)), .v (.c (.bool false))] (by kernel_rfl) (by kernel_rfl) (aC h1 (aO h2)) (by kernel_rfl)
theorem ref54_Differences_4 {a0 : List (List DV)} {a1_0 a1_1 a1_2 : ByteArray} (h1 : Fn E F_ref54_numbers [.c (.list a0)] (.c (.bool false))) :
    Fn E F_ref54_Differences [.c (.list a0), .agg [.str a1_0, .str a1_1, .str a1_2]] (.tup [.c (.list []), .c (.i64 1)]) := by
 exact fnMk [.v (.c (.bool false))] (by kernel_rfl) (by kernel_rfl) (aO h1) (by kernel_rfl)
theorem ref54_Height_0 {a0_0 a0_1 a0_2 a1 : ByteArray} {v3 : Bool} {v4 v5 : List (List DV)} {v6 : Int} (h1 : Fn E F_ref03_Valid [.c (.str a0_0)] (.c (.bool true))) (h2 : Fn E F_ref03_Valid [.c (.str a1)] (.c (.bool true))) (h3 : Fn E F_ref54_num [.c (.str a0_0)] (.agg [.bool v3, .list v4, .list v5])) (h4 : Fn E F_ref03_Sign [.agg [.bool v3, .list v4, .list v5]] (.c (.i64 v6))) (h5 : v6 ≤ 0) :
    Fn E F_ref54_Height [.agg [.str a0_0, .str a0_1, .str a0_2], .c (.str a1)] (.tup [.c (.str ⟨#[]⟩), .c (.i64 2)]) := by
 exact fnMk [.v (.c (.bool true)), .v (.c (.bool true)), .v (.agg [.bool v3, .list v4, .list v5]), .v (.c (.i64 v6)), .t true] (by kernel_rfl) (by kernel_rfl) (aC h1 (aC h2 (aC h3 (aC h4 (aO (dT h5)))))) (by kernel_rfl)
theorem ref54_Height_1 {a0_0 a0_1 a0_2 a1 : ByteArray} {v3 : Bool} {v4 v5 : List (List DV)} {v6 : Int} {v7 : Bool} {v8 v9 : List (List DV)} {v10 : Int} (h1 : Fn E F_ref03_Valid [.c (.str a0_0)] (.c (.bool true))) (h2 : Fn E F_ref03_Valid [.c (.str a1)] (.c (.bool true))) (h3 : Fn E F_ref54_num [.c (.str a0_0)] (.agg [.bool v3, .list v4, .list v5])) (h4 : Fn E F_ref03_Sign [.agg [.bool v3, .list v4, .list v5]] (.c (.i64 v6))) (h5 : ¬ v6 ≤ 0) (h6 : Fn E F_ref54_num [.c (.str a1)] (.agg [.bool v7, .list v8, .list v9])) (h7 : Fn E F_ref03_Sign [.agg [.bool v7, .list v8, .list v9]] (.c (.i64 v10))) (h8 : v10 ≤ 0) :
    Fn E F_ref54_Height [.agg [.str a0_0, .str a0_1, .str a0_2], .c (.str a1)] (.tup [.c (.str ⟨#[]⟩), .c (.i64 2)]) := by
 exact fnMk [.v (.c (.bool true)), .v (.c (.bool true)), .v (.agg [.bool v3, .list v4, .list v5]), .v (.c (.i64 v6)), .t false, .v (.agg [.bool v7, .list v8, .list v9]), .v (.c (.i64 v10)), .t true] (by kernel_rfl) (by kernel_rfl) (aC h1 (aC h2 (aC h3 (aC h4 (aC (dF h5) (aC h6 (aC h7 (aO (dT h8))))))))) (by kernel_rfl)
theorem ref54_Height_2 {a0_0 a0_1 a0_2 a1 : ByteArray} {v3 : Bool} {v4 v5 : List (List DV)} {v6 : Int} {v7 : Bool} {v8 v9 : List (List DV)} {v10 : Int} {v11 : Bool} {v12 v13 : List (List DV)} {v14 : Bool} {v15 v16 : List (List DV)} {v17 : ByteArray} (h1 : Fn E F_ref03_Valid [.c (.str a0_0)] (.c (.bool true))) (h2 : Fn E F_ref03_Valid [.c (.str a1)] (.c (.bool true))) (h3 : Fn E F_ref54_num [.c (.str a0_0)] (.agg [.bool v3, .list v4, .list v5])) (h4 : Fn E F_ref03_Sign [.agg [.bool v3, .list v4, .list v5]] (.c (.i64 v6))) (h5 : ¬ v6 ≤ 0) (h6 : Fn E F_ref54_num [.c (.str a1)] (.agg [.bool v7, .list v8, .list v9])) (h7 : Fn E F_ref03_Sign [.agg [.bool v7, .list v8, .list v9]] (.c (.i64 v10))) (h8 : ¬ v10 ≤ 0) (h9 : Fn E F_ref03_Mul [.agg [.bool v7, .list v8, .list v9], .agg [.bool v3, .list v4, .list v5]] (.agg [.bool v11, .list v12, .list v13])) (h10 : Fn E F_ref03_Inv [.agg [.bool v11, .list v12, .list v13]] (.agg [.bool v14, .list v15, .list v16])) (h11 : Fn E F_ref03_To [.agg [.bool v14, .list v15, .list v16]] (.c (.str v17))) :
    Fn E F_ref54_Height [.agg [.str a0_0, .str a0_1, .str a0_2], .c (.str a1)] (.tup [.c (.str v17), .c (.i64 0)]) := by
 exact fnMk [.v (.c (.bool true)), .v (.c (.bool true)), .v (.agg [.bool v3, .list v4, .list v5]), .v (.c (.i64 v6)), .t false, .v (.agg [.bool v7, .list v8, .list v9]), .v (.c (.i64 v10)), .t false, .v (.agg [.bool v7, .list v8, .list v9]), .v (.agg [.bool v3, .list v4, .list v5]), .v (.agg [.bool v11, .list v12, .list v13]), .v (.agg [.bool v14, .list v15, .list v16]), .v (.c (.str v17))] (by kernel_rfl) (by kernel_rfl) (aC h1 (aC h2 (aC h3 (aC h4 (aC (dF h5) (aC h6 (aC h7 (aC (dF h8) (aC h6 (aC h3 (aC h9 (aC h10 (aO h11))))))))))))) (by kernel_rfl)
theorem ref54_Height_3 {a0_0 a0_1 a0_2 a1 : ByteArray} (h1 : Fn E F_ref03_Valid [.c (.str a0_0)] (.c (.bool true))) (h2 : Fn E F_ref03_Valid [.c (.str a1)] (.c (.bool false))) :
    Fn E F_ref54_Height [.agg [.str a0_0, .str a0_1, .str a0_2], .c (.str a1)] (.tup [.c (.str ⟨#[]⟩), .c (.i64 1)]) := by
 exact fnMk [.v (.c (.bool true)), .v (.c (.bool false))] (by kernel_rfl) (by kernel_rfl) (aC h1 (aO h2)) (by kernel_rfl)
theorem ref54_Height_4 {a0_0 a0_1 a0_2 a1 : ByteArray} (h1 : Fn E F_ref03_Valid [.c (.str a0_0)] (.c (.bool false))) :
    Fn E F_ref54_Height [.agg [.str a0_0, .str a0_1, .str a0_2], .c (.str a1)] (.tup [.c (.str ⟨#[]⟩), .c (.i64 1)]) := by
 exact fnMk [.v (.c (.bool false))] (by kernel_rfl) (by kernel_rfl) (aO h1) (by kernel_rfl)
theorem ref54_Centre_0 {a0 : List (List DV)} {a1 a2 v3 v4 v5 : ByteArray} {v6 : Int} (h1 : Fn E F_ref03_Valid [.c (.str a1)] (.c (.bool true))) (h2 : Fn E F_ref03_Valid [.c (.str a2)] (.c (.bool true))) (h3 : Fn E F_ref54_Fit [.c (.list a0)] (.tup [.agg [.str v3, .str v4, .str v5], .c (.i64 v6)])) (h4 : ¬ v6 = 0) :
    Fn E F_ref54_Centre [.c (.list a0), .c (.str a1), .c (.str a2)] (.tup [.c (.str ⟨#[]⟩), .c (.i64 v6)]) := by
 exact fnMk [.v (.c (.bool true)), .v (.c (.bool true)), .v (.tup [.agg [.str v3, .str v4, .str v5], .c (.i64 v6)]), .t true] (by kernel_rfl) (by kernel_rfl) (aC h1 (aC h2 (aC h3 (aO (bnT h4))))) (by kernel_rfl)
theorem ref54_Centre_1 {a0 : List (List DV)} {a1 a2 v3 v4 v5 : ByteArray} {v6 : Int} {v7 : ByteArray} {v8 : Int} (h1 : Fn E F_ref03_Valid [.c (.str a1)] (.c (.bool true))) (h2 : Fn E F_ref03_Valid [.c (.str a2)] (.c (.bool true))) (h3 : Fn E F_ref54_Fit [.c (.list a0)] (.tup [.agg [.str v3, .str v4, .str v5], .c (.i64 v6)])) (h4 : v6 = 0) (h5 : Fn E F_ref54_Height [.agg [.str v3, .str v4, .str v5], .c (.str a1)] (.tup [.c (.str v7), .c (.i64 v8)])) (h6 : ¬ v8 = 0) :
    Fn E F_ref54_Centre [.c (.list a0), .c (.str a1), .c (.str a2)] (.tup [.c (.str ⟨#[]⟩), .c (.i64 v8)]) := by
 exact fnMk [.v (.c (.bool true)), .v (.c (.bool true)), .v (.tup [.agg [.str v3, .str v4, .str v5], .c (.i64 v6)]), .t false, .v (.tup [.c (.str v7), .c (.i64 v8)]), .t true] (by kernel_rfl) (by kernel_rfl) (aC h1 (aC h2 (aC h3 (aC (bnF h4) (aC h5 (aO (bnT h6))))))) (by kernel_rfl)
theorem ref54_Centre_2 {a0 : List (List DV)} {a1 a2 v3 v4 v5 : ByteArray} {v6 : Int} {v7 : ByteArray} {v8 : Int} {v9 : Bool} {v10 v11 : List (List DV)} {v12 : Bool} {v13 v14 : List (List DV)} {v15 : Bool} {v16 v17 : List (List DV)} {v18 : ByteArray} (h1 : Fn E F_ref03_Valid [.c (.str a1)] (.c (.bool true))) (h2 : Fn E F_ref03_Valid [.c (.str a2)] (.c (.bool true))) (h3 : Fn E F_ref54_Fit [.c (.list a0)] (.tup [.agg [.str v3, .str v4, .str v5], .c (.i64 v6)])) (h4 : v6 = 0) (h5 : Fn E F_ref54_Height [.agg [.str v3, .str v4, .str v5], .c (.str a1)] (.tup [.c (.str v7), .c (.i64 v8)])) (h6 : v8 = 0) (h7 : Fn E F_ref54_num [.c (.str a2)] (.agg [.bool v9, .list v10, .list v11])) (h8 : Fn E F_ref54_num [.c (.str v7)] (.agg [.bool v12, .list v13, .list v14])) (h9 : Fn E F_ref03_Sub [.agg [.bool v9, .list v10, .list v11], .agg [.bool v12, .list v13, .list v14]] (.agg [.bool v15, .list v16, .list v17])) (h10 : Fn E F_ref03_To [.agg [.bool v15, .list v16, .list v17]] (.c (.str v18))) :
    Fn E F_ref54_Centre [.c (.list a0), .c (.str a1), .c (.str a2)] (.tup [.c (.str v18), .c (.i64 0)]) := by
 exact fnMk [.v (.c (.bool true)), .v (.c (.bool true)), .v (.tup [.agg [.str v3, .str v4, .str v5], .c (.i64 v6)]), .t false, .v (.tup [.c (.str v7), .c (.i64 v8)]), .t false, .v (.agg [.bool v9, .list v10, .list v11]), .v (.agg [.bool v12, .list v13, .list v14]), .v (.agg [.bool v15, .list v16, .list v17]), .v (.c (.str v18))] (by kernel_rfl) (by kernel_rfl) (aC h1 (aC h2 (aC h3 (aC (bnF h4) (aC h5 (aC (bnF h6) (aC h7 (aC h8 (aC h9 (aO h10)))))))))) (by kernel_rfl)
theorem ref54_Centre_3 {a0 : List (List DV)} {a1 a2 : ByteArray} (h1 : Fn E F_ref03_Valid [.c (.str a1)] (.c (.bool true))) (h2 : Fn E F_ref03_Valid [.c (.str a2)] (.c (.bool false))) :
    Fn E F_ref54_Centre [.c (.list a0), .c (.str a1), .c (.str a2)] (.tup [.c (.str ⟨#[]⟩), .c (.i64 1)]) := by
 exact fnMk [.v (.c (.bool true)), .v (.c (.bool false))] (by kernel_rfl) (by kernel_rfl) (aC h1 (aO h2)) (by kernel_rfl)
theorem ref54_Centre_4 {a0 : List (List DV)} {a1 a2 : ByteArray} (h1 : Fn E F_ref03_Valid [.c (.str a1)] (.c (.bool false))) :
    Fn E F_ref54_Centre [.c (.list a0), .c (.str a1), .c (.str a2)] (.tup [.c (.str ⟨#[]⟩), .c (.i64 1)]) := by
 exact fnMk [.v (.c (.bool false))] (by kernel_rfl) (by kernel_rfl) (aO h1) (by kernel_rfl)
def ref54_Correct_L0 (x0 : ByteArray) (x1 : ByteArray) (x2 : List (List DV)) (x8 : Bool) (x9 : Int) (c0_0 : ByteArray) (c0_1 : ByteArray) : St := stOf 96 [(0, .c (.str x0)), (1, .c (.str x1)), (2, .c (.list x2)), (6, .ptr 0 0), (8, .c (.bool x8)), (9, .c (.i64 x9))] [some (.cells [.c (.str c0_0), .c (.str c0_1)])]
def ref54_Correct_L0e0 (x0 : ByteArray) (x1 : ByteArray) (x2 : List (List DV)) (c0_0 : ByteArray) (c0_1 : ByteArray) (x8' : Bool) : St := stOf 96 [(0, .c (.str x0)), (1, .c (.str x1)), (2, .c (.list x2)), (6, .ptr 0 0), (8, .c (.bool x8'))] [some (.cells [.c (.str c0_0), .c (.str c0_1)])]
theorem ref54_Correct_L0_r0 {x0 x1 : ByteArray} {x2 : List (List DV)} {x9 : Int} {c0_0 c0_1 v1 v2 : ByteArray} {v4 : Bool} {v5 : Int} (e1 : IntKind.i64.wrap (x9 + 1) = v5) (h1 : x9 < (x2.length : Int)) (h2 : 0 ≤ x9) (h3 : x2[(Int.toNat x9)]? = some [.str v1, .str v2]) (h4 : Fn E F_ref03_Valid [.c (.str v1)] (.c (.bool true))) (h5 : Fn E F_ref03_Valid [.c (.str v2)] (.c (.bool v4))) {o : Out} {st' : St} (ih : Lp E 1 F_ref54_Correct 0 (ref54_Correct_L0 x0 x1 x2 v4 v5 c0_0 c0_1) o st') :
    Lp E 1 F_ref54_Correct 0 (ref54_Correct_L0 x0 x1 x2 true x9 c0_0 c0_1) o st' := by
 subst e1
 exact lpOn _ [0, 1, 2, 6, 8, 9] [.t true, .d [.str v1, .str v2], .v (.c (.bool true)), .d [.str v1, .str v2], .v (.c (.bool v4))] (aC (dT h1) (aC h2 (aC h3 (aC h4 (aC h2 (aC h3 (aO h5))))))) (by kernel_rfl) ih
theorem ref54_Correct_L0_r1 {x0 x1 : ByteArray} {x2 : List (List DV)} {x9 : Int} {c0_0 c0_1 v1 v2 : ByteArray} {v4 : Int} (e1 : IntKind.i64.wrap (x9 + 1) = v4) (h1 : x9 < (x2.length : Int)) (h2 : 0 ≤ x9) (h3 : x2[(Int.toNat x9)]? = some [.str v1, .str v2]) (h4 : Fn E F_ref03_Valid [.c (.str v1)] (.c (.bool false))) {o : Out} {st' : St} (ih : Lp E 1 F_ref54_Correct 0 (ref54_Correct_L0 x0 x1 x2 false v4 c0_0 c0_1) o st') :
    Lp E 1 F_ref54_Correct 0 (ref54_Correct_L0 x0 x1 x2 true x9 c0_0 c0_1) o st' := by
 subst e1
 exact lpOn _ [0, 1, 2, 6, 8, 9] [.t true, .d [.str v1, .str v2], .v (.c (.bool false))] (aC (dT h1) (aC h2 (aC h3 (aO h4)))) (by kernel_rfl) ih
theorem ref54_Correct_L0_r2 {x0 x1 : ByteArray} {x2 : List (List DV)} {x9 : Int} {c0_0 c0_1 : ByteArray} {v1 : Int} (e1 : IntKind.i64.wrap (x9 + 1) = v1) (h1 : x9 < (x2.length : Int)) {o : Out} {st' : St} (ih : Lp E 1 F_ref54_Correct 0 (ref54_Correct_L0 x0 x1 x2 false v1 c0_0 c0_1) o st') :
    Lp E 1 F_ref54_Correct 0 (ref54_Correct_L0 x0 x1 x2 false x9 c0_0 c0_1) o st' := by
 subst e1
 exact lpOn _ [0, 1, 2, 6, 8, 9] [.t true] (aO (dT h1)) (by kernel_rfl) ih
theorem ref54_Correct_L0e0_x0 {x0 x1 : ByteArray} {x2 : List (List DV)} {x8 : Bool} {x9 : Int} {c0_0 c0_1 : ByteArray} (h1 : ¬ x9 < (x2.length : Int)) :
    Lp E 1 F_ref54_Correct 0 (ref54_Correct_L0 x0 x1 x2 x8 x9 c0_0 c0_1) (.exit 0) (ref54_Correct_L0e0 x0 x1 x2 c0_0 c0_1 x8) := by
 exact lpOff [0, 1, 2, 6, 8] [.t false] (aO (dF h1)) (by kernel_rfl) (by simp)
def ref54_Correct_L1 (x2 : List (List DV)) (x12 : Int) (c0_0 : ByteArray) (c0_1 : ByteArray) (c1_0 : Bool) (c1_1 : List (List DV)) (c1_2 : List (List DV)) (c2_0 : Bool) (c2_1 : List (List DV)) (c2_2 : List (List DV)) : St := stOf 96 [(2, .c (.list x2)), (6, .ptr 0 0), (10, .ptr 1 0), (11, .ptr 2 0), (12, .c (.i64 x12))] [some (.cells [.c (.str c0_0), .c (.str c0_1)]), some (.cells [.c (.bool c1_0), .c (.list c1_1), .c (.list c1_2)]), some (.cells [.c (.bool c2_0), .c (.list c2_1), .c (.list c2_2)])]
def ref54_Correct_L1e0 (c0_0 : ByteArray) (c0_1 : ByteArray) (c1_0' : Bool) (c1_1' : List (List DV)) (c1_2' : List (List DV)) (c2_0' : Bool) (c2_1' : List (List DV)) (c2_2' : List (List DV)) : St := stOf 96 [(6, .ptr 0 0), (10, .ptr 1 0), (11, .ptr 2 0)] [some (.cells [.c (.str c0_0), .c (.str c0_1)]), some (.cells [.c (.bool c1_0'), .c (.list c1_1'), .c (.list c1_2')]), some (.cells [.c (.bool c2_0'), .c (.list c2_1'), .c (.list c2_2')])]
theorem ref54_Correct_L1_r0 {x2 : List (List DV)} {x12 : Int} {c0_0 c0_1 : ByteArray} {c1_0 : Bool} {c1_1 c1_2 : List (List DV)} {c2_0 : Bool} {c2_1 c2_2 : List (List DV)} {v1 v2 : ByteArray} {v3 : Bool} {v4 v5 : List (List DV)} {v6 : Bool} {v7 v8 : List (List DV)} {v9 : Bool} {v10 v11 : List (List DV)} {v12 : Bool} {v13 v14 : List (List DV)} {v15 : Bool} {v16 v17 : List (List DV)} {v18 : Int} (e1 : IntKind.i64.wrap (x12 + 1) = v18) (h1 : x12 < (x2.length : Int)) (h2 : 0 ≤ x12) (h3 : x2[(Int.toNat x12)]? = some [.str v1, .str v2]) (h4 : Fn E F_ref54_num [.c (.str v1)] (.agg [.bool v3, .list v4, .list v5])) (h5 : Fn E F_ref03_Add [.agg [.bool c1_0, .list c1_1, .list c1_2], .agg [.bool v3, .list v4, .list v5]] (.agg [.bool v6, .list v7, .list v8])) (h6 : Fn E F_ref54_num [.c (.str v2)] (.agg [.bool v9, .list v10, .list v11])) (h7 : Fn E F_ref03_Mul [.agg [.bool v3, .list v4, .list v5], .agg [.bool v9, .list v10, .list v11]] (.agg [.bool v12, .list v13, .list v14])) (h8 : Fn E F_ref03_Add [.agg [.bool c2_0, .list c2_1, .list c2_2], .agg [.bool v12, .list v13, .list v14]] (.agg [.bool v15, .list v16, .list v17])) {o : Out} {st' : St} (ih : Lp E 3 F_ref54_Correct 1 (ref54_Correct_L1 x2 v18 c0_0 c0_1 v6 v7 v8 v15 v16 v17) o st') :
    Lp E 3 F_ref54_Correct 1 (ref54_Correct_L1 x2 x12 c0_0 c0_1 c1_0 c1_1 c1_2 c2_0 c2_1 c2_2) o st' := by
 subst e1
 exact lpOn _ [2, 6, 10, 11, 12] [.t true, .d [.str v1, .str v2], .v (.agg [.bool v3, .list v4, .list v5]), .v (.agg [.bool v6, .list v7, .list v8]), .d [.str v1, .str v2], .v (.agg [.bool v3, .list v4, .list v5]), .d [.str v1, .str v2], .v (.agg [.bool v9, .list v10, .list v11]), .v (.agg [.bool v12, .list v13, .list v14]), .v (.agg [.bool v15, .list v16, .list v17])] (aC (dT h1) (aC h2 (aC h3 (aC h4 (aC h5 (aC h2 (aC h3 (aC h4 (aC h2 (aC h3 (aC h6 (aC h7 (aO h8))))))))))))) (by kernel_rfl) ih
theorem ref54_Correct_L1e0_x0 {x2 : List (List DV)} {x12 : Int} {c0_0 c0_1 : ByteArray} {c1_0 : Bool} {c1_1 c1_2 : List (List DV)} {c2_0 : Bool} {c2_1 c2_2 : List (List DV)} (h1 : ¬ x12 < (x2.length : Int)) :
    Lp E 3 F_ref54_Correct 1 (ref54_Correct_L1 x2 x12 c0_0 c0_1 c1_0 c1_1 c1_2 c2_0 c2_1 c2_2) (.exit 2) (ref54_Correct_L1e0 c0_0 c0_1 c1_0 c1_1 c1_2 c2_0 c2_1 c2_2) := by
 exact lpOff [6, 10, 11] [.t false] (aO (dF h1)) (by kernel_rfl) (by simp)
theorem ref54_Correct_0 {a0 a1 : ByteArray} {a2 : List (List DV)} {v2 : Bool} (h1 : Fn E F_ref03_Valid [.c (.str a0)] (.c (.bool true))) (h2 : Fn E F_ref03_Valid [.c (.str a1)] (.c (.bool v2))) (h3 : Lp E 1 F_ref54_Correct 0 (ref54_Correct_L0 a0 a1 a2 v2 0 ⟨#[]⟩ ⟨#[]⟩) (.exit 0) (ref54_Correct_L0e0 a0 a1 a2 ⟨#[]⟩ ⟨#[]⟩ true)) (h4 : (a2.length : Int) > 64) :
    Fn E F_ref54_Correct [.c (.str a0), .c (.str a1), .c (.list a2)] (.tup [.agg [.str ⟨#[]⟩, .str ⟨#[]⟩], .c (.i64 8)]) := by
 exact fnMk [.v (.c (.bool true)), .v (.c (.bool v2)), .loop [0, 1, 2, 6, 8, 9] [] (.exit 0) (ref54_Correct_L0e0 a0 a1 a2 ⟨#[]⟩ ⟨#[]⟩ true), .t true] (by kernel_rfl) (by kernel_rfl) (aC h1 (aC h2 (aC h3 (aO (dT h4))))) (by kernel_rfl)
theorem ref54_Correct_1 {a0 a1 : ByteArray} {a2 : List (List DV)} {v2 v4 : Bool} {v5 v6 : List (List DV)} {v7 : Bool} {v8 v9 : List (List DV)} {v10 : Bool} {v11 v12 : List (List DV)} {v13 : Bool} {v14 v15 : List (List DV)} {v16 : Bool} {v17 v18 : List (List DV)} {v19 : Int} (h1 : Fn E F_ref03_Valid [.c (.str a0)] (.c (.bool true))) (h2 : Fn E F_ref03_Valid [.c (.str a1)] (.c (.bool v2))) (h3 : Lp E 1 F_ref54_Correct 0 (ref54_Correct_L0 a0 a1 a2 v2 0 ⟨#[]⟩ ⟨#[]⟩) (.exit 0) (ref54_Correct_L0e0 a0 a1 a2 ⟨#[]⟩ ⟨#[]⟩ true)) (h4 : ¬ (a2.length : Int) > 64) (h5 : Fn E F_ref54_num [.c (.str a0)] (.agg [.bool v4, .list v5, .list v6])) (h6 : Fn E F_ref54_num [.c (.str a1)] (.agg [.bool v7, .list v8, .list v9])) (h7 : Fn E F_ref03_Mul [.agg [.bool v4, .list v5, .list v6], .agg [.bool v7, .list v8, .list v9]] (.agg [.bool v10, .list v11, .list v12])) (h8 : Lp E 3 F_ref54_Correct 1 (ref54_Correct_L1 a2 0 ⟨#[]⟩ ⟨#[]⟩ v4 v5 v6 v10 v11 v12) (.exit 2) (ref54_Correct_L1e0 ⟨#[]⟩ ⟨#[]⟩ v13 v14 v15 v16 v17 v18)) (h9 : Fn E F_ref03_Sign [.agg [.bool v13, .list v14, .list v15]] (.c (.i64 v19))) (h10 : v19 = 0) :
    Fn E F_ref54_Correct [.c (.str a0), .c (.str a1), .c (.list a2)] (.tup [.agg [.str ⟨#[]⟩, .str ⟨#[]⟩], .c (.i64 16)]) := by
 exact fnMk [.v (.c (.bool true)), .v (.c (.bool v2)), .loop [0, 1, 2, 6, 8, 9] [] (.exit 0) (ref54_Correct_L0e0 a0 a1 a2 ⟨#[]⟩ ⟨#[]⟩ true), .t false, .v (.agg [.bool v4, .list v5, .list v6]), .v (.agg [.bool v4, .list v5, .list v6]), .v (.agg [.bool v7, .list v8, .list v9]), .v (.agg [.bool v10, .list v11, .list v12]), .loop [2, 6, 10, 11, 12] [] (.exit 2) (ref54_Correct_L1e0 ⟨#[]⟩ ⟨#[]⟩ v13 v14 v15 v16 v17 v18), .v (.c (.i64 v19)), .t true] (by kernel_rfl) (by kernel_rfl) (aC h1 (aC h2 (aC h3 (aC (dF h4) (aC h5 (aC h5 (aC h6 (aC h7 (aC h8 (aC h9 (aO (beT h10)))))))))))) (by kernel_rfl)
theorem ref54_Correct_2 {a0 a1 : ByteArray} {a2 : List (List DV)} {v2 v4 : Bool} {v5 v6 : List (List DV)} {v7 : Bool} {v8 v9 : List (List DV)} {v10 : Bool} {v11 v12 : List (List DV)} {v13 : Bool} {v14 v15 : List (List DV)} {v16 : Bool} {v17 v18 : List (List DV)} {v19 : Int} {v20 : ByteArray} {v21 : Bool} {v22 v23 : List (List DV)} {v24 : ByteArray} (h1 : Fn E F_ref03_Valid [.c (.str a0)] (.c (.bool true))) (h2 : Fn E F_ref03_Valid [.c (.str a1)] (.c (.bool v2))) (h3 : Lp E 1 F_ref54_Correct 0 (ref54_Correct_L0 a0 a1 a2 v2 0 ⟨#[]⟩ ⟨#[]⟩) (.exit 0) (ref54_Correct_L0e0 a0 a1 a2 ⟨#[]⟩ ⟨#[]⟩ true)) (h4 : ¬ (a2.length : Int) > 64) (h5 : Fn E F_ref54_num [.c (.str a0)] (.agg [.bool v4, .list v5, .list v6])) (h6 : Fn E F_ref54_num [.c (.str a1)] (.agg [.bool v7, .list v8, .list v9])) (h7 : Fn E F_ref03_Mul [.agg [.bool v4, .list v5, .list v6], .agg [.bool v7, .list v8, .list v9]] (.agg [.bool v10, .list v11, .list v12])) (h8 : Lp E 3 F_ref54_Correct 1 (ref54_Correct_L1 a2 0 ⟨#[]⟩ ⟨#[]⟩ v4 v5 v6 v10 v11 v12) (.exit 2) (ref54_Correct_L1e0 ⟨#[]⟩ ⟨#[]⟩ v13 v14 v15 v16 v17 v18)) (h9 : Fn E F_ref03_Sign [.agg [.bool v13, .list v14, .list v15]] (.c (.i64 v19))) (h10 : ¬ v19 = 0) (h11 : Fn E F_ref03_To [.agg [.bool v13, .list v14, .list v15]] (.c (.str v20))) (h12 : Fn E F_ref03_Div [.agg [.bool v16, .list v17, .list v18], .agg [.bool v13, .list v14, .list v15]] (.agg [.bool v21, .list v22, .list v23])) (h13 : Fn E F_ref03_To [.agg [.bool v21, .list v22, .list v23]] (.c (.str v24))) :
    Fn E F_ref54_Correct [.c (.str a0), .c (.str a1), .c (.list a2)] (.tup [.agg [.str v20, .str v24], .c (.i64 0)]) := by
 exact fnMk [.v (.c (.bool true)), .v (.c (.bool v2)), .loop [0, 1, 2, 6, 8, 9] [] (.exit 0) (ref54_Correct_L0e0 a0 a1 a2 ⟨#[]⟩ ⟨#[]⟩ true), .t false, .v (.agg [.bool v4, .list v5, .list v6]), .v (.agg [.bool v4, .list v5, .list v6]), .v (.agg [.bool v7, .list v8, .list v9]), .v (.agg [.bool v10, .list v11, .list v12]), .loop [2, 6, 10, 11, 12] [] (.exit 2) (ref54_Correct_L1e0 ⟨#[]⟩ ⟨#[]⟩ v13 v14 v15 v16 v17 v18), .v (.c (.i64 v19)), .t false, .v (.c (.str v20)), .v (.agg [.bool v21, .list v22, .list v23]), .v (.c (.str v24))] (by kernel_rfl) (by kernel_rfl) (aC h1 (aC h2 (aC h3 (aC (dF h4) (aC h5 (aC h5 (aC h6 (aC h7 (aC h8 (aC h9 (aC (beF h10) (aC h11 (aC h12 (aO h13)))))))))))))) (by kernel_rfl)
theorem ref54_Correct_3 {a0 a1 : ByteArray} {a2 : List (List DV)} {v2 : Bool} (h1 : Fn E F_ref03_Valid [.c (.str a0)] (.c (.bool true))) (h2 : Fn E F_ref03_Valid [.c (.str a1)] (.c (.bool v2))) (h3 : Lp E 1 F_ref54_Correct 0 (ref54_Correct_L0 a0 a1 a2 v2 0 ⟨#[]⟩ ⟨#[]⟩) (.exit 0) (ref54_Correct_L0e0 a0 a1 a2 ⟨#[]⟩ ⟨#[]⟩ false)) :
    Fn E F_ref54_Correct [.c (.str a0), .c (.str a1), .c (.list a2)] (.tup [.agg [.str ⟨#[]⟩, .str ⟨#[]⟩], .c (.i64 1)]) := by
 exact fnMk [.v (.c (.bool true)), .v (.c (.bool v2)), .loop [0, 1, 2, 6, 8, 9] [] (.exit 0) (ref54_Correct_L0e0 a0 a1 a2 ⟨#[]⟩ ⟨#[]⟩ false)] (by kernel_rfl) (by kernel_rfl) (aC h1 (aC h2 (aO h3))) (by kernel_rfl)
theorem ref54_Correct_7 {a0 a1 : ByteArray} {a2 : List (List DV)} (h1 : Fn E F_ref03_Valid [.c (.str a0)] (.c (.bool false))) (h2 : Lp E 1 F_ref54_Correct 0 (ref54_Correct_L0 a0 a1 a2 false 0 ⟨#[]⟩ ⟨#[]⟩) (.exit 0) (ref54_Correct_L0e0 a0 a1 a2 ⟨#[]⟩ ⟨#[]⟩ false)) :
    Fn E F_ref54_Correct [.c (.str a0), .c (.str a1), .c (.list a2)] (.tup [.agg [.str ⟨#[]⟩, .str ⟨#[]⟩], .c (.i64 1)]) := by
 exact fnMk [.v (.c (.bool false)), .loop [0, 1, 2, 6, 8, 9] [] (.exit 0) (ref54_Correct_L0e0 a0 a1 a2 ⟨#[]⟩ ⟨#[]⟩ false)] (by kernel_rfl) (by kernel_rfl) (aC h1 (aO h2)) (by kernel_rfl)
theorem ref54_ready_0 {a0 : List (List DV)} (h1 : Fn E F_ref54_numbers [.c (.list a0)] (.c (.bool true))) (h2 : (a0.length : Int) < 2) :
    Fn E F_ref54_ready [.c (.list a0)] (.c (.i64 9)) := by
 exact fnMk [.v (.c (.bool true)), .t true] (by kernel_rfl) (by kernel_rfl) (aC h1 (aO (dT h2))) (by kernel_rfl)
theorem ref54_ready_1 {a0 : List (List DV)} (h1 : Fn E F_ref54_numbers [.c (.list a0)] (.c (.bool true))) (h2 : ¬ (a0.length : Int) < 2) (h3 : (a0.length : Int) > 16) :
    Fn E F_ref54_ready [.c (.list a0)] (.c (.i64 8)) := by
 exact fnMk [.v (.c (.bool true)), .t false, .t true] (by kernel_rfl) (by kernel_rfl) (aC h1 (aC (dF h2) (aO (dT h3)))) (by kernel_rfl)
theorem ref54_ready_2 {a0 : List (List DV)} (h1 : Fn E F_ref54_numbers [.c (.list a0)] (.c (.bool true))) (h2 : ¬ (a0.length : Int) < 2) (h3 : ¬ (a0.length : Int) > 16) :
    Fn E F_ref54_ready [.c (.list a0)] (.c (.i64 0)) := by
 exact fnMk [.v (.c (.bool true)), .t false, .t false] (by kernel_rfl) (by kernel_rfl) (aC h1 (aC (dF h2) (aO (dF h3)))) (by kernel_rfl)
theorem ref54_ready_3 {a0 : List (List DV)} (h1 : Fn E F_ref54_numbers [.c (.list a0)] (.c (.bool false))) :
    Fn E F_ref54_ready [.c (.list a0)] (.c (.i64 1)) := by
 exact fnMk [.v (.c (.bool false))] (by kernel_rfl) (by kernel_rfl) (aO h1) (by kernel_rfl)
def ref54_sums_L0 (x0 : List (List DV)) (x10 : Int) (c0_0 : Bool) (c1_0 : Bool) (c2_0 : Bool) (c3_0 : Bool) (c4_0 : Bool) (c4_1 : List (List DV)) (c4_2 : List (List DV)) (c5_0 : Bool) (c5_1 : List (List DV)) (c5_2 : List (List DV)) (c6_0 : Bool) (c6_1 : List (List DV)) (c6_2 : List (List DV)) (c7_0 : Bool) (c7_1 : List (List DV)) (c7_2 : List (List DV)) : St := stOf 55 [(0, .c (.list x0)), (2, .ptr 0 0), (3, .ptr 1 0), (4, .ptr 2 0), (5, .ptr 3 0), (6, .ptr 4 0), (7, .ptr 5 0), (8, .ptr 6 0), (9, .ptr 7 0), (10, .c (.i64 x10))] [some (.cells [.c (.bool c0_0), .nils, .nils]), some (.cells [.c (.bool c1_0), .nils, .nils]), some (.cells [.c (.bool c2_0), .nils, .nils]), some (.cells [.c (.bool c3_0), .nils, .nils]), some (.cells [.c (.bool c4_0), .c (.list c4_1), .c (.list c4_2)]), some (.cells [.c (.bool c5_0), .c (.list c5_1), .c (.list c5_2)]), some (.cells [.c (.bool c6_0), .c (.list c6_1), .c (.list c6_2)]), some (.cells [.c (.bool c7_0), .c (.list c7_1), .c (.list c7_2)])]
def ref54_sums_L0e0 (c0_0 : Bool) (c1_0 : Bool) (c2_0 : Bool) (c3_0 : Bool) (c4_0' : Bool) (c4_1' : List (List DV)) (c4_2' : List (List DV)) (c5_0' : Bool) (c5_1' : List (List DV)) (c5_2' : List (List DV)) (c6_0' : Bool) (c6_1' : List (List DV)) (c6_2' : List (List DV)) (c7_0' : Bool) (c7_1' : List (List DV)) (c7_2' : List (List DV)) : St := stOf 55 [(2, .ptr 0 0), (3, .ptr 1 0), (4, .ptr 2 0), (5, .ptr 3 0), (6, .ptr 4 0), (7, .ptr 5 0), (8, .ptr 6 0), (9, .ptr 7 0)] [some (.cells [.c (.bool c0_0), .nils, .nils]), some (.cells [.c (.bool c1_0), .nils, .nils]), some (.cells [.c (.bool c2_0), .nils, .nils]), some (.cells [.c (.bool c3_0), .nils, .nils]), some (.cells [.c (.bool c4_0'), .c (.list c4_1'), .c (.list c4_2')]), some (.cells [.c (.bool c5_0'), .c (.list c5_1'), .c (.list c5_2')]), some (.cells [.c (.bool c6_0'), .c (.list c6_1'), .c (.list c6_2')]), some (.cells [.c (.bool c7_0'), .c (.list c7_1'), .c (.list c7_2')])]
theorem ref54_sums_L0_r0 {x0 : List (List DV)} {x10 : Int} {c0_0 c1_0 c2_0 c3_0 c4_0 : Bool} {c4_1 c4_2 : List (List DV)} {c5_0 : Bool} {c5_1 c5_2 : List (List DV)} {c6_0 : Bool} {c6_1 c6_2 : List (List DV)} {c7_0 : Bool} {c7_1 c7_2 : List (List DV)} {v1 v2 : ByteArray} {v3 : Bool} {v4 v5 : List (List DV)} {v6 : Bool} {v7 v8 : List (List DV)} {v9 : Bool} {v10 v11 : List (List DV)} {v12 : Bool} {v13 v14 : List (List DV)} {v15 : Bool} {v16 v17 : List (List DV)} {v18 : Bool} {v19 v20 : List (List DV)} {v21 : Bool} {v22 v23 : List (List DV)} {v24 : Bool} {v25 v26 : List (List DV)} {v27 : Int} (e1 : IntKind.i64.wrap (x10 + 1) = v27) (h1 : x10 < (x0.length : Int)) (h2 : 0 ≤ x10) (h3 : x0[(Int.toNat x10)]? = some [.str v1, .str v2]) (h4 : Fn E F_ref54_num [.c (.str v1)] (.agg [.bool v3, .list v4, .list v5])) (h5 : Fn E F_ref54_num [.c (.str v2)] (.agg [.bool v6, .list v7, .list v8])) (h6 : Fn E F_ref03_Add [.agg [.bool c4_0, .list c4_1, .list c4_2], .agg [.bool v3, .list v4, .list v5]] (.agg [.bool v9, .list v10, .list v11])) (h7 : Fn E F_ref03_Add [.agg [.bool c5_0, .list c5_1, .list c5_2], .agg [.bool v6, .list v7, .list v8]] (.agg [.bool v12, .list v13, .list v14])) (h8 : Fn E F_ref03_Mul [.agg [.bool v3, .list v4, .list v5], .agg [.bool v3, .list v4, .list v5]] (.agg [.bool v15, .list v16, .list v17])) (h9 : Fn E F_ref03_Add [.agg [.bool c6_0, .list c6_1, .list c6_2], .agg [.bool v15, .list v16, .list v17]] (.agg [.bool v18, .list v19, .list v20])) (h10 : Fn E F_ref03_Mul [.agg [.bool v3, .list v4, .list v5], .agg [.bool v6, .list v7, .list v8]] (.agg [.bool v21, .list v22, .list v23])) (h11 : Fn E F_ref03_Add [.agg [.bool c7_0, .list c7_1, .list c7_2], .agg [.bool v21, .list v22, .list v23]] (.agg [.bool v24, .list v25, .list v26])) {o : Out} {st' : St} (ih : Lp E 8 F_ref54_sums 0 (ref54_sums_L0 x0 v27 c0_0 c1_0 c2_0 c3_0 v9 v10 v11 v12 v13 v14 v18 v19 v20 v24 v25 v26) o st') :
    Lp E 8 F_ref54_sums 0 (ref54_sums_L0 x0 x10 c0_0 c1_0 c2_0 c3_0 c4_0 c4_1 c4_2 c5_0 c5_1 c5_2 c6_0 c6_1 c6_2 c7_0 c7_1 c7_2) o st' := by
 subst e1
 exact lpOn _ [0, 2, 3, 4, 5, 6, 7, 8, 9, 10] [.t true, .d [.str v1, .str v2], .v (.agg [.bool v3, .list v4, .list v5]), .d [.str v1, .str v2], .v (.agg [.bool v6, .list v7, .list v8]), .v (.agg [.bool v9, .list v10, .list v11]), .v (.agg [.bool v12, .list v13, .list v14]), .v (.agg [.bool v15, .list v16, .list v17]), .v (.agg [.bool v18, .list v19, .list v20]), .v (.agg [.bool v21, .list v22, .list v23]), .v (.agg [.bool v24, .list v25, .list v26])] (aC (dT h1) (aC h2 (aC h3 (aC h4 (aC h2 (aC h3 (aC h5 (aC h6 (aC h7 (aC h8 (aC h9 (aC h10 (aO h11))))))))))))) (by kernel_rfl) ih
theorem ref54_sums_L0e0_x0 {x0 : List (List DV)} {x10 : Int} {c0_0 c1_0 c2_0 c3_0 c4_0 : Bool} {c4_1 c4_2 : List (List DV)} {c5_0 : Bool} {c5_1 c5_2 : List (List DV)} {c6_0 : Bool} {c6_1 c6_2 : List (List DV)} {c7_0 : Bool} {c7_1 c7_2 : List (List DV)} (h1 : ¬ x10 < (x0.length : Int)) :
    Lp E 8 F_ref54_sums 0 (ref54_sums_L0 x0 x10 c0_0 c1_0 c2_0 c3_0 c4_0 c4_1 c4_2 c5_0 c5_1 c5_2 c6_0 c6_1 c6_2 c7_0 c7_1 c7_2) (.exit 0) (ref54_sums_L0e0 c0_0 c1_0 c2_0 c3_0 c4_0 c4_1 c4_2 c5_0 c5_1 c5_2 c6_0 c6_1 c6_2 c7_0 c7_1 c7_2) := by
 exact lpOff [2, 3, 4, 5, 6, 7, 8, 9] [.t false] (aO (dF h1)) (by kernel_rfl) (by simp)
theorem ref54_sums_0 {a0 : List (List DV)} {v1 : Bool} {v2 v3 : List (List DV)} {v4 : Bool} {v5 v6 : List (List DV)} {v7 : Bool} {v8 v9 : List (List DV)} {v10 : Bool} {v11 v12 : List (List DV)} {v13 : Bool} {v14 v15 : List (List DV)} (h1 : Fn E F_ref03_Int [.c (.i64 0)] (.agg [.bool v1, .list v2, .list v3])) (h2 : Lp E 8 F_ref54_sums 0 (ref54_sums_L0 a0 0 false false false false v1 v2 v3 v1 v2 v3 v1 v2 v3 v1 v2 v3) (.exit 0) (ref54_sums_L0e0 false false false false v4 v5 v6 v7 v8 v9 v10 v11 v12 v13 v14 v15)) :
    Fn E F_ref54_sums [.c (.list a0)] (.tup [.agg [.bool v4, .list v5, .list v6], .agg [.bool v7, .list v8, .list v9], .agg [.bool v10, .list v11, .list v12], .agg [.bool v13, .list v14, .list v15]]) := by
 exact fnMk [.v (.agg [.bool v1, .list v2, .list v3]), .v (.agg [.bool v1, .list v2, .list v3]), .v (.agg [.bool v1, .list v2, .list v3]), .v (.agg [.bool v1, .list v2, .list v3]), .loop [0, 2, 3, 4, 5, 6, 7, 8, 9, 10] [] (.exit 0) (ref54_sums_L0e0 false false false false v4 v5 v6 v7 v8 v9 v10 v11 v12 v13 v14 v15)] (by kernel_rfl) (by kernel_rfl) (aC h1 (aC h1 (aC h1 (aC h1 (aO h2))))) (by kernel_rfl)
def ref54_line_L0 (x0 : List (List DV)) (x8 : Int) (c0_0 : Bool) (c0_1 : List (List DV)) (c0_2 : List (List DV)) (c1_0 : Bool) (c1_1 : List (List DV)) (c1_2 : List (List DV)) (c2_0 : ByteArray) (c2_1 : ByteArray) (c2_2 : ByteArray) (c3_0 : Bool) (c3_1 : List (List DV)) (c3_2 : List (List DV)) : St := stOf 36 [(0, .c (.list x0)), (4, .ptr 0 0), (5, .ptr 1 0), (6, .ptr 2 0), (7, .ptr 3 0), (8, .c (.i64 x8))] [some (.cells [.c (.bool c0_0), .c (.list c0_1), .c (.list c0_2)]), some (.cells [.c (.bool c1_0), .c (.list c1_1), .c (.list c1_2)]), some (.cells [.c (.str c2_0), .c (.str c2_1), .c (.str c2_2)]), some (.cells [.c (.bool c3_0), .c (.list c3_1), .c (.list c3_2)])]
def ref54_line_L0e0 (c0_0 : Bool) (c0_1 : List (List DV)) (c0_2 : List (List DV)) (c1_0 : Bool) (c1_1 : List (List DV)) (c1_2 : List (List DV)) (c2_0 : ByteArray) (c2_1 : ByteArray) (c2_2 : ByteArray) (c3_0' : Bool) (c3_1' : List (List DV)) (c3_2' : List (List DV)) : St := stOf 36 [(4, .ptr 0 0), (5, .ptr 1 0), (6, .ptr 2 0), (7, .ptr 3 0)] [some (.cells [.c (.bool c0_0), .c (.list c0_1), .c (.list c0_2)]), some (.cells [.c (.bool c1_0), .c (.list c1_1), .c (.list c1_2)]), some (.cells [.c (.str c2_0), .c (.str c2_1), .c (.str c2_2)]), some (.cells [.c (.bool c3_0'), .c (.list c3_1'), .c (.list c3_2')])]
theorem ref54_line_L0_r0 {x0 : List (List DV)} {x8 : Int} {c0_0 : Bool} {c0_1 c0_2 : List (List DV)} {c1_0 : Bool} {c1_1 c1_2 : List (List DV)} {c2_0 c2_1 c2_2 : ByteArray} {c3_0 : Bool} {c3_1 c3_2 : List (List DV)} {v1 v2 : ByteArray} {v3 : Bool} {v4 v5 : List (List DV)} {v6 : Bool} {v7 v8 : List (List DV)} {v9 : Bool} {v10 v11 : List (List DV)} {v12 : Int} (e1 : IntKind.i64.wrap (x8 + 1) = v12) (h1 : x8 < (x0.length : Int)) (h2 : 0 ≤ x8) (h3 : x0[(Int.toNat x8)]? = some [.str v1, .str v2]) (h4 : Fn E F_ref54_difference [.agg [.str v1, .str v2], .agg [.bool c0_0, .list c0_1, .list c0_2], .agg [.bool c1_0, .list c1_1, .list c1_2]] (.agg [.bool v3, .list v4, .list v5])) (h5 : Fn E F_ref03_Mul [.agg [.bool v3, .list v4, .list v5], .agg [.bool v3, .list v4, .list v5]] (.agg [.bool v6, .list v7, .list v8])) (h6 : Fn E F_ref03_Add [.agg [.bool c3_0, .list c3_1, .list c3_2], .agg [.bool v6, .list v7, .list v8]] (.agg [.bool v9, .list v10, .list v11])) {o : Out} {st' : St} (ih : Lp E 4 F_ref54_line 0 (ref54_line_L0 x0 v12 c0_0 c0_1 c0_2 c1_0 c1_1 c1_2 c2_0 c2_1 c2_2 v9 v10 v11) o st') :
    Lp E 4 F_ref54_line 0 (ref54_line_L0 x0 x8 c0_0 c0_1 c0_2 c1_0 c1_1 c1_2 c2_0 c2_1 c2_2 c3_0 c3_1 c3_2) o st' := by
 subst e1
 exact lpOn _ [0, 4, 5, 6, 7, 8] [.t true, .d [.str v1, .str v2], .v (.agg [.bool v3, .list v4, .list v5]), .v (.agg [.bool v6, .list v7, .list v8]), .v (.agg [.bool v9, .list v10, .list v11])] (aC (dT h1) (aC h2 (aC h3 (aC h4 (aC h5 (aO h6)))))) (by kernel_rfl) ih
theorem ref54_line_L0e0_x0 {x0 : List (List DV)} {x8 : Int} {c0_0 : Bool} {c0_1 c0_2 : List (List DV)} {c1_0 : Bool} {c1_1 c1_2 : List (List DV)} {c2_0 c2_1 c2_2 : ByteArray} {c3_0 : Bool} {c3_1 c3_2 : List (List DV)} (h1 : ¬ x8 < (x0.length : Int)) :
    Lp E 4 F_ref54_line 0 (ref54_line_L0 x0 x8 c0_0 c0_1 c0_2 c1_0 c1_1 c1_2 c2_0 c2_1 c2_2 c3_0 c3_1 c3_2) (.exit 0) (ref54_line_L0e0 c0_0 c0_1 c0_2 c1_0 c1_1 c1_2 c2_0 c2_1 c2_2 c3_0 c3_1 c3_2) := by
 exact lpOff [4, 5, 6, 7] [.t false] (aO (dF h1)) (by kernel_rfl) (by simp)
theorem ref54_line_0 {a0 : List (List DV)} {a1_0 : Bool} {a1_1 a1_2 : List (List DV)} {a2_0 : Bool} {a2_1 a2_2 : List (List DV)} {v1 : Bool} {v2 v3 : List (List DV)} {v4 : Bool} {v5 v6 : List (List DV)} {v7 v8 v9 : ByteArray} (h1 : Fn E F_ref03_Int [.c (.i64 0)] (.agg [.bool v1, .list v2, .list v3])) (h2 : Lp E 4 F_ref54_line 0 (ref54_line_L0 a0 0 a1_0 a1_1 a1_2 a2_0 a2_1 a2_2 ⟨#[]⟩ ⟨#[]⟩ ⟨#[]⟩ v1 v2 v3) (.exit 0) (ref54_line_L0e0 a1_0 a1_1 a1_2 a2_0 a2_1 a2_2 ⟨#[]⟩ ⟨#[]⟩ ⟨#[]⟩ v4 v5 v6)) (h3 : Fn E F_ref03_To [.agg [.bool a1_0, .list a1_1, .list a1_2]] (.c (.str v7))) (h4 : Fn E F_ref03_To [.agg [.bool a2_0, .list a2_1, .list a2_2]] (.c (.str v8))) (h5 : Fn E F_ref03_To [.agg [.bool v4, .list v5, .list v6]] (.c (.str v9))) :
    Fn E F_ref54_line [.c (.list a0), .agg [.bool a1_0, .list a1_1, .list a1_2], .agg [.bool a2_0, .list a2_1, .list a2_2]] (.agg [.str v7, .str v8, .str v9]) := by
 exact fnMk [.v (.agg [.bool v1, .list v2, .list v3]), .loop [0, 4, 5, 6, 7, 8] [] (.exit 0) (ref54_line_L0e0 a1_0 a1_1 a1_2 a2_0 a2_1 a2_2 ⟨#[]⟩ ⟨#[]⟩ ⟨#[]⟩ v4 v5 v6), .v (.c (.str v7)), .v (.c (.str v8)), .v (.c (.str v9))] (by kernel_rfl) (by kernel_rfl) (aC h1 (aC h2 (aC h3 (aC h4 (aO h5))))) (by kernel_rfl)
theorem ref54_num_0 {a0 : ByteArray} {v1 : Bool} {v2 v3 : List (List DV)} (h1 : Fn E F_ref47_Num [.c (.str a0)] (.agg [.bool v1, .list v2, .list v3])) :
    Fn E F_ref54_num [.c (.str a0)] (.agg [.bool v1, .list v2, .list v3]) := by
 exact fnMk [.v (.agg [.bool v1, .list v2, .list v3])] (by kernel_rfl) (by kernel_rfl) (aO h1) (by kernel_rfl)
def ref54_numbers_L0 (x0 : List (List DV)) (x3 : Int) : St := stOf 26 [(0, .c (.list x0)), (3, .c (.i64 x3))] []
def ref54_numbers_L0e0 : St := stOf 26 [(2, .c (.bool false))] []
def ref54_numbers_L0e1 : St := stOf 26 [] []
theorem ref54_numbers_L0_r0 {x0 : List (List DV)} {x3 : Int} {v1 v2 : ByteArray} {v5 : Int} (e1 : IntKind.i64.wrap (x3 + 1) = v5) (h1 : x3 < (x0.length : Int)) (h2 : 0 ≤ x3) (h3 : x0[(Int.toNat x3)]? = some [.str v1, .str v2]) (h4 : Fn E F_ref03_Valid [.c (.str v1)] (.c (.bool true))) (h5 : Fn E F_ref03_Valid [.c (.str v2)] (.c (.bool true))) {o : Out} {st' : St} (ih : Lp E 0 F_ref54_numbers 0 (ref54_numbers_L0 x0 v5) o st') :
    Lp E 0 F_ref54_numbers 0 (ref54_numbers_L0 x0 x3) o st' := by
 subst e1
 exact lpOn _ [0, 3] [.t true, .d [.str v1, .str v2], .v (.c (.bool true)), .d [.str v1, .str v2], .v (.c (.bool true))] (aC (dT h1) (aC h2 (aC h3 (aC h4 (aC h2 (aC h3 (aO h5))))))) (by kernel_rfl) ih
theorem ref54_numbers_L0e0_x0 {x0 : List (List DV)} {x3 : Int} {v1 v2 : ByteArray} (h1 : x3 < (x0.length : Int)) (h2 : 0 ≤ x3) (h3 : x0[(Int.toNat x3)]? = some [.str v1, .str v2]) (h4 : Fn E F_ref03_Valid [.c (.str v1)] (.c (.bool true))) (h5 : Fn E F_ref03_Valid [.c (.str v2)] (.c (.bool false))) :
    Lp E 0 F_ref54_numbers 0 (ref54_numbers_L0 x0 x3) .ret (ref54_numbers_L0e0) := by
 exact lpOff [2] [.t true, .d [.str v1, .str v2], .v (.c (.bool true)), .d [.str v1, .str v2], .v (.c (.bool false))] (aC (dT h1) (aC h2 (aC h3 (aC h4 (aC h2 (aC h3 (aO h5))))))) (by kernel_rfl) (by simp)
theorem ref54_numbers_L0e0_x1 {x0 : List (List DV)} {x3 : Int} {v1 v2 : ByteArray} (h1 : x3 < (x0.length : Int)) (h2 : 0 ≤ x3) (h3 : x0[(Int.toNat x3)]? = some [.str v1, .str v2]) (h4 : Fn E F_ref03_Valid [.c (.str v1)] (.c (.bool false))) :
    Lp E 0 F_ref54_numbers 0 (ref54_numbers_L0 x0 x3) .ret (ref54_numbers_L0e0) := by
 exact lpOff [2] [.t true, .d [.str v1, .str v2], .v (.c (.bool false))] (aC (dT h1) (aC h2 (aC h3 (aO h4)))) (by kernel_rfl) (by simp)
theorem ref54_numbers_L0e1_x0 {x0 : List (List DV)} {x3 : Int} (h1 : ¬ x3 < (x0.length : Int)) :
    Lp E 0 F_ref54_numbers 0 (ref54_numbers_L0 x0 x3) (.exit 0) (ref54_numbers_L0e1) := by
 exact lpOff [] [.t false] (aO (dF h1)) (by kernel_rfl) (by simp)
theorem ref54_numbers_0 {a0 : List (List DV)} (h1 : Lp E 0 F_ref54_numbers 0 (ref54_numbers_L0 a0 0) .ret (ref54_numbers_L0e0)) :
    Fn E F_ref54_numbers [.c (.list a0)] (.c (.bool false)) := by
 exact fnMk [.loop [0, 3] [] .ret (ref54_numbers_L0e0)] (by kernel_rfl) (by kernel_rfl) (aO h1) (by kernel_rfl)
theorem ref54_numbers_1 {a0 : List (List DV)} (h1 : Lp E 0 F_ref54_numbers 0 (ref54_numbers_L0 a0 0) (.exit 0) (ref54_numbers_L0e1)) :
    Fn E F_ref54_numbers [.c (.list a0)] (.c (.bool true)) := by
 exact fnMk [.loop [0, 3] [] (.exit 0) (ref54_numbers_L0e1)] (by kernel_rfl) (by kernel_rfl) (aO h1) (by kernel_rfl)
theorem ref54_difference_0 {a0_0 a0_1 : ByteArray} {a1_0 : Bool} {a1_1 a1_2 : List (List DV)} {a2_0 : Bool} {a2_1 a2_2 : List (List DV)} {v1 : Bool} {v2 v3 : List (List DV)} {v4 : Bool} {v5 v6 : List (List DV)} {v7 : Bool} {v8 v9 : List (List DV)} {v10 : Bool} {v11 v12 : List (List DV)} {v13 : Bool} {v14 v15 : List (List DV)} (h1 : Fn E F_ref54_num [.c (.str a0_1)] (.agg [.bool v1, .list v2, .list v3])) (h2 : Fn E F_ref54_num [.c (.str a0_0)] (.agg [.bool v4, .list v5, .list v6])) (h3 : Fn E F_ref03_Mul [.agg [.bool a1_0, .list a1_1, .list a1_2], .agg [.bool v4, .list v5, .list v6]] (.agg [.bool v7, .list v8, .list v9])) (h4 : Fn E F_ref03_Add [.agg [.bool a2_0, .list a2_1, .list a2_2], .agg [.bool v7, .list v8, .list v9]] (.agg [.bool v10, .list v11, .list v12])) (h5 : Fn E F_ref03_Sub [.agg [.bool v1, .list v2, .list v3], .agg [.bool v10, .list v11, .list v12]] (.agg [.bool v13, .list v14, .list v15])) :
    Fn E F_ref54_difference [.agg [.str a0_0, .str a0_1], .agg [.bool a1_0, .list a1_1, .list a1_2], .agg [.bool a2_0, .list a2_1, .list a2_2]] (.agg [.bool v13, .list v14, .list v15]) := by
 exact fnMk [.v (.agg [.bool v1, .list v2, .list v3]), .v (.agg [.bool v4, .list v5, .list v6]), .v (.agg [.bool v7, .list v8, .list v9]), .v (.agg [.bool v10, .list v11, .list v12]), .v (.agg [.bool v13, .list v14, .list v15])] (by kernel_rfl) (by kernel_rfl) (aC h1 (aC h2 (aC h3 (aC h4 (aO h5))))) (by kernel_rfl)
end Gev
namespace Gev
open Go
theorem wi {n m : Int} (h : n = m ∧ -9223372036854775808 ≤ m ∧ m ≤ 9223372036854775807) : IntKind.i64.wrap n = m := by rw [IntKind.wrap_i64]; omega
theorem wu {n m : Int} (h : n = m ∧ 0 ≤ m ∧ m ≤ 18446744073709551615) : IntKind.u64.wrap n = m := by simp [IntKind.wrap, IntKind.bits, IntKind.signed]; omega
theorem w32 {n m : Int} (h : n = m ∧ 0 ≤ m ∧ m ≤ 4294967295) : IntKind.u32.wrap n = m := by rw [IntKind.wrap_u32]; omega
theorem w8 {n m : Int} (h : n = m ∧ 0 ≤ m ∧ m ≤ 255) : IntKind.u8.wrap n = m := by rw [IntKind.wrap_u8]; omega
theorem tdv {a b c : Int} (ha : 0 ≤ a) (h : a / b = c) : Int.tdiv a b = c := by rw [Int.tdiv_eq_ediv_of_nonneg ha]; exact h
theorem tmd {a b c : Int} (ha : 0 ≤ a) (h : a % b = c) : Int.tmod a b = c := by rw [Int.tmod_eq_emod_of_nonneg ha]; exact h
def Wr (ws : List Int) : List (List DV) := ws.map fun x => [.u32 x]
theorem Wr_len (ws : List Int) : (Wr ws).length = ws.length := by simp [Wr]
theorem Wr_get {ws : List Int} {i : Nat} {x : Int} (h : ws[i]? = some x) : (Wr ws)[i]? = some [.u32 x] := by simp [Wr, h]
theorem Wr_take (ws : List Int) (n : Nat) : (Wr ws).take n = Wr (ws.take n) := by simp [Wr, List.map_take]
theorem Wr_snoc (ws : List Int) (x : Int) : Wr ws ++ [[.u32 x]] = Wr (ws ++ [x]) := by simp [Wr]
theorem Wr_append (ws xs : List Int) : Wr ws ++ Wr xs = Wr (ws ++ xs) := by simp [Wr]
theorem Wr_set (ws : List Int) (n : Nat) (x : Int) : (Wr ws).set n [.u32 x] = Wr (ws.set n x) := by simp [Wr, List.map_set]
theorem Wr_replicate (n : Nat) (x : Int) : List.replicate n [DV.u32 x] = Wr (List.replicate n x) := by simp [Wr]
theorem Wr_one (ws : List Int) : ∀ x ∈ Wr ws, x.length = 1 := by intro x hx; simp [Wr] at hx; obtain ⟨_, _, rfl⟩ := hx; rfl
theorem getD_some {ws : List Int} {i : Nat} (h : i < ws.length) : ws[i]? = some (ws.getD i 0) := by
 rw [List.getD_eq_getElem?_getD, List.getElem?_eq_getElem h]; rfl
theorem Wr_getD {ws : List Int} {i : Nat} (h : i < ws.length) : (Wr ws)[i]? = some [.u32 (ws.getD i 0)] := Wr_get (getD_some h)
def B (l : List UInt8) : ByteArray := ⟨l.toArray⟩
theorem B_size (l : List UInt8) : (B l).size = l.length := by show l.toArray.size = _; simp
theorem B_list (l : List UInt8) : (B l).data.toList = l := by simp [B]
theorem B_of (a : ByteArray) : B a.data.toList = a := by cases a; simp [B]
theorem B_inj {l m : List UInt8} (h : B l = B m) : l = m := by have := congrArg (fun a : ByteArray => a.data.toList) h; simpa [B] using this
theorem B_nil : B [] = ⟨#[]⟩ := rfl
theorem B_append (l m : List UInt8) : B l ++ B m = B (l ++ m) := by
 show ByteArray.append _ _ = _
 apply bytes_ext
 rw [toList_eq, toList_eq]
 have : (B l ++ B m).data = (B l).data ++ (B m).data := ByteArray.data_append
 rw [show (ByteArray.append (B l) (B m)).data = (B l ++ B m).data from rfl, this]
 simp [B]
theorem B_extract (l : List UInt8) (i j : Nat) : (B l).extract i j = B ((l.take j).drop i) := by
 apply bytes_ext
 rw [toList_eq, toList_eq]
 have : ((B l).extract i j).data = (B l).data.extract i j := ByteArray.data_extract
 rw [this]
 simp [B, List.drop_take]
end Gev
namespace Gev
open Go Gb
variable {E : Env}
def cmpI (a b : Int) : Int := if a < b then -1 else if a > b then 1 else 0
theorem cmp_u32 (a b : Int) : Fn E F_cmp_Compare_uint32 [.c (.u32 a), .c (.u32 b)] (.c (.i64 (cmpI a b))) := by
 have ha := cmp_isNaN_uint32_1 (E := E) (rfl : a = a)
 have hb := cmp_isNaN_uint32_1 (E := E) (rfl : b = b)
 unfold cmpI
 by_cases h : a < b
 · rw [if_pos h]; exact cmp_Compare_uint32_3 ha hb h
 · rw [if_neg h]
   by_cases k : a > b
   · rw [if_pos k]; exact cmp_Compare_uint32_4 ha hb h k
   · rw [if_neg k]; exact cmp_Compare_uint32_5 ha hb h k
theorem cmp_i64 (a b : Int) : Fn E F_cmp_Compare_int [.c (.i64 a), .c (.i64 b)] (.c (.i64 (cmpI a b))) := by
 have ha := cmp_isNaN_int_1 (E := E) (rfl : a = a)
 have hb := cmp_isNaN_int_1 (E := E) (rfl : b = b)
 unfold cmpI
 by_cases h : a < b
 · rw [if_pos h]; exact cmp_Compare_int_3 ha hb h
 · rw [if_neg h]
   by_cases k : a > b
   · rw [if_pos k]; exact cmp_Compare_int_4 ha hb h k
   · rw [if_neg k]; exact cmp_Compare_int_5 ha hb h k
def trimN (ws : List Int) : Nat → Nat
 | 0 => 0
 | k + 1 => if ws.getD k 0 = 0 then trimN ws k else k + 1
theorem trimN_le (ws : List Int) (k : Nat) : trimN ws k ≤ k := by
 induction k with
 | zero => exact Nat.le_refl 0
 | succ k ih => unfold trimN; split <;> omega
theorem trimN_words {ws : List Int} (h : Wd ws) {k : Nat} (hk : k ≤ ws.length) : ws.take (trimN ws k) = words (wv (ws.take k)).toNat := by
 induction k with
 | zero => simp [trimN, wv, words_zero]
 | succ k ih =>
  unfold trimN
  have e := val_take_succ ws k (by omega)
  by_cases h0 : ws.getD k 0 = 0
  · rw [if_pos h0, ih (by omega), e, h0]; simp
  · rw [if_neg h0]
    refine eq_words (h.take _) ?_
    rw [take_succ ws k (by omega)]
    exact Tr.snoc h0
theorem trim_loop (ws : List Int) : ∀ k, k ≤ ws.length → k < 9223372036854775807 → Lp E 1 F_natural_num_trim 0 (natural_num_trim_L0 k (Wr ws)) (.exit 0) (natural_num_trim_L0e0 (Wr ws) (trimN ws k))
 | 0, _, _ => natural_num_trim_L0e0_x1 (by omega)
 | k + 1, hk, hb => by
  unfold trimN
  by_cases h0 : ws.getD k 0 = 0
  · rw [if_pos h0]
    exact natural_num_trim_L0_r0 (v1 := (k : Int)) (v2 := ws.getD k 0) (v3 := k) (wi (by omega)) rfl (by omega) (by omega) (Wr_getD (by omega)) h0 (by omega) (trim_loop ws k (by omega) (by omega))
  · rw [if_neg h0]
    exact natural_num_trim_L0e0_x0 (v1 := (k : Int)) (v2 := ws.getD k 0) (wi (by omega)) (by omega) (by omega) (Wr_getD (by omega)) h0
theorem trim_run {ws : List Int} {k : Nat} (hk : k ≤ ws.length) (hb : k < 9223372036854775807) : Rn E F_natural_num_trim [.vec 0 k] [some (.vec T_uint32 (Wr ws))] (.vec 0 (trimN ws k)) [some (.vec T_uint32 (Wr ws))] :=
 natural_num_trim_0 (trim_loop ws k hk hb)
theorem trimD_loop (ws : List Int) : ∀ k, k ≤ ws.length → k < 9223372036854775807 → Lp E 0 F_natural_num_trim 0 (natural_num_trim_L0a (Wr (ws.take k))) (.exit 0) (natural_num_trim_L0ae0 (Wr (ws.take (trimN ws k))))
 | 0, _, _ => natural_num_trim_L0ae0_x1 (by rw [Wr_len]; simp)
 | k + 1, hk, hb => by
  have hl : (ws.take (k + 1)).length = k + 1 := by simp; omega
  have hg : (Wr (ws.take (k + 1)))[Int.toNat (k : Int)]? = some [.u32 (ws.getD k 0)] := by
   refine Wr_get ?_
   rw [Int.toNat_natCast, List.getElem?_take_of_lt (by omega)]
   exact getD_some (by omega)
  unfold trimN
  by_cases h0 : ws.getD k 0 = 0
  · rw [if_pos h0]
    refine natural_num_trim_L0a_r0 (v1 := (k : Int)) (v2 := ws.getD k 0) (v3 := Wr (ws.take k)) (wi (by rw [Wr_len, hl]; omega)) ?_ (by rw [Wr_len, hl]; omega) (by omega) hg h0 ⟨by omega, by omega, by rw [Wr_len, hl]; omega, Wr_one _⟩ (trimD_loop ws k (by omega) (by omega))
    rw [Int.toNat_natCast, List.drop_zero, Wr_take, List.take_take, Nat.min_eq_left (by omega)]
  · rw [if_neg h0]
    exact natural_num_trim_L0ae0_x0 (v1 := (k : Int)) (v2 := ws.getD k 0) (wi (by rw [Wr_len, hl]; omega)) (by rw [Wr_len, hl]; omega) (by omega) hg h0
theorem trim_data {ws : List Int} (h : Wd ws) (hb : ws.length < 9223372036854775807) : Rn E F_natural_num_trim [.c (.list (Wr ws))] [] (.c (.list (Wr (words (wv ws).toNat)))) [] := by
 have := trimD_loop (E := E) ws ws.length (Nat.le_refl _) hb
 rw [List.take_length, trimN_words h (Nat.le_refl _), List.take_length] at this
 exact natural_num_trim_d_0 this
theorem words_two {n : Nat} (h : n < 1000000000000000000) : words n = [] ∧ n = 0 ∨ (words n = [(n : Int)] ∧ n ≠ 0 ∧ n < 1000000000) ∨ (words n = [((n % 1000000000 : Nat) : Int), ((n / 1000000000 : Nat) : Int)] ∧ 1000000000 ≤ n) := by
 by_cases h0 : n = 0
 · exact .inl ⟨by rw [h0, words_zero], h0⟩
 · by_cases h1 : n < 1000000000
   · refine .inr (.inl ⟨?_, h0, h1⟩)
     rw [words_pos h0, show n / 1000000000 = 0 by omega, words_zero, show n % 1000000000 = n by omega]
   · refine .inr (.inr ⟨?_, by omega⟩)
     rw [words_pos h0, words_pos (n := n / 1000000000) (by omega), show n / 1000000000 / 1000000000 = 0 by omega, words_zero, show n / 1000000000 % 1000000000 = n / 1000000000 by omega]
theorem words_len {n : Nat} : (words n).length ≤ 2 ↔ n < 1000000000000000000 := by
 constructor
 · intro h
   have h1 := val_lt (words_wd n)
   rw [words_val] at h1
   have h2 := pw_mono h
   have : pw 2 = 1000000000000000000 := by decide
   omega
 · intro h
   exact words_length_le (by rw [show pw 2 = 1000000000000000000 by decide]; omega)
theorem of_ok {n : Nat} (h : n < 1000000000000000000) : Fn E F_natural_of [.c (.u64 n)] (.c (.list (Wr (words n)))) := by
 have hw : Wd [((n % 1000000000 : Nat) : Int), ((n / 1000000000 : Nat) : Int)] := Wd.cons (by omega) (by omega) (Wd.cons (by omega) (by omega) Wd.nil)
 have ht := trim_run (E := E) (ws := [((n % 1000000000 : Nat) : Int), ((n / 1000000000 : Nat) : Int)]) (k := 2) (Nat.le_refl _) (by decide)
 refine natural_of_0 (v1 := ((n % 1000000000 : Nat) : Int)) (v2 := ((n % 1000000000 : Nat) : Int)) (v3 := ((n / 1000000000 : Nat) : Int)) (v4 := ((n / 1000000000 : Nat) : Int)) (tmd (by omega) (by omega)) (w32 (by omega)) (wu ⟨tdv (by omega) (by omega), by omega, by omega⟩) (w32 (by omega)) ?_ ht
 show (Wr [((n % 1000000000 : Nat) : Int), ((n / 1000000000 : Nat) : Int)]).take _ = _
 rw [Wr_take, trimN_words hw (by simp)]
 have : (wv (List.take 2 [((n % 1000000000 : Nat) : Int), ((n / 1000000000 : Nat) : Int)])).toNat = n := by simp [wv]; omega
 rw [this]
theorem small_yes {n : Nat} (h : n < 1000000000000000000) : Fn E F_natural_num_small [.c (.list (Wr (words n)))] (.tup [.c (.u64 n), .c (.bool true)]) := by
 rcases words_two h with ⟨e, rfl⟩ | ⟨e, h0, h1⟩ | ⟨e, h1⟩
 · rw [e]; exact natural_num_small_0 rfl
 · rw [e]
   exact natural_num_small_1 (v1 := (n : Int)) (v2 := (n : Int)) (wu (by omega)) (by simp [Wr]) (by simp [Wr]) rfl
 · rw [e]
   exact natural_num_small_2 (v1 := ((n % 1000000000 : Nat) : Int)) (v2 := ((n % 1000000000 : Nat) : Int)) (v3 := ((n / 1000000000 : Nat) : Int)) (v4 := ((n / 1000000000 : Nat) : Int)) (v5 := 1000000000 * ((n / 1000000000 : Nat) : Int)) (v6 := (n : Int))
    (wu (by omega)) (wu (by omega)) (wu (by omega)) (wu (by omega)) (by simp [Wr]) (by simp [Wr]) (by simp [Wr]) rfl rfl
theorem small_no {n : Nat} (h : ¬ n < 1000000000000000000) : Fn E F_natural_num_small [.c (.list (Wr (words n)))] (.tup [.c (.u64 0), .c (.bool false)]) := by
 have hl : ¬ (words n).length ≤ 2 := fun e => h (words_len.1 e)
 exact natural_num_small_3 (by rw [Wr_len]; omega) (by rw [Wr_len]; omega) (by rw [Wr_len]; omega)
theorem val_lt_of_top {xs ys : List Int} (hx : Wd xs) (hy : Wd ys) {i : Nat} (hi : i < xs.length) (hj : i < ys.length) (h : xs.getD i 0 < ys.getD i 0) (he : xs.drop (i + 1) = ys.drop (i + 1)) : wv xs < wv ys := by
 rw [val_take_drop xs i (by omega), val_take_drop ys i (by omega), val_drop xs i hi, val_drop ys i hj, he]
 have h1 := val_lt (hx.take i)
 have h2 := val_nonneg (hy.take i)
 rw [List.length_take, Nat.min_eq_left (by omega)] at h1
 rw [Int.mul_add, Int.mul_add]
 have h3 : pw i * (xs.getD i 0 + 1) ≤ pw i * ys.getD i 0 := Int.mul_le_mul_of_nonneg_left (by omega) (by have := pw_pos i; omega)
 rw [Int.mul_add, Int.mul_one] at h3
 omega
theorem cmp_loop (xs ys : List Int) (hx : Wd xs) (hy : Wd ys) (hl : xs.length = ys.length) (hb : xs.length < 9223372036854775807) : ∀ k : Nat, k ≤ xs.length → xs.drop k = ys.drop k →
    (xs = ys ∧ Lp E 0 F_natural_num_compare 0 (natural_num_compare_L0 (Wr xs) (Wr ys) ((k : Int) - 1)) (.exit 0) natural_num_compare_L0e1) ∨
    (xs ≠ ys ∧ Lp E 0 F_natural_num_compare 0 (natural_num_compare_L0 (Wr xs) (Wr ys) ((k : Int) - 1)) .ret (natural_num_compare_L0e0 (cmpI (wv xs) (wv ys))))
 | 0, _, h => .inl ⟨by simpa using h, natural_num_compare_L0e1_x0 (by omega)⟩
 | k + 1, hk, h => by
  have ek : ((k + 1 : Nat) : Int) - 1 = (k : Int) := by omega
  rw [ek]
  have g1 : (Wr xs)[Int.toNat (k : Int)]? = some [.u32 (xs.getD k 0)] := Wr_getD (by omega)
  have g2 : (Wr ys)[Int.toNat (k : Int)]? = some [.u32 (ys.getD k 0)] := Wr_getD (by omega)
  by_cases h0 : xs.getD k 0 = ys.getD k 0
  · have hd : xs.drop k = ys.drop k := by rw [drop_cons xs k (by omega), drop_cons ys k (by omega), h0, h]
    rcases cmp_loop xs ys hx hy hl hb k (by omega) hd with ⟨e, ih⟩ | ⟨e, ih⟩
    · exact .inl ⟨e, natural_num_compare_L0_r0 (wi (by omega)) (by omega) (by omega) g1 g2 h0 ih⟩
    · exact .inr ⟨e, natural_num_compare_L0_r0 (wi (by omega)) (by omega) (by omega) g1 g2 h0 ih⟩
  · refine .inr ⟨fun e => h0 (by rw [e]), ?_⟩
    have hc : cmpI (wv xs) (wv ys) = cmpI (xs.getD k 0) (ys.getD k 0) := by
     rcases Int.lt_or_gt_of_ne h0 with c | c
     · have := val_lt_of_top hx hy (by omega) (by omega) c h
       unfold cmpI; rw [if_pos this, if_pos c]
     · have := val_lt_of_top hy hx (by omega) (by omega) c h.symm
       unfold cmpI; rw [if_neg (by omega), if_pos this, if_neg (by omega), if_pos c]
    rw [hc]
    exact natural_num_compare_L0e0_x0 (by omega) (by omega) g1 g2 h0 (cmp_u32 _ _)
theorem cmpI_eq {a b : Int} (h : a = b) : cmpI a b = 0 := by unfold cmpI; rw [if_neg (by omega), if_neg (by omega)]
theorem compare_ok {m n : Nat} (hm : (words m).length < 9223372036854775807) : Fn E F_natural_num_compare [.c (.list (Wr (words m))), .c (.list (Wr (words n)))] (.c (.i64 (cmpI m n))) := by
 by_cases hl : (words m).length = (words n).length
 · rcases cmp_loop (E := E) (words m) (words n) (words_wd m) (words_wd n) hl hm (words m).length (Nat.le_refl _) (by rw [List.drop_length, hl, List.drop_length]) with ⟨e, h⟩ | ⟨e, h⟩
   · have := words_inj e
     subst this
     rw [cmpI_eq rfl]
     exact natural_num_compare_2 (wi (by rw [Wr_len]; omega)) (by rw [Wr_len]) h
   · rw [words_val, words_val] at h
     exact natural_num_compare_1 (wi (by rw [Wr_len]; omega)) (by rw [Wr_len, Wr_len]; omega) h
 · have hc : cmpI m n = cmpI ((Wr (words m)).length : Int) ((Wr (words n)).length : Int) := by
    rw [Wr_len, Wr_len]
    rcases Nat.lt_or_gt_of_ne hl with c | c
    · have : m < n := by
       rcases Nat.lt_or_ge m n with h | h
       · exact h
       · have := (words_tr n).length_le (words_wd n) (words_wd m) (by rw [words_val, words_val]; omega)
         omega
      unfold cmpI; rw [if_pos (by omega), if_pos (by omega)]
    · have : n < m := by
       rcases Nat.lt_or_ge n m with h | h
       · exact h
       · have := (words_tr m).length_le (words_wd m) (words_wd n) (by rw [words_val, words_val]; omega)
         omega
      unfold cmpI; rw [if_neg (by omega), if_pos (by omega), if_neg (by omega), if_pos (by omega)]
   rw [hc]
   exact natural_num_compare_0 (by rw [Wr_len, Wr_len]; omega) (cmp_i64 _ _)
end Gev
namespace Gev
open Go Gb
variable {E : Env}
theorem drop_nil {xs : List Int} {i : Nat} (h : xs.length ≤ i) : xs.drop i = [] := List.drop_eq_nil_of_le h
theorem getD_nil {xs : List Int} {i : Nat} (h : xs.length ≤ i) : xs.getD i 0 = 0 := by rw [List.getD_eq_getElem?_getD, List.getElem?_eq_none h]; rfl
theorem wv_drop (xs : List Int) (i : Nat) : wv (xs.drop i) = xs.getD i 0 + 1000000000 * wv (xs.drop (i + 1)) := by
 rcases Nat.lt_or_ge i xs.length with h | h
 · exact val_drop xs i h
 · rw [drop_nil h, drop_nil (by omega), getD_nil h]; rfl
theorem tm_emod (S : Int) : (if Int.tmod S 1000000000 < 0 then Int.tmod S 1000000000 + 1000000000 else Int.tmod S 1000000000) = S % 1000000000 := by
 rw [Int.tmod_eq_emod]
 split <;> split <;> omega
theorem merge_round {xs ys : List Int} {sg : Int} (hsg : sg = 1 ∨ sg = -1) (hx : Wd xs) (hy : Wd ys) {N : Int} (hN : N < 4611686018427387904) {i : Nat} {c : Int} (hc : -1 ≤ c ∧ c ≤ 1) {zs : List Int} (hz : zs.length = i) (hi : (i : Int) < N) (hM : i + 1 ≤ 35184372088832) {o : Out} {st' : St}
    (ih : Lp E 1 F_natural_merge_num 0 (natural_merge_num_L0 (Wr xs) (Wr ys) sg (i + 1) ((c + xs.getD i 0 + sg * ys.getD i 0) / 1000000000) N ((i + 1 : Nat) : Int) (Wr (zs ++ [(c + xs.getD i 0 + sg * ys.getD i 0) % 1000000000]))) o st') :
    Lp E 1 F_natural_merge_num 0 (natural_merge_num_L0 (Wr xs) (Wr ys) sg i c N i (Wr zs)) o st' := by
 have ha := hx.getD i
 have hb := hy.getD i
 obtain ⟨a, ea⟩ : ∃ a, a = xs.getD i 0 := ⟨_, rfl⟩
 obtain ⟨b, eb⟩ : ∃ b, b = ys.getD i 0 := ⟨_, rfl⟩
 obtain ⟨p, ep⟩ : ∃ p, p = sg * b := ⟨_, rfl⟩
 have hp : -1000000000 < p ∧ p < 1000000000 := by rcases hsg with rfl | rfl <;> omega
 rw [← ea, ← eb] at ih
 rw [← ea] at ha
 rw [← eb] at hb
 rw [← ep] at ih
 obtain ⟨S, eS⟩ : ∃ S, S = c + a + p := ⟨_, rfl⟩
 rw [← eS] at ih
 have gx : i < xs.length → (Wr xs)[Int.toNat (i : Int)]? = some [.u32 a] := fun h => by rw [ea]; exact Wr_getD h
 have gy : i < ys.length → (Wr ys)[Int.toNat (i : Int)]? = some [.u32 b] := fun h => by rw [eb]; exact Wr_getD h
 have hS : -2000000000 < S ∧ S < 3000000000 := by omega
 have hlen : (i + 1) * 4 ≤ 140737488355328 ∧ i + 1 ≤ 140737488355328 := by omega
 have hap : ∀ w, (Wr zs).take i ++ [[DV.u32 w]] = Wr (zs ++ [w]) := fun w => by rw [Wr_take, ← hz, List.take_length, Wr_snoc]
 have ht := tm_emod S
 have hq : Int.tmod S 1000000000 < 0 → Int.tdiv S 1000000000 - 1 = S / 1000000000 := fun h => by
  have := Int.tmod_add_mul_tdiv S 1000000000
  have := Int.emod_add_mul_ediv S 1000000000
  rw [if_pos h] at ht; omega
 have hq' : ¬ Int.tmod S 1000000000 < 0 → Int.tdiv S 1000000000 = S / 1000000000 := fun h => by
  have := Int.tmod_add_mul_tdiv S 1000000000
  have := Int.emod_add_mul_ediv S 1000000000
  rw [if_neg h] at ht; omega
 have hr : 0 ≤ S % 1000000000 ∧ S % 1000000000 < 1000000000 := by omega
 have hd : -4 ≤ S / 1000000000 ∧ S / 1000000000 ≤ 4 := by omega
 by_cases c1 : i < xs.length
 · by_cases c2 : i < ys.length
   · by_cases c3 : Int.tmod S 1000000000 < 0
     · rw [if_pos c3] at ht
       exact natural_merge_num_L0_r0 (v1 := a) (v2 := a) (v3 := c + a) (v4 := b) (v5 := b) (v6 := p) (v7 := S) (v9 := Int.tdiv S 1000000000) (wi (by omega)) (wi (by omega)) (wi (by omega)) (wi (by omega)) (wi (by omega)) rfl (wi (by have := hq c3; omega)) (wi ⟨ht, by omega⟩) (wi ⟨hq c3, by omega⟩) (w32 (by omega)) (hap _) rfl (wi (by omega))
        (by omega) (by rw [Wr_len]; omega) (by omega) (gx c1) (by rw [Wr_len]; omega) (gy c2) c3 hlen ih
     · rw [if_neg c3] at ht
       exact natural_merge_num_L0_r1 (v1 := a) (v2 := a) (v3 := c + a) (v4 := b) (v5 := b) (v6 := p) (v7 := S) (v8 := S % 1000000000) (wi (by omega)) (wi (by omega)) (wi (by omega)) (wi (by omega)) (wi (by omega)) ht (wi ⟨hq' c3, by omega⟩) (w32 (by omega)) (hap _) rfl (wi (by omega))
        (by omega) (by rw [Wr_len]; omega) (by omega) (gx c1) (by rw [Wr_len]; omega) (gy c2) (by omega) hlen ih
   · have b0 : b = 0 := by rw [eb]; exact getD_nil (by omega)
     have p0 : p = 0 := by rw [ep, b0]; exact Int.mul_zero _
     by_cases c3 : Int.tmod S 1000000000 < 0
     · rw [if_pos c3] at ht
       exact natural_merge_num_L0_r2 (v1 := a) (v2 := a) (v3 := S) (v5 := Int.tdiv S 1000000000) (wi (by omega)) (wi (by omega)) rfl (wi (by have := hq c3; omega)) (wi ⟨ht, by omega⟩) (wi ⟨hq c3, by omega⟩) (w32 (by omega)) (hap _) rfl (wi (by omega))
        (by omega) (by rw [Wr_len]; omega) (by omega) (gx c1) (by rw [Wr_len]; omega) c3 hlen ih
     · rw [if_neg c3] at ht
       exact natural_merge_num_L0_r3 (v1 := a) (v2 := a) (v3 := S) (v4 := S % 1000000000) (wi (by omega)) (wi (by omega)) ht (wi ⟨hq' c3, by omega⟩) (w32 (by omega)) (hap _) rfl (wi (by omega))
        (by omega) (by rw [Wr_len]; omega) (by omega) (gx c1) (by rw [Wr_len]; omega) (by omega) hlen ih
 · have a0 : a = 0 := by rw [ea]; exact getD_nil (by omega)
   by_cases c2 : i < ys.length
   · by_cases c3 : Int.tmod S 1000000000 < 0
     · rw [if_pos c3] at ht
       exact natural_merge_num_L0_r4 (v1 := b) (v2 := b) (v3 := p) (v4 := S) (v6 := Int.tdiv S 1000000000) (wi (by omega)) (wi (by omega)) (wi (by omega)) rfl (wi (by have := hq c3; omega)) (wi ⟨ht, by omega⟩) (wi ⟨hq c3, by omega⟩) (w32 (by omega)) (hap _) rfl (wi (by omega))
        (by omega) (by rw [Wr_len]; omega) (by rw [Wr_len]; omega) (by omega) (gy c2) c3 hlen ih
     · rw [if_neg c3] at ht
       exact natural_merge_num_L0_r5 (v1 := b) (v2 := b) (v3 := p) (v4 := S) (v5 := S % 1000000000) (wi (by omega)) (wi (by omega)) (wi (by omega)) ht (wi ⟨hq' c3, by omega⟩) (w32 (by omega)) (hap _) rfl (wi (by omega))
        (by omega) (by rw [Wr_len]; omega) (by rw [Wr_len]; omega) (by omega) (gy c2) (by omega) hlen ih
   · have b0 : b = 0 := by rw [eb]; exact getD_nil (by omega)
     have p0 : p = 0 := by rw [ep, b0]; exact Int.mul_zero _
     have e0 : S = c := by omega
     subst e0
     by_cases c3 : Int.tmod S 1000000000 < 0
     · rw [if_pos c3] at ht
       exact natural_merge_num_L0_r6 (v2 := Int.tdiv S 1000000000) rfl (wi (by have := hq c3; omega)) (wi ⟨ht, by omega⟩) (wi ⟨hq c3, by omega⟩) (w32 (by omega)) (hap _) rfl (wi (by omega))
        (by omega) (by rw [Wr_len]; omega) (by rw [Wr_len]; omega) c3 hlen ih
     · rw [if_neg c3] at ht
       exact natural_merge_num_L0_r7 (v1 := S % 1000000000) ht (wi ⟨hq' c3, by omega⟩) (w32 (by omega)) (hap _) rfl (wi (by omega))
        (by omega) (by rw [Wr_len]; omega) (by rw [Wr_len]; omega) (by omega) hlen ih
theorem merge_loop {xs ys : List Int} {sg : Int} (hsg : sg = 1 ∨ sg = -1) (hx : Wd xs) (hy : Wd ys) {N : Nat} (hN : N < 35184372088832) : ∀ d i c zs, i + d = N → -1 ≤ c ∧ c ≤ 1 → zs.length = i → Wd zs →
    ∃ c' zs', Lp E 1 F_natural_merge_num 0 (natural_merge_num_L0 (Wr xs) (Wr ys) sg i c N i (Wr zs)) (.exit 0) (natural_merge_num_L0e0 N c' (Wr zs')) ∧ zs'.length = N ∧ Wd zs' ∧ (-1 ≤ c' ∧ c' ≤ 1) ∧
     wv zs' + pw N * (c' + wv (xs.drop N) + sg * wv (ys.drop N)) = wv zs + pw i * (c + wv (xs.drop i) + sg * wv (ys.drop i))
 | 0, i, c, zs, hi, hc, hz, hw => by
  have : i = N := by omega
  subst this
  exact ⟨c, zs, natural_merge_num_L0e0_x0 (by omega), hz, hw, hc, rfl⟩
 | d + 1, i, c, zs, hi, hc, hz, hw => by
  have ha := hx.getD i
  have hb := hy.getD i
  obtain ⟨p, ep⟩ : ∃ p, p = sg * ys.getD i 0 := ⟨_, rfl⟩
  have hp : -1000000000 < p ∧ p < 1000000000 := by rcases hsg with rfl | rfl <;> omega
  obtain ⟨S, eS⟩ : ∃ S, S = c + xs.getD i 0 + sg * ys.getD i 0 := ⟨_, rfl⟩
  rw [← ep] at eS
  have hr : 0 ≤ S % 1000000000 ∧ S % 1000000000 < 1000000000 := by omega
  obtain ⟨c', zs', h1, h2, h3, h4, h5⟩ := merge_loop hsg hx hy hN d (i + 1) (S / 1000000000) (zs ++ [S % 1000000000]) (by omega) (by omega) (by simp [hz]) (hw.append (Wd.cons hr.1 hr.2 Wd.nil))
  refine ⟨c', zs', merge_round hsg hx hy (by omega) hc hz (by omega) (by omega) (by rw [← ep, ← eS]; exact h1), h2, h3, h4, ?_⟩
  rw [h5, val_snoc, hz, wv_drop xs i, wv_drop ys i, pw_succ]
  have e1 : S % 1000000000 = S - 1000000000 * (S / 1000000000) := by omega
  rw [e1, eS, ep]
  grind
theorem merge_ok {xs ys : List Int} {sg : Int} (hsg : sg = 1 ∨ sg = -1) (hx : Wd xs) (hy : Wd ys) (h1 : xs.length < 35184372088000) (h2 : ys.length < 35184372088000) :
    ∃ c zs, Fn E F_natural_merge_num [.c (.list (Wr xs)), .c (.list (Wr ys)), .c (.i64 sg)] (.c (.list (Wr (if c > 0 then zs ++ [c] else zs)))) ∧ zs.length = max xs.length ys.length ∧ Wd zs ∧ (-1 ≤ c ∧ c ≤ 1) ∧ wv zs + pw (max xs.length ys.length) * c = wv xs + sg * wv ys := by
 obtain ⟨c, zs, k1, k2, k3, k4, k5⟩ := merge_loop (E := E) hsg hx hy (N := max xs.length ys.length) (by omega) (max xs.length ys.length) 0 0 [] (by omega) (by omega) rfl Wd.nil
 rw [drop_nil (xs := xs) (by omega), drop_nil (xs := ys) (by omega), List.drop_zero, List.drop_zero, pw_zero] at k5
 have e5 : wv zs + pw (max xs.length ys.length) * c = wv xs + sg * wv ys := by
  rw [show wv [] = 0 from rfl] at k5
  have : c + 0 + sg * 0 = c := by omega
  rw [this] at k5
  omega
 have em : (if ((Wr ys).length : Int) > ((Wr xs).length : Int) then ((Wr ys).length : Int) else ((Wr xs).length : Int)) = ((max xs.length ys.length : Nat) : Int) := by
  rw [Wr_len, Wr_len]; split <;> omega
 have hcap : 0 ≤ (0 : Int) ∧ (0 : Int) ≤ (xs.length : Int) + 1 ∧ (Int.toNat ((xs.length : Int) + 1)) * 4 ≤ 140737488355328 ∧ (Int.toNat ((xs.length : Int) + 1)) ≤ 140737488355328 := by omega
 have tk : (Wr zs).take (max xs.length ys.length) = Wr zs := by rw [← k2, Wr_take, List.take_length]
 refine ⟨c, zs, ?_, k2, k3, k4, e5⟩
 by_cases hc : c > 0
 · rw [if_pos hc]
   refine natural_merge_num_0 (v1 := (xs.length : Int) + 1) (v6 := c) (v7 := Wr (zs ++ [c])) (wi (by rw [Wr_len]; omega)) em (w32 (by omega)) (by rw [tk, Wr_snoc]) rfl ?_ hcap k1 hc (by omega)
   rw [Wr_take, List.take_of_length_le (by simp; omega)]
 · rw [if_neg hc]
   exact natural_merge_num_1 (v1 := (xs.length : Int) + 1) (wi (by rw [Wr_len]; omega)) em tk hcap k1 hc
theorem plus_ok {m n : Nat} (h1 : (words m).length < 35184372088000) (h2 : (words n).length < 35184372088000) : Fn E F_natural_num_plus [.c (.list (Wr (words m))), .c (.list (Wr (words n)))] (.c (.list (Wr (words (m + n))))) := by
 obtain ⟨c, zs, k1, k2, k3, k4, k5⟩ := merge_ok (E := E) (.inl rfl) (words_wd m) (words_wd n) h1 h2
 refine natural_num_plus_0 ?_
 have hv := words_val m
 have hv' := words_val n
 rw [hv, hv', Int.one_mul] at k5
 have hz := val_lt k3
 have hz0 := val_nonneg k3
 have hpos := pw_pos (max (words m).length (words n).length)
 rw [k2] at hz
 have hc0 : 0 ≤ c := by
  rcases Int.lt_or_le c 0 with h | h
  · have : c = -1 := by omega
    subst this
    rw [Int.mul_neg, Int.mul_one] at k5
    omega
  · exact h
 have e : (if c > 0 then zs ++ [c] else zs) = words (m + n) := by
  have hval : wv (if c > 0 then zs ++ [c] else zs) = ((m + n : Nat) : Int) := by
   split
   · rw [val_snoc, k2, k5]; omega
   · have : c = 0 := by omega
     subst this
     rw [Int.mul_zero] at k5; omega
  have hwd : Wd (if c > 0 then zs ++ [c] else zs) := by
   split
   · exact k3.append (Wd.cons hc0 (by omega) Wd.nil)
   · exact k3
  rw [← show (((m + n : Nat) : Int)).toNat = m + n from rfl, ← hval]
  refine eq_words hwd ?_
  split
  · exact Tr.snoc (by omega)
  · rename_i hn
    have hc : c = 0 := by omega
    subst hc
    rw [Int.mul_zero] at k5
    intro hl
    by_cases hzn : zs = []
    · rw [hzn] at hl; cases hl
    · obtain ⟨ys, y, rfl⟩ : ∃ ys y, zs = ys ++ [y] := by
       rcases List.eq_nil_or_concat zs with h | ⟨ys, y, h⟩
       · exact absurd h hzn
       · exact ⟨ys, y, by rw [h, List.concat_eq_append]⟩
      have hy : y = 0 := by simpa using hl
      subst hy
      rw [val_snoc, Int.mul_zero] at k5
      have h6 := val_lt k3.left
      simp only [List.length_append, List.length_singleton] at k2
      have h7 : wv ys + 0 = (m : Int) + n := by omega
      rcases Nat.le_total (words m).length (words n).length with hmn | hmn
      · have hne : words n ≠ [] := by intro h0; rw [h0] at k2 hmn; simp at hmn; rw [hmn] at k2; simp at k2
        have h8 := (words_tr n).val_ge (words_wd n) hne
        rw [hv', show (words n).length - 1 = ys.length by omega] at h8
        omega
      · have hne : words m ≠ [] := by intro h0; rw [h0] at k2 hmn; simp at hmn; rw [hmn] at k2; simp at k2
        have h8 := (words_tr m).val_ge (words_wd m) hne
        rw [hv, show (words m).length - 1 = ys.length by omega] at h8
        omega
 rw [e] at k1
 exact k1
theorem minus_ok {m n : Nat} (h1 : (words m).length < 35184372088000) (hmn : n ≤ m) : Fn E F_natural_num_minus [.c (.list (Wr (words m))), .c (.list (Wr (words n)))] (.c (.list (Wr (words (m - n))))) := by
 have hle : (words n).length ≤ (words m).length := (words_tr n).length_le (words_wd n) (words_wd m) (by rw [words_val, words_val]; omega)
 obtain ⟨c, zs, k1, k2, k3, k4, k5⟩ := merge_ok (E := E) (.inr rfl) (words_wd m) (words_wd n) h1 (by omega)
 rw [words_val, words_val] at k5
 have hz := val_lt k3
 have hz0 := val_nonneg k3
 have hpos := pw_pos (max (words m).length (words n).length)
 rw [k2] at hz
 have hm := val_lt (words_wd m)
 rw [words_val] at hm
 rw [Nat.max_eq_left hle] at k5 k2 hz hpos
 have hc : c = 0 := by
  rcases Int.lt_trichotomy c 0 with h | h | h
  · have : c = -1 := by omega
    subst this
    rw [Int.mul_neg, Int.mul_one] at k5
    omega
  · exact h
  · have : c = 1 := by omega
    subst this
    rw [Int.mul_one] at k5
    omega
 subst hc
 rw [if_neg (by decide)] at k1
 refine natural_num_minus_0 k1 ?_
 have := trim_data (E := E) k3 (by omega)
 rw [show (wv zs).toNat = m - n by omega] at this
 exact this
end Gev
namespace Gev
open Go Gb
variable {E : Env}
theorem getD_set_same {xs : List Int} {i : Nat} (h : i < xs.length) (x : Int) : (xs.set i x).getD i 0 = x := by
 rw [List.getD_eq_getElem?_getD, List.getElem?_set_self h]; rfl
theorem getD_set_ne {xs : List Int} {i j : Nat} (h : i ≠ j) (x : Int) : (xs.set i x).getD j 0 = xs.getD j 0 := by
 rw [List.getD_eq_getElem?_getD, List.getD_eq_getElem?_getD, List.getElem?_set_ne h]
theorem mul_bound {x y : Int} (hx : 0 ≤ x ∧ x < 1000000000) (hy : 0 ≤ y ∧ y < 1000000000) : 0 ≤ x * y ∧ x * y ≤ 999999998000000001 := by
 constructor
 · exact Int.mul_nonneg hx.1 hy.1
 · have := Int.mul_le_mul (show x ≤ 999999999 by omega) (show y ≤ 999999999 by omega) hy.1 (by decide)
   omega
theorem Wd.at {xs : List Int} (h : Wd xs) {i : Nat} : 0 ≤ xs.getD i 0 ∧ xs.getD i 0 < 1000000000 := h.getD i
theorem alg1 {O O0 P K c T x y w S q r p : Int} (hv : O + P * K * c = O0 + P * (x * T)) (ep : p = x * y) (hS : S = c + (p + w)) (hr : r + 1000000000 * q = S) : O + P * K * (r - w) + 1000000000 * (P * K) * q = O0 + P * (x * (T + K * y)) := by
 have e : r = c + x * y + w - 1000000000 * q := by omega
 subst e
 grind
theorem alg2 {A x w S q r V : Int} (hS : S = r * 1000000000 + x) (hr : A + w * q = S) : (q + 1000000000 * V) * w + A = x + 1000000000 * (V * w + r) := by
 have e : A = r * 1000000000 + x - w * q := by omega
 subst e
 grind
theorem times_inner {xs ys : List Int} (hy : Wd ys) {N i : Nat} {x : Int} (hx : 0 ≤ x ∧ x < 1000000000) (hN : N < 4611686018427387904) (hiN : i + ys.length ≤ N) {out0 : List Int} :
    ∀ d k c out, k + d = ys.length → 0 ≤ c ∧ c < 1000000000 → Wd out → out.length = N → (∀ j, i + k ≤ j → out.getD j 0 = out0.getD j 0) →
    wv out + pw (i + k) * c = wv out0 + pw i * (x * wv (ys.take k)) →
    ∃ c' out', Lp E 1 F_natural_num_times 1 (natural_num_times_L1 (Wr ys) N i x c (Wr xs) xs.length i (Wr ys) ys.length k (Wr out)) (.exit 2) (natural_num_times_L1e0 (Wr ys) N i (Wr xs) xs.length i c' (Wr out')) ∧
     (0 ≤ c' ∧ c' < 1000000000) ∧ Wd out' ∧ out'.length = N ∧ (∀ j, i + ys.length ≤ j → out'.getD j 0 = out0.getD j 0) ∧ wv out' + pw (i + ys.length) * c' = wv out0 + pw i * (x * wv ys)
 | 0, k, c, out, hk, hc, hw, hl, hj, hv => by
  have : k = ys.length := by omega
  subst this
  rw [List.take_length] at hv
  exact ⟨c, out, natural_num_times_L1e0_x0 (by omega), hc, hw, hl, hj, hv⟩
 | d + 1, k, c, out, hk, hc, hw, hl, hj, hv => by
  have hyk := hy.getD k
  obtain ⟨y, ey⟩ : ∃ y, y = ys.getD k 0 := ⟨_, rfl⟩
  rw [← ey] at hyk
  have ho := hw.getD (i + k)
  obtain ⟨w, ew⟩ : ∃ w, w = out.getD (i + k) 0 := ⟨_, rfl⟩
  rw [← ew] at ho
  have hxy := mul_bound hx hyk
  obtain ⟨p, ep⟩ : ∃ p, p = x * y := ⟨_, rfl⟩
  rw [← ep] at hxy
  obtain ⟨S, eS⟩ : ∃ S, S = c + (p + w) := ⟨_, rfl⟩
  have hS : 0 ≤ S ∧ S ≤ 999999999999999999 := by omega
  have hik : i + k < out.length := by omega
  obtain ⟨c', out', k1, k2, k3, k4, k5, k6⟩ := times_inner hy hx hN hiN (out0 := out0) d (k + 1) (S / 1000000000) (out.set (i + k) (S % 1000000000)) (by omega) (by omega) (hw.set _ (by omega) (by omega)) (by simpa using hl)
   (fun j h => by rw [getD_set_ne (by omega)]; exact hj j (by omega)) (by
    rw [val_set out (i + k) hik, ← ew, val_take_succ ys k (by omega), ← ey, ← Nat.add_assoc, pw_succ, pw_add]
    rw [pw_add] at hv
    exact alg1 hv ep eS (Int.emod_add_mul_ediv S 1000000000))
  refine ⟨c', out', ?_, k2, k3, k4, k5, k6⟩
  refine natural_num_times_L1_r0 (v1 := y) (v2 := x) (v3 := y) (v4 := p) (v5 := ((i + k : Nat) : Int)) (v6 := w) (v7 := w) (v8 := p + w) (v9 := S) (v10 := S % 1000000000) (v11 := S % 1000000000) (v12 := Wr (out.set (i + k) (S % 1000000000))) (v13 := S / 1000000000) (v14 := ((k + 1 : Nat) : Int))
   (wu (by omega)) (wu (by omega)) (wu (by omega)) (wi (by omega)) (wu (by omega)) (wu (by omega)) (wu (by omega)) (tmd hS.1 rfl) (w32 (by omega)) ?_ (wu ⟨tdv hS.1 rfl, by omega, by omega⟩) (wi (by omega))
   (by omega) (by omega) (by rw [ey]; exact Wr_getD (by omega)) (by omega) (by rw [ew]; exact Wr_getD hik) k1
  rw [Int.toNat_natCast, Wr_set]
theorem times_outer {xs ys : List Int} (hx : Wd xs) (hy : Wd ys) {N : Nat} (hN : N < 4611686018427387904) (hl : N = xs.length + ys.length) :
    ∀ d i out, i + d = xs.length → Wd out → out.length = N → (∀ j, i + ys.length ≤ j → out.getD j 0 = 0) → wv out = wv (xs.take i) * wv ys →
    ∃ out', Lp E 1 F_natural_num_times 0 (natural_num_times_L0 (Wr ys) N (Wr xs) xs.length i (Wr out)) (.exit 0) (natural_num_times_L0e0 N (Wr out')) ∧ Wd out' ∧ out'.length = N ∧ wv out' = wv xs * wv ys
 | 0, i, out, hi, hw, ho, _, hv => by
  have : i = xs.length := by omega
  subst this
  rw [List.take_length] at hv
  exact ⟨out, natural_num_times_L0e0_x0 (by omega), hw, ho, hv⟩
 | d + 1, i, out, hi, hw, ho, hj, hv => by
  have hxi := hx.getD i
  obtain ⟨x, ex⟩ : ∃ x, x = xs.getD i 0 := ⟨_, rfl⟩
  rw [← ex] at hxi
  obtain ⟨c', out1, k1, k2, k3, k4, k5, k6⟩ := times_inner (E := E) (xs := xs) hy hxi hN (i := i) (by omega) (out0 := out) ys.length 0 0 out (by omega) (by omega) hw ho (fun _ _ => rfl) (by simp [wv])
  have hik : i + ys.length < out1.length := by omega
  have h0 : out1.getD (i + ys.length) 0 = 0 := by rw [k5 _ (Nat.le_refl _)]; exact hj _ (Nat.le_refl _)
  obtain ⟨out', g1, g2, g3, g4⟩ := times_outer hx hy hN hl d (i + 1) (out1.set (i + ys.length) c') (by omega) (k3.set _ k2.1 k2.2) (by simp [k4])
   (fun j h => by rw [getD_set_ne (by omega), k5 j (by omega)]; exact hj j (by omega)) (by
    rw [val_set out1 _ hik, h0, val_take_succ xs i (by omega), ← ex, Int.sub_zero, k6, hv]
    grind)
  refine ⟨out', ?_, g2, g3, g4⟩
  refine natural_num_times_L0_r0 (v1 := x) (v2 := c') (v3 := Wr out1) (v4 := ((i + ys.length : Nat) : Int)) (v5 := c') (v6 := 0) (v7 := Wr (out1.set (i + ys.length) c')) (v8 := ((i + 1 : Nat) : Int))
   (wi (by rw [Wr_len]; omega)) (w32 (by omega)) (by rw [Int.toNat_natCast, Wr_set]) (wi (by omega)) (by omega) (by omega) (by rw [ex]; exact Wr_getD (by omega)) (by rw [Wr_len]; exact k1) (by omega) (by rw [← h0]; exact Wr_getD hik) g1
theorem toNat_mul {a b : Int} {m n : Nat} (ha : a = m) (hb : b = n) : (a * b).toNat = m * n := by
 rw [ha, hb, ← Int.natCast_mul]; rfl
theorem times_ok {m n : Nat} (hl : (words m).length + (words n).length < 35184372088000) : ∃ k xs, Rn E F_natural_num_times [.c (.list (Wr (words m))), .c (.list (Wr (words n)))] [] (.vec 0 k) [some (.vec T_uint32 (Wr xs))] ∧ xs.take k = words (m * n) ∧ k ≤ xs.length ∧ xs.length = (words m).length + (words n).length := by
 obtain ⟨out, k1, k2, k3, k4⟩ := times_outer (E := E) (words_wd m) (words_wd n) (N := (words m).length + (words n).length) (by omega) rfl (words m).length 0 (List.replicate ((words m).length + (words n).length) 0) (by omega) (Wd.replicate _) (by simp)
  (fun j _ => by rw [List.getD_eq_getElem?_getD, List.getElem?_replicate]; split <;> rfl) (by rw [val_replicate]; simp [wv])
 have ht := trim_run (E := E) (ws := out) (k := (words m).length + (words n).length) (by omega) (by omega)
 have hw := trimN_words k2 (k := (words m).length + (words n).length) (by omega)
 rw [← k3, List.take_length, k4, toNat_mul (words_val m) (words_val n), k3] at hw
 refine ⟨trimN out ((words m).length + (words n).length), out, ?_, hw, by have := trimN_le out ((words m).length + (words n).length); omega, k3⟩
 refine natural_num_times_0 (v1 := (((words m).length + (words n).length : Nat) : Int)) (v2 := (words m).length + (words n).length) (v3 := Wr (List.replicate ((words m).length + (words n).length) 0)) (wi (by rw [Wr_len, Wr_len]; omega)) (Int.toNat_natCast _) (Wr_replicate _ _) (by omega) ?_ ht
 rw [Wr_len]; exact k1
theorem times_fn {m n : Nat} (hl : (words m).length + (words n).length < 35184372088000) : Fn E F_natural_num_times [.c (.list (Wr (words m))), .c (.list (Wr (words n)))] (.c (.list (Wr (words (m * n))))) := by
 obtain ⟨k, xs, h, hk, _, _⟩ := times_ok (E := E) hl
 have := h.toFn hTT E.hs hmm
 rwa [Wr_take, hk] at this
theorem by_loop {xs : List Int} (hx : Wd xs) {N : Nat} (hN : xs.length = N) (hb : N < 4611686018427387904) {w : Int} (hw : 0 < w ∧ w < 1000000000) : ∀ k rest out, k ≤ N → 0 ≤ rest ∧ rest < w → Wd out → out.length = N →
    wv (out.drop k) * w + rest = wv (xs.drop k) →
    ∃ rest' out', Lp E 1 F_natural_num_by 0 (natural_num_by_L0 (Wr xs) w N rest ((k : Int) - 1) (Wr out)) (.exit 0) (natural_num_by_L0e0 N rest' (Wr out')) ∧ (0 ≤ rest' ∧ rest' < w) ∧ Wd out' ∧ out'.length = N ∧ wv out' * w + rest' = wv xs
 | 0, rest, out, _, hr, ho, hl, hv => by
  rw [List.drop_zero, List.drop_zero] at hv
  exact ⟨rest, out, natural_num_by_L0e0_x0 (by omega), hr, ho, hl, hv⟩
 | k + 1, rest, out, hk, hr, ho, hl, hv => by
  have ek : ((k + 1 : Nat) : Int) - 1 = (k : Int) := by omega
  rw [ek]
  have hxk := hx.getD k
  obtain ⟨x, ex⟩ : ∃ x, x = xs.getD k 0 := ⟨_, rfl⟩
  rw [← ex] at hxk
  obtain ⟨S, eS⟩ : ∃ S, S = rest * 1000000000 + x := ⟨_, rfl⟩
  have hS : 0 ≤ S ∧ S < w * 1000000000 := by omega
  have hq0 : 0 ≤ S / w := Int.ediv_nonneg hS.1 (by omega)
  have hq : S / w < 1000000000 := Int.ediv_lt_of_lt_mul (by omega) (by rw [Int.mul_comm]; exact hS.2)
  have hm0 := Int.emod_nonneg S (show w ≠ 0 by omega)
  have hm1 := Int.emod_lt_of_pos S (show 0 < w by omega)
  have hdm := Int.emod_add_mul_ediv S w
  have hkl : k < out.length := by omega
  have hd : (out.set k (S / w)).drop (k + 1) = out.drop (k + 1) := List.drop_set_of_lt (Nat.lt_succ_self k)
  obtain ⟨rest', out', k1, k2, k3, k4, k5⟩ := by_loop hx hN hb hw k (S % w) (out.set k (S / w)) (by omega) ⟨hm0, hm1⟩ (ho.set _ hq0 hq) (by simp [hl]) (by
   rw [wv_drop _ k, wv_drop xs k, ← ex, getD_set_same hkl, hd, ← hv]
   exact alg2 eS hdm)
  refine ⟨rest', out', ?_, k2, k3, k4, k5⟩
  exact natural_num_by_L0_r0 (v1 := rest * 1000000000) (v2 := x) (v3 := x) (v4 := S) (v5 := S / w) (v6 := S / w) (v7 := out.getD k 0) (v8 := Wr (out.set k (S / w))) (v9 := S % w) (v10 := (k : Int) - 1)
   (wu (by omega)) (wu (by omega)) (wu (by omega)) (wu ⟨tdv hS.1 rfl, hq0, by omega⟩) (w32 (by omega)) (by rw [Int.toNat_natCast, Wr_set]) (tmd hS.1 rfl) (wi (by omega))
   (by omega) (by omega) (by rw [ex]; exact Wr_getD (by omega)) (by omega) (by omega) (Wr_getD hkl) k1
theorem by_ok {n w : Nat} (hw : 0 < w ∧ w < 1000000000) (hl : (words n).length < 35184372088000) : Fn E F_natural_num_by [.c (.list (Wr (words n))), .c (.u64 w)] (.tup [.c (.list (Wr (words (n / w)))), .c (.list (Wr (words (n % w))))]) := by
 obtain ⟨rest, out, k1, k2, k3, k4, k5⟩ := by_loop (E := E) (words_wd n) (N := (words n).length) rfl (by omega) (w := w) (by omega) (words n).length 0 (List.replicate (words n).length 0) (Nat.le_refl _) (by omega) (Wd.replicate _) (by simp)
  (by rw [drop_nil (by simp), drop_nil (Nat.le_refl _)]; simp [wv])
 rw [words_val] at k5
 have h0 := val_nonneg k3
 obtain ⟨q, hq⟩ : ∃ q : Nat, wv out = q := ⟨(wv out).toNat, by omega⟩
 obtain ⟨r, hr⟩ : ∃ r : Nat, rest = r := ⟨rest.toNat, by omega⟩
 rw [hq, hr] at k5
 subst hr
 have hn : q * w + r = n := by
  have : ((q * w + r : Nat) : Int) = n := by rw [Int.natCast_add, Int.natCast_mul]; exact k5
  omega
 have hrw : r < w := by omega
 have e1 : n / w = q := by rw [← hn, Nat.mul_comm, Nat.mul_add_div (by omega), Nat.div_eq_of_lt hrw, Nat.add_zero]
 have e2 : n % w = r := by rw [← hn, Nat.mul_comm, Nat.mul_add_mod, Nat.mod_eq_of_lt hrw]
 rw [e1, e2]
 have ht := trim_run (E := E) (ws := out) (k := (words n).length) (by omega) (by omega)
 have hw' := trimN_words k3 (k := (words n).length) (by omega)
 rw [← k4, List.take_length, hq, k4] at hw'
 refine natural_num_by_0 (v1 := (words n).length) (v2 := Wr (List.replicate (words n).length 0)) (v3 := ((words n).length : Int) - 1) (v4 := (r : Int)) (v5 := Wr out) (v7 := Wr (words r)) (by rw [Wr_len]; rfl) (Wr_replicate _ _) (wi (by rw [Wr_len]; omega)) ?_ ?_ k1 ht (of_ok (by omega))
 · rw [Wr_take]; exact congrArg Wr hw'
 · rw [Wr_len]; omega
end Gev
namespace Gev
open Go Gb
variable {E : Env}
structure Dv (u v : List Int) (lu k j : Nat) : Prop where
 hu : Wd u
 hv : Wd v
 elu : u.length = lu
 elv : v.length = k
 two : 2 ≤ k
 norm : 1000000000 ≤ 2 * v.getD (k - 1) 0
 jk : j + k < lu
 small : lu < 35184372088832
 low : wv (u.drop (j + 1)) < wv v
theorem Dv.vk {u v : List Int} {lu k j : Nat} (h : Dv u v lu k j) : wv v < pw k := by have := val_lt h.hv; rwa [h.elv] at this
theorem Dv.zero {u v : List Int} {lu k j : Nat} (h : Dv u v lu k j) : wv (u.drop (j + k + 1)) = 0 := above_zero h.hu (Int.lt_trans h.low h.vk)
theorem Dv.vpos {u v : List Int} {lu k j : Nat} (h : Dv u v lu k j) : 0 < wv v := by
 have e := split_two h.elv h.two
 have h1 := val_nonneg (h.hv.take (k - 2))
 have h2 := h.hv.getD (k - 2)
 have h3 := h.norm
 have : 0 < (v.getD (k - 1) 0 * 1000000000 + v.getD (k - 2) 0) * pw (k - 2) := Int.mul_pos (by omega) (pw_pos _)
 omega
theorem nd_guess {m w1 w3 w4 : List (List DV)} {lq lu k j : Nat} {u v : List Int} (D : Dv u v lu k j) (hw3 : ∀ i : Nat, i < k → w3[i]? = some [.u32 (v.getD i 0)]) :
    ∀ (t : Nat) (g rest : Int), 0 ≤ g → g < t → g ≤ 1000000001 → 0 ≤ rest ∧ rest < 1000000000 → g * v.getD (k - 1) 0 + rest = u.getD (j + k) 0 * 1000000000 + u.getD (j + k - 1) 0 → wv (u.drop j) < (g + 1) * wv v → (g = 1000000001 → rest + v.getD (k - 1) 0 < 1000000000) →
    ∃ g', Lp E 5 F_natural_num_divide 1 (natural_num_divide_L1a m lu k k lq j g rest w1 (Wr u) w3 w4) (.exit 3) (natural_num_divide_L1ae0 m lu k k lq j w1 (Wr u) w3 w4 g') ∧ (0 ≤ g' ∧ g' < 1000000000) ∧ wv (u.drop j) < (g' + 1) * wv v ∧ (g' - 1) * wv v ≤ wv (u.drop j)
 | 0, g, rest, h0, ht, _, _, _, _, _ => by omega
 | t + 1, g, rest, h0, ht, hg, hr, he, hX, hbig => by
  have h2 := D.two
  have hjk := D.jk
  have hsm := D.small
  have hlu := D.elu
  have a1 := D.hv.getD (k - 1)
  have a2 := D.hv.getD (k - 2)
  have b2 := D.hu.getD (j + k - 2)
  have b1 := D.hu.getD (j + k - 1)
  have b0 := D.hu.getD (j + k)
  have hnorm := D.norm
  have eV := split_two D.elv D.two
  have eX := split_three (u := u) (j := j) (k := k) D.two (by omega) D.zero
  have vl0 := val_nonneg (D.hv.take (k - 2))
  have vl1 := D.hv.val_take_lt (k - 2) (by have := D.elv; omega)
  have xl0 := val_nonneg ((D.hu.drop j).take (k - 2))
  have xl1 := (D.hu.drop j).val_take_lt (k - 2) (by simp; omega)
  have hP := pw_pos (k - 2)
  have gk1 : w3[Int.toNat ((k : Int) - 1)]? = some [.u32 (v.getD (k - 1) 0)] := by
   rw [show Int.toNat ((k : Int) - 1) = k - 1 by omega]; exact hw3 _ (by omega)
  have gk2 : w3[Int.toNat ((k : Int) - 2)]? = some [.u32 (v.getD (k - 2) 0)] := by
   rw [show Int.toNat ((k : Int) - 2) = k - 2 by omega]; exact hw3 _ (by omega)
  have gu : (Wr u)[Int.toNat ((j : Int) + k - 2)]? = some [.u32 (u.getD (j + k - 2) 0)] := by
   rw [show Int.toNat ((j : Int) + k - 2) = j + k - 2 by omega]; exact Wr_getD (by omega)
  obtain ⟨v1, e1⟩ : ∃ x, x = v.getD (k - 1) 0 := ⟨_, rfl⟩
  obtain ⟨v2, e2⟩ : ∃ x, x = v.getD (k - 2) 0 := ⟨_, rfl⟩
  obtain ⟨u2, e3⟩ : ∃ x, x = u.getD (j + k - 2) 0 := ⟨_, rfl⟩
  obtain ⟨top, e4⟩ : ∃ x, x = u.getD (j + k) 0 * 1000000000 + u.getD (j + k - 1) 0 := ⟨_, rfl⟩
  rw [← e1] at a1 hnorm eV gk1 he hbig
  rw [← e2] at a2 eV gk2
  rw [← e3] at b2 eX gu
  rw [← e4] at eX he
  have hg2 : 0 ≤ g * v2 ∧ g * v2 ≤ 1000000001 * 999999999 := by
   constructor
   · exact Int.mul_nonneg h0 a2.1
   · exact Int.mul_le_mul hg (by omega) a2.1 (by decide)
  have down : 1 ≤ g → wv (u.drop j) < g * wv v → (g = 1000000001 → rest + v1 < 1000000000) →
      (¬ rest + v1 ≥ 1000000000 → ∃ g', Lp E 5 F_natural_num_divide 1 (natural_num_divide_L1a m lu k k lq j (g - 1) (rest + v1) w1 (Wr u) w3 w4) (.exit 3) (natural_num_divide_L1ae0 m lu k k lq j w1 (Wr u) w3 w4 g') ∧ (0 ≤ g' ∧ g' < 1000000000) ∧ wv (u.drop j) < (g' + 1) * wv v ∧ (g' - 1) * wv v ≤ wv (u.drop j)) ∧
      (rest + v1 ≥ 1000000000 → (0 ≤ g - 1 ∧ g - 1 < 1000000000) ∧ wv (u.drop j) < (g - 1 + 1) * wv v ∧ (g - 1 - 1) * wv v ≤ wv (u.drop j)) := by
   intro hg1 hlt hb
   have hmul : (g - 1) * v1 + (rest + v1) = top := by
    have : (g - 1) * v1 = g * v1 - v1 := by grind
    omega
   refine ⟨fun hc => ?_, fun hc => ?_⟩
   · refine nd_guess D hw3 t (g - 1) (rest + v1) (by omega) (by omega) (by omega) (by omega) ?_ (by rw [show g - 1 + 1 = g by omega]; exact hlt) (fun h => by omega)
     rw [← e1, ← e4]; exact hmul
   · have hgB : g - 1 < 1000000000 := by
      rcases Int.lt_or_le (g - 1) 1000000000 with h | h
      · exact h
      · have := hb (by omega); omega
     refine ⟨⟨by omega, hgB⟩, by rw [show g - 1 + 1 = g by omega]; exact hlt, ?_⟩
     refine guess_high hP ⟨vl0, vl1⟩ xl0 eV eX hmul ⟨by omega, hgB⟩ ?_ hnorm a2.1
     have h5 : (g - 1) * v2 ≤ 999999999 * 999999999 := Int.mul_le_mul (by omega) (by omega) a2.1 (by decide)
     omega
  by_cases c1 : g ≥ 1000000000
  · have hlt : wv (u.drop j) < g * wv v := by
     have h6 := val_drop u j (by omega)
     have h7 := D.hu.getD j
     have h8 := D.low
     have h9 : 1000000000 * wv v ≤ g * wv v := Int.mul_le_mul_of_nonneg_right c1 (by have := D.vpos; omega)
     omega
    obtain ⟨d1, d2⟩ := down (by omega) hlt hbig
    by_cases c2 : rest + v1 ≥ 1000000000
    · obtain ⟨d3, d4, d5⟩ := d2 c2
      exact ⟨g - 1, natural_num_divide_L1ae0_x0 (v2 := (k : Int) - 1) (v3 := v1) (v4 := v1) (v5 := rest + v1) (wu (by omega)) (wi (by omega)) (wu (by omega)) (wu (by omega)) c1 (by omega) gk1 c2, d3, d4, d5⟩
    · obtain ⟨g', d3, d4⟩ := d1 c2
      exact ⟨g', natural_num_divide_L1a_r0 (v2 := (k : Int) - 1) (v3 := v1) (v4 := v1) (wu (by omega)) (wi (by omega)) (wu (by omega)) (wu (by omega)) c1 (by omega) gk1 c2 d3, d4⟩
  · by_cases c3 : g * v2 > rest * 1000000000 + u2
    · have hlt := guess_low hP vl0 xl1 eV eX he h0 c3
      have hg1 : 1 ≤ g := by
       rcases Int.lt_or_le g 1 with h | h
       · have : g = 0 := by omega
         subst this
         rw [Int.zero_mul] at c3
         omega
       · exact h
      obtain ⟨d1, d2⟩ := down hg1 hlt hbig
      by_cases c2 : rest + v1 ≥ 1000000000
      · obtain ⟨d3, d4, d5⟩ := d2 c2
        exact ⟨g - 1, natural_num_divide_L1ae0_x1 (v1 := (k : Int) - 2) (v2 := v2) (v3 := v2) (v4 := g * v2) (v5 := rest * 1000000000) (v6 := (j : Int) + k) (v7 := (j : Int) + k - 2) (v8 := u2) (v9 := u2) (v10 := rest * 1000000000 + u2) (v12 := (k : Int) - 1) (v13 := v1) (v14 := v1) (v15 := rest + v1)
         (wi (by omega)) (wu (by omega)) (wu (by omega)) (wu (by omega)) (wi (by omega)) (wi (by omega)) (wu (by omega)) (wu (by omega)) (wu (by omega)) (wi (by omega)) (wu (by omega)) (wu (by omega)) c1 (by omega) gk2 (by omega) gu c3 (by omega) gk1 c2, d3, d4, d5⟩
      · obtain ⟨g', d3, d4⟩ := d1 c2
        exact ⟨g', natural_num_divide_L1a_r1 (v1 := (k : Int) - 2) (v2 := v2) (v3 := v2) (v4 := g * v2) (v5 := rest * 1000000000) (v6 := (j : Int) + k) (v7 := (j : Int) + k - 2) (v8 := u2) (v9 := u2) (v10 := rest * 1000000000 + u2) (v12 := (k : Int) - 1) (v13 := v1) (v14 := v1)
         (wi (by omega)) (wu (by omega)) (wu (by omega)) (wu (by omega)) (wi (by omega)) (wi (by omega)) (wu (by omega)) (wu (by omega)) (wu (by omega)) (wi (by omega)) (wu (by omega)) (wu (by omega)) c1 (by omega) gk2 (by omega) gu c3 (by omega) gk1 c2 d3, d4⟩
    · refine ⟨g, natural_num_divide_L1ae0_x2 (v1 := (k : Int) - 2) (v2 := v2) (v3 := v2) (v4 := g * v2) (v5 := rest * 1000000000) (v6 := (j : Int) + k) (v7 := (j : Int) + k - 2) (v8 := u2) (v9 := u2) (v10 := rest * 1000000000 + u2)
          (wi (by omega)) (wu (by omega)) (wu (by omega)) (wu (by omega)) (wi (by omega)) (wi (by omega)) (wu (by omega)) (wu (by omega)) c1 (by omega) gk2 (by omega) gu c3, ⟨h0, by omega⟩, hX, ?_⟩
      exact guess_high hP ⟨vl0, vl1⟩ xl0 eV eX he ⟨h0, by omega⟩ (by omega) hnorm a2.1
theorem nd_sub {m w1 w3 w4 : List (List DV)} {lq lu k j : Nat} {u v : List Int} (D : Dv u v lu k j) (hw3 : ∀ i : Nat, i < k → w3[i]? = some [.u32 (v.getD i 0)]) {g : Int} (hg : 0 ≤ g ∧ g < 1000000000) :
    ∀ d i c b u', i + d = k → 0 ≤ c ∧ c < 1000000000 → b = 0 ∨ b = 1 → Wd u' → u'.length = lu → (∀ n, n < j ∨ j + i ≤ n → u'.getD n 0 = u.getD n 0) → wv u' = wv u - pw j * (g * wv (v.take i)) + pw j * pw i * (c + b) →
    ∃ c' b' u'', Lp E 5 F_natural_num_divide 2 (natural_num_divide_L2a m lu k k lq j g c b k i w1 (Wr u') w3 w4) (.exit 5) (natural_num_divide_L2ae0 m lu k k lq j g w1 w3 w4 c' b' (Wr u'')) ∧ (0 ≤ c' ∧ c' < 1000000000) ∧ (b' = 0 ∨ b' = 1) ∧ Wd u'' ∧ u''.length = lu ∧ (∀ n, n < j ∨ j + k ≤ n → u''.getD n 0 = u.getD n 0) ∧ wv u'' = wv u - pw j * (g * wv v) + pw j * pw k * (c' + b')
 | 0, i, c, b, u', hi, hc, hb, hw, hl, hn, hv => by
  have : i = k := by omega
  subst this
  have := D.elv
  rw [List.take_of_length_le (by omega)] at hv
  exact ⟨c, b, u', natural_num_divide_L2ae0_x0 (by omega), hc, hb, hw, hl, hn, hv⟩
 | d + 1, i, c, b, u', hi, hc, hb, hw, hl, hn, hv => by
  have hjk := D.jk
  have hsm := D.small
  have a0 := D.hv.getD i
  have b0 := hw.getD (i + j)
  have gk : w3[Int.toNat (i : Int)]? = some [.u32 (v.getD i 0)] := hw3 i (by omega)
  have gu : (Wr u')[Int.toNat ((i + j : Nat) : Int)]? = some [.u32 (u'.getD (i + j) 0)] := Wr_getD (by omega)
  have et := val_take_succ v i (by have := D.elv; omega)
  have es := val_set u' (i + j) (by omega)
  obtain ⟨x, ex⟩ : ∃ x, x = v.getD i 0 := ⟨_, rfl⟩
  obtain ⟨w, ew⟩ : ∃ w, w = u'.getD (i + j) 0 := ⟨_, rfl⟩
  rw [← ex] at a0 gk et
  rw [← ew] at b0 gu es
  have hgx : 0 ≤ g * x ∧ g * x ≤ 999999998000000001 := mul_bound hg a0
  obtain ⟨S, eS⟩ : ∃ S, S = g * x + c := ⟨_, rfl⟩
  have hS : 0 ≤ S ∧ S ≤ 999999999000000000 := by omega
  obtain ⟨dd, ed⟩ : ∃ dd, dd = w - S % 1000000000 - b := ⟨_, rfl⟩
  have key : ∀ b' d', d' = dd + 1000000000 * b' → 0 ≤ d' ∧ d' < 1000000000 → (b' = 0 ∨ b' = 1) →
      (∀ {c2 : Int} {st : St}, Lp E 5 F_natural_num_divide 2 (natural_num_divide_L2a m lu k k lq j g (S / 1000000000) b' k ((i + 1 : Nat) : Int) w1 (Wr (u'.set (i + j) d')) w3 w4) (.exit 5) st → Lp E 5 F_natural_num_divide 2 (natural_num_divide_L2a m lu k k lq j g c b k i w1 (Wr u') w3 w4) (.exit 5) st) →
      ∃ c' b' u'', Lp E 5 F_natural_num_divide 2 (natural_num_divide_L2a m lu k k lq j g c b k i w1 (Wr u') w3 w4) (.exit 5) (natural_num_divide_L2ae0 m lu k k lq j g w1 w3 w4 c' b' (Wr u'')) ∧ (0 ≤ c' ∧ c' < 1000000000) ∧ (b' = 0 ∨ b' = 1) ∧ Wd u'' ∧ u''.length = lu ∧ (∀ n, n < j ∨ j + k ≤ n → u''.getD n 0 = u.getD n 0) ∧ wv u'' = wv u - pw j * (g * wv v) + pw j * pw k * (c' + b') := by
   intro b' d' hd' hd0 hb' hstep
   obtain ⟨c2, b2, u2, k1, k2⟩ := nd_sub D hw3 hg d (i + 1) (S / 1000000000) b' (u'.set (i + j) d') (by omega) (by omega) hb' (hw.set _ hd0.1 hd0.2) (by simpa using hl)
    (fun n h => by rw [getD_set_ne (by omega)]; exact hn n (by omega)) (by
     rw [es d', et, pw_succ, show i + j = j + i by omega, pw_add]
     have := sub_step hv eS (Int.emod_add_mul_ediv S 1000000000) ed hd'
     rw [this]; grind)
   exact ⟨c2, b2, u2, hstep (c2 := 0) k1, k2⟩
  by_cases c1 : dd < 0
  · refine key 1 (dd + 1000000000) (by omega) (by omega) (.inr rfl) fun k1 => ?_
    exact natural_num_divide_L2a_r0 (v1 := g) (v2 := x) (v3 := x) (v4 := g * x) (v5 := S) (v6 := S / 1000000000) (v7 := ((i + j : Nat) : Int)) (v8 := w) (v9 := w) (v10 := S % 1000000000) (v11 := w - S % 1000000000) (v12 := dd) (v13 := dd + 1000000000) (v14 := dd + 1000000000) (v15 := Wr (u'.set (i + j) (dd + 1000000000))) (v16 := ((i + 1 : Nat) : Int))
     (wi (by omega)) (wi (by omega)) (wi (by omega)) (wi (by omega)) (wi ⟨tdv hS.1 rfl, by omega, by omega⟩) (wi (by omega)) (wi (by omega)) (tmd hS.1 rfl) (wi (by omega)) (wi (by omega)) (wi (by omega)) (w32 (by omega)) (by rw [Int.toNat_natCast, Wr_set]) (wi (by omega))
     (by omega) (by omega) gk (by omega) gu c1 k1
  · refine key 0 dd (by omega) (by omega) (.inl rfl) fun k1 => ?_
    exact natural_num_divide_L2a_r1 (v1 := g) (v2 := x) (v3 := x) (v4 := g * x) (v5 := S) (v6 := S / 1000000000) (v7 := ((i + j : Nat) : Int)) (v8 := w) (v9 := w) (v10 := S % 1000000000) (v11 := w - S % 1000000000) (v12 := dd) (v13 := dd) (v14 := Wr (u'.set (i + j) dd)) (v15 := ((i + 1 : Nat) : Int))
     (wi (by omega)) (wi (by omega)) (wi (by omega)) (wi (by omega)) (wi ⟨tdv hS.1 rfl, by omega, by omega⟩) (wi (by omega)) (wi (by omega)) (tmd hS.1 rfl) (wi (by omega)) (wi (by omega)) (w32 (by omega)) (by rw [Int.toNat_natCast, Wr_set]) (wi (by omega))
     (by omega) (by omega) gk (by omega) gu c1 k1
theorem nd_add {m w1 w3 w4 : List (List DV)} {lq lu k j : Nat} {u v : List Int} (D : Dv u v lu k j) (hw3 : ∀ i : Nat, i < k → w3[i]? = some [.u32 (v.getD i 0)]) {g last : Int} {u1 : List Int} :
    ∀ d i up u', i + d = k → 0 ≤ up ∧ up ≤ 1 → Wd u' → u'.length = lu → (∀ n, n < j ∨ j + i ≤ n → u'.getD n 0 = u1.getD n 0) → wv u' = wv u1 + pw j * wv (v.take i) - pw j * pw i * up →
    ∃ up' u'', Lp E 5 F_natural_num_divide 3 (natural_num_divide_L3a m lu k k lq j g last up k i w1 (Wr u') w3 w4) (.exit 7) (natural_num_divide_L3ae0 m lu k k lq j g last w1 w3 w4 up' (Wr u'')) ∧ (0 ≤ up' ∧ up' ≤ 1) ∧ Wd u'' ∧ u''.length = lu ∧ (∀ n, n < j ∨ j + k ≤ n → u''.getD n 0 = u1.getD n 0) ∧ wv u'' = wv u1 + pw j * wv v - pw j * pw k * up'
 | 0, i, up, u', hi, hc, hw, hl, hn, hv => by
  have : i = k := by omega
  subst this
  have := D.elv
  rw [List.take_of_length_le (by omega)] at hv
  exact ⟨up, u', natural_num_divide_L3ae0_x0 (by omega), hc, hw, hl, hn, hv⟩
 | d + 1, i, up, u', hi, hc, hw, hl, hn, hv => by
  have hjk := D.jk
  have hsm := D.small
  have a0 := D.hv.getD i
  have b0 := hw.getD (i + j)
  have gk : w3[Int.toNat (i : Int)]? = some [.u32 (v.getD i 0)] := hw3 i (by omega)
  have gu : (Wr u')[Int.toNat ((i + j : Nat) : Int)]? = some [.u32 (u'.getD (i + j) 0)] := Wr_getD (by omega)
  have et := val_take_succ v i (by have := D.elv; omega)
  have es := val_set u' (i + j) (by omega)
  obtain ⟨x, ex⟩ : ∃ x, x = v.getD i 0 := ⟨_, rfl⟩
  obtain ⟨w, ew⟩ : ∃ w, w = u'.getD (i + j) 0 := ⟨_, rfl⟩
  rw [← ex] at a0 gk et
  rw [← ew] at b0 gu es
  obtain ⟨S, eS⟩ : ∃ S, S = up + (w + x) := ⟨_, rfl⟩
  have hS : 0 ≤ S ∧ S ≤ 1999999999 := by omega
  obtain ⟨up2, u2, k1, k2⟩ := nd_add (g := g) (last := last) D hw3 (u1 := u1) d (i + 1) (S / 1000000000) (u'.set (i + j) (S % 1000000000)) (by omega) (by omega) (hw.set _ (by omega) (by omega)) (by simpa using hl)
   (fun n h => by rw [getD_set_ne (by omega)]; exact hn n (by omega)) (by
    rw [es, et, pw_succ, show i + j = j + i by omega, pw_add]
    have := add_step hv eS (Int.emod_add_mul_ediv S 1000000000)
    rw [this]; grind)
  refine ⟨up2, u2, ?_, k2⟩
  exact natural_num_divide_L3a_r0 (v1 := ((i + j : Nat) : Int)) (v2 := w) (v3 := w) (v4 := x) (v5 := x) (v6 := w + x) (v7 := S) (v8 := S % 1000000000) (v9 := S % 1000000000) (v10 := Wr (u'.set (i + j) (S % 1000000000))) (v11 := S / 1000000000) (v12 := ((i + 1 : Nat) : Int))
   (wi (by omega)) (wu (by omega)) (wu (by omega)) (wu (by omega)) (wu (by omega)) (tmd hS.1 rfl) (w32 (by omega)) (by rw [Int.toNat_natCast, Wr_set]) (wu ⟨tdv hS.1 rfl, by omega, by omega⟩) (wi (by omega))
   (by omega) (by omega) gu (by omega) gk k1
end Gev
namespace Gev
open Go Gb
variable {E : Env}
theorem take_eq {xs ys : List Int} (hl : xs.length = ys.length) (j : Nat) (h : ∀ n, n < j → xs.getD n 0 = ys.getD n 0) : xs.take j = ys.take j := by
 induction j with
 | zero => simp
 | succ j ih =>
  rcases Nat.lt_or_ge j xs.length with hj | hj
  · rw [take_succ xs j hj, take_succ ys j (by omega), ih (fun n hn => h n (by omega)), h j (by omega)]
  · rw [List.take_of_length_le (by omega), List.take_of_length_le (by omega)]
    rw [List.take_of_length_le hj, List.take_of_length_le (by omega)] at ih
    exact ih fun n hn => h n (by omega)
theorem mul_cancel {p a b : Int} (hp : 0 < p) (h : p * a = p * b) : a = b := Int.eq_of_mul_eq_mul_left (by omega) h
theorem drop_val {xs ys : List Int} (hl : xs.length = ys.length) {j : Nat} (hj : j ≤ xs.length) (h : ∀ n, n < j → xs.getD n 0 = ys.getD n 0) {T : Int} (hv : wv xs = wv ys - pw j * T) : wv (xs.drop j) = wv (ys.drop j) - T := by
 have e1 := val_take_drop xs j hj
 have e2 := val_take_drop ys j (by omega)
 rw [take_eq hl j h] at e1
 refine mul_cancel (pw_pos j) ?_
 rw [Int.mul_sub]
 omega
theorem nd_round {m w1 w3 : List (List DV)} {lq lu k j : Nat} {u v q : List Int} (D : Dv u v lu k j) (hw3 : ∀ i : Nat, i < k → w3[i]? = some [.u32 (v.getD i 0)]) (hq : q.length = lq) (hj : j < lq) :
    ∃ u' g, (∀ {o : Out} {st : St}, Lp E 5 F_natural_num_divide 0 (natural_num_divide_L0a m lu k k lq ((j : Int) - 1) w1 (Wr u') w3 (Wr (q.set j g))) o st → Lp E 5 F_natural_num_divide 0 (natural_num_divide_L0a m lu k k lq j w1 (Wr u) w3 (Wr q)) o st) ∧
     (0 ≤ g ∧ g < 1000000000) ∧ Wd u' ∧ u'.length = lu ∧ wv u' = wv u - pw j * (g * wv v) ∧ 0 ≤ wv (u'.drop j) ∧ wv (u'.drop j) < wv v := by
 have h2 := D.two
 have hjk := D.jk
 have hsm := D.small
 have hlu := D.elu
 have hlv := D.elv
 have hnorm := D.norm
 have hV := D.vpos
 have hVk := D.vk
 have a1 := D.hv.getD (k - 1)
 have b1 := D.hu.getD (j + k - 1)
 have b0 := D.hu.getD (j + k)
 have bj := D.hu.getD j
 have hlow := D.low
 have hz := D.zero
 have eX1 := val_drop u j (by omega)
 obtain ⟨v1, e1⟩ : ∃ x, x = v.getD (k - 1) 0 := ⟨_, rfl⟩
 obtain ⟨u0, e3⟩ : ∃ x, x = u.getD (j + k) 0 := ⟨_, rfl⟩
 obtain ⟨u1', e4⟩ : ∃ x, x = u.getD (j + k - 1) 0 := ⟨_, rfl⟩
 obtain ⟨top, et⟩ : ∃ x, x = u0 * 1000000000 + u1' := ⟨_, rfl⟩
 have gk1 : w3[Int.toNat ((k : Int) - 1)]? = some [.u32 v1] := by
  rw [show Int.toNat ((k : Int) - 1) = k - 1 by omega, e1]; exact hw3 _ (by omega)
 have gu0 : (Wr u)[Int.toNat ((j : Int) + k)]? = some [.u32 u0] := by
  rw [show Int.toNat ((j : Int) + k) = j + k by omega, e3]; exact Wr_getD (by omega)
 have gu1 : (Wr u)[Int.toNat ((j : Int) + k - 1)]? = some [.u32 u1'] := by
  rw [show Int.toNat ((j : Int) + k - 1) = j + k - 1 by omega, e4]; exact Wr_getD (by omega)
 rw [← e1] at a1 hnorm
 rw [← e3] at b0
 rw [← e4] at b1
 have htop : 0 ≤ top := by omega
 have hdm := Int.emod_add_mul_ediv top v1
 have hr0 := Int.emod_nonneg top (show v1 ≠ 0 by omega)
 have hr1 := Int.emod_lt_of_pos top (show 0 < v1 by omega)
 have hg0 : 0 ≤ top / v1 := Int.ediv_nonneg htop (by omega)
 have hmul : top / v1 * v1 + top % v1 = top := by rw [Int.mul_comm]; omega
 have hX3 := split_three (u := u) (j := j) (k := k) h2 (by omega) hz
 rw [← e3, ← e4, ← et] at hX3
 have hV2 := split_two hlv h2
 rw [← e1] at hV2
 have a2 := D.hv.getD (k - 2)
 have vl1 := D.hv.val_take_lt (k - 2) (by omega)
 have xl0 := val_nonneg ((D.hu.drop j).take (k - 2))
 have hP := pw_pos (k - 2)
 have b2 := D.hu.getD (j + k - 2)
 have hu0 : u0 ≤ v1 := by
  rcases Int.lt_or_le v1 u0 with h | h
  · exfalso
    have e5 := val_take_drop (u.drop (j + 1)) (k - 1) (by simp; omega)
    rw [List.drop_drop, show j + 1 + (k - 1) = j + k by omega, val_drop u (j + k) (by omega), hz, ← e3] at e5
    have h6 := val_nonneg ((D.hu.drop (j + 1)).take (k - 1))
    have e7 := val_take_drop v (k - 1) (by omega)
    rw [val_drop v (k - 1) (by omega), ← e1, show k - 1 + 1 = k by omega, List.drop_eq_nil_of_le (by omega), show wv [] = 0 from rfl] at e7
    have h8 := D.hv.val_take_lt (k - 1) (by omega)
    have h9 : pw (k - 1) * (v1 + 1) ≤ pw (k - 1) * u0 := Int.mul_le_mul_of_nonneg_left (by omega) (by have := pw_pos (k - 1); omega)
    rw [Int.mul_add, Int.mul_one] at h9
    simp at e5 e7
    omega
  · exact h
 have hgB : top / v1 ≤ 1000000001 := by
  have : top / v1 < 1000000002 := Int.ediv_lt_of_lt_mul (by omega) (by omega)
  omega
 have hbig : top / v1 = 1000000001 → top % v1 + v1 < 1000000000 := by
  intro h
  rw [h] at hmul
  omega
 have hXg : wv (u.drop j) < (top / v1 + 1) * wv v := by
  have h5 : top + 1 ≤ (top / v1 + 1) * v1 := by
   have : (top / v1 + 1) * v1 = top / v1 * v1 + v1 := by grind
   omega
  have h6 := Int.mul_le_mul_of_nonneg_right h5 (show 0 ≤ 1000000000 * pw (k - 2) by omega)
  have h7 : (top / v1 + 1) * (v1 * (1000000000 * pw (k - 2))) ≤ (top / v1 + 1) * wv v := by
   refine Int.mul_le_mul_of_nonneg_left ?_ (by omega)
   have h8 : (v1 * 1000000000 + v.getD (k - 2) 0) * pw (k - 2) = v1 * (1000000000 * pw (k - 2)) + v.getD (k - 2) 0 * pw (k - 2) := by grind
   have h9 : 0 ≤ v.getD (k - 2) 0 * pw (k - 2) := Int.mul_nonneg a2.1 (by omega)
   have h10 := val_nonneg (D.hv.take (k - 2))
   omega
  have h8 : (top / v1 + 1) * v1 * (1000000000 * pw (k - 2)) = (top / v1 + 1) * (v1 * (1000000000 * pw (k - 2))) := by grind
  have h9 : (top + 1) * (1000000000 * pw (k - 2)) = top * 1000000000 * pw (k - 2) + 1000000000 * pw (k - 2) := by grind
  have h10 : (top * 1000000000 + u.getD (j + k - 2) 0) * pw (k - 2) = top * 1000000000 * pw (k - 2) + u.getD (j + k - 2) 0 * pw (k - 2) := by grind
  have h11 : u.getD (j + k - 2) 0 * pw (k - 2) ≤ 999999999 * pw (k - 2) := Int.mul_le_mul_of_nonneg_right (by omega) (by omega)
  have h12 := (D.hu.drop j).val_take_lt (k - 2) (by simp; omega)
  omega
 obtain ⟨g, k1, k2, k3, k4⟩ := nd_guess (E := E) (m := m) (w1 := w1) (w4 := Wr q) (lq := lq) D hw3 1000000002 (top / v1) (top % v1) hg0 (by omega) hgB ⟨hr0, by omega⟩ (by rw [← e1, ← e3, ← e4, ← et]; exact hmul) hXg (by rw [← e1]; exact hbig)
 obtain ⟨c, b, us, s1, s2, s3, s4, s5, s6, s7⟩ := nd_sub (E := E) (m := m) (w1 := w1) (w4 := Wr q) (lq := lq) D hw3 k2 k 0 0 0 u (by omega) (by omega) (.inl rfl) D.hu D.elu (fun _ _ => rfl) (by simp [wv])
 have hsu : us.getD (j + k) 0 = u0 := by rw [s6 _ (.inr (Nat.le_refl _)), ← e3]
 have gs0 : (Wr us)[Int.toNat ((j : Int) + k)]? = some [.u32 u0] := by
  rw [show Int.toNat ((j : Int) + k) = j + k by omega, ← hsu]; exact Wr_getD (by omega)
 obtain ⟨last, hlast⟩ : ∃ x, x = u0 - c - b := ⟨_, rfl⟩
 have hset := val_set us (j + k) (by omega)
 rw [hsu] at hset
 have sv : wv us = wv u - pw j * (g * wv v - pw k * (c + b)) := by rw [s7]; grind
 have sd := drop_val (xs := us) (ys := u) (by omega) (j := j) (by omega) (fun n hn => s6 n (.inl hn)) sv
 have sk := val_take_drop (us.drop j) k (by simp; omega)
 have sz : wv (us.drop (j + k + 1)) = 0 := by
  have h0 : wv (us.drop (j + k + 1)) = wv (u.drop (j + k + 1)) := by
   congr 1
   apply List.ext_getElem?
   intro i
   rw [List.getElem?_drop, List.getElem?_drop]
   rcases Nat.lt_or_ge (j + k + 1 + i) lu with h | h
   · rw [getD_some (by omega), getD_some (by omega), s6 _ (.inr (by omega))]
   · rw [List.getElem?_eq_none (by omega), List.getElem?_eq_none (by omega)]
  rw [h0]; exact hz
 rw [List.drop_drop, val_drop us (j + k) (by omega), sz, hsu] at sk
 have sk0 := val_nonneg ((s4.drop j).take k)
 have sk1 := (s4.drop j).val_take_lt k (by simp; omega)
 have hpk := pw_pos k
 have hpj := pw_pos j
 have wj : ((j : Int) + k) = ((j + k : Nat) : Int) := by omega
 have gq : (Wr q)[Int.toNat (j : Int)]? = some [.u32 (q.getD j 0)] := Wr_getD (by omega)
 have hXV : (g + 1) * wv v = g * wv v + wv v := by grind
 by_cases c1 : last < 0
 · -- once too often
   have hneg : wv (u.drop j) < g * wv v := by
    have h5 : pw k * last ≤ pw k * (-1) := Int.mul_le_mul_of_nonneg_left (by omega) (by omega)
    have h6 : pw k * last = pw k * u0 - pw k * (c + b) := by rw [hlast]; grind
    simp at sk
    omega
   have hg1 : 1 ≤ g := by
    rcases Int.lt_or_le g 1 with h | h
    · have : g = 0 := by omega
      subst this
      have := val_nonneg (D.hu.drop j)
      omega
    · exact h
   obtain ⟨up, ua, t1, t2, t3, t4, t5, t6⟩ := nd_add (E := E) (m := m) (w1 := w1) (w4 := Wr q) (lq := lq) (g := g - 1) (last := last) D hw3 (u1 := us) k 0 0 us (by omega) (by omega) s4 s5 (fun _ _ => rfl) (by simp [wv])
   have hau : ua.getD (j + k) 0 = u0 := by rw [t5 _ (.inr (Nat.le_refl _)), hsu]
   have ga0 : (Wr ua)[Int.toNat ((j : Int) + k)]? = some [.u32 u0] := by
    rw [show Int.toNat ((j : Int) + k) = j + k by omega, ← hau]; exact Wr_getD (by omega)
   have hset2 := val_set ua (j + k) (by omega)
   rw [hau] at hset2
   have tv : wv ua = wv u - pw j * ((g - 1) * wv v - pw k * (c + b) + pw k * up) := by rw [t6, s7]; grind
   have td := drop_val (xs := ua) (ys := u) (by omega) (j := j) (by omega) (fun n hn => by rw [t5 n (.inl hn)]; exact s6 n (.inl hn)) tv
   have tk := val_take_drop (ua.drop j) k (by simp; omega)
   have tz : wv (ua.drop (j + k + 1)) = 0 := by
    have h0 : wv (ua.drop (j + k + 1)) = wv (us.drop (j + k + 1)) := by
     congr 1
     apply List.ext_getElem?
     intro i
     rw [List.getElem?_drop, List.getElem?_drop]
     rcases Nat.lt_or_ge (j + k + 1 + i) lu with h | h
     · rw [getD_some (by omega), getD_some (by omega), t5 _ (.inr (by omega))]
     · rw [List.getElem?_eq_none (by omega), List.getElem?_eq_none (by omega)]
    rw [h0]; exact sz
   rw [List.drop_drop, val_drop ua (j + k) (by omega), tz, hau] at tk
   have tk0 := val_nonneg ((t3.drop j).take k)
   have tk1 := (t3.drop j).val_take_lt k (by simp; omega)
   have hg1V : (g - 1) * wv v = g * wv v - wv v := by grind
   have hzero : last + up = 0 := by
    have h5 : pw k * (last + up) = pw k * u0 - pw k * (c + b) + pw k * up := by rw [hlast]; grind
    have h6 : -pw k < pw k * (last + up) ∧ pw k * (last + up) < pw k := by
     simp at tk
     omega
    rcases Int.lt_trichotomy (last + up) 0 with h | h | h
    · have : pw k * (last + up) ≤ pw k * (-1) := Int.mul_le_mul_of_nonneg_left (by omega) (by omega)
      omega
    · exact h
    · have : pw k * 1 ≤ pw k * (last + up) := Int.mul_le_mul_of_nonneg_left (by omega) (by omega)
      omega
   have hfin : wv (ua.set (j + k) 0) = wv u - pw j * ((g - 1) * wv v) := by
    rw [hset2, tv, pw_add]
    have : u0 = c + b - up := by omega
    rw [this]; grind
   have hd := drop_val (xs := ua.set (j + k) 0) (ys := u) (by simp; omega) (j := j) (by simp; omega) (fun n hn => by rw [getD_set_ne (by omega), t5 n (.inl hn)]; exact s6 n (.inl hn)) hfin
   refine ⟨ua.set (j + k) 0, g - 1, fun {o} {st} ih => ?_, by omega, t3.set _ (by omega) (by omega), by simpa using t4, hfin, ?_, ?_⟩
   · exact natural_num_divide_L0a_r0 (v1 := (j : Int) + k) (v2 := u0) (v3 := u0) (v4 := u0 * 1000000000) (v5 := (j : Int) + k - 1) (v6 := u1') (v7 := u1') (v8 := top) (v9 := (k : Int) - 1) (v10 := v1) (v11 := v1) (v12 := top / v1) (v13 := top % v1) (v14 := g) (v15 := c) (v16 := b) (v17 := Wr us) (v18 := u0) (v19 := u0) (v20 := u0 - c) (v21 := last) (v22 := g - 1) (v23 := up) (v24 := Wr ua) (v25 := up) (v26 := 0) (v27 := 0) (v28 := 0) (v29 := u0) (v30 := Wr (ua.set (j + k) 0)) (v31 := g - 1) (v32 := q.getD j 0) (v33 := Wr (q.set j (g - 1))) (v34 := (j : Int) - 1)
      (wi (by omega)) (wu (by omega)) (wu (by omega)) (wi (by omega)) (wu (by omega)) (wu (by omega)) (wi (by omega)) (wu (by omega)) (wu ⟨tdv htop rfl, hg0, by omega⟩) (tmd htop rfl) (wi (by omega)) (wi (by omega)) (wi (by omega)) (wu (by omega)) (wi (by omega)) (wi (by omega)) (by simp) (w32 (by omega)) (by rw [wj, Int.toNat_natCast, Wr_set]) (w32 (by omega)) (by rw [Int.toNat_natCast, Wr_set]) (wi (by omega))
      (by omega) (by omega) gu0 (by omega) gu1 (by omega) gk1 (by omega) k1 s1 gs0 c1 t1 ga0 (by omega) gq ih
   · rw [hd]; omega
   · rw [hd]; omega
 · have hfin : wv (us.set (j + k) last) = wv u - pw j * (g * wv v) := by
    rw [hset, sv, pw_add, hlast]; grind
   have hd := drop_val (xs := us.set (j + k) last) (ys := u) (by simp; omega) (j := j) (by simp; omega) (fun n hn => by rw [getD_set_ne (by omega)]; exact s6 n (.inl hn)) hfin
   refine ⟨us.set (j + k) last, g, fun {o} {st} ih => ?_, k2, s4.set _ (by omega) (by omega), by simpa using s5, hfin, ?_, ?_⟩
   · exact natural_num_divide_L0a_r1 (v1 := (j : Int) + k) (v2 := u0) (v3 := u0) (v4 := u0 * 1000000000) (v5 := (j : Int) + k - 1) (v6 := u1') (v7 := u1') (v8 := top) (v9 := (k : Int) - 1) (v10 := v1) (v11 := v1) (v12 := top / v1) (v13 := top % v1) (v14 := g) (v15 := c) (v16 := b) (v17 := Wr us) (v18 := u0) (v19 := u0) (v20 := u0 - c) (v21 := last) (v22 := last) (v23 := last) (v24 := Wr (us.set (j + k) last)) (v25 := g) (v26 := q.getD j 0) (v27 := Wr (q.set j g)) (v28 := (j : Int) - 1)
      (wi (by omega)) (wu (by omega)) (wu (by omega)) (wi (by omega)) (wu (by omega)) (wu (by omega)) (wi (by omega)) (wu (by omega)) (wu ⟨tdv htop rfl, hg0, by omega⟩) (tmd htop rfl) (wi (by omega)) (wi (by omega)) (wi (by omega)) (if_neg (by omega)) (w32 (by omega)) (by rw [wj, Int.toNat_natCast, Wr_set]) (w32 (by omega)) (by rw [Int.toNat_natCast, Wr_set]) (wi (by omega))
      (by omega) (by omega) gu0 (by omega) gu1 (by omega) gk1 (by omega) k1 s1 gs0 c1 (by omega) gq ih
   · have h5 := val_nonneg ((s4.set (j + k) (show 0 ≤ last by omega) (by omega)).drop j)
     exact h5
   · rw [hd]; omega
theorem nd_loop {m w1 w3 : List (List DV)} {lq lu k : Nat} {v : List Int} (hv : Wd v) (hlv : v.length = k) (h2 : 2 ≤ k) (hn : 1000000000 ≤ 2 * v.getD (k - 1) 0) (hsm : lu < 35184372088832) (hw3 : ∀ i : Nat, i < k → w3[i]? = some [.u32 (v.getD i 0)]) :
    ∀ j u q, Wd u → u.length = lu → Wd q → q.length = lq → j ≤ lq → (0 < j → j - 1 + k < lu) → wv (u.drop j) < wv v →
    ∃ u' q', Lp E 5 F_natural_num_divide 0 (natural_num_divide_L0a m lu k k lq ((j : Int) - 1) w1 (Wr u) w3 (Wr q)) (.exit 1) (natural_num_divide_L0ae0 m lu k lq w1 w3 (Wr u') (Wr q')) ∧ Wd u' ∧ u'.length = lu ∧ Wd q' ∧ q'.length = lq ∧ wv u' < wv v ∧ wv u' + wv v * wv q' = wv u + wv v * (pw j * wv (q.drop j))
 | 0, u, q, hu, hlu, hq, hlq, _, _, hlow => ⟨u, q, natural_num_divide_L0ae0_x0 (by omega), hu, hlu, hq, hlq, by simpa using hlow, by simp [pw_zero]⟩
 | j + 1, u, q, hu, hlu, hq, hlq, hj, hjk, hlow => by
  have D : Dv u v lu k j := ⟨hu, hv, hlu, hlv, h2, hn, by have := hjk (by omega); omega, hsm, hlow⟩
  obtain ⟨u1, g, st, hg, k1, k2, k3, k4, k5⟩ := nd_round (E := E) (m := m) (w1 := w1) D hw3 hlq (by omega)
  obtain ⟨u', q', r1, r2, r3, r4, r5, r6, r7⟩ := nd_loop hv hlv h2 hn hsm hw3 j u1 (q.set j g) k1 k2 (hq.set _ hg.1 hg.2) (by simpa using hlq) (by omega) (fun h => by have := D.jk; omega) k5
  refine ⟨u', q', ?_, r2, r3, r4, r5, r6, ?_⟩
  · rw [show ((j + 1 : Nat) : Int) - 1 = (j : Int) by omega]; exact st r1
  · have hd : (q.set j g).drop (j + 1) = q.drop (j + 1) := List.drop_set_of_lt (Nat.lt_succ_self j)
    rw [r7, k3, wv_drop (q.set j g) j, getD_set_same (by omega), hd, pw_succ]
    grind
theorem divmod_unique {n m q r : Nat} (h : n = q * m + r) (hr : r < m) : n / m = q ∧ n % m = r := by
 subst h
 rw [Nat.mul_comm]
 exact ⟨by rw [Nat.mul_add_div (by omega), Nat.div_eq_of_lt hr, Nat.add_zero], by rw [Nat.mul_add_mod, Nat.mod_eq_of_lt hr]⟩
theorem take_getD {xs : List Int} {k i : Nat} (h : i < k) : (xs.take k).getD i 0 = xs.getD i 0 := by
 rw [List.getD_eq_getElem?_getD, List.getD_eq_getElem?_getD, List.getElem?_take_of_lt h]
theorem divide_great {m n : Nat} (hm : 2 ≤ (words m).length) (hmn : m ≤ n) (hl : (words n).length < 1099511627776) (hns : ¬ n < 1000000000000000000) : Fn E F_natural_num_divide [.c (.list (Wr (words n))), .c (.list (Wr (words m)))] (.tup [.c (.list (Wr (words (n / m)))), .c (.list (Wr (words (n % m))))]) := by
 have hlm : (words m).length ≤ (words n).length := (words_tr m).length_le (words_wd m) (words_wd n) (by rw [words_val, words_val]; omega)
 obtain ⟨k, hk⟩ : ∃ k, k = (words m).length := ⟨_, rfl⟩
 rw [← hk] at hm hlm
 have ht := (words_wd m).getD (k - 1)
 obtain ⟨t, et⟩ : ∃ t, t = (words m).getD (k - 1) 0 := ⟨_, rfl⟩
 rw [← et] at ht
 obtain ⟨f, hf⟩ : ∃ f : Nat, (f : Int) = 1000000000 / (t + 1) := ⟨(1000000000 / (t + 1)).toNat, by have : 0 ≤ 1000000000 / (t + 1) := Int.ediv_nonneg (by decide) (by omega); omega⟩
 obtain ⟨f1, f2, lv, nv⟩ := norm_factor (n := m) rfl hk.symm (by omega) (f := f) (by rw [← et]; exact hf)
 have hfl : (words f).length ≤ 1 := words_length_le (by rw [show pw 1 = 1000000000 by decide]; omega)
 obtain ⟨ku, xu, hru, eu, hku, hxu⟩ := times_ok (E := E) (m := n) (n := f) (by omega)
 obtain ⟨kv, xv, hrv, ev, hkv, hxv⟩ := times_ok (E := E) (m := m) (n := f) (by omega)
 have hkv' : kv = k := by
  have := congrArg List.length ev
  rw [List.length_take, lv] at this
  omega
 subst hkv'
 have hku' : ku = (words (n * f)).length := by
  have := congrArg List.length eu
  rw [List.length_take] at this
  omega
 have hnf : n ≤ n * f := by have := Nat.mul_le_mul_left n f1; omega
 have hkn : (words n).length ≤ ku := by rw [hku']; exact (words_tr n).length_le (words_wd n) (words_wd _) (by rw [words_val, words_val]; omega)
 have hku2 : ku ≤ (words n).length + 1 := by omega
 have hu0 : Wd (words (n * f) ++ [0]) := (words_wd _).append (Wd.cons (by omega) (by omega) Wd.nil)
 have hu0l : (words (n * f) ++ [0]).length = ku + 1 := by simp [hku']
 have hw3 : ∀ i : Nat, i < kv → (Wr xv)[i]? = some [.u32 ((words (m * f)).getD i 0)] := fun i hi => by
  rw [← ev, take_getD hi]; exact Wr_getD (by omega)
 have hvk := val_lt (words_wd (m * f))
 have hvge := (words_tr (m * f)).val_ge (words_wd _) (by intro h; rw [h] at lv; simp at lv; omega)
 rw [lv] at hvk hvge
 have hlow : wv ((words (n * f) ++ [0]).drop (ku + 1 - kv)) < wv (words (m * f)) := by
  have h5 := val_lt ((words_wd (n * f)).drop (ku + 1 - kv))
  rw [List.length_drop, ← hku', show ku - (ku + 1 - kv) = kv - 1 by omega] at h5
  rw [List.drop_append_of_le_length (by omega), val_snoc]
  omega
 obtain ⟨u', q', r1, r2, r3, r4, r5, r6, r7⟩ := nd_loop (E := E) (m := Wr (words f)) (w1 := [[.u32 0]]) (w3 := Wr xv) (lq := ku + 1 - kv) (lu := ku + 1) (words_wd (m * f)) lv hm nv (by omega) hw3 (ku + 1 - kv) (words (n * f) ++ [0]) (List.replicate (ku + 1 - kv) 0) hu0 hu0l (Wd.replicate _) (by simp) (Nat.le_refl _) (fun _ => by omega) hlow
 rw [drop_nil (by simp), val_snoc, words_val, words_val, show wv [] = 0 from rfl] at r7
 rw [words_val] at r6
 have hq0 := val_nonneg r4
 have hr0 := val_nonneg r2
 obtain ⟨Q, hQ⟩ : ∃ Q : Nat, wv q' = Q := ⟨(wv q').toNat, by omega⟩
 obtain ⟨R, hR⟩ : ∃ R : Nat, wv u' = R := ⟨(wv u').toNat, by omega⟩
 rw [hQ, hR] at r7
 rw [hR] at r6
 have hmf0 : 0 < m * f := by omega
 have e1 : n * f = Q * (m * f) + R := by
  have : ((n * f : Nat) : Int) = ((Q * (m * f) + R : Nat) : Int) := by
   rw [Int.natCast_add, Int.natCast_mul Q]
   have : ((Q : Int)) * ((m * f : Nat) : Int) = ((m * f : Nat) : Int) * Q := Int.mul_comm _ _
   simp at r7
   simp at this ⊢
   omega
  omega
 have hfR : f ∣ R := by
  have h5 : f ∣ Q * (m * f) := ⟨Q * m, by rw [← Nat.mul_assoc, Nat.mul_comm]⟩
  exact (Nat.dvd_add_right h5).1 (by rw [← e1]; exact ⟨n, Nat.mul_comm _ _⟩)
 obtain ⟨R', hR'⟩ := hfR
 have e2 : n = Q * m + R' := by
  have : f * n = f * (Q * m + R') := by
   rw [Nat.mul_add, ← hR', Nat.mul_comm f n, e1, ← Nat.mul_assoc, Nat.mul_comm f]
  exact Nat.eq_of_mul_eq_mul_left (by omega) this
 have e3 : R' < m := by
  have : f * R' < f * m := by rw [← hR', Nat.mul_comm f m]; omega
  exact Nat.lt_of_mul_lt_mul_left this
 obtain ⟨d1, d2⟩ := divmod_unique e2 e3
 have hRf : R / f = R' := by rw [hR', Nat.mul_div_cancel_left _ (by omega)]
 have hul : wv (u'.take kv) = R := by
  have h5 := val_take_drop u' kv (by omega)
  have h6 := val_nonneg (r2.take kv)
  have h7 := val_nonneg (r2.drop kv)
  rw [words_val] at hvk
  rcases Int.lt_or_le 0 (wv (u'.drop kv)) with h | h
  · have h8 : pw kv * 1 ≤ pw kv * wv (u'.drop kv) := Int.mul_le_mul_of_nonneg_left (by omega) (by have := pw_pos kv; omega)
    omega
  · have : wv (u'.drop kv) = 0 := by omega
    rw [this, Int.mul_zero] at h5
    omega
 have t1 := (trim_run (E := E) (ws := u') (k := kv) (by omega) (by omega)).at (args := []) rfl rfl rfl rfl (objs := [some .dead, some (.vec T_uint32 [[.u32 0]]), some (.vec T_uint32 (Wr u')), some (.vec T_uint32 (Wr xv)), some (.vec T_uint32 (Wr q'))]) (l := 2) rfl
 have t2 := (trim_run (E := E) (ws := q') (k := ku + 1 - kv) (by omega) (by omega)).at (args := []) rfl rfl rfl rfl (objs := [some .dead, some (.vec T_uint32 [[.u32 0]]), some (.fro (Wr u')), some (.vec T_uint32 (Wr xv)), some (.vec T_uint32 (Wr q'))]) (l := 4) rfl
 have w1 := trimN_words r2 (k := kv) (by omega)
 rw [hul] at w1
 have w2 := trimN_words r4 (k := ku + 1 - kv) (by omega)
 rw [← r5, List.take_length, hQ, r5] at w2
 have hRl : (words R).length < 35184372088000 := by
  have := congrArg List.length w1
  rw [List.length_take, Int.toNat_natCast] at this
  have := trimN_le u' kv
  omega
 have hby := by_ok (E := E) (n := R) (w := f) ⟨by omega, by omega⟩ hRl
 rw [hRf, show words R = u'.take (trimN u' kv) from w1.symm, ← Wr_take] at hby
 rw [d1, d2]
 have h18 : (18446744073709551615 : Int) ≥ 0 := by decide
 by_cases hsm : m < 1000000000000000000
 · exact natural_num_divide_7 (v1 := cmpI n m) (v2 := 0) (v4 := (m : Int)) (v5 := true) (v6 := (kv : Int) - 1) (v7 := t) (v8 := t) (v9 := t + 1) (v10 := (f : Int)) (v11 := Wr (words f)) (v12 := ku) (v13 := Wr xu) (v14 := Wr (words (n * f) ++ [0])) (v15 := ku + 1) (v16 := kv) (v17 := Wr xv) (v18 := ((ku + 1 - kv : Nat) : Int)) (v19 := ku + 1 - kv) (v20 := Wr (List.replicate (ku + 1 - kv) 0)) (v21 := ((ku + 1 - kv : Nat) : Int) - 1) (v22 := Wr u') (v23 := Wr q') (v24 := (f : Int)) (v25 := true) (v26 := kv) (v27 := trimN u' kv) (v31 := trimN q' (ku + 1 - kv))
    (wi (by rw [Wr_len, ← hk]; omega)) (wu (by omega)) (wu (by omega)) (wu ⟨tdv (by omega) hf.symm, by omega, by omega⟩) (by rw [Wr_take, eu, Wr_snoc]) rfl (wi (by omega)) (Int.toNat_natCast _) (Wr_replicate _ _) (wi (by omega)) (Int.toNat_natCast _) rfl (by rw [Wr_take, w2, Int.toNat_natCast])
    (compare_ok (by omega)) (by unfold cmpI; split <;> (try split) <;> omega) (small_no hns) (small_yes hsm) (by rw [Wr_len, ← hk]; omega) (by omega) (by rw [show Int.toNat ((kv : Int) - 1) = kv - 1 by omega, et]; exact Wr_getD (by omega)) (by omega) (of_ok (by omega)) hru (by omega) hrv (by rw [Wr_len]; omega) (by omega) r1 (small_yes (by omega)) (by omega) t1 hby t2
 · exact natural_num_divide_7 (v1 := cmpI n m) (v2 := 0) (v4 := 0) (v5 := false) (v6 := (kv : Int) - 1) (v7 := t) (v8 := t) (v9 := t + 1) (v10 := (f : Int)) (v11 := Wr (words f)) (v12 := ku) (v13 := Wr xu) (v14 := Wr (words (n * f) ++ [0])) (v15 := ku + 1) (v16 := kv) (v17 := Wr xv) (v18 := ((ku + 1 - kv : Nat) : Int)) (v19 := ku + 1 - kv) (v20 := Wr (List.replicate (ku + 1 - kv) 0)) (v21 := ((ku + 1 - kv : Nat) : Int) - 1) (v22 := Wr u') (v23 := Wr q') (v24 := (f : Int)) (v25 := true) (v26 := kv) (v27 := trimN u' kv) (v31 := trimN q' (ku + 1 - kv))
    (wi (by rw [Wr_len, ← hk]; omega)) (wu (by omega)) (wu (by omega)) (wu ⟨tdv (by omega) hf.symm, by omega, by omega⟩) (by rw [Wr_take, eu, Wr_snoc]) rfl (wi (by omega)) (Int.toNat_natCast _) (Wr_replicate _ _) (wi (by omega)) (Int.toNat_natCast _) rfl (by rw [Wr_take, w2, Int.toNat_natCast])
    (compare_ok (by omega)) (by unfold cmpI; split <;> (try split) <;> omega) (small_no hns) (small_no hsm) (by rw [Wr_len, ← hk]; omega) (by omega) (by rw [show Int.toNat ((kv : Int) - 1) = kv - 1 by omega, et]; exact Wr_getD (by omega)) (by omega) (of_ok (by omega)) hru (by omega) hrv (by rw [Wr_len]; omega) (by omega) r1 (small_yes (by omega)) (by omega) t1 hby t2
end Gev
namespace Gev
open Go Gb
variable {E : Env}
def Lim : Nat := 1000000000
structure Lib (E : Env) : Prop where
 parseUint : ∀ l : List UInt8, Dg l → 1 ≤ l.length → l.length ≤ 9 → Fn E F_strconv_ParseUint [.c (.str (B l)), .c (.i64 10), .c (.i64 32)] (.tup [.c (.u64 (dval l : Int)), .undef])
 /-- what is behind a text in front of another one -/
 cutPrefix : ∀ l p : List UInt8, l.length < 10000000000000 → p.length < 10000000000000 → Fn E F_strings_CutPrefix [.c (.str (B l)), .c (.str (B p))] (.tup [.c (.str (B (if p.isPrefixOf l then l.drop p.length else l))), .c (.bool (p.isPrefixOf l))])
 /-- what is ahead of the first slash, and behind it -/
 cutYes : ∀ p q : List UInt8, (47 : UInt8) ∉ p → p.length + q.length < 4000000000 → Fn E F_strings_Cut [.c (.str (B (p ++ 47 :: q))), .c (.str (B [47]))] (.tup [.c (.str (B p)), .c (.str (B q)), .c (.bool true)])
 cutNo : ∀ p : List UInt8, (47 : UInt8) ∉ p → p.length < 4000000000 → Fn E F_strings_Cut [.c (.str (B p)), .c (.str (B [47]))] (.tup [.c (.str (B p)), .c (.str (B [])), .c (.bool false)])
 parseInt : ∀ z : Int, (decZ z).length ≤ 9 → Fn E F_strconv_ParseInt [.c (.str (B (decZ z))), .c (.i64 10), .c (.i64 64)] (.tup [.c (.i64 z), .undef])
 formatInt : ∀ z : Int, -9223372036854775808 ≤ z ∧ z ≤ 9223372036854775807 → Fn E F_strconv_FormatInt [.c (.i64 z), .c (.i64 10)] (.c (.str (B (decZ z))))
 itoa : ∀ z : Int, -9223372036854775808 ≤ z ∧ z ≤ 9223372036854775807 → Fn E F_strconv_Itoa [.c (.i64 z)] (.c (.str (B (decZ z))))
 /-- an operation of package rational, by its byte -/
 apply : ∀ (op : Int) (f : Nat), (op, f) ∈ [(43, F_rational_plus), (42, F_rational_times), (45, F_rational_operations_1), (47, F_rational_operations_2)] → ∀ (a b x1 x2 y1 y2 z1 z2 t : ByteArray), Fn E F_rational_both [.c (.str a), .c (.str b)] (.tup [.agg [.str x1, .str x2], .agg [.str y1, .str y2], .c (.i64 0)]) → (op = 47 → ¬ y1 = B [48]) →
  Fn E f [.agg [.str x1, .str x2], .agg [.str y1, .str y2]] (.agg [.str z1, .str z2]) → Fn E F_rational_frac_text [.agg [.str z1, .str z2]] (.c (.str t)) → Fn E F_rational_apply [.c (.u8 op), .c (.str a), .c (.str b)] (.tup [.c (.str t), .c (.i64 0)])
 text : ∀ n K : Nat, n < 10 ^ K → K ≤ Lim + 1 → Fn E F_natural_num_text [.c (.list (Wr (words n)))] (.c (.str (B (dec n))))
theorem pow_le_pw (K : Nat) : ((10 ^ K : Nat) : Int) ≤ pw K := by
 unfold pw
 rw [show (1000000000 : Int) ^ K = ((1000000000 ^ K : Nat) : Int) by rw [Int.natCast_pow]; rfl]
 exact Int.ofNat_le.2 (Nat.pow_le_pow_left (by decide) K)
theorem words_le {n K : Nat} (h : n < 10 ^ K) : (words n).length ≤ K := words_length_le (Int.lt_of_lt_of_le (Int.ofNat_lt.2 h) (pow_le_pw K))
theorem cmpI_lt {a b : Int} : cmpI a b < 0 ↔ a < b := by unfold cmpI; split <;> (try split) <;> omega
theorem divide_ok {m n : Nat} (hm : m ≠ 0) (hl : (words n).length < 1099511627776) : Fn E F_natural_num_divide [.c (.list (Wr (words n))), .c (.list (Wr (words m)))] (.tup [.c (.list (Wr (words (n / m)))), .c (.list (Wr (words (n % m))))]) := by
 have hc := compare_ok (E := E) (m := n) (n := m) (by omega)
 by_cases h1 : n < m
 · rw [Nat.div_eq_of_lt h1, Nat.mod_eq_of_lt h1, words_zero]
   exact natural_num_divide_0 hc (cmpI_lt.2 (by omega))
 · have hc' : ¬ cmpI n m < 0 := fun h => h1 (by have := cmpI_lt.1 h; omega)
   by_cases h2 : n < 1000000000000000000
   · have hd : n / m < 1000000000000000000 := Nat.lt_of_le_of_lt (Nat.div_le_self _ _) h2
     have hr : n % m < 1000000000000000000 := Nat.lt_of_lt_of_le (Nat.mod_lt _ (by omega)) (by omega)
     have hdz : 0 ≤ ((n / m : Nat) : Int) ∧ ((n / m : Nat) : Int) ≤ 18446744073709551615 := ⟨Int.natCast_nonneg _, by have := Int.ofNat_lt.2 hd; exact Int.le_trans (Int.le_of_lt this) (by decide)⟩
     exact natural_num_divide_1 (v6 := ((n / m : Nat) : Int)) (v8 := ((n % m : Nat) : Int)) (wu ⟨tdv (by omega) rfl, hdz⟩) (tmd (by omega) rfl) hc hc' (small_yes h2) (small_yes (by omega)) (by omega) (of_ok hd) (of_ok hr)
   · by_cases h3 : (words m).length = 1
     · have hm1 : m < 1000000000 := by
        have := val_lt (words_wd m)
        rw [words_val, h3, show pw 1 = 1000000000 by decide] at this
        omega
       have e : words m = [(m : Int)] := by
        rcases words_two (n := m) (by omega) with ⟨_, h⟩ | ⟨e, _, _⟩ | ⟨_, h⟩
        · exact absurd h hm
        · exact e
        · omega
       have hs := small_yes (E := E) (n := m) (by omega)
       have hb := by_ok (E := E) (n := n) (w := m) ⟨by omega, hm1⟩ (by omega)
       exact natural_num_divide_5 (v6 := (m : Int)) (v7 := (m : Int)) (wu (by omega)) hc hc' (small_no h2) hs (by rw [Wr_len, h3]; rfl) (by rw [e]; rfl) hb
     · have : words m ≠ [] := fun h => hm (words_nil.1 h)
       have := len_pos this
       exact divide_great (by omega) (by omega) hl h2
theorem gcd_small : ∀ (t y x : Nat), y < t → x < 1000000000000000000 → y < 1000000000000000000 → Lp E 0 F_natural_num_gcd 1 (natural_num_gcd_L1 x y) (.exit 2) (natural_num_gcd_L1e0 (Nat.gcd x y : Nat))
 | 0, y, x, h, _, _ => by omega
 | t + 1, y, x, h, hx, hy => by
  by_cases h0 : y = 0
  · subst h0
    rw [Nat.gcd_zero_right]
    exact natural_num_gcd_L1e0_x0 (by omega)
  · have hm := Nat.mod_lt x (show 0 < y by omega)
    have e : Nat.gcd x y = Nat.gcd y (x % y) := by rw [Nat.gcd_comm x y, Nat.gcd_rec y x, Nat.gcd_comm]
    rw [e]
    exact natural_num_gcd_L1_r0 (v1 := ((x % y : Nat) : Int)) (tmd (by omega) rfl) (by omega) (by omega) (gcd_small t (x % y) y (by omega) hy (by omega))
theorem gcd_loop {L : Nat} (hL : L < 1099511627776) : ∀ (t n m : Nat), n < t → (words m).length ≤ L → (words n).length ≤ L →
    (Lp E 0 F_natural_num_gcd 0 (natural_num_gcd_L0 (Wr (words m)) (Wr (words n))) .ret (natural_num_gcd_L0e0 (Wr (words (Nat.gcd m n))))) ∨
    (Lp E 0 F_natural_num_gcd 0 (natural_num_gcd_L0 (Wr (words m)) (Wr (words n))) (.exit 0) (natural_num_gcd_L0e1 (Wr (words (Nat.gcd m n)))))
 | 0, n, m, h, _, _ => by omega
 | t + 1, n, m, h, hm, hn => by
  by_cases h0 : n = 0
  · subst h0
    rw [Nat.gcd_zero_right, words_zero]
    exact .inr (natural_num_gcd_L0e1_x0 (by simp [Wr]))
  · have hpos : ((Wr (words n)).length : Int) > 0 := by
     have : words n ≠ [] := fun h => h0 (words_nil.1 h)
     have := len_pos this
     rw [Wr_len]; omega
    have hr := Nat.mod_lt m (show 0 < n by omega)
    have e : Nat.gcd m n = Nat.gcd n (m % n) := by rw [Nat.gcd_comm m n, Nat.gcd_rec n m, Nat.gcd_comm]
    have hrl : (words (m % n)).length ≤ L := Nat.le_trans ((words_tr _).length_le (words_wd _) (words_wd n) (by rw [words_val, words_val]; omega)) hn
    have hd := divide_ok (E := E) (m := n) (n := m) h0 (by omega)
    by_cases s1 : m < 1000000000000000000
    · by_cases s2 : n < 1000000000000000000
      · refine .inl (natural_num_gcd_L0e0_x0 hpos (small_yes s1) (small_yes s2) (gcd_small (n + 1) n m (by omega) s1 s2) (of_ok ?_))
        exact Nat.lt_of_le_of_lt (Nat.gcd_le_right m (by omega)) s2
      · rw [e]
        rcases gcd_loop hL t (m % n) n (by omega) hn hrl with ih | ih
        · exact .inl (natural_num_gcd_L0_r0 hpos (small_yes s1) (small_no s2) hd ih)
        · exact .inr (natural_num_gcd_L0_r0 hpos (small_yes s1) (small_no s2) hd ih)
    · rw [e]
      have hs : ∃ v b, Fn E F_natural_num_small [.c (.list (Wr (words n)))] (.tup [.c (.u64 v), .c (.bool b)]) := by
       by_cases s2 : n < 1000000000000000000
       · exact ⟨_, _, small_yes s2⟩
       · exact ⟨_, _, small_no s2⟩
      obtain ⟨v, b, hs⟩ := hs
      rcases gcd_loop hL t (m % n) n (by omega) hn hrl with ih | ih
      · exact .inl (natural_num_gcd_L0_r1 hpos (small_no s1) hs hd ih)
      · exact .inr (natural_num_gcd_L0_r1 hpos (small_no s1) hs hd ih)
theorem gcd_ok {m n L : Nat} (hL : L < 1099511627776) (hm : (words m).length ≤ L) (hn : (words n).length ≤ L) : Fn E F_natural_num_gcd [.c (.list (Wr (words m))), .c (.list (Wr (words n)))] (.c (.list (Wr (words (Nat.gcd m n))))) := by
 rcases gcd_loop (E := E) hL (n + 1) n m (by omega) hm hn with h | h
 · exact natural_num_gcd_0 h
 · exact natural_num_gcd_1 h
def isDig (c : UInt8) : Bool := decide (48 ≤ c.toNat) && decide (c.toNat ≤ 57)
def natB (l : List UInt8) : Bool := !l.isEmpty && l.all isDig && (decide (l.length ≤ 1) || !(l.head? == some 48))
theorem isDig_iff {c : UInt8} : isDig c = true ↔ 48 ≤ c.toNat ∧ c.toNat ≤ 57 := by simp [isDig]
theorem isDig_false {c : UInt8} (h : c.toNat < 48 ∨ 57 < c.toNat) : isDig c = false := by
 cases hb : isDig c with
 | false => rfl
 | true => have := isDig_iff.1 hb; omega
theorem natB_iff {l : List UInt8} : natB l = true ↔ IsNat l := by
 unfold natB IsNat Dg
 simp only [Bool.and_eq_true, Bool.not_eq_true', List.isEmpty_eq_false_iff, List.all_eq_true, isDig_iff, Bool.or_eq_true, decide_eq_true_eq, beq_eq_false_iff_ne, and_assoc]
 constructor
 · rintro ⟨h1, h2, h3⟩
   exact ⟨h1, h2, fun h => h3.resolve_left (by omega)⟩
 · rintro ⟨h1, h2, h3⟩
   refine ⟨h1, h2, ?_⟩
   by_cases h : l.length ≤ 1
   · exact .inl h
   · exact .inr (h3 (by omega))
theorem natB_dec (n : Nat) : natB (dec n) = true := natB_iff.2 (dec_isNat n)
theorem byte_at (l : List UInt8) (i : Nat) : (((B l).data.toList.getD (Int.toNat (i : Int)) 0).toNat : Int) = ((l.getD i 0).toNat : Int) := by rw [B_list, Int.toNat_natCast]
theorem valid_loop (l : List UInt8) (hl : l.length < 9223372036854775807) : ∀ d i : Nat, i + d = l.length →
    ((l.drop i).all isDig = true ∧ Lp E 0 F_natural_Valid 0 (natural_Valid_L0 (B l) l.length i) (.exit 0) natural_Valid_L0e1) ∨
    ((l.drop i).all isDig = false ∧ Lp E 0 F_natural_Valid 0 (natural_Valid_L0 (B l) l.length i) .ret natural_Valid_L0e0)
 | 0, i, hi => .inl ⟨by rw [List.drop_eq_nil_of_le (by omega)]; rfl, natural_Valid_L0e1_x0 (by omega)⟩
 | d + 1, i, hi => by
  have hd : l.drop i = l.getD i 0 :: l.drop (i + 1) := by
   rw [List.drop_eq_getElem_cons (by omega), List.getD_eq_getElem?_getD, List.getElem?_eq_getElem (by omega)]; rfl
  have hlt : 0 ≤ (i : Int) ∧ (i : Int) < (B l).size := by rw [B_size]; omega
  rw [hd, List.all_cons]
  by_cases c1 : (l.getD i 0).toNat < 48
  · have : isDig (l.getD i 0) = false := isDig_false (by omega)
    exact .inr ⟨by rw [this]; rfl, natural_Valid_L0e0_x0 (byte_at l i) (by omega) hlt (by omega)⟩
  · by_cases c2 : (l.getD i 0).toNat > 57
    · have : isDig (l.getD i 0) = false := isDig_false (by omega)
      exact .inr ⟨by rw [this]; rfl, natural_Valid_L0e0_x1 (byte_at l i) (by omega) hlt (by omega) (by omega)⟩
    · have : isDig (l.getD i 0) = true := isDig_iff.2 (by omega)
      rw [this, Bool.true_and]
      rcases valid_loop l hl d (i + 1) (by omega) with ⟨h1, h2⟩ | ⟨h1, h2⟩
      · exact .inl ⟨h1, natural_Valid_L0_r0 (byte_at l i) (wi (by omega)) (by omega) hlt (by omega) (by omega) h2⟩
      · exact .inr ⟨h1, natural_Valid_L0_r0 (byte_at l i) (wi (by omega)) (by omega) hlt (by omega) (by omega) h2⟩
theorem B_ne_nil {l : List UInt8} (h : l ≠ []) : ¬ B l = (⟨#[]⟩ : ByteArray) := fun e => h (B_inj (e.trans B_nil.symm))
theorem natural_Valid_ok (l : List UInt8) (hl : l.length < 9223372036854775807) : Fn E F_natural_Valid [.c (.str (B l))] (.c (.bool (natB l))) := by
 cases l with
 | nil => exact natural_Valid_0 B_nil
 | cons c m =>
  have hne := B_ne_nil (l := c :: m) (by simp)
  have h0 : (((B (c :: m)).data.toList.getD 0 0).toNat : Int) = (c.toNat : Int) := by rw [B_list]; rfl
  have hloop := valid_loop (E := E) (c :: m) hl (c :: m).length 0 (by omega)
  simp only [List.drop_zero] at hloop
  by_cases h1 : 1 < (c :: m).length
  · have hlt : 0 ≤ (0 : Int) ∧ (0 : Int) < (B (c :: m)).size := by rw [B_size]; omega
    by_cases h2 : c.toNat = 48
    · have hc : c = 48 := UInt8.toNat_inj.1 h2
      have e : natB (c :: m) = false := by
       unfold natB
       have : decide ((c :: m).length ≤ 1) = false := decide_eq_false (by omega)
       rw [this]; subst hc; simp
      rw [e]
      exact natural_Valid_1 h0 hne (by rw [B_size]; omega) hlt (by omega)
    · have hc : ¬ c = 48 := fun e => h2 (by rw [e]; rfl)
      have e : natB (c :: m) = (c :: m).all isDig := by
       unfold natB
       have : ((c :: m).head? == some 48) = false := by simp [hc]
       rw [this]; simp
      rw [e]
      rcases hloop with ⟨g1, g2⟩ | ⟨g1, g2⟩
      · rw [g1]; exact natural_Valid_3 h0 hne (by rw [B_size]; omega) hlt (by omega) (by rw [B_size]; exact g2)
      · rw [g1]; exact natural_Valid_2 h0 hne (by rw [B_size]; omega) hlt (by omega) (by rw [B_size]; exact g2)
  · have e : natB (c :: m) = (c :: m).all isDig := by
     unfold natB
     have : decide ((c :: m).length ≤ 1) = true := decide_eq_true (by omega)
     rw [this]; simp
    rw [e]
    rcases hloop with ⟨g1, g2⟩ | ⟨g1, g2⟩
    · rw [g1]; exact natural_Valid_5 hne (by rw [B_size]; omega) (by rw [B_size]; exact g2)
    · rw [g1]; exact natural_Valid_4 hne (by rw [B_size]; omega) (by rw [B_size]; exact g2)
theorem Dg.take {l : List UInt8} (h : Dg l) (n : Nat) : Dg (l.take n) := fun c hc => h c (List.mem_of_mem_take hc)
theorem Dg.drop {l : List UInt8} (h : Dg l) (n : Nat) : Dg (l.drop n) := fun c hc => h c (List.mem_of_mem_drop hc)
theorem ten_nine : (10 : Nat) ^ 9 = 1000000000 := by decide
theorem read_loop (hlib : Lib E) {l : List UInt8} (hd : Dg l) (hl : l.length < 10000000000000) : ∀ (t i : Nat) (ws : List Int) (n : Nat), n ≤ t → n ≤ l.length → 9 * i ≤ l.length + 8 → ws.length = i → (0 < n → n + 9 * i = l.length) → Wd ws → wv ws + pw i * (dval (l.take n) : Int) = dval l →
    ∃ ws', Lp E 0 F_natural_read 0 (natural_read_L0 (B (l.take n)) i (Wr ws)) (.exit 0) (natural_read_L0e0 ws'.length (Wr ws')) ∧ Wd ws' ∧ wv ws' = dval l ∧ ws'.length ≤ l.length + 8
 | t, i, ws, 0, _, _, hi, hw, _, hwd, hv => by
  rw [List.take_zero, show dval [] = 0 from rfl] at hv
  exact ⟨ws, by rw [hw]; exact natural_read_L0e0_x0 (by rw [B_size]; simp), hwd, by simpa using hv, by omega⟩
 | 0, i, ws, n + 1, h, _, _, _, _, _, _ => by omega
 | t + 1, i, ws, n + 1, hn, hnl, hi, hw, hni, hwd, hv => by
  obtain ⟨at', ha⟩ : ∃ a, a = n + 1 - 9 := ⟨_, rfl⟩
  have hlen : (l.take (n + 1)).length = n + 1 := by simp; omega
  obtain ⟨p, hp⟩ : ∃ p, p = (l.take (n + 1)).drop at' := ⟨_, rfl⟩
  have hpd : Dg p := by rw [hp]; exact Dg.drop (Dg.take hd _) _
  have hpl : p.length = n + 1 - at' := by rw [hp, List.length_drop, hlen]
  have hval : dval p < 1000000000 := by
   have := dval_lt hpd
   have h9 : (10 : Nat) ^ p.length ≤ 10 ^ 9 := Nat.pow_le_pow_right (by decide) (by omega)
   rw [ten_nine] at h9
   omega
  have hsplit : l.take (n + 1) = l.take at' ++ p := by
   rw [hp]
   have := (List.take_append_drop at' (l.take (n + 1))).symm
   rwa [List.take_take, Nat.min_eq_left (by omega)] at this
  have hvs : wv (ws ++ [(dval p : Int)]) + pw (i + 1) * (dval (l.take at') : Int) = dval l := by
   rw [val_snoc, hw, pw_succ]
   rw [hsplit, dval_append] at hv
   by_cases h9 : p.length = 9
   · rw [h9, ten_nine] at hv
     have e : ((dval (l.take at') * 1000000000 + dval p : Nat) : Int) = 1000000000 * (dval (l.take at') : Int) + dval p := by omega
     rw [e] at hv
     grind
   · have : at' = 0 := by omega
     subst this
     rw [List.take_zero, show dval [] = 0 from rfl] at hv ⊢
     rw [show ((0 * 10 ^ p.length + dval p : Nat) : Int) = (dval p : Int) by simp] at hv
     simp
     omega
  obtain ⟨ws', k1, k2, k3, k4⟩ := read_loop hlib hd hl t (i + 1) (ws ++ [(dval p : Int)]) at' (by omega) (by omega) (by omega) (by simp [hw]) (by omega) (hwd.append (Wd.cons (by omega) (by omega) Wd.nil)) hvs
  refine ⟨ws', ?_, k2, k3, k4⟩
  have hsz : ((B (l.take (n + 1))).size : Int) = ((n + 1 : Nat) : Int) := by rw [B_size, hlen]
  refine natural_read_L0_r0 (v1 := ((n + 1 : Nat) : Int) - 9) (v2 := (at' : Int)) (v3 := B p) (v4 := (dval p : Int)) (v5 := (dval p : Int)) (v6 := Wr (ws ++ [(dval p : Int)])) (v7 := i + 1) (v8 := B (l.take at'))
   (wi (by rw [hsz]; omega)) (by split <;> omega) (by rw [hsz, Int.toNat_natCast, Int.toNat_natCast, B_extract, List.take_of_length_le (by omega), hp]) (w32 (by omega)) (by rw [Wr_take, ← hw, List.take_length, Wr_snoc]) rfl (by rw [Int.toNat_natCast, B_extract, List.drop_zero, List.take_take, Nat.min_eq_left (by omega)])
   (by rw [hsz]; omega) (by rw [B_size, hlen]; omega) (hlib.parseUint p hpd (by omega) (by omega)) (by omega) (by rw [B_size, hlen]; omega) k1
theorem read_ok (hlib : Lib E) {l : List UInt8} (hd : Dg l) (hl : l.length < 10000000000000) : Fn E F_natural_read [.c (.str (B l))] (.c (.list (Wr (words (dval l))))) := by
 obtain ⟨ws, k1, k2, k3, k4⟩ := read_loop (E := E) hlib hd hl l.length 0 [] l.length (Nat.le_refl _) (Nat.le_refl _) (by omega) rfl (by omega) Wd.nil (by rw [List.take_length, pw_zero]; simp [wv])
 rw [List.take_length] at k1
 have h := trimN_words k2 (k := ws.length) (Nat.le_refl _)
 rw [List.take_length, k3, Int.toNat_natCast] at h
 exact natural_read_0 (by rw [Wr_take, h]) k1 (trim_run (Nat.le_refl _) (by omega))
theorem dec_le {n K : Nat} (h : n < 10 ^ K) : (dec n).length ≤ K + 1 := by
 rcases Nat.eq_zero_or_pos K with rfl | hK
 · have : n = 0 := by simpa using h
   subst this; rw [dec_zero]; simp
 · exact Nat.le_succ_of_le (dec_length h hK)
theorem Lim_val : Lim = 1000000000 := rfl
theorem both_ok (hlib : Lib E) {a b K L : Nat} (ha : a < 10 ^ K) (hb : b < 10 ^ L) (hK : K ≤ Lim) (hL : L ≤ Lim) : Fn E F_natural_both [.c (.str (B (dec a))), .c (.str (B (dec b)))] (.tup [.c (.list (Wr (words a))), .c (.list (Wr (words b))), .c (.i64 0)]) := by
 have h1 := dec_le ha
 have h2 := dec_le hb
 rw [Lim_val] at hK hL
 have v1 := natural_Valid_ok (E := E) (dec a) (by omega)
 have v2 := natural_Valid_ok (E := E) (dec b) (by omega)
 have r1 := read_ok hlib (dec_dg a) (by omega)
 have r2 := read_ok hlib (dec_dg b) (by omega)
 rw [natB_dec] at v1 v2
 rw [dval_dec] at r1 r2
 exact natural_both_0 v1 v2 r1 r2
theorem natural_Compare_ok (hlib : Lib E) {a b K L : Nat} (ha : a < 10 ^ K) (hb : b < 10 ^ L) (hK : K ≤ Lim) (hL : L ≤ Lim) : Fn E F_natural_Compare [.c (.str (B (dec a))), .c (.str (B (dec b)))] (.tup [.c (.i64 (cmpI a b)), .c (.i64 0)]) := by
 have w1 := words_le ha
 have hK' := hK
 rw [Lim_val] at hK'
 exact natural_Compare_1 (both_ok hlib ha hb hK hL) rfl (compare_ok (by omega))
theorem pow_mono_lt {a K M : Nat} (h : a < 10 ^ K) (k : K ≤ M) : a < 10 ^ M := Nat.lt_of_lt_of_le h (Nat.pow_le_pow_right (by decide) k)
theorem add_lt_pow {a b K : Nat} (h : a < 10 ^ K) (k : b < 10 ^ K) : a + b < 10 ^ (K + 1) := by rw [Nat.pow_succ]; omega
theorem natural_Add_ok (hlib : Lib E) {a b K L : Nat} (ha : a < 10 ^ K) (hb : b < 10 ^ L) (hK : K ≤ Lim) (hL : L ≤ Lim) : Fn E F_natural_Add [.c (.str (B (dec a))), .c (.str (B (dec b)))] (.tup [.c (.str (B (dec (a + b)))), .c (.i64 0)]) := by
 have w1 := words_le ha
 have w2 := words_le hb
 have hK' := hK
 have hL' := hL
 rw [Lim_val] at hK' hL'
 have hs := add_lt_pow (pow_mono_lt ha (show K ≤ max K L by omega)) (pow_mono_lt hb (show L ≤ max K L by omega))
 exact natural_Add_1 (both_ok hlib ha hb hK hL) rfl (natural_apply__natural_num_plus_0 (plus_ok (by omega) (by omega)) (hlib.text _ _ hs (by omega)))
theorem natural_Sub_ok (hlib : Lib E) {a b K L : Nat} (ha : a < 10 ^ K) (hb : b < 10 ^ L) (hK : K ≤ Lim) (hL : L ≤ Lim) (hab : b ≤ a) : Fn E F_natural_Sub [.c (.str (B (dec a))), .c (.str (B (dec b)))] (.tup [.c (.str (B (dec (a - b)))), .c (.i64 0)]) := by
 have w1 := words_le ha
 have hK' := hK
 rw [Lim_val] at hK'
 exact natural_Sub_2 (both_ok hlib ha hb hK hL) rfl (compare_ok (by omega)) (fun h => by have := cmpI_lt.1 h; omega) (natural_apply__natural_num_minus_0 (minus_ok (by omega) hab) (hlib.text _ _ (Nat.lt_of_le_of_lt (Nat.sub_le _ _) ha) (by omega)))
theorem natural_Mul_ok (hlib : Lib E) {a b K L : Nat} (ha : a < 10 ^ K) (hb : b < 10 ^ L) (hKL : K + L ≤ Lim) : Fn E F_natural_Mul [.c (.str (B (dec a))), .c (.str (B (dec b)))] (.tup [.c (.str (B (dec (a * b)))), .c (.i64 0)]) := by
 have w1 := words_le ha
 have w2 := words_le hb
 have hK' := hKL
 rw [Lim_val] at hK'
 exact natural_Mul_1 (both_ok hlib ha hb (by omega) (by omega)) rfl (natural_apply__natural_num_times_0 (times_fn (by omega)) (hlib.text _ _ (mul_lt_pow ha hb) (by omega)))
theorem natural_DivMod_ok (hlib : Lib E) {a b K L : Nat} (ha : a < 10 ^ K) (hb : b < 10 ^ L) (hK : K ≤ Lim) (hL : L ≤ Lim) (h0 : b ≠ 0) : Fn E F_natural_DivMod [.c (.str (B (dec a))), .c (.str (B (dec b)))] (.tup [.c (.str (B (dec (a / b)))), .c (.str (B (dec (a % b)))), .c (.i64 0)]) := by
 have w1 := words_le ha
 have hK' := hK
 rw [Lim_val] at hK'
 have hne : ((Wr (words b)).length : Int) ≠ 0 := by
  have : words b ≠ [] := fun h => h0 (words_nil.1 h)
  have := len_pos this
  rw [Wr_len]; omega
 exact natural_DivMod_2 (both_ok hlib ha hb hK hL) rfl hne (divide_ok h0 (by omega)) (hlib.text _ _ (Nat.lt_of_le_of_lt (Nat.div_le_self _ _) ha) (by omega)) (hlib.text _ _ (Nat.lt_of_le_of_lt (Nat.mod_le _ _) ha) (by omega))
theorem natural_GCD_ok (hlib : Lib E) {a b K L : Nat} (ha : a < 10 ^ K) (hb : b < 10 ^ L) (hK : K ≤ Lim) (hL : L ≤ Lim) (hp : 0 < a ∨ 0 < b) : Fn E F_natural_GCD [.c (.str (B (dec a))), .c (.str (B (dec b)))] (.tup [.c (.str (B (dec (Nat.gcd a b)))), .c (.i64 0)]) := by
 have w1 := words_le ha
 have w2 := words_le hb
 have hK' := hK
 have hL' := hL
 rw [Lim_val] at hK' hL'
 have hg : Nat.gcd a b < 10 ^ max K L := by
  rcases hp with h | h
  · exact Nat.lt_of_le_of_lt (Nat.gcd_le_left b h) (pow_mono_lt ha (by omega))
  · exact Nat.lt_of_le_of_lt (Nat.gcd_le_right a h) (pow_mono_lt hb (by omega))
 exact natural_GCD_1 (both_ok hlib ha hb hK hL) rfl (natural_apply__natural_num_gcd_0 (gcd_ok (L := max K L) (by omega) (by omega) (by omega)) (hlib.text _ _ hg (by omega)))
end Gev
namespace Gev
open Go Gb
variable {E : Env}
theorem B_beq (l m : List UInt8) : (B l == B m) = (l == m) := by
 rw [beq_toListBytes, toList_eq, toList_eq, B_list, B_list]
theorem B48 : (⟨#[48]⟩ : ByteArray) = B [48] := rfl
theorem B45 : (⟨#[45]⟩ : ByteArray) = B [45] := rfl
theorem B49 : (⟨#[49]⟩ : ByteArray) = B [49] := rfl
theorem dec_one' : B [49] = B (dec 1) := by rw [dec_one]
def Zc (z : Int) : List DV := [.bool (decide (z < 0)), .str (B (dec z.natAbs))]
def intB (l : List UInt8) : Bool := if [45].isPrefixOf l then natB (l.drop 1) && !(l.drop 1 == [48]) else natB l
theorem pre45 (c : UInt8) (m : List UInt8) : [45].isPrefixOf (c :: m) = (c == 45) := by
 show ((45 : UInt8) == c && [].isPrefixOf m) = (c == 45)
 simp [Bool.beq_eq_decide_eq, eq_comm]
theorem intB_iff {l : List UInt8} : intB l = true ↔ IsInt l := by
 unfold intB IsInt
 cases l with
 | nil =>
  show natB [] = true ↔ _
  constructor
  · intro h; exact absurd h (by decide)
  · rintro (h | ⟨m, h, _⟩)
    · exact absurd rfl h.1
    · cases h
 | cons c m =>
  rw [pre45]
  by_cases hc : c = 45
  · subst hc
    simp only [beq_self_eq_true, if_true, List.drop_succ_cons, List.drop_zero, Bool.and_eq_true, Bool.not_eq_true', beq_eq_false_iff_ne, natB_iff]
    constructor
    · rintro ⟨h1, h2⟩; exact .inr ⟨m, rfl, h1, h2⟩
    · rintro (h | ⟨m', h, h1, h2⟩)
      · have := h.2.1 45 (by simp)
        exact absurd this.1 (by decide)
      · cases h; exact ⟨h1, h2⟩
  · simp only [beq_eq_false_iff_ne.2 hc, Bool.false_eq_true, if_false, natB_iff]
    constructor
    · exact .inl
    · rintro (h | ⟨m', h, _⟩)
      · exact h
      · cases h; exact absurd rfl hc
theorem intB_decZ (z : Int) : intB (decZ z) = true := intB_iff.2 (decZ_isInt z)
theorem read_int (hlib : Lib E) {l : List UInt8} (hl : l.length < 10000000000000) : Fn E F_integer_read [.c (.str (B l))] (.tup [.agg [.bool ([45].isPrefixOf l), .str (B (if [45].isPrefixOf l then l.drop 1 else l))], .c (.bool (intB l))]) := by
 have hc := hlib.cutPrefix l [45] hl (by decide)
 unfold intB
 cases hb : [45].isPrefixOf l with
 | true =>
  rw [hb] at hc
  simp only [if_true, List.length_singleton] at hc ⊢
  have hv := natural_Valid_ok (E := E) (l.drop 1) (by simp; omega)
  cases hn : natB (l.drop 1) with
  | true =>
   rw [hn] at hv
   by_cases h48 : l.drop 1 = [48]
   · rw [h48, show (true && !([48] == ([48] : List UInt8))) = false from rfl]
     rw [h48] at hc hv
     exact integer_read_1 hc hv (by rw [B48, B_beq]; rfl)
   · rw [show (true && !(l.drop 1 == [48])) = true by rw [beq_eq_false_iff_ne.2 h48]; rfl]
     exact integer_read_0 hc hv (by rw [B48, B_beq, beq_eq_false_iff_ne.2 h48]; rfl)
  | false =>
   rw [hn] at hv
   rw [Bool.false_and]
   exact integer_read_2 hc hv
 | false =>
  rw [hb] at hc
  simp only [Bool.false_eq_true, if_false] at hc ⊢
  have hv := natural_Valid_ok (E := E) l (by omega)
  cases hn : natB l with
  | true => rw [hn] at hv; exact integer_read_0 hc hv rfl
  | false => rw [hn] at hv; exact integer_read_2 hc hv
theorem decZ_pre (z : Int) : [45].isPrefixOf (decZ z) = decide (z < 0) ∧ (if [45].isPrefixOf (decZ z) then (decZ z).drop 1 else decZ z) = dec z.natAbs := by
 by_cases h : z < 0
 · rw [decZ_neg h, pre45]; simp [h]
 · rw [decZ_nonneg (by omega)]
   have : [45].isPrefixOf (dec z.natAbs) = false := by
    cases hd : dec z.natAbs with
    | nil => rfl
    | cons c m =>
     rw [pre45]
     refine beq_eq_false_iff_ne.2 fun e => ?_
     have := dec_dg z.natAbs c (by rw [hd]; simp)
     rw [e] at this
     exact absurd this.1 (by decide)
   rw [this]; simp [h]
theorem read_decZ (hlib : Lib E) {z : Int} (hl : (decZ z).length < 10000000000000) : Fn E F_integer_read [.c (.str (B (decZ z)))] (.tup [.agg (Zc z), .c (.bool true)]) := by
 have := read_int hlib hl
 rw [(decZ_pre z).2, (decZ_pre z).1, intB_decZ] at this
 exact this
theorem decZ_le {z : Int} {K : Nat} (h : z.natAbs < 10 ^ K) : (decZ z).length ≤ K + 2 := by
 have := dec_le h
 unfold decZ
 split <;> simp <;> omega
theorem integer_Valid_ok (hlib : Lib E) {l : List UInt8} (hl : l.length < 10000000000000) : Fn E F_integer_Valid [.c (.str (B l))] (.c (.bool (intB l))) := integer_Valid_0 (read_int hlib hl)
theorem both_int (hlib : Lib E) {a b : Int} {K L : Nat} (ha : a.natAbs < 10 ^ K) (hb : b.natAbs < 10 ^ L) (hK : K ≤ Lim) (hL : L ≤ Lim) : Fn E F_integer_both [.c (.str (B (decZ a))), .c (.str (B (decZ b)))] (.tup [.agg (Zc a), .agg (Zc b), .c (.i64 0)]) := by
 have h1 := decZ_le ha
 have h2 := decZ_le hb
 rw [Lim_val] at hK hL
 exact integer_both_0 (read_decZ hlib (by omega)) (read_decZ hlib (by omega))
theorem one_int (hlib : Lib E) {a : Int} {K : Nat} (ha : a.natAbs < 10 ^ K) (hK : K ≤ Lim) : Fn E F_integer_one [.c (.str (B (decZ a)))] (.tup [.agg (Zc a), .c (.i64 0)]) := by
 have := both_int hlib ha (show (0 : Int).natAbs < 10 ^ 1 by decide) hK (by rw [Lim_val]; omega)
 rw [decZ_zero] at this
 exact integer_one_0 this
def sgn (neg : Bool) (n : Nat) : Int := if neg then -(n : Int) else n
theorem with_ok (neg : Bool) (n : Nat) : Fn E F_integer_with [.c (.bool neg), .c (.str (B (dec n)))] (.agg (Zc (sgn neg n))) := by
 cases neg with
 | false =>
  have : Zc (sgn false n) = [.bool false, .str (B (dec n))] := by unfold Zc sgn; simp
  rw [this]; exact integer_with_2
 | true =>
  by_cases h : n = 0
  · subst h
    have : Zc (sgn true 0) = [.bool false, .str (B (dec 0))] := by unfold Zc sgn; simp
    rw [this]; exact integer_with_1 (by rw [B48, dec_zero])
  · have : Zc (sgn true n) = [.bool true, .str (B (dec n))] := by
     unfold Zc sgn
     simp only [if_true, Int.natAbs_neg, Int.natAbs_natCast]
     rw [decide_eq_true (by omega)]
    rw [this]
    exact integer_with_0 (fun e => h (by rw [B48] at e; exact dec_eq_zero.1 (B_inj e)))
theorem text_int {z : Int} {K : Nat} (hz : z.natAbs < 10 ^ K) (hK : K ≤ Lim + Lim) : Fn E F_integer_number_text [.agg (Zc z)] (.c (.str (B (decZ z)))) := by
 have h1 := dec_le hz
 rw [Lim_val] at hK
 by_cases h : z < 0
 · have : Zc z = [.bool true, .str (B (dec z.natAbs))] := by unfold Zc; rw [decide_eq_true h]
   rw [this, decZ_neg h]
   exact integer_number_text_0 (by rw [B45, B_append]; rfl) (by rw [B45, B_size, B_size]; simp; omega)
 · have : Zc z = [.bool false, .str (B (dec z.natAbs))] := by unfold Zc; rw [decide_eq_false h]
   rw [this, decZ_nonneg (by omega)]
   exact integer_number_text_1
theorem opposite_ok (z : Int) : Fn E F_integer_number_opposite [.agg (Zc z)] (.agg (Zc (-z))) := by
 have := with_ok (E := E) (!decide (z < 0)) z.natAbs
 have e : sgn (!decide (z < 0)) z.natAbs = -z := by unfold sgn; split <;> rename_i h <;> simp at h <;> omega
 rw [e] at this
 exact integer_number_opposite_0 this
theorem zero_int : Fn E F_integer_zero [] (.agg [.bool false, .str (B [48])]) := integer_zero_0
theorem isZero (z : Int) : ((decide (z < 0) == false) && ((B (dec z.natAbs) == B [48]) && true)) = decide (z = 0) := by
 rw [B_beq]
 by_cases h : z = 0
 · subst h; rw [decide_eq_true rfl]; simp [dec_zero]
 · rw [decide_eq_false h]
   have : (dec z.natAbs == [48]) = false := beq_eq_false_iff_ne.2 fun e => h (by have := dec_eq_zero.1 e; omega)
   rw [this]; simp
theorem sign_int (z : Int) : Fn E F_integer_number_sign [.agg (Zc z)] (.c (.i64 (cmpI z 0))) := by
 have hz := isZero z
 by_cases h : z = 0
 · rw [decide_eq_true h] at hz
   rw [cmpI_eq h]
   exact integer_number_sign_0 zero_int hz
 · rw [decide_eq_false h] at hz
   by_cases h1 : z < 0
   · have e : cmpI z 0 = -1 := by unfold cmpI; rw [if_pos h1]
     have : Zc z = [.bool true, .str (B (dec z.natAbs))] := by unfold Zc; rw [decide_eq_true h1]
     rw [e, this]
     exact integer_number_sign_1 zero_int rfl
   · have e : cmpI z 0 = 1 := by unfold cmpI; rw [if_neg h1, if_pos (by omega)]
     have : Zc z = [.bool false, .str (B (dec z.natAbs))] := by unfold Zc; rw [decide_eq_false h1]
     rw [e, this]
     rw [decide_eq_false h1] at hz
     exact integer_number_sign_2 zero_int hz
theorem sum_int (hlib : Lib E) {a b : Int} {K L : Nat} (ha : a.natAbs < 10 ^ K) (hb : b.natAbs < 10 ^ L) (hK : K ≤ Lim) (hL : L ≤ Lim) (hs : decide (a < 0) = decide (b < 0)) : Fn E F_integer_sum [.agg (Zc a), .agg (Zc b)] (.agg (Zc (a + b))) := by
 have h := natural_Add_ok hlib ha hb hK hL
 have hw := with_ok (E := E) (decide (a < 0)) (a.natAbs + b.natAbs)
 have e : sgn (decide (a < 0)) (a.natAbs + b.natAbs) = a + b := by
  unfold sgn
  rw [decide_eq_decide] at hs
  by_cases c : a < 0
  · have := hs.1 c; rw [decide_eq_true c, if_pos rfl]; omega
  · have : ¬ b < 0 := fun x => c (hs.2 x)
    rw [decide_eq_false c, if_neg (by simp)]; omega
 rw [e] at hw
 exact integer_sum_0 h hw
theorem difference_int (hlib : Lib E) {a b : Int} {K L : Nat} (ha : a.natAbs < 10 ^ K) (hb : b.natAbs < 10 ^ L) (hK : K ≤ Lim) (hL : L ≤ Lim) (hs : decide (a < 0) ≠ decide (b < 0)) : Fn E F_integer_difference [.agg (Zc a), .agg (Zc b)] (.agg (Zc (a + b))) := by
 have hc := natural_Compare_ok hlib ha hb hK hL
 have hs' : ¬ (a < 0 ↔ b < 0) := fun h => hs (decide_eq_decide.2 h)
 by_cases c : a.natAbs < b.natAbs
 · have h := natural_Sub_ok hlib hb ha hL hK (by omega)
   have hw := with_ok (E := E) (decide (b < 0)) (b.natAbs - a.natAbs)
   have e : sgn (decide (b < 0)) (b.natAbs - a.natAbs) = a + b := by
    unfold sgn
    by_cases d : b < 0
    · have : ¬ a < 0 := fun x => hs' ⟨fun _ => d, fun _ => x⟩
      rw [decide_eq_true d, if_pos rfl]; omega
    · have : a < 0 := Classical.byContradiction fun x => hs' ⟨fun y => absurd y x, fun y => absurd y d⟩
      rw [decide_eq_false d, if_neg (by simp)]; omega
   rw [e] at hw
   exact integer_difference_0 hc (cmpI_lt.2 (by omega)) h hw
 · have h := natural_Sub_ok hlib ha hb hK hL (by omega)
   have hw := with_ok (E := E) (decide (a < 0)) (a.natAbs - b.natAbs)
   have e : sgn (decide (a < 0)) (a.natAbs - b.natAbs) = a + b := by
    unfold sgn
    by_cases d : a < 0
    · have : ¬ b < 0 := fun x => hs' ⟨fun _ => x, fun _ => d⟩
      rw [decide_eq_true d, if_pos rfl]; omega
    · have : b < 0 := Classical.byContradiction fun x => hs' ⟨fun y => absurd y d, fun y => absurd y x⟩
      rw [decide_eq_false d, if_neg (by simp)]; omega
   rw [e] at hw
   exact integer_difference_1 hc (fun x => c (by have := cmpI_lt.1 x; omega)) h hw
theorem bit_ok (b : Bool) : Fn E F_integer_bit [.c (.bool b)] (.c (.i64 (if b then 1 else 0))) := by
 cases b
 · exact integer_bit_1
 · exact integer_bit_0
theorem plus_int (hlib : Lib E) {a b : Int} {K L : Nat} (ha : a.natAbs < 10 ^ K) (hb : b.natAbs < 10 ^ L) (hK : K ≤ Lim) (hL : L ≤ Lim) : Fn E F_integer_number_plus [.agg (Zc a), .agg (Zc b)] (.agg (Zc (a + b))) := by
 have b1 := bit_ok (E := E) (decide (a < 0))
 have b2 := bit_ok (E := E) (decide (b < 0))
 by_cases hs : decide (a < 0) = decide (b < 0)
 · have h := sum_int hlib ha hb hK hL hs
   cases c : decide (a < 0) with
   | true =>
    rw [c] at b1 hs; rw [← hs] at b2
    simp only [Zc] at h ⊢; rw [c, ← hs] at h ⊢
    exact integer_number_plus_3 b1 b2 h
   | false =>
    rw [c] at b1 hs; rw [← hs] at b2
    simp only [Zc] at h ⊢; rw [c, ← hs] at h ⊢
    exact integer_number_plus_0 b1 b2 h
 · have h := difference_int hlib ha hb hK hL hs
   cases c : decide (a < 0) with
   | true =>
    have d : decide (b < 0) = false := by rw [c] at hs; cases x : decide (b < 0) with | true => exact absurd x.symm hs | false => rfl
    rw [c] at b1; rw [d] at b2
    simp only [Zc] at h ⊢; rw [c, d] at h ⊢
    exact integer_number_plus_2 b1 b2 h
   | false =>
    have d : decide (b < 0) = true := by rw [c] at hs; cases x : decide (b < 0) with | false => exact absurd x.symm hs | true => rfl
    rw [c] at b1; rw [d] at b2
    simp only [Zc] at h ⊢; rw [c, d] at h ⊢
    exact integer_number_plus_1 b1 b2 h
theorem times_int (hlib : Lib E) {a b : Int} {K L : Nat} (ha : a.natAbs < 10 ^ K) (hb : b.natAbs < 10 ^ L) (hKL : K + L ≤ Lim) : Fn E F_integer_number_times [.agg (Zc a), .agg (Zc b)] (.agg (Zc (a * b))) := by
 have h := natural_Mul_ok hlib ha hb hKL
 have hw := with_ok (E := E) (!(decide (a < 0) == decide (b < 0))) (a.natAbs * b.natAbs)
 have e : sgn (!(decide (a < 0) == decide (b < 0))) (a.natAbs * b.natAbs) = a * b := by
  unfold sgn
  have ea : (a.natAbs : Int) = if a < 0 then -a else a := by split <;> omega
  have eb : (b.natAbs : Int) = if b < 0 then -b else b := by split <;> omega
  rw [Int.natCast_mul, ea, eb]
  by_cases c : a < 0 <;> by_cases d : b < 0 <;> simp [c, d] <;> grind
 rw [e] at hw
 exact integer_number_times_0 rfl h hw
theorem abs_add_lt {a b : Int} {K : Nat} (ha : a.natAbs < 10 ^ K) (hb : b.natAbs < 10 ^ K) : (a + b).natAbs < 10 ^ (K + 1) := by
 have := Int.natAbs_add_le a b
 rw [Nat.pow_succ]; omega
theorem integer_Add_ok (hlib : Lib E) {a b : Int} {K L : Nat} (ha : a.natAbs < 10 ^ K) (hb : b.natAbs < 10 ^ L) (hK : K ≤ Lim) (hL : L ≤ Lim) : Fn E F_integer_Add [.c (.str (B (decZ a))), .c (.str (B (decZ b)))] (.tup [.c (.str (B (decZ (a + b)))), .c (.i64 0)]) := by
 have hs := abs_add_lt (pow_mono_lt ha (show K ≤ max K L by omega)) (pow_mono_lt hb (show L ≤ max K L by omega))
 have : 1 ≤ Lim := by rw [Lim_val]; omega
 exact integer_Add_1 (both_int hlib ha hb hK hL) rfl (plus_int hlib ha hb hK hL) (text_int hs (by omega))
theorem abs_mul_lt {a b : Int} {K L : Nat} (ha : a.natAbs < 10 ^ K) (hb : b.natAbs < 10 ^ L) : (a * b).natAbs < 10 ^ (K + L) := by
 rw [Int.natAbs_mul]; exact mul_lt_pow ha hb
theorem integer_Mul_ok (hlib : Lib E) {a b : Int} {K L : Nat} (ha : a.natAbs < 10 ^ K) (hb : b.natAbs < 10 ^ L) (hKL : K + L ≤ Lim) : Fn E F_integer_Mul [.c (.str (B (decZ a))), .c (.str (B (decZ b)))] (.tup [.c (.str (B (decZ (a * b)))), .c (.i64 0)]) :=
 integer_Mul_1 (both_int hlib ha hb (by omega) (by omega)) rfl (times_int hlib ha hb hKL) (text_int (abs_mul_lt ha hb) (by omega))
theorem integer_Neg_ok (hlib : Lib E) {a : Int} {K : Nat} (ha : a.natAbs < 10 ^ K) (hK : K ≤ Lim) : Fn E F_integer_Neg [.c (.str (B (decZ a)))] (.tup [.c (.str (B (decZ (-a)))), .c (.i64 0)]) :=
 integer_Neg_1 (one_int hlib ha hK) rfl (opposite_ok a) (text_int (K := K) (by rw [Int.natAbs_neg]; exact ha) (by omega))
theorem integer_Abs_ok (hlib : Lib E) {a : Int} {K : Nat} (ha : a.natAbs < 10 ^ K) (hK : K ≤ Lim) : Fn E F_integer_Abs [.c (.str (B (decZ a)))] (.tup [.c (.str (B (dec a.natAbs))), .c (.i64 0)]) :=
 integer_Abs_1 (one_int hlib ha hK) rfl
theorem integer_Sign_ok (hlib : Lib E) {a : Int} {K : Nat} (ha : a.natAbs < 10 ^ K) (hK : K ≤ Lim) : Fn E F_integer_Sign [.c (.str (B (decZ a)))] (.tup [.c (.i64 (cmpI a 0)), .c (.i64 0)]) :=
 integer_Sign_0 (one_int hlib ha hK) (sign_int a)
theorem cmpI_sub (a b : Int) : cmpI (a + -b) 0 = cmpI a b := by unfold cmpI; split <;> split <;> (try split) <;> (try split) <;> omega
theorem integer_Compare_ok (hlib : Lib E) {a b : Int} {K L : Nat} (ha : a.natAbs < 10 ^ K) (hb : b.natAbs < 10 ^ L) (hK : K ≤ Lim) (hL : L ≤ Lim) : Fn E F_integer_Compare [.c (.str (B (decZ a))), .c (.str (B (decZ b)))] (.tup [.c (.i64 (cmpI a b)), .c (.i64 0)]) := by
 rw [← cmpI_sub a b]
 exact integer_Compare_0 (both_int hlib ha hb hK hL) (opposite_ok b) (plus_int hlib ha (b := -b) (by rw [Int.natAbs_neg]; exact hb) hK hL) (sign_int _)
theorem divide_int (hlib : Lib E) {a : Int} {b K L : Nat} (ha : a.natAbs < 10 ^ K) (hb : b < 10 ^ L) (hK : K ≤ Lim) (hL : L ≤ Lim) (h0 : b ≠ 0) : Fn E F_integer_number_divide [.agg (Zc a), .agg (Zc b)] (.tup [.agg (Zc (a / b)), .agg (Zc (a % b))]) := by
 have h := natural_DivMod_ok hlib ha hb hK hL h0
 have eb : Zc (b : Int) = [.bool false, .str (B (dec b))] := by unfold Zc; rw [decide_eq_false (by omega), Int.natAbs_natCast]
 have hdm := Nat.div_add_mod a.natAbs b
 have hlt := Nat.mod_lt a.natAbs (show 0 < b by omega)
 obtain ⟨q, eq⟩ : ∃ q, q = a.natAbs / b := ⟨_, rfl⟩
 obtain ⟨r, er⟩ : ∃ r, r = a.natAbs % b := ⟨_, rfl⟩
 rw [← eq, ← er] at h hdm
 rw [← er] at hlt
 have hq : q < 10 ^ K := by rw [eq]; exact Nat.lt_of_le_of_lt (Nat.div_le_self _ _) ha
 rw [eb]
 have uniq : ∀ Q R : Int, a = b * Q + R → 0 ≤ R → R < b → a / b = Q ∧ a % b = R := by
  intro Q R e h1 h2
  have := (Int.ediv_emod_unique (show 0 < (b : Int) by omega) (a := a) (r := R) (q := Q)).2 ⟨by rw [e]; omega, h1, h2⟩
  exact this
 have hdm' : ((b : Int)) * q + r = a.natAbs := by have := congrArg (Nat.cast (R := Int)) hdm; simpa using this
 by_cases c : a < 0
 · have ea : Zc a = [.bool true, .str (B (dec a.natAbs))] := by unfold Zc; rw [decide_eq_true c]
   rw [ea]
   by_cases hr : r = 0
   · obtain ⟨u1, u2⟩ := uniq (-(q : Int)) 0 (by rw [Int.mul_neg]; omega) (by omega) (by omega)
     rw [u1, u2]
     have w1 := with_ok (E := E) true q
     have w2 := with_ok (E := E) false r
     rw [show sgn true q = -(q : Int) from rfl] at w1
     rw [show sgn false r = (r : Int) from rfl, hr, show ((0 : Nat) : Int) = 0 from rfl] at w2
     rw [hr] at h
     exact integer_number_divide_1 rfl h (by rw [B48, dec_zero]) w1 w2
   · obtain ⟨u1, u2⟩ := uniq (-((q + 1 : Nat) : Int)) ((b - r : Nat) : Int) (by rw [Int.mul_neg, Int.natCast_add, Int.mul_add]; omega) (by omega) (by omega)
     rw [u1, u2]
     have w1 := with_ok (E := E) true (q + 1)
     have w2 := with_ok (E := E) false (b - r)
     have h1 := natural_Add_ok hlib hq (show 1 < 10 ^ 1 by decide) hK (by rw [Lim_val]; omega)
     have h2 := natural_Sub_ok hlib hb (show r < 10 ^ L by omega) hL hL (by omega)
     rw [← dec_one'] at h1
     exact integer_number_divide_0 rfl h (fun e => hr (by rw [B48] at e; exact dec_eq_zero.1 (B_inj e))) h1 h2 w1 w2
 · have ea : Zc a = [.bool false, .str (B (dec a.natAbs))] := by unfold Zc; rw [decide_eq_false c]
   rw [ea]
   obtain ⟨u1, u2⟩ := uniq q r (by omega) (by omega) (by omega)
   rw [u1, u2]
   exact integer_number_divide_2 rfl h (with_ok false q) (with_ok false r)
theorem ediv_abs_le {a : Int} {b : Nat} : (a / b).natAbs ≤ a.natAbs := Int.natAbs_ediv_le_natAbs a b
theorem integer_DivMod_ok (hlib : Lib E) {a : Int} {b K L : Nat} (ha : a.natAbs < 10 ^ K) (hb : b < 10 ^ L) (hK : K ≤ Lim) (hL : L ≤ Lim) (h0 : b ≠ 0) : Fn E F_integer_DivMod [.c (.str (B (decZ a))), .c (.str (B (dec b)))] (.tup [.c (.str (B (decZ (a / b)))), .c (.str (B (decZ (a % b)))), .c (.i64 0)]) := by
 have hbo := both_int hlib ha (show (b : Int).natAbs < 10 ^ L from hb) hK hL
 rw [decZ_nat] at hbo
 have hz := isZero (b : Int)
 rw [decide_eq_false (show ¬ (b : Int) = 0 by omega)] at hz
 have hr0 := Int.emod_nonneg a (show (b : Int) ≠ 0 by omega)
 have hr1 := Int.emod_lt_of_pos a (show 0 < (b : Int) by omega)
 exact integer_DivMod_2 hbo rfl zero_int hz (divide_int hlib ha hb hK hL h0) (text_int (Nat.lt_of_le_of_lt ediv_abs_le ha) (by omega)) (text_int (K := L) (Nat.lt_of_le_of_lt (show (a % b).natAbs ≤ b by omega) hb) (by omega))
end Gev
namespace Gev
open Go Gb
variable {E : Env}
def Qc (q : Rat) : List DV := [.str (B (decZ q.num)), .str (B (dec q.den))]
theorem B47 : (⟨#[47]⟩ : ByteArray) = B [47] := rfl
theorem Sz.num {q : Rat} {K : Nat} (h : Sz q K) : q.num.natAbs < 10 ^ K := h.1
theorem Sz.den {q : Rat} {K : Nat} (h : Sz q K) : q.den < 10 ^ K := h.2
theorem den_lt {q : Rat} {K : Nat} (h : Sz q K) : (dec q.den).length ≤ K := dec_length h.2 h.pos
theorem text_rat {q : Rat} {K : Nat} (h : Sz q K) (hK : K ≤ Lim) : Fn E F_rational_frac_text [.agg (Qc q)] (.c (.str (B (decQ q)))) := by
 have h1 := decZ_le h.1
 have h2 := den_lt h
 rw [Lim_val] at hK
 by_cases hd : q.den = 1
 · rw [decQ_int hd]
   exact rational_frac_text_0 (by rw [hd, dec_one]; rfl)
 · rw [decQ_frac hd]
   exact rational_frac_text_1 (v1 := B (decZ q.num ++ [47])) (by rw [B47, B_append]) (by rw [B_append]; simp) (fun e => hd (by rw [B49] at e; exact dec_eq_one.1 (B_inj e))) (by rw [B47, B_size, B_size]; simp; omega) (by rw [B_size, B_size]; simp; omega)
theorem divisor_ok (hlib : Lib E) {z : Int} {d K L : Nat} (hz : z.natAbs < 10 ^ K) (hd : d < 10 ^ L) (hK : K ≤ Lim) (hL : L ≤ Lim) (h0 : d ≠ 0) : Fn E F_rational_divisor [.c (.str (B (decZ z))), .c (.str (B (dec d)))] (.c (.str (B (dec (Nat.gcd z.natAbs d))))) :=
 rational_divisor_0 (integer_Abs_ok hlib hz hK) (natural_GCD_ok hlib hz hd hK hL (.inr (by omega)))
theorem gcd_ne {z : Int} {d : Nat} (h0 : d ≠ 0) : Nat.gcd z.natAbs d ≠ 0 := fun h => h0 (Nat.eq_zero_of_gcd_eq_zero_right h)
theorem mkRat_num {z : Int} {d : Nat} (h0 : d ≠ 0) : (mkRat z d).num = z / (Nat.gcd z.natAbs d : Nat) := by rw [Rat.num_mkRat, if_neg h0, Nat.gcd_comm]
theorem mkRat_den {z : Int} {d : Nat} (h0 : d ≠ 0) : (mkRat z d).den = d / Nat.gcd z.natAbs d := by rw [Rat.den_mkRat, if_neg h0, Nat.gcd_comm]
theorem Qc_mk {z : Int} {d : Nat} (h0 : d ≠ 0) : Qc (mkRat z d) = [.str (B (decZ (z / (Nat.gcd z.natAbs d : Nat)))), .str (B (dec (d / Nat.gcd z.natAbs d)))] := by unfold Qc; rw [mkRat_num h0, mkRat_den h0]
theorem lowest_ok (hlib : Lib E) {z : Int} {d K L : Nat} (hz : z.natAbs < 10 ^ K) (hd : d < 10 ^ L) (hK : K ≤ Lim) (hL : L ≤ Lim) (h0 : d ≠ 0) : Fn E F_rational_lowest [.c (.str (B (decZ z))), .c (.str (B (dec d)))] (.agg (Qc (mkRat z d))) := by
 have hg := divisor_ok hlib hz hd hK hL h0
 rw [Qc_mk h0]
 obtain ⟨g, eg⟩ : ∃ g, g = Nat.gcd z.natAbs d := ⟨_, rfl⟩
 have hg0 : g ≠ 0 := by rw [eg]; exact gcd_ne h0
 have hgl : g < 10 ^ L := by rw [eg]; exact Nat.lt_of_le_of_lt (Nat.gcd_le_right _ (by omega)) hd
 rw [← eg] at hg ⊢
 by_cases h1 : g = 1
 · rw [h1] at hg ⊢
   rw [show ((1 : Nat) : Int) = 1 from rfl, Int.ediv_one, Nat.div_one]
   exact rational_lowest_1 hg (by rw [dec_one, B49])
 · exact rational_lowest_0 hg (fun e => h1 (by rw [B49] at e; exact dec_eq_one.1 (B_inj e))) (integer_DivMod_ok hlib hz hgl hK hL hg0) (natural_DivMod_ok hlib hd hgl hL hL hg0)
theorem short_abs {z : Int} (h : (decZ z).length ≤ 9) : z.natAbs < 1000000000 := by
 have h1 : (dec z.natAbs).length ≤ (decZ z).length := by unfold decZ; split <;> simp
 have h2 := lt_dec_length z.natAbs
 have h3 : (10 : Nat) ^ (dec z.natAbs).length ≤ 10 ^ 9 := Nat.pow_le_pow_right (by decide) (by omega)
 rw [ten_nine] at h3
 omega
theorem short_nat {n : Nat} (h : (dec n).length ≤ 9) : n < 1000000000 := by
 have := short_abs (z := (n : Int)) (by rw [decZ_nat]; exact h)
 omega
theorem little_yes (hlib : Lib E) {q : Rat} (h1 : (decZ q.num).length ≤ 9) (h2 : (dec q.den).length ≤ 9) : Fn E F_rational_frac_little [.agg (Qc q)] (.tup [.c (.i64 q.num), .c (.i64 q.den), .c (.bool true)]) := by
 have p1 := hlib.parseInt q.num h1
 have p2 := hlib.parseInt (q.den : Int) (by rw [decZ_nat]; exact h2)
 rw [decZ_nat] at p2
 exact rational_frac_little_2 (by rw [B_size]; omega) (by rw [B_size]; omega) p1 p2
theorem little_no {q : Rat} (h : ¬ ((decZ q.num).length ≤ 9 ∧ (dec q.den).length ≤ 9)) : Fn E F_rational_frac_little [.agg (Qc q)] (.tup [.c (.i64 0), .c (.i64 0), .c (.bool false)]) := by
 by_cases h1 : (decZ q.num).length ≤ 9
 · exact rational_frac_little_1 (by rw [B_size]; omega) (by rw [B_size]; have : ¬ (dec q.den).length ≤ 9 := fun x => h ⟨h1, x⟩; omega)
 · exact rational_frac_little_0 (by rw [B_size]; omega)
theorem of_loop {x0 x1 : Int} {s : ByteArray} : ∀ (t : Nat) (a b : Int), b.natAbs < t → ∃ g : Int, Lp E 1 F_rational_of 0 (rational_of_L0 x0 x1 a b s s) (.exit 0) (rational_of_L0e0 x0 x1 s s g) ∧ g.natAbs = Nat.gcd a.natAbs b.natAbs
 | 0, a, b, h => by omega
 | t + 1, a, b, h => by
  by_cases h0 : b = 0
  · subst h0
    exact ⟨a, rational_of_L0e0_x0 rfl, by simp⟩
  · have hlt : (Int.tmod a b).natAbs < b.natAbs := by
     rw [Int.natAbs_tmod]
     exact Nat.mod_lt _ (by omega)
    obtain ⟨g, h1, h2⟩ := of_loop t b (Int.tmod a b) (by omega)
    refine ⟨g, rational_of_L0_r0 rfl h0 h0 h1, ?_⟩
    rw [h2, Int.natAbs_tmod]
    exact (Nat.gcd_comm _ _).trans ((Nat.gcd_rec _ _).symm.trans (Nat.gcd_comm _ _))
theorem of_rat (hlib : Lib E) {p : Int} {q : Nat} (hp : p.natAbs < 9000000000000000000) (hq : q < 9000000000000000000) (h0 : q ≠ 0) : Fn E F_rational_of [.c (.i64 p), .c (.i64 q)] (.agg (Qc (mkRat p q))) := by
 obtain ⟨g, h1, h2⟩ := of_loop (E := E) (x0 := p) (x1 := q) (s := ⟨#[]⟩) (q + 1) p q (by omega)
 rw [Int.natAbs_natCast] at h2
 have hg0 := gcd_ne (z := p) h0
 have hgle : Nat.gcd p.natAbs q ≤ q := Nat.gcd_le_right _ (by omega)
 rw [Qc_mk h0]
 obtain ⟨G, eG⟩ : ∃ G, G = Nat.gcd p.natAbs q := ⟨_, rfl⟩
 have d1 : ((G : Nat) : Int) ∣ p := by rw [eG]; exact Int.ofNat_dvd_left.2 (Nat.gcd_dvd_left _ _)
 rw [← eG] at h2 hg0 hgle ⊢
 have hm : (if (if g < 0 then -g else -g) > g then (if g < 0 then -g else -g) else g) = (G : Int) := by split <;> split at * <;> omega
 have hq' : ((q / G : Nat) : Int) = (q : Int) / G := Int.natCast_ediv q G
 have f1 := hlib.formatInt (p / G) (by have := Int.natAbs_ediv_le_natAbs p G; omega)
 have hqg : q / G ≤ q := Nat.div_le_self _ _
 obtain ⟨Q, eQ⟩ : ∃ Q, Q = q / G := ⟨_, rfl⟩
 rw [← eQ] at hq' hqg ⊢
 have f2 := hlib.formatInt (Q : Int) (by omega)
 rw [decZ_nat] at f2
 have hpd : Int.tdiv p G = p / G := Int.tdiv_eq_ediv_of_dvd d1
 have hpa := Int.natAbs_ediv_le_natAbs p G
 refine rational_of_0 (v2 := -g) (v3 := (G : Int)) (v4 := p / G) (v6 := (Q : Int)) (wi (by omega)) (by split <;> omega) (wi ⟨hpd, by omega, by omega⟩) (wi ⟨(tdv (by omega) hq'.symm), by omega, by omega⟩) h1 (by omega) f1 f2
theorem plus_rat (hlib : Lib E) {x y : Rat} {K L : Nat} (hx : Sz x K) (hy : Sz y L) (hKL : K + L + 1 ≤ Lim) : Fn E F_rational_plus [.agg (Qc x), .agg (Qc y)] (.agg (Qc (x + y))) := by
 rw [Rat.add_def']
 have hd : x.den * y.den ≠ 0 := Nat.mul_ne_zero x.den_nz y.den_nz
 have low : Fn E F_rational_lowest [.c (.str (B (decZ (x.num * y.den + y.num * x.den)))), .c (.str (B (dec (x.den * y.den))))] (.agg (Qc (mkRat (x.num * y.den + y.num * x.den) (x.den * y.den)))) := by
  refine lowest_ok hlib (K := K + L + 1) (L := K + L) ?_ (mul_lt_pow hx.2 hy.2) hKL (by omega) hd
  have h1 := abs_mul_lt (b := (y.den : Int)) hx.1 (show (y.den : Int).natAbs < 10 ^ L from hy.2)
  have h2 := abs_mul_lt (b := (x.den : Int)) hy.1 (show (x.den : Int).natAbs < 10 ^ K from hx.2)
  exact abs_add_lt h1 (by rw [Nat.add_comm]; exact h2)
 have m1 := integer_Mul_ok hlib hx.1 (b := (y.den : Int)) (show (y.den : Int).natAbs < 10 ^ L from hy.2) (by omega)
 have m2 := integer_Mul_ok hlib hy.1 (b := (x.den : Int)) (show (x.den : Int).natAbs < 10 ^ K from hx.2) (by omega)
 rw [decZ_nat] at m1 m2
 have a1 := integer_Add_ok hlib (abs_mul_lt hx.1 (show (y.den : Int).natAbs < 10 ^ L from hy.2)) (abs_mul_lt hy.1 (show (x.den : Int).natAbs < 10 ^ K from hx.2)) (by omega) (by omega)
 have n1 := natural_Mul_ok hlib hx.2 hy.2 (by omega)
 by_cases c1 : (decZ x.num).length ≤ 9 ∧ (dec x.den).length ≤ 9
 · by_cases c2 : (decZ y.num).length ≤ 9 ∧ (dec y.den).length ≤ 9
   · have b1 := short_abs c1.1
     have b2 := short_nat c1.2
     have b3 := short_abs c2.1
     have b4 := short_nat c2.2
     have p1 : (x.num * (y.den : Int)).natAbs ≤ 999999999 * 999999999 := by rw [Int.natAbs_mul]; exact Nat.mul_le_mul (by omega) (by simp; omega)
     have p2 : (y.num * (x.den : Int)).natAbs ≤ 999999999 * 999999999 := by rw [Int.natAbs_mul]; exact Nat.mul_le_mul (by omega) (by simp; omega)
     have p3 : x.den * y.den ≤ 999999999 * 999999999 := Nat.mul_le_mul (by omega) (by omega)
     have e3 : (x.den : Int) * y.den = ((x.den * y.den : Nat) : Int) := (Int.natCast_mul _ _).symm
     have o := of_rat hlib (p := x.num * y.den + y.num * x.den) (q := x.den * y.den) (by omega) (by omega) hd
     exact rational_plus_0 (v7 := x.num * y.den) (v8 := y.num * x.den) (v9 := x.num * y.den + y.num * x.den) (v10 := ((x.den * y.den : Nat) : Int)) (wi (by omega)) (wi (by omega)) (wi (by omega)) (wi ⟨e3, by omega, by omega⟩) (little_yes hlib c1.1 c1.2) (little_yes hlib c2.1 c2.2) o
   · exact rational_plus_1 (little_yes hlib c1.1 c1.2) (little_no c2) m1 m2 a1 n1 low
 · have : ∃ v w b, Fn E F_rational_frac_little [.agg (Qc y)] (.tup [.c (.i64 v), .c (.i64 w), .c (.bool b)]) := by
    by_cases c2 : (decZ y.num).length ≤ 9 ∧ (dec y.den).length ≤ 9
    · exact ⟨_, _, _, little_yes hlib c2.1 c2.2⟩
    · exact ⟨_, _, _, little_no c2⟩
   obtain ⟨v, w, b, hl⟩ := this
   exact rational_plus_2 (little_no c1) hl m1 m2 a1 n1 low
theorem times_rat (hlib : Lib E) {x y : Rat} {K L : Nat} (hx : Sz x K) (hy : Sz y L) (hKL : K + L ≤ Lim) : Fn E F_rational_times [.agg (Qc x), .agg (Qc y)] (.agg (Qc (x * y))) := by
 rw [Rat.mul_def']
 have hd : x.den * y.den ≠ 0 := Nat.mul_ne_zero x.den_nz y.den_nz
 have low := lowest_ok hlib (abs_mul_lt hx.1 hy.1) (mul_lt_pow hx.2 hy.2) (by omega) (by omega) hd
 have m1 := integer_Mul_ok hlib hx.1 hy.1 (by omega)
 have n1 := natural_Mul_ok hlib hx.2 hy.2 (by omega)
 by_cases c1 : (decZ x.num).length ≤ 9 ∧ (dec x.den).length ≤ 9
 · by_cases c2 : (decZ y.num).length ≤ 9 ∧ (dec y.den).length ≤ 9
   · have b1 := short_abs c1.1
     have b2 := short_nat c1.2
     have b3 := short_abs c2.1
     have b4 := short_nat c2.2
     have p1 : (x.num * y.num).natAbs ≤ 999999999 * 999999999 := by rw [Int.natAbs_mul]; exact Nat.mul_le_mul (by omega) (by omega)
     have p3 : x.den * y.den ≤ 999999999 * 999999999 := Nat.mul_le_mul (by omega) (by omega)
     have e3 : (x.den : Int) * y.den = ((x.den * y.den : Nat) : Int) := (Int.natCast_mul _ _).symm
     have o := of_rat hlib (p := x.num * y.num) (q := x.den * y.den) (by omega) (by omega) hd
     exact rational_times_0 (v7 := x.num * y.num) (v8 := ((x.den * y.den : Nat) : Int)) (wi (by omega)) (wi ⟨e3, by omega, by omega⟩) (little_yes hlib c1.1 c1.2) (little_yes hlib c2.1 c2.2) o
   · exact rational_times_1 (little_yes hlib c1.1 c1.2) (little_no c2) m1 n1 low
 · have : ∃ v w b, Fn E F_rational_frac_little [.agg (Qc y)] (.tup [.c (.i64 v), .c (.i64 w), .c (.bool b)]) := by
    by_cases c2 : (decZ y.num).length ≤ 9 ∧ (dec y.den).length ≤ 9
    · exact ⟨_, _, _, little_yes hlib c2.1 c2.2⟩
    · exact ⟨_, _, _, little_no c2⟩
   obtain ⟨v, w, b, hl⟩ := this
   exact rational_times_2 (little_no c1) hl m1 n1 low
theorem opposite_rat (hlib : Lib E) {x : Rat} {K : Nat} (hx : Sz x K) (hK : K ≤ Lim) : Fn E F_rational_opposite [.agg (Qc x)] (.agg (Qc (-x))) := by
 have h := integer_Neg_ok hlib hx.1 hK
 have e : Qc (-x) = [.str (B (decZ (-x.num))), .str (B (dec x.den))] := by unfold Qc; rw [Rat.neg_num, Rat.neg_den]
 rw [e]
 exact rational_opposite_0 h
theorem inverse_rat (hlib : Lib E) {x : Rat} {K : Nat} (hx : Sz x K) (hK : K ≤ Lim) (h0 : x ≠ 0) : Fn E F_rational_inverse [.agg (Qc x)] (.agg (Qc x⁻¹)) := by
 have hn : x.num ≠ 0 := fun h => h0 (Rat.num_eq_zero.1 h)
 have h1 := decZ_le hx.1
 have h2 := den_lt hx
 rw [Lim_val] at hK
 have hc := hlib.cutPrefix (decZ x.num) [45] (by omega) (by decide)
 rw [List.length_singleton, (decZ_pre x.num).2, (decZ_pre x.num).1] at hc
 have e : Qc x⁻¹ = [.str (B (decZ (x.num.sign * x.den))), .str (B (dec x.num.natAbs))] := by unfold Qc; rw [Rat.num_inv, Rat.den_inv, if_neg hn]
 rw [e]
 have hd := Nat.pos_of_ne_zero x.den_nz
 by_cases c : x.num < 0
 · rw [decide_eq_true c] at hc
   rw [Int.sign_eq_neg_one_of_neg c, show (-1 : Int) * x.den = -(x.den : Int) by omega, decZ_neg (by omega), Int.natAbs_neg, Int.natAbs_natCast]
   exact rational_inverse_0 (by rw [B45, B_append]; rfl) hc (by rw [B45, B_size, B_size]; simp; omega)
 · rw [decide_eq_false c] at hc
   rw [Int.sign_eq_one_of_pos (by omega), Int.one_mul, decZ_nat]
   have e2 : Qc x = [.str (B (dec x.num.natAbs)), .str (B (dec x.den))] := by unfold Qc; rw [decZ_nonneg (by omega)]
   rw [e2]
   rw [decZ_nonneg (by omega)] at hc
   exact rational_inverse_1 hc
open Classical in
noncomputable def rd (l : List UInt8) : Option Rat := if h : ∃ q, l = decQ q then some (choose h) else none
theorem rd_decQ (q : Rat) : rd (decQ q) = some q := by
 unfold rd
 have h : ∃ p, decQ q = decQ p := ⟨q, rfl⟩
 rw [dif_pos h]
 exact congrArg some (decQ_inj (Classical.choose_spec h).symm)
theorem rd_some {l : List UInt8} {q : Rat} (h : rd l = some q) : l = decQ q := by
 unfold rd at h
 split at h
 · rename_i hx
   cases h
   exact Classical.choose_spec hx
 · cases h
theorem rd_none {l : List UInt8} (h : rd l = none) (q : Rat) : l ≠ decQ q := fun e => by rw [e, rd_decQ] at h; cases h
end Gev
namespace Gev
open Go Gb
variable {E : Env}
theorem num_ne_of_den {q : Rat} (h : q.den ≠ 1) : q.num ≠ 0 := by
 intro h0
 have := q.reduced
 rw [h0] at this
 simp [Nat.Coprime] at this
 exact h this
theorem read_rat (hlib : Lib E) {q : Rat} {K : Nat} (hq : Sz q K) (hK : K ≤ Lim) : Fn E F_rational_read [.c (.str (B (decQ q)))] (.tup [.agg (Qc q), .c (.bool true)]) := by
 have h1 := decZ_le hq.1
 have h2 := den_lt hq
 have hK' := hK
 rw [Lim_val] at hK'
 have hv := integer_Valid_ok hlib (l := decZ q.num) (by omega)
 rw [intB_decZ] at hv
 by_cases hd : q.den = 1
 · rw [decQ_int hd]
   have e : Qc q = [.str (B (decZ q.num)), .str (B [49])] := by unfold Qc; rw [hd, dec_one]
   rw [e]
   exact rational_read_7 (hlib.cutNo _ (not_mem_decZ _) (by omega)) hv
 · rw [decQ_frac hd]
   have hn := num_ne_of_den hd
   have hnv := natural_Valid_ok (E := E) (dec q.den) (by omega)
   rw [natB_dec] at hnv
   have hg := divisor_ok hlib hq.1 hq.2 hK hK q.den_nz
   have hg1 : Nat.gcd q.num.natAbs q.den = 1 := q.reduced
   rw [hg1] at hg
   exact rational_read_0 (hlib.cutYes _ _ (not_mem_decZ _) (by omega)) hv (fun e => hn (by rw [B48] at e; exact decZ_inj ((B_inj e).trans decZ_zero.symm))) hnv (fun e => q.den_nz (by rw [B48] at e; exact dec_eq_zero.1 (B_inj e))) (fun e => hd (by rw [B49] at e; exact dec_eq_one.1 (B_inj e))) hg (by rw [dec_one, B49])
theorem first_slash : ∀ (l : List UInt8), (47 : UInt8) ∈ l → ∃ p r, l = p ++ 47 :: r ∧ (47 : UInt8) ∉ p
 | [], h => by cases h
 | c :: l, h => by
  by_cases hc : c = 47
  · exact ⟨[], l, by rw [hc]; rfl, by simp⟩
  · have h' : (47 : UInt8) ∈ l := by
     rcases List.mem_cons.1 h with h | h
     · exact absurd h.symm hc
     · exact h
    obtain ⟨p, r, e, hp⟩ := first_slash l h'
    exact ⟨c :: p, r, by rw [e]; rfl, fun hx => by
     rcases List.mem_cons.1 hx with hx | hx
     · exact hc hx.symm
     · exact hp hx⟩
theorem dec_len_abs (z : Int) : (dec z.natAbs).length ≤ (decZ z).length := by unfold decZ; split <;> simp
theorem read_no (hlib : Lib E) {l : List UInt8} (h : rd l = none) (hl : l.length ≤ Lim) : ∃ x y, Fn E F_rational_read [.c (.str (B l))] (.tup [.agg [.str x, .str y], .c (.bool false)]) := by
 have hl' := hl
 rw [Lim_val] at hl'
 by_cases hs : (47 : UInt8) ∈ l
 · obtain ⟨p, r, rfl, hp⟩ := first_slash l hs
   simp only [List.length_append, List.length_cons] at hl hl'
   have hc := hlib.cutYes p r hp (by omega)
   have hv := integer_Valid_ok hlib (l := p) (by omega)
   have hnv := natural_Valid_ok (E := E) r (by omega)
   cases hi : intB p with
   | false => rw [hi] at hv; exact ⟨_, _, rational_read_6 hc hv⟩
   | true =>
    rw [hi] at hv
    obtain ⟨z, rfl⟩ := (intB_iff.1 hi).eq_decZ
    by_cases hz : z = 0
    · exact ⟨_, _, rational_read_5 hc hv (by rw [hz, decZ_zero]; rfl)⟩
    · have hz' : ¬ B (decZ z) = (⟨#[48]⟩ : ByteArray) := fun e => hz (by rw [B48] at e; exact decZ_inj ((B_inj e).trans decZ_zero.symm))
      cases hn : natB r with
      | false => rw [hn] at hnv; exact ⟨_, _, rational_read_4 hc hv hz' hnv⟩
      | true =>
       rw [hn] at hnv
       have hr := natB_iff.1 hn
       obtain ⟨n, rfl⟩ : ∃ n, r = dec n := ⟨_, hr.eq_dec⟩
       by_cases h0 : n = 0
       · exact ⟨_, _, rational_read_3 hc hv hz' hnv (by rw [h0, dec_zero]; rfl)⟩
       · have h0' : ¬ B (dec n) = (⟨#[48]⟩ : ByteArray) := fun e => h0 (by rw [B48] at e; exact dec_eq_zero.1 (B_inj e))
         by_cases h1 : n = 1
         · exact ⟨_, _, rational_read_2 hc hv hz' hnv h0' (by rw [h1, dec_one]; rfl)⟩
         · have h1' : ¬ B (dec n) = (⟨#[49]⟩ : ByteArray) := fun e => h1 (by rw [B49] at e; exact dec_eq_one.1 (B_inj e))
           have hzl : z.natAbs < 10 ^ (decZ z).length := pow_mono_lt (lt_dec_length _) (dec_len_abs z)
           have hg := divisor_ok hlib hzl (lt_dec_length n) (by omega) (by omega) h0
           by_cases hg1 : Nat.gcd z.natAbs n = 1
           · obtain ⟨q, _, _, e⟩ := decQ_mk z n (by omega) hg1
             exact absurd e.symm (rd_none h q)
           · exact ⟨_, _, rational_read_1 hc hv hz' hnv h0' h1' hg (fun e => hg1 (by rw [B49] at e; exact dec_eq_one.1 (B_inj e)))⟩
 · have hc := hlib.cutNo l hs (by omega)
   have hv := integer_Valid_ok hlib (l := l) (by omega)
   cases hi : intB l with
   | false => rw [hi] at hv; exact ⟨_, _, rational_read_7 hc hv⟩
   | true =>
    obtain ⟨z, e⟩ := (intB_iff.1 hi).eq_decZ
    exact absurd (e.trans (decQ_intCast z).symm) (rd_none h z)
theorem rational_Valid_ok (hlib : Lib E) {l : List UInt8} (hl : l.length ≤ Lim) : Fn E F_rational_Valid [.c (.str (B l))] (.c (.bool (rd l).isSome)) := by
 cases h : rd l with
 | none =>
  obtain ⟨x, y, hr⟩ := read_no hlib h hl
  exact rational_Valid_0 hr
 | some q =>
  have := rd_some h
  subst this
  exact rational_Valid_0 (read_rat hlib (Sz.of_len (Nat.le_refl _)) hl)
theorem both_rat (hlib : Lib E) {a b : Rat} {K L : Nat} (ha : Sz a K) (hb : Sz b L) (hK : K ≤ Lim) (hL : L ≤ Lim) : Fn E F_rational_both [.c (.str (B (decQ a))), .c (.str (B (decQ b)))] (.tup [.agg (Qc a), .agg (Qc b), .c (.i64 0)]) :=
 rational_both_0 (read_rat hlib ha hK) (read_rat hlib hb hL)
theorem rational_Add_ok (hlib : Lib E) {a b : Rat} {K L : Nat} (ha : Sz a K) (hb : Sz b L) (h : K + L + 1 ≤ Lim) : Fn E F_rational_Add [.c (.str (B (decQ a))), .c (.str (B (decQ b)))] (.tup [.c (.str (B (decQ (a + b)))), .c (.i64 0)]) :=
 rational_Add_0 (hlib.apply 43 _ (by simp) _ _ _ _ _ _ _ _ _ (both_rat hlib ha hb (by omega) (by omega)) (by omega) (plus_rat hlib ha hb h) (text_rat (ha.add hb) h))
theorem rational_Mul_ok (hlib : Lib E) {a b : Rat} {K L : Nat} (ha : Sz a K) (hb : Sz b L) (h : K + L ≤ Lim) : Fn E F_rational_Mul [.c (.str (B (decQ a))), .c (.str (B (decQ b)))] (.tup [.c (.str (B (decQ (a * b)))), .c (.i64 0)]) :=
 rational_Mul_0 (hlib.apply 42 _ (by simp) _ _ _ _ _ _ _ _ _ (both_rat hlib ha hb (by omega) (by omega)) (by omega) (times_rat hlib ha hb h) (text_rat (ha.mul hb) h))
theorem rational_Sub_ok (hlib : Lib E) {a b : Rat} {K L : Nat} (ha : Sz a K) (hb : Sz b L) (h : K + L + 1 ≤ Lim) : Fn E F_rational_Sub [.c (.str (B (decQ a))), .c (.str (B (decQ b)))] (.tup [.c (.str (B (decQ (a - b)))), .c (.i64 0)]) := by
 refine rational_Sub_0 (hlib.apply 45 F_rational_operations_1 (by simp) _ _ _ _ _ _ _ _ _ (both_rat hlib ha hb (by omega) (by omega)) (by omega) (?_ : Fn E F_rational_operations_1 [.agg (Qc a), .agg (Qc b)] (.agg (Qc (a - b)))) (text_rat (ha.sub hb) h))
 rw [Rat.sub_eq_add_neg]
 exact rational_operations_1_0 (opposite_rat hlib hb (by omega)) (plus_rat hlib ha hb.neg h)
theorem rational_Div_ok (hlib : Lib E) {a b : Rat} {K L : Nat} (ha : Sz a K) (hb : Sz b L) (h : K + L ≤ Lim) (h0 : b ≠ 0) : Fn E F_rational_Div [.c (.str (B (decQ a))), .c (.str (B (decQ b)))] (.tup [.c (.str (B (decQ (a / b)))), .c (.i64 0)]) := by
 have hn : b.num ≠ 0 := fun x => h0 (Rat.num_eq_zero.1 x)
 refine rational_Div_0 (hlib.apply 47 F_rational_operations_2 (by simp) _ _ _ _ _ _ _ _ _ (both_rat hlib ha hb (by omega) (by omega)) (fun _ e => hn (decZ_inj ((B_inj e).trans decZ_zero.symm))) (?_ : Fn E F_rational_operations_2 [.agg (Qc a), .agg (Qc b)] (.agg (Qc (a / b)))) (text_rat (ha.div hb) h))
 rw [Rat.div_def]
 exact rational_operations_2_0 (inverse_rat hlib hb (by omega) h0) (times_rat hlib ha hb.inv h)
def cmpQ (a b : Rat) : Int := cmpI (a.num * b.den) (b.num * a.den)
theorem cmpQ_lt {a b : Rat} : cmpQ a b < 0 ↔ a < b := by unfold cmpQ; rw [cmpI_lt, Rat.lt_iff]
theorem cmpI_gt {a b : Int} : cmpI a b > 0 ↔ b < a := by unfold cmpI; split <;> (try split) <;> omega
theorem cmpQ_gt {a b : Rat} : cmpQ a b > 0 ↔ b < a := by unfold cmpQ; rw [cmpI_gt, Rat.lt_iff]
theorem cmpI_zero {a b : Int} : cmpI a b = 0 ↔ a = b := by unfold cmpI; split <;> (try split) <;> omega
theorem cmpQ_self (a : Rat) : cmpQ a a = 0 := cmpI_eq rfl
theorem cmpQ_zero {a b : Rat} : cmpQ a b = 0 ↔ a = b := by
 constructor
 · intro h
   have h1 : ¬ a < b := fun x => by have := cmpQ_lt.2 x; omega
   have h2 : ¬ b < a := fun x => by have := cmpQ_gt.2 x; omega
   exact Rat.le_antisymm (Rat.not_lt.1 h2) (Rat.not_lt.1 h1)
 · rintro rfl; exact cmpQ_self a
theorem cmpI_range (a b : Int) : -1 ≤ cmpI a b ∧ cmpI a b ≤ 1 := by unfold cmpI; split <;> (try split) <;> omega
theorem frac_sign_ok (hlib : Lib E) {a : Rat} {K : Nat} (ha : Sz a K) (hK : K ≤ Lim) : Fn E F_rational_frac_sign [.agg (Qc a)] (.c (.i64 (cmpI a.num 0))) := rational_frac_sign_0 (integer_Sign_ok hlib ha.1 hK)
theorem cmpQ_signs {a b : Rat} (h : cmpI a.num 0 ≠ cmpI b.num 0) : cmpQ a b = (if cmpI a.num 0 < cmpI b.num 0 then -1 else 1) := by
 have pa := Nat.pos_of_ne_zero a.den_nz
 have pb := Nat.pos_of_ne_zero b.den_nz
 have sg : ∀ (n : Int) (d : Nat), 0 < d → cmpI (n * d) 0 = cmpI n 0 := by
  intro n d hd
  rcases Int.lt_trichotomy n 0 with c | c | c
  · have : n * d < 0 := Int.mul_neg_of_neg_of_pos c (by omega)
    unfold cmpI; rw [if_pos this, if_pos c]
  · subst c; simp
  · have : 0 < n * d := Int.mul_pos c (by omega)
    unfold cmpI; rw [if_neg (by omega), if_pos (by omega), if_neg (by omega), if_pos (by omega)]
 have s1 := sg a.num b.den pb
 have s2 := sg b.num a.den pa
 rw [← s1, ← s2] at h ⊢
 unfold cmpQ
 generalize a.num * (b.den : Int) = u at *
 generalize b.num * (a.den : Int) = v at *
 unfold cmpI at *
 split <;> (try split) <;> split at * <;> (try split at *) <;> (try split at *) <;> (try split at *) <;> omega
theorem rational_Compare_ok (hlib : Lib E) {a b : Rat} {K L : Nat} (ha : Sz a K) (hb : Sz b L) (h : K + L ≤ Lim) : Fn E F_rational_Compare [.c (.str (B (decQ a))), .c (.str (B (decQ b)))] (.tup [.c (.i64 (cmpQ a b)), .c (.i64 0)]) := by
 have hbo := both_rat hlib ha hb (by omega) (by omega)
 by_cases he : a = b
 · subst he
   rw [cmpQ_self]
   exact rational_Compare_1 hbo rfl rfl
 · have hne : ¬ B (decQ a) = B (decQ b) := fun e => he (decQ_inj (B_inj e))
   have s1 := frac_sign_ok hlib ha (by omega)
   have s2 := frac_sign_ok hlib hb (by omega)
   have r1 := cmpI_range a.num 0
   have r2 := cmpI_range b.num 0
   by_cases hs : cmpI a.num 0 = cmpI b.num 0
   · have m1 := integer_Mul_ok hlib ha.1 (b := (b.den : Int)) (show (b.den : Int).natAbs < 10 ^ L from hb.2) h
     have m2 := integer_Mul_ok hlib hb.1 (b := (a.den : Int)) (show (a.den : Int).natAbs < 10 ^ K from ha.2) (by omega)
     rw [decZ_nat] at m1 m2
     have c := integer_Compare_ok hlib (abs_mul_lt ha.1 (show (b.den : Int).natAbs < 10 ^ L from hb.2)) (abs_mul_lt hb.1 (show (a.den : Int).natAbs < 10 ^ K from ha.2)) h (by omega)
     exact rational_Compare_3 hbo rfl hne s1 s2 hs m1 m2 c
   · rw [cmpQ_signs hs]
     refine rational_Compare_2 (v8 := cmpI a.num 0 - cmpI b.num 0) (v9 := if 1 < cmpI a.num 0 - cmpI b.num 0 then 1 else cmpI a.num 0 - cmpI b.num 0) (wi (by omega)) rfl ?_ hbo rfl hne s1 s2 hs
     split <;> split <;> (try split) <;> omega
end Gev
namespace Gev
open Go Gb
variable {E : Env}
theorem r1_trim_loop (ws : List Int) : ∀ k, k ≤ ws.length → k < 9223372036854775807 → Lp E 1 F_ref01_trim 0 (ref01_trim_L0 k (Wr ws)) (.exit 0) (ref01_trim_L0e0 (Wr ws) (trimN ws k))
 | 0, _, _ => ref01_trim_L0e0_x1 (by omega)
 | k + 1, hk, hb => by
  unfold trimN
  by_cases h0 : ws.getD k 0 = 0
  · rw [if_pos h0]
    exact ref01_trim_L0_r0 (v1 := (k : Int)) (v2 := ws.getD k 0) (v3 := k) (wi (by omega)) rfl (by omega) (by omega) (Wr_getD (by omega)) h0 (by omega) (r1_trim_loop ws k (by omega) (by omega))
  · rw [if_neg h0]
    exact ref01_trim_L0e0_x0 (v1 := (k : Int)) (v2 := ws.getD k 0) (wi (by omega)) (by omega) (by omega) (Wr_getD (by omega)) h0
theorem r1_trim {ws : List Int} {k : Nat} (hk : k ≤ ws.length) (hb : k < 9223372036854775807) : Rn E F_ref01_trim [.vec 0 k] [some (.vec T_uint32 (Wr ws))] (.vec 0 (trimN ws k)) [some (.vec T_uint32 (Wr ws))] :=
 ref01_trim_0 (r1_trim_loop ws k hk hb)
theorem trim_all {ws : List Int} (h : Wd ws) {n : Nat} (hv : wv ws = n) : (Wr ws).take (trimN ws ws.length) = Wr (words n) := by
 rw [Wr_take, trimN_words h (Nat.le_refl _), List.take_length, hv, Int.toNat_natCast]
theorem r1_Small {n : Nat} (h : n < 4294967296) : Fn E F_ref01_Small [.c (.u32 n)] (.c (.list (Wr (words n)))) := by
 have hw : Wd [((n % 1000000000 : Nat) : Int), ((n / 1000000000 : Nat) : Int)] := Wd.cons (by omega) (by omega) (Wd.cons (by omega) (by omega) Wd.nil)
 have ht := r1_trim (E := E) (ws := [((n % 1000000000 : Nat) : Int), ((n / 1000000000 : Nat) : Int)]) (k := 2) (Nat.le_refl _) (by decide)
 exact ref01_Small_0 (v1 := ((n % 1000000000 : Nat) : Int)) (v2 := ((n / 1000000000 : Nat) : Int)) (tmd (by omega) (by omega)) (w32 ⟨tdv (by omega) (by omega), by omega, by omega⟩) (trim_all hw (by simp [wv]; omega)) ht
theorem r1_wide {n : Nat} (h : n < 18446744073709551616) : Fn E F_ref01_wide [.c (.u64 n)] (.c (.list (Wr (words n)))) := by
 have hw : Wd [((n % 1000000000 : Nat) : Int), ((n / 1000000000 % 1000000000 : Nat) : Int), ((n / 1000000000 / 1000000000 : Nat) : Int)] := Wd.cons (by omega) (by omega) (Wd.cons (by omega) (by omega) (Wd.cons (by omega) (by omega) Wd.nil))
 have ht := r1_trim (E := E) (ws := [((n % 1000000000 : Nat) : Int), ((n / 1000000000 % 1000000000 : Nat) : Int), ((n / 1000000000 / 1000000000 : Nat) : Int)]) (k := 3) (Nat.le_refl _) (by decide)
 exact ref01_wide_0 (v1 := ((n % 1000000000 : Nat) : Int)) (v2 := ((n % 1000000000 : Nat) : Int)) (v3 := ((n / 1000000000 : Nat) : Int)) (v4 := ((n / 1000000000 % 1000000000 : Nat) : Int)) (v5 := ((n / 1000000000 % 1000000000 : Nat) : Int)) (v6 := ((n / 1000000000 / 1000000000 : Nat) : Int)) (v7 := ((n / 1000000000 / 1000000000 : Nat) : Int))
  (tmd (by omega) (by omega)) (w32 (by omega)) (wu ⟨tdv (by omega) (by omega), by omega, by omega⟩) (tmd (by omega) (by omega)) (w32 (by omega)) (wu ⟨tdv (by omega) (by omega), by omega, by omega⟩) (w32 (by omega)) (trim_all hw (by simp [wv]; omega)) ht
theorem r1_word_loop (xs : List Int) (hx : Wd xs) (hl : xs.length ≤ 2) : ∀ k : Nat, k ≤ xs.length → Lp E 0 F_ref01_word 0 (ref01_word_L0 (Wr xs) (wv (xs.drop k)) ((k : Int) - 1)) (.exit 0) (ref01_word_L0e0 (wv xs))
 | 0, _ => by rw [List.drop_zero]; exact ref01_word_L0e0_x0 (by omega)
 | k + 1, hk => by
  have h0 := hx.getD k
  have h1 := val_nonneg (hx.drop (k + 1))
  have h2 := val_lt (hx.drop (k + 1))
  rw [List.length_drop] at h2
  have h3 : pw (xs.length - (k + 1)) ≤ pw 1 := pw_mono (by omega)
  rw [show pw 1 = 1000000000 by decide] at h3
  have e := wv_drop xs k
  rw [show ((k + 1 : Nat) : Int) - 1 = (k : Int) by omega]
  exact ref01_word_L0_r0 (v1 := wv (xs.drop (k + 1)) * 1000000000) (v2 := xs.getD k 0) (v3 := xs.getD k 0) (v4 := wv (xs.drop k)) (v5 := (k : Int) - 1) (wu (by omega)) (wu (by omega)) (wu (by omega)) (wi (by omega)) (by omega) (by omega) (Wr_getD (by omega)) (r1_word_loop xs hx hl k (by omega))
theorem r1_word {n : Nat} (h : (words n).length ≤ 2) : Fn E F_ref01_word [.c (.list (Wr (words n)))] (.c (.u64 n)) := by
 have := r1_word_loop (E := E) (words n) (words_wd n) h (words n).length (Nat.le_refl _)
 rw [List.drop_length, words_val] at this
 exact ref01_word_0 (v1 := ((words n).length : Int) - 1) (wi (by rw [Wr_len]; omega)) this
theorem r1_cmp_loop (xs ys : List Int) (hx : Wd xs) (hy : Wd ys) (hl : xs.length = ys.length) (hb : xs.length < 9223372036854775807) : ∀ k : Nat, k ≤ xs.length → xs.drop k = ys.drop k →
    (xs = ys ∧ Lp E 0 F_ref01_Cmp 0 (ref01_Cmp_L0 (Wr xs) (Wr ys) ((k : Int) - 1)) (.exit 0) ref01_Cmp_L0e1) ∨
    (xs ≠ ys ∧ Lp E 0 F_ref01_Cmp 0 (ref01_Cmp_L0 (Wr xs) (Wr ys) ((k : Int) - 1)) .ret (ref01_Cmp_L0e0 (cmpI (wv xs) (wv ys))))
 | 0, _, h => .inl ⟨by simpa using h, ref01_Cmp_L0e1_x0 (by omega)⟩
 | k + 1, hk, h => by
  rw [show ((k + 1 : Nat) : Int) - 1 = (k : Int) by omega]
  have g1 : (Wr xs)[Int.toNat (k : Int)]? = some [.u32 (xs.getD k 0)] := Wr_getD (by omega)
  have g2 : (Wr ys)[Int.toNat (k : Int)]? = some [.u32 (ys.getD k 0)] := Wr_getD (by omega)
  rcases Int.lt_trichotomy (xs.getD k 0) (ys.getD k 0) with c | c | c
  · have := val_lt_of_top hx hy (by omega) (by omega) c h
    refine .inr ⟨fun e => by rw [e] at c; omega, ?_⟩
    have e : cmpI (wv xs) (wv ys) = -1 := by unfold cmpI; rw [if_pos this]
    rw [e]
    exact ref01_Cmp_L0e0_x0 (by omega) (by omega) g1 g2 c
  · have hd : xs.drop k = ys.drop k := by rw [drop_cons xs k (by omega), drop_cons ys k (by omega), c, h]
    rcases r1_cmp_loop xs ys hx hy hl hb k (by omega) hd with ⟨e, ih⟩ | ⟨e, ih⟩
    · exact .inl ⟨e, ref01_Cmp_L0_r0 (wi (by omega)) (by omega) (by omega) g1 g2 (by omega) (by omega) ih⟩
    · exact .inr ⟨e, ref01_Cmp_L0_r0 (wi (by omega)) (by omega) (by omega) g1 g2 (by omega) (by omega) ih⟩
  · have := val_lt_of_top hy hx (by omega) (by omega) c h.symm
    refine .inr ⟨fun e => by rw [e] at c; omega, ?_⟩
    have e : cmpI (wv xs) (wv ys) = 1 := by unfold cmpI; rw [if_neg (by omega), if_pos (by omega)]
    rw [e]
    exact ref01_Cmp_L0e0_x1 (by omega) (by omega) g1 g2 (by omega) c
theorem r1_Cmp {m n : Nat} (hm : (words m).length < 9223372036854775807) : Fn E F_ref01_Cmp [.c (.list (Wr (words m))), .c (.list (Wr (words n)))] (.c (.i64 (cmpI m n))) := by
 by_cases hl : (words m).length = (words n).length
 · rcases r1_cmp_loop (E := E) (words m) (words n) (words_wd m) (words_wd n) hl hm (words m).length (Nat.le_refl _) (by rw [List.drop_length, hl, List.drop_length]) with ⟨e, h⟩ | ⟨e, h⟩
   · have := words_inj e
     subst this
     rw [cmpI_eq rfl]
     exact ref01_Cmp_3 (wi (by rw [Wr_len]; omega)) (by rw [Wr_len]) h
   · rw [words_val, words_val] at h
     exact ref01_Cmp_2 (wi (by rw [Wr_len]; omega)) (by rw [Wr_len, Wr_len]; omega) h
 · rcases Nat.lt_or_gt_of_ne hl with c | c
   · have : m < n := by
      rcases Nat.lt_or_ge m n with h | h
      · exact h
      · have := (words_tr n).length_le (words_wd n) (words_wd m) (by rw [words_val, words_val]; omega)
        omega
     have e : cmpI (m : Int) n = -1 := by unfold cmpI; rw [if_pos (by omega)]
     rw [e]
     exact ref01_Cmp_0 (by rw [Wr_len, Wr_len]; omega) (by rw [Wr_len, Wr_len]; omega)
   · have : n < m := by
      rcases Nat.lt_or_ge n m with h | h
      · exact h
      · have := (words_tr m).length_le (words_wd m) (words_wd n) (by rw [words_val, words_val]; omega)
        omega
     have e : cmpI (m : Int) n = 1 := by unfold cmpI; rw [if_neg (by omega), if_pos (by omega)]
     rw [e]
     exact ref01_Cmp_1 (by rw [Wr_len, Wr_len]; omega) (by rw [Wr_len, Wr_len]; omega)
theorem r1_plus_loop {xs ys : List Int} (hx : Wd xs) (hy : Wd ys) (hxl : xs.length < 17592186044000) (hyl : ys.length < 17592186044000) : ∀ (t i : Nat) (c : Int) (zs : List Int), xs.length + ys.length + 2 ≤ t + i → i ≤ xs.length + ys.length + 1 → 0 ≤ c ∧ c ≤ 1 → (xs.length + ys.length < i → c = 0) → zs.length = i → Wd zs →
    ∃ zs', Lp E 0 F_ref01_Plus 0 (ref01_Plus_L0 (Wr xs) (Wr ys) i c i (Wr zs)) (.exit 0) (ref01_Plus_L0e0 zs'.length (Wr zs')) ∧ Wd zs' ∧ zs'.length ≤ xs.length + ys.length + 1 ∧ wv zs' = wv zs + pw i * (c + wv (xs.drop i) + wv (ys.drop i))
 | 0, i, c, zs, ht, hi, _, _, _, _ => by omega
 | t + 1, i, c, zs, ht, hi, hc, hc0, hz, hw => by
  have ha := hx.getD i
  have hb := hy.getD i
  obtain ⟨a, ea⟩ : ∃ a, a = xs.getD i 0 := ⟨_, rfl⟩
  obtain ⟨b, eb⟩ : ∃ b, b = ys.getD i 0 := ⟨_, rfl⟩
  rw [← ea] at ha
  rw [← eb] at hb
  have gx : i < xs.length → (Wr xs)[Int.toNat (i : Int)]? = some [.u32 a] := fun h => by rw [ea]; exact Wr_getD h
  have gy : i < ys.length → (Wr ys)[Int.toNat (i : Int)]? = some [.u32 b] := fun h => by rw [eb]; exact Wr_getD h
  obtain ⟨S, eS⟩ : ∃ S, S = c + a + b := ⟨_, rfl⟩
  have hap : ∀ w, (Wr zs).take i ++ [[DV.u32 w]] = Wr (zs ++ [w]) := fun w => by rw [Wr_take, ← hz, List.take_length, Wr_snoc]
  have stop : ¬ i < xs.length → ¬ i < ys.length → c = 0 → wv zs = wv zs + pw i * (c + wv (xs.drop i) + wv (ys.drop i)) := by
   intro h1 h2 h3
   rw [drop_nil (by omega), drop_nil (by omega), h3]
   simp [wv]
  by_cases hend : ¬ i < xs.length ∧ ¬ i < ys.length ∧ c = 0
  · exact ⟨zs, by rw [hz]; exact ref01_Plus_L0e0_x0 (by rw [Wr_len]; omega) (by rw [Wr_len]; omega) (by omega), hw, by omega, stop hend.1 hend.2.1 hend.2.2⟩
  · have hii : i ≤ xs.length + ys.length := by
     rcases Nat.lt_or_ge (xs.length + ys.length) i with h | h
     · exact absurd ⟨by omega, by omega, hc0 h⟩ hend
     · exact h
    have ndone : xs.length + ys.length < i + 1 → S / 1000000000 = 0 := by
     intro h
     have h0 : i = xs.length + ys.length := by omega
     have : b = 0 ∨ a = 0 := by
      rcases Nat.lt_or_ge i xs.length with h1 | h1
      · left; rw [eb]; exact getD_nil (by omega)
      · right; rw [ea]; exact getD_nil h1
     by_cases hcc : c = 0
     · rcases this with h2 | h2 <;> omega
     · -- the last carry has no words beside it
       have h1 : a = 0 := by
        rcases Nat.lt_or_ge i xs.length with h1 | h1
        · omega
        · rw [ea]; exact getD_nil h1
       have h2 : b = 0 := by
        rcases Nat.lt_or_ge i ys.length with h1 | h1
        · omega
        · rw [eb]; exact getD_nil h1
       omega
    obtain ⟨zs', k1, k2, k3, k4⟩ := r1_plus_loop hx hy hxl hyl t (i + 1) (S / 1000000000) (zs ++ [S % 1000000000]) (by omega) (by omega) (by omega) ndone (by simp [hz]) (hw.append (Wd.cons (by omega) (by omega) Wd.nil))
    refine ⟨zs', ?_, k2, k3, ?_⟩
    · have hlen : (i + 1) * 4 ≤ 140737488355328 ∧ i + 1 ≤ 140737488355328 := by omega
      by_cases c1 : i < xs.length
      · by_cases c2 : i < ys.length
        · exact ref01_Plus_L0_r0 (v1 := a) (v2 := c + a) (v3 := b) (v4 := S) (v5 := S % 1000000000) (v6 := Wr (zs ++ [S % 1000000000])) (v7 := i + 1) (v8 := S / 1000000000) (v9 := ((i + 1 : Nat) : Int)) (w32 (by omega)) (w32 (by omega)) (tmd (by omega) rfl) (hap _) rfl (w32 ⟨tdv (by omega) rfl, by omega, by omega⟩) (wi (by omega)) (by rw [Wr_len]; omega) (by omega) (gx c1) (by rw [Wr_len]; omega) (gy c2) hlen k1
        · have b0 : b = 0 := by rw [eb]; exact getD_nil (by omega)
          exact ref01_Plus_L0_r1 (v1 := a) (v2 := S) (v3 := S % 1000000000) (v4 := Wr (zs ++ [S % 1000000000])) (v5 := i + 1) (v6 := S / 1000000000) (v7 := ((i + 1 : Nat) : Int)) (w32 (by omega)) (tmd (by omega) rfl) (hap _) rfl (w32 ⟨tdv (by omega) rfl, by omega, by omega⟩) (wi (by omega)) (by rw [Wr_len]; omega) (by omega) (gx c1) (by rw [Wr_len]; omega) hlen k1
      · have a0 : a = 0 := by rw [ea]; exact getD_nil (by omega)
        by_cases c2 : i < ys.length
        · exact ref01_Plus_L0_r2 (v1 := b) (v2 := S) (v3 := S % 1000000000) (v4 := Wr (zs ++ [S % 1000000000])) (v5 := i + 1) (v6 := S / 1000000000) (v7 := ((i + 1 : Nat) : Int)) (w32 (by omega)) (tmd (by omega) rfl) (hap _) rfl (w32 ⟨tdv (by omega) rfl, by omega, by omega⟩) (wi (by omega)) (by rw [Wr_len]; omega) (by rw [Wr_len]; omega) (by omega) (gy c2) hlen k1
        · have b0 : b = 0 := by rw [eb]; exact getD_nil (by omega)
          have e0 : S = c := by omega
          rw [e0] at k1
          exact ref01_Plus_L0_r3 (v1 := c % 1000000000) (v2 := Wr (zs ++ [c % 1000000000])) (v3 := i + 1) (v4 := c / 1000000000) (v5 := ((i + 1 : Nat) : Int)) (tmd (by omega) rfl) (hap _) rfl (w32 ⟨tdv (by omega) rfl, by omega, by omega⟩) (wi (by omega)) (by rw [Wr_len]; omega) (by rw [Wr_len]; omega) (by omega) hlen k1
    · rw [k4, val_snoc, hz, wv_drop xs i, wv_drop ys i, pw_succ, ← ea, ← eb]
      have e1 : S % 1000000000 = c + a + b - 1000000000 * (S / 1000000000) := by omega
      rw [e1]; grind
theorem r1_Plus {m n : Nat} (h1 : (words m).length < 17592186044000) (h2 : (words n).length < 17592186044000) : Fn E F_ref01_Plus [.c (.list (Wr (words m))), .c (.list (Wr (words n)))] (.c (.list (Wr (words (m + n))))) := by
 obtain ⟨zs, k1, k2, k3, k4⟩ := r1_plus_loop (E := E) (words_wd m) (words_wd n) h1 h2 ((words m).length + (words n).length + 2) 0 0 [] (by omega) (by omega) (by omega) (fun _ => rfl) rfl Wd.nil
 rw [List.drop_zero, List.drop_zero, words_val, words_val, pw_zero] at k4
 exact ref01_Plus_0 (trim_all k2 (by simp [wv] at k4; omega)) k1 (r1_trim (Nat.le_refl _) (by omega))
theorem r1_minus_loop {xs ys : List Int} (hx : Wd xs) (hy : Wd ys) (hxl : xs.length < 17592186044000) : ∀ d i b zs, i + d = xs.length → (b = 0 ∨ b = 1) → zs.length = i → Wd zs →
    ∃ b' zs', Lp E 0 F_ref01_Minus 0 (ref01_Minus_L0 (Wr xs) (Wr ys) i b i (Wr zs)) (.exit 0) (ref01_Minus_L0e0 zs'.length (Wr zs')) ∧ Wd zs' ∧ zs'.length = xs.length ∧ (b' = 0 ∨ b' = 1) ∧ wv zs' + pw i * (0 - wv (xs.drop i) + wv ((ys.take xs.length).drop i) + b) = wv zs + pw xs.length * b'
 | 0, i, b, zs, hi, hb, hz, hw => by
  refine ⟨b, zs, by rw [hz]; exact ref01_Minus_L0e0_x0 (by rw [Wr_len]; omega), hw, by omega, hb, ?_⟩
  have : i = xs.length := by omega
  subst this
  rw [drop_nil (Nat.le_refl _), drop_nil (by simp; omega)]
  simp [wv]
 | d + 1, i, b, zs, hi, hb, hz, hw => by
  have ha := hx.getD i
  have hbb := hy.getD i
  obtain ⟨a, ea⟩ : ∃ a, a = xs.getD i 0 := ⟨_, rfl⟩
  obtain ⟨y, eb⟩ : ∃ y, y = ys.getD i 0 := ⟨_, rfl⟩
  rw [← ea] at ha
  rw [← eb] at hbb
  have gx : (Wr xs)[Int.toNat (i : Int)]? = some [.u32 a] := by rw [ea]; exact Wr_getD (by omega)
  have gy : i < ys.length → (Wr ys)[Int.toNat (i : Int)]? = some [.u32 y] := fun h => by rw [eb]; exact Wr_getD h
  have hap : ∀ w, (Wr zs).take i ++ [[DV.u32 w]] = Wr (zs ++ [w]) := fun w => by rw [Wr_take, ← hz, List.take_length, Wr_snoc]
  have hlen : (i + 1) * 4 ≤ 140737488355328 ∧ i + 1 ≤ 140737488355328 := by omega
  have ey : (ys.take xs.length).getD i 0 = y := by rw [List.getD_eq_getElem?_getD, List.getElem?_take_of_lt (by omega), ← List.getD_eq_getElem?_getD, eb]
  obtain ⟨dd, ed⟩ : ∃ dd, dd = a - b - y := ⟨_, rfl⟩
  have key : ∀ b1 w, w = dd + 1000000000 * b1 → 0 ≤ w ∧ w < 1000000000 → (b1 = 0 ∨ b1 = 1) →
      (∀ {st : St}, Lp E 0 F_ref01_Minus 0 (ref01_Minus_L0 (Wr xs) (Wr ys) (i + 1) b1 ((i + 1 : Nat) : Int) (Wr (zs ++ [w]))) (.exit 0) st → Lp E 0 F_ref01_Minus 0 (ref01_Minus_L0 (Wr xs) (Wr ys) i b i (Wr zs)) (.exit 0) st) →
      ∃ b' zs', Lp E 0 F_ref01_Minus 0 (ref01_Minus_L0 (Wr xs) (Wr ys) i b i (Wr zs)) (.exit 0) (ref01_Minus_L0e0 zs'.length (Wr zs')) ∧ Wd zs' ∧ zs'.length = xs.length ∧ (b' = 0 ∨ b' = 1) ∧ wv zs' + pw i * (0 - wv (xs.drop i) + wv ((ys.take xs.length).drop i) + b) = wv zs + pw xs.length * b' := by
   intro b1 w hw1 hw0 hb1 st
   obtain ⟨b', zs', k1, k2, k3, k4, k5⟩ := r1_minus_loop hx hy hxl d (i + 1) b1 (zs ++ [w]) (by omega) hb1 (by simp [hz]) (hw.append (Wd.cons hw0.1 hw0.2 Wd.nil))
   refine ⟨b', zs', st k1, k2, k3, k4, ?_⟩
   rw [val_snoc, hz, pw_succ] at k5
   rw [wv_drop xs i, wv_drop (ys.take xs.length) i, ← ea, ey]
   rw [hw1, ed] at k5
   grind
  by_cases c2 : i < ys.length
  · by_cases c3 : dd < 0
    · exact key 1 (dd + 1000000000) (by omega) (by omega) (.inr rfl) fun k1 => ref01_Minus_L0_r0 (v1 := a) (v2 := a) (v3 := a - b) (v4 := y) (v5 := y) (v6 := dd) (v7 := dd + 1000000000) (v8 := dd + 1000000000) (wi (by omega)) (wi (by omega)) (wi (by omega)) (wi (by omega)) (wi (by omega)) (w32 (by omega)) (hap _) rfl (wi (by omega)) (by rw [Wr_len]; omega) (by omega) gx (by rw [Wr_len]; omega) (gy c2) c3 hlen k1
    · exact key 0 dd (by omega) (by omega) (.inl rfl) fun k1 => ref01_Minus_L0_r1 (v1 := a) (v2 := a) (v3 := a - b) (v4 := y) (v5 := y) (v6 := dd) (v7 := dd) (wi (by omega)) (wi (by omega)) (wi (by omega)) (wi (by omega)) (w32 (by omega)) (hap _) rfl (wi (by omega)) (by rw [Wr_len]; omega) (by omega) gx (by rw [Wr_len]; omega) (gy c2) c3 hlen k1
  · have y0 : y = 0 := by rw [eb]; exact getD_nil (by omega)
    by_cases c3 : dd < 0
    · exact key 1 (dd + 1000000000) (by omega) (by omega) (.inr rfl) fun k1 => ref01_Minus_L0_r2 (v1 := a) (v2 := a) (v3 := dd) (v4 := dd + 1000000000) (v5 := dd + 1000000000) (wi (by omega)) (wi (by omega)) (wi (by omega)) (w32 (by omega)) (hap _) rfl (wi (by omega)) (by rw [Wr_len]; omega) (by omega) gx (by rw [Wr_len]; omega) c3 hlen k1
    · exact key 0 dd (by omega) (by omega) (.inl rfl) fun k1 => ref01_Minus_L0_r3 (v1 := a) (v2 := a) (v3 := dd) (v4 := dd) (wi (by omega)) (wi (by omega)) (w32 (by omega)) (hap _) rfl (wi (by omega)) (by rw [Wr_len]; omega) (by omega) gx (by rw [Wr_len]; omega) c3 hlen k1
theorem r1_Minus {m n : Nat} (h1 : (words m).length < 17592186044000) (hmn : n ≤ m) : Fn E F_ref01_Minus [.c (.list (Wr (words m))), .c (.list (Wr (words n)))] (.c (.list (Wr (words (m - n))))) := by
 have hle : (words n).length ≤ (words m).length := (words_tr n).length_le (words_wd n) (words_wd m) (by rw [words_val, words_val]; omega)
 obtain ⟨b, zs, k1, k2, k3, k4, k5⟩ := r1_minus_loop (E := E) (words_wd m) (words_wd n) h1 (words m).length 0 0 [] (by omega) (.inl rfl) rfl Wd.nil
 rw [List.drop_zero, List.drop_zero, List.take_of_length_le hle, words_val, words_val, pw_zero] at k5
 have h2 := val_lt k2
 have h3 := pw_pos (words m).length
 have hv := val_nonneg k2
 rw [k3] at h2
 have hb : b = 0 := by
  rcases k4 with h | h
  · exact h
  · subst h
    simp [wv] at k5
    omega
 subst hb
 exact ref01_Minus_0 (trim_all k2 (n := m - n) (by simp [wv] at k5; omega)) k1 (r1_trim (Nat.le_refl _) (by omega))
theorem r1_valid_loop (l : List UInt8) (hl : l.length < 9223372036854775807) : ∀ d i : Nat, i + d = l.length →
    ((l.drop i).all isDig = true ∧ Lp E 0 F_ref01_Valid 0 (ref01_Valid_L0 (B l) i) (.exit 0) (ref01_Valid_L0e1 (B l))) ∨
    ((l.drop i).all isDig = false ∧ Lp E 0 F_ref01_Valid 0 (ref01_Valid_L0 (B l) i) .ret ref01_Valid_L0e0)
 | 0, i, hi => .inl ⟨by rw [List.drop_eq_nil_of_le (by omega)]; rfl, ref01_Valid_L0e1_x0 (by rw [B_size]; omega)⟩
 | d + 1, i, hi => by
  have hd : l.drop i = l.getD i 0 :: l.drop (i + 1) := by
   rw [List.drop_eq_getElem_cons (by omega), List.getD_eq_getElem?_getD, List.getElem?_eq_getElem (by omega)]; rfl
  have hlt : 0 ≤ (i : Int) ∧ (i : Int) < (B l).size := by rw [B_size]; omega
  rw [hd, List.all_cons]
  by_cases c1 : (l.getD i 0).toNat < 48
  · rw [isDig_false (.inl c1)]
    exact .inr ⟨rfl, ref01_Valid_L0e0_x0 (byte_at l i) (by omega) hlt (by omega)⟩
  · by_cases c2 : (l.getD i 0).toNat > 57
    · rw [isDig_false (.inr c2)]
      exact .inr ⟨rfl, ref01_Valid_L0e0_x1 (byte_at l i) (by omega) hlt (by omega) (by omega)⟩
    · rw [isDig_iff.2 (by omega), Bool.true_and]
      rcases r1_valid_loop l hl d (i + 1) (by omega) with ⟨h1, h2⟩ | ⟨h1, h2⟩
      · exact .inl ⟨h1, ref01_Valid_L0_r0 (byte_at l i) (wi (by omega)) (by omega) hlt (by omega) (by omega) h2⟩
      · exact .inr ⟨h1, ref01_Valid_L0_r0 (byte_at l i) (wi (by omega)) (by omega) hlt (by omega) (by omega) h2⟩
theorem r1_Valid (l : List UInt8) (hl : l.length < 9223372036854775807) : Fn E F_ref01_Valid [.c (.str (B l))] (.c (.bool (natB l))) := by
 have hloop := r1_valid_loop (E := E) l hl l.length 0 (by omega)
 rw [List.drop_zero] at hloop
 cases l with
 | nil =>
  rcases hloop with ⟨_, g2⟩ | ⟨g1, _⟩
  · exact ref01_Valid_4 g2 (by rw [B_size]; decide) (by rw [B_size]; decide)
  · cases g1
 | cons c m =>
  rcases hloop with ⟨g1, g2⟩ | ⟨g1, g2⟩
  · by_cases h1 : (c :: m).length = 1
    · have e : natB (c :: m) = true := by
       unfold natB
       rw [g1, decide_eq_true (show (c :: m).length ≤ 1 by omega)]; rfl
      rw [e]
      exact ref01_Valid_1 g2 (by rw [B_size]; omega)
    · have h2 : (c :: m).length > 1 := by have : (c :: m).length = m.length + 1 := rfl; omega
      have h0 : (((B (c :: m)).data.toList.getD 0 0).toNat : Int) = (c.toNat : Int) := by rw [B_list]; rfl
      have hlt : 0 ≤ (0 : Int) ∧ (0 : Int) < (B (c :: m)).size := by rw [B_size]; omega
      by_cases hc : c = 48
      · have e : natB (c :: m) = false := by
         unfold natB
         rw [decide_eq_false (show ¬ (c :: m).length ≤ 1 by omega), hc]; simp
        rw [e]
        exact ref01_Valid_3 h0 g2 (by rw [B_size]; omega) (by rw [B_size]; omega) hlt (by rw [hc]; rfl)
      · have hn : c.toNat ≠ 48 := fun e => hc (UInt8.toNat_inj.1 e)
        have e : natB (c :: m) = true := by
         unfold natB
         have : ((c :: m).head? == some 48) = false := by simp [hc]
         rw [g1, this]; simp
        rw [e]
        exact ref01_Valid_2 h0 g2 (by rw [B_size]; omega) (by rw [B_size]; omega) hlt (by omega)
  · have e : natB (c :: m) = false := by unfold natB; rw [g1]; simp
    rw [e]
    exact ref01_Valid_0 g2
theorem r1_from_inner {l : List UInt8} (hd : Dg l) (hl : l.length < 9223372036854775807) {w0 : List (List DV)} {i : Nat} {e s : Nat} (he : e ≤ l.length) (hes : e ≤ s + 9) : ∀ (d k : Nat), k + d = e → s ≤ k →
    Lp E 1 F_ref01_From 1 (ref01_From_L1a (B l) i e (dval ((l.take k).drop s) : Int) k w0) (.exit 2) (ref01_From_L1ae0 (B l) i e w0 (dval ((l.take e).drop s) : Int))
 | 0, k, hk, hs => by
  have : k = e := by omega
  subst this
  exact ref01_From_L1ae0_x0 (by omega)
 | d + 1, k, hk, hs => by
  have hg : l.getD k 0 = l[k] := by rw [List.getD_eq_getElem?_getD, List.getElem?_eq_getElem (by omega)]; rfl
  have hc := hd l[k] (List.getElem_mem _)
  have htk : (l.take (k + 1)).drop s = (l.take k).drop s ++ [l[k]] := by
   rw [List.take_succ_eq_append_getElem (by omega), List.drop_append_of_le_length (by simp; omega)]
  have hb : dval ((l.take k).drop s) < 100000000 := by
   have h1 := dval_lt (Dg.drop (Dg.take hd k) s)
   have h2 : (10 : Nat) ^ ((l.take k).drop s).length ≤ 10 ^ 8 := Nat.pow_le_pow_right (by decide) (by simp; omega)
   have h3 : (10 : Nat) ^ 8 = 100000000 := by decide
   omega
  have hv : dval ((l.take (k + 1)).drop s) = 10 * dval ((l.take k).drop s) + (l[k].toNat - 48) := by rw [htk, dval_snoc]
  exact ref01_From_L1a_r0 (v1 := 10 * (dval ((l.take k).drop s) : Int)) (v2 := (l[k].toNat : Int)) (v3 := (l[k].toNat : Int) - 48) (v4 := (l[k].toNat : Int) - 48) (v5 := (dval ((l.take (k + 1)).drop s) : Int)) (v6 := ((k + 1 : Nat) : Int))
   (w32 (by omega)) (by rw [byte_at, hg]) (w8 (by omega)) (w32 (by omega)) (w32 (by omega)) (wi (by omega)) (by omega) (by rw [B_size]; omega) (r1_from_inner hd hl he hes d (k + 1) (by omega) (by omega))
theorem r1_from_loop {l : List UInt8} (hd : Dg l) (hl : l.length < 10000000000000) : ∀ (t i : Nat) (ws : List Int) (n : Int), n ≤ t → n ≤ l.length → -9 < n → 9 * (i : Int) ≤ l.length + 8 → ws.length = i → (0 < n → n + 9 * i = l.length) → Wd ws → wv ws + pw i * (dval (l.take n.toNat) : Int) = dval l →
    ∃ ws', Lp E 0 F_ref01_From 0 (ref01_From_L0 (B l) i n (Wr ws)) (.exit 0) (ref01_From_L0e0 ws'.length (Wr ws')) ∧ Wd ws' ∧ wv ws' = dval l ∧ ws'.length ≤ l.length + 8
 | t, i, ws, n, ht, hnl, hn9, hi, hw, hni, hwd, hv => by
  by_cases h0 : n ≤ 0
  · rw [show n.toNat = 0 by omega, List.take_zero, show dval [] = 0 from rfl] at hv
    exact ⟨ws, by rw [hw]; exact ref01_From_L0e0_x0 (by omega), hwd, by simpa using hv, by omega⟩
  · cases t with
    | zero => omega
    | succ t =>
     obtain ⟨e, he⟩ : ∃ e : Nat, n = e := ⟨n.toNat, by omega⟩
     subst he
     rw [Int.toNat_natCast] at hv
     obtain ⟨s, hs⟩ : ∃ s, s = e - 9 := ⟨_, rfl⟩
     obtain ⟨p, hp⟩ : ∃ p, p = (l.take e).drop s := ⟨_, rfl⟩
     have hlen : (l.take e).length = e := by simp; omega
     have hpd : Dg p := by rw [hp]; exact Dg.drop (Dg.take hd _) _
     have hpl : p.length = e - s := by rw [hp, List.length_drop, hlen]
     have hval : dval p < 1000000000 := by
      have := dval_lt hpd
      have h9 : (10 : Nat) ^ p.length ≤ 10 ^ 9 := Nat.pow_le_pow_right (by decide) (by omega)
      rw [ten_nine] at h9
      omega
     have hsplit : l.take e = l.take s ++ p := by
      rw [hp]
      have := (List.take_append_drop s (l.take e)).symm
      rwa [List.take_take, Nat.min_eq_left (by omega)] at this
     have hvs : wv (ws ++ [(dval p : Int)]) + pw (i + 1) * (dval (l.take ((e : Int) - 9).toNat) : Int) = dval l := by
      rw [show ((e : Int) - 9).toNat = s by omega, val_snoc, hw, pw_succ]
      rw [hsplit, dval_append] at hv
      by_cases h9 : p.length = 9
      · rw [h9, ten_nine] at hv
        have e2 : ((dval (l.take s) * 1000000000 + dval p : Nat) : Int) = 1000000000 * (dval (l.take s) : Int) + dval p := by omega
        rw [e2] at hv
        grind
      · have hs0 : s = 0 := by omega
        rw [hs0, List.take_zero, show dval [] = 0 from rfl] at hv ⊢
        rw [show ((0 * 10 ^ p.length + dval p : Nat) : Int) = (dval p : Int) by simp] at hv
        simp
        omega
     obtain ⟨ws', k1, k2, k3, k4⟩ := r1_from_loop hd hl t (i + 1) (ws ++ [(dval p : Int)]) ((e : Int) - 9) (by omega) (by omega) (by omega) (by omega) (by simp [hw]) (by omega) (hwd.append (Wd.cons (by omega) (by omega) Wd.nil)) hvs
     refine ⟨ws', ?_, k2, k3, k4⟩
     have hin := r1_from_inner (E := E) hd (by omega) (w0 := Wr ws) (i := i) (e := e) (s := s) (by omega) (by omega) (e - s) s (by omega) (Nat.le_refl _)
     rw [List.drop_eq_nil_of_le (by simp; omega), show dval [] = 0 from rfl, ← hp] at hin
     exact ref01_From_L0_r0 (v1 := (e : Int) - 9) (v2 := (s : Int)) (v3 := (dval p : Int)) (v4 := Wr (ws ++ [(dval p : Int)])) (v5 := i + 1) (wi (by omega)) (by split <;> omega) (by rw [Wr_take, ← hw, List.take_length, Wr_snoc]) rfl (by omega) hin (by omega) k1
theorem r1_From {l : List UInt8} (hd : Dg l) (hl : l.length < 10000000000000) : Fn E F_ref01_From [.c (.str (B l))] (.c (.list (Wr (words (dval l))))) := by
 obtain ⟨ws, k1, k2, k3, k4⟩ := r1_from_loop (E := E) hd hl l.length 0 [] l.length (by omega) (by omega) (by omega) (by omega) rfl (fun _ => by omega) Wd.nil (by rw [Int.toNat_natCast, List.take_length, pw_zero]; simp [wv])
 rw [← B_size] at k1
 exact ref01_From_0 (trim_all k2 k3) k1 (r1_trim (Nat.le_refl _) (by omega))
theorem r1_From_dec {n K : Nat} (h : n < 10 ^ K) (hK : K ≤ Lim) : Fn E F_ref01_From [.c (.str (B (dec n)))] (.c (.list (Wr (words n)))) := by
 have h1 := dec_le h
 rw [Lim_val] at hK
 have := r1_From (E := E) (dec_dg n) (by omega)
 rwa [dval_dec] at this
end Gev
namespace Gev
open Go Gb
variable {E : Env}
theorem r1_times_inner {xs ys : List Int} (hy : Wd ys) {N i : Nat} {x : Int} (hi : i < xs.length) (hxi : x = xs.getD i 0) (hx : 0 ≤ x ∧ x < 1000000000) (hN : N < 4611686018427387904) (hiN : i + ys.length ≤ N) {out0 : List Int} :
    ∀ d k c out, k + d = ys.length → 0 ≤ c ∧ c < 1000000000 → Wd out → out.length = N → (∀ j, i + k ≤ j → out.getD j 0 = out0.getD j 0) →
    wv out + pw (i + k) * c = wv out0 + pw i * (x * wv (ys.take k)) →
    ∃ c' out', Lp E 1 F_ref01_Times 1 (ref01_Times_L1 (Wr xs) (Wr ys) N i c k (Wr out)) (.exit 2) (ref01_Times_L1e0 (Wr xs) (Wr ys) N i c' (Wr out')) ∧
     (0 ≤ c' ∧ c' < 1000000000) ∧ Wd out' ∧ out'.length = N ∧ (∀ j, i + ys.length ≤ j → out'.getD j 0 = out0.getD j 0) ∧ wv out' + pw (i + ys.length) * c' = wv out0 + pw i * (x * wv ys)
 | 0, k, c, out, hk, hc, hw, hl, hj, hv => by
  have : k = ys.length := by omega
  subst this
  rw [List.take_length] at hv
  exact ⟨c, out, ref01_Times_L1e0_x0 (by rw [Wr_len]; omega), hc, hw, hl, hj, hv⟩
 | d + 1, k, c, out, hk, hc, hw, hl, hj, hv => by
  have hyk := hy.getD k
  obtain ⟨y, ey⟩ : ∃ y, y = ys.getD k 0 := ⟨_, rfl⟩
  rw [← ey] at hyk
  have ho := hw.getD (i + k)
  obtain ⟨w, ew⟩ : ∃ w, w = out.getD (i + k) 0 := ⟨_, rfl⟩
  rw [← ew] at ho
  have hxy := mul_bound hx hyk
  obtain ⟨p, ep⟩ : ∃ p, p = x * y := ⟨_, rfl⟩
  rw [← ep] at hxy
  obtain ⟨S, eS⟩ : ∃ S, S = c + (p + w) := ⟨_, rfl⟩
  have hS : 0 ≤ S ∧ S ≤ 999999999999999999 := by omega
  have hik : i + k < out.length := by omega
  obtain ⟨c', out', k1, k2, k3, k4, k5, k6⟩ := r1_times_inner hy hi hxi hx hN hiN (out0 := out0) d (k + 1) (S / 1000000000) (out.set (i + k) (S % 1000000000)) (by omega) (by omega) (hw.set _ (by omega) (by omega)) (by simpa using hl)
   (fun j h => by rw [getD_set_ne (by omega)]; exact hj j (by omega)) (by
    rw [val_set out (i + k) hik, ← ew, val_take_succ ys k (by omega), ← ey, ← Nat.add_assoc, pw_succ, pw_add]
    rw [pw_add] at hv
    exact alg1 hv ep eS (Int.emod_add_mul_ediv S 1000000000))
  refine ⟨c', out', ?_, k2, k3, k4, k5, k6⟩
  exact ref01_Times_L1_r0 (v1 := ((i + k : Nat) : Int)) (v2 := w) (v3 := w) (v4 := x) (v5 := x) (v6 := y) (v7 := y) (v8 := p) (v9 := w + p) (v10 := S) (v11 := S % 1000000000) (v12 := S % 1000000000) (v13 := Wr (out.set (i + k) (S % 1000000000))) (v14 := S / 1000000000) (v15 := ((k + 1 : Nat) : Int))
   (wi (by omega)) (wu (by omega)) (wu (by omega)) (wu (by omega)) (wu (by omega)) (wu (by omega)) (wu (by omega)) (tmd hS.1 rfl) (w32 (by omega)) (by rw [Int.toNat_natCast, Wr_set]) (wu ⟨tdv hS.1 rfl, by omega, by omega⟩) (wi (by omega))
   (by rw [Wr_len]; omega) (by omega) (by rw [ew]; exact Wr_getD hik) (by omega) (by rw [hxi]; exact Wr_getD (by omega)) (by omega) (by rw [ey]; exact Wr_getD (by omega)) k1
theorem r1_times_outer {xs ys : List Int} (hx : Wd xs) (hy : Wd ys) {N : Nat} (hN : N < 4611686018427387904) (hl : N = xs.length + ys.length) :
    ∀ d i out, i + d = xs.length → Wd out → out.length = N → (∀ j, i + ys.length ≤ j → out.getD j 0 = 0) → wv out = wv (xs.take i) * wv ys →
    ∃ out', Lp E 1 F_ref01_Times 0 (ref01_Times_L0 (Wr xs) (Wr ys) N i (Wr out)) (.exit 0) (ref01_Times_L0e0 N (Wr out')) ∧ Wd out' ∧ out'.length = N ∧ wv out' = wv xs * wv ys
 | 0, i, out, hi, hw, ho, _, hv => by
  have : i = xs.length := by omega
  subst this
  rw [List.take_length] at hv
  exact ⟨out, ref01_Times_L0e0_x0 (by rw [Wr_len]; omega), hw, ho, hv⟩
 | d + 1, i, out, hi, hw, ho, hj, hv => by
  have hxi := hx.getD i
  obtain ⟨x, ex⟩ : ∃ x, x = xs.getD i 0 := ⟨_, rfl⟩
  rw [← ex] at hxi
  obtain ⟨c', out1, k1, k2, k3, k4, k5, k6⟩ := r1_times_inner (E := E) hy (show i < xs.length by omega) ex hxi hN (by omega) (out0 := out) ys.length 0 0 out (by omega) (by omega) hw ho (fun _ _ => rfl) (by simp [wv])
  have hik : i + ys.length < out1.length := by omega
  have h0 : out1.getD (i + ys.length) 0 = 0 := by rw [k5 _ (Nat.le_refl _)]; exact hj _ (Nat.le_refl _)
  obtain ⟨out', g1, g2, g3, g4⟩ := r1_times_outer hx hy hN hl d (i + 1) (out1.set (i + ys.length) c') (by omega) (k3.set _ k2.1 k2.2) (by simpa using k4)
   (fun j h => by rw [getD_set_ne (by omega), k5 j (by omega)]; exact hj j (by omega)) (by
    rw [val_set out1 _ hik, h0, val_take_succ xs i (by omega), ← ex, Int.sub_zero, k6, hv]
    grind)
  refine ⟨out', ?_, g2, g3, g4⟩
  exact ref01_Times_L0_r0 (v1 := c') (v2 := Wr out1) (v3 := ((i + ys.length : Nat) : Int)) (v4 := c') (v5 := 0) (v6 := Wr (out1.set (i + ys.length) c')) (v7 := ((i + 1 : Nat) : Int))
   (wi (by rw [Wr_len]; omega)) (w32 (by omega)) (by rw [Int.toNat_natCast, Wr_set]) (wi (by omega)) (by rw [Wr_len]; omega) k1 (by omega) (by rw [← h0]; exact Wr_getD hik) g1
theorem r1_Times {m n : Nat} (hl : (words m).length + (words n).length < 35184372088000) : Fn E F_ref01_Times [.c (.list (Wr (words m))), .c (.list (Wr (words n)))] (.c (.list (Wr (words (m * n))))) := by
 by_cases hm : m = 0
 · subst hm
   rw [Nat.zero_mul, words_zero]
   exact ref01_Times_0 rfl
 · by_cases hn : n = 0
   · subst hn
     rw [Nat.mul_zero, words_zero]
     have : words m ≠ [] := fun h => hm (words_nil.1 h)
     have := len_pos this
     exact ref01_Times_1 (by rw [Wr_len]; omega) rfl
   · obtain ⟨out, k1, k2, k3, k4⟩ := r1_times_outer (E := E) (words_wd m) (words_wd n) (N := (words m).length + (words n).length) (by omega) rfl (words m).length 0 (List.replicate ((words m).length + (words n).length) 0) (by omega) (Wd.replicate _) (by simp)
      (fun j _ => by rw [List.getD_eq_getElem?_getD, List.getElem?_replicate]; split <;> rfl) (by rw [val_replicate]; simp [wv])
     have p1 := len_pos (fun h => hm (words_nil.1 h) : words m ≠ [])
     have p2 := len_pos (fun h => hn (words_nil.1 h) : words n ≠ [])
     have ht := r1_trim (E := E) (ws := out) (k := (words m).length + (words n).length) (by omega) (by omega)
     have ha := trim_all k2 (n := m * n) (by rw [k4, words_val, words_val, Int.natCast_mul])
     rw [k3] at ha
     exact ref01_Times_2 (v1 := (((words m).length + (words n).length : Nat) : Int)) (v2 := (words m).length + (words n).length) (v3 := Wr (List.replicate ((words m).length + (words n).length) 0)) (v4 := Wr out) (wi (by rw [Wr_len, Wr_len]; omega)) (Int.toNat_natCast _) (Wr_replicate _ _) ha (by rw [Wr_len]; omega) (by rw [Wr_len]; omega) (by omega) k1 ht
theorem r1_small_loop {xs : List Int} (hx : Wd xs) {N : Nat} (hN : xs.length = N) (hb : N < 4611686018427387904) {w : Int} (hw : 0 < w ∧ w < 1000000000) : ∀ k rest out, k ≤ N → 0 ≤ rest ∧ rest < w → Wd out → out.length = N →
    wv (out.drop k) * w + rest = wv (xs.drop k) →
    ∃ rest' out', Lp E 1 F_ref01_small 0 (ref01_small_L0 (Wr xs) w N rest ((k : Int) - 1) (Wr out)) (.exit 0) (ref01_small_L0e0 N rest' (Wr out')) ∧ (0 ≤ rest' ∧ rest' < w) ∧ Wd out' ∧ out'.length = N ∧ wv out' * w + rest' = wv xs
 | 0, rest, out, _, hr, ho, hl, hv => by
  rw [List.drop_zero, List.drop_zero] at hv
  exact ⟨rest, out, ref01_small_L0e0_x0 (by omega), hr, ho, hl, hv⟩
 | k + 1, rest, out, hk, hr, ho, hl, hv => by
  rw [show ((k + 1 : Nat) : Int) - 1 = (k : Int) by omega]
  have hxk := hx.getD k
  obtain ⟨x, ex⟩ : ∃ x, x = xs.getD k 0 := ⟨_, rfl⟩
  rw [← ex] at hxk
  obtain ⟨S, eS⟩ : ∃ S, S = rest * 1000000000 + x := ⟨_, rfl⟩
  have hS : 0 ≤ S ∧ S < w * 1000000000 := by omega
  have hq0 : 0 ≤ S / w := Int.ediv_nonneg hS.1 (by omega)
  have hq : S / w < 1000000000 := Int.ediv_lt_of_lt_mul (by omega) (by rw [Int.mul_comm]; exact hS.2)
  have hm0 := Int.emod_nonneg S (show w ≠ 0 by omega)
  have hm1 := Int.emod_lt_of_pos S (show 0 < w by omega)
  have hdm := Int.emod_add_mul_ediv S w
  have hkl : k < out.length := by omega
  have hd : (out.set k (S / w)).drop (k + 1) = out.drop (k + 1) := List.drop_set_of_lt (Nat.lt_succ_self k)
  obtain ⟨rest', out', k1, k2, k3, k4, k5⟩ := r1_small_loop hx hN hb hw k (S % w) (out.set k (S / w)) (by omega) ⟨hm0, hm1⟩ (ho.set _ hq0 hq) (by simpa using hl) (by
   rw [wv_drop _ k, wv_drop xs k, ← ex, getD_set_same hkl, hd, ← hv]
   exact alg2 eS hdm)
  refine ⟨rest', out', ?_, k2, k3, k4, k5⟩
  exact ref01_small_L0_r0 (v1 := rest * 1000000000) (v2 := x) (v3 := x) (v4 := S) (v5 := w) (v6 := S / w) (v7 := S / w) (v8 := out.getD k 0) (v9 := Wr (out.set k (S / w))) (v10 := S % w) (v11 := (k : Int) - 1)
   (wu (by omega)) (wu (by omega)) (wu (by omega)) (wu (by omega)) (wu ⟨tdv hS.1 rfl, hq0, by omega⟩) (w32 (by omega)) (by rw [Int.toNat_natCast, Wr_set]) (tmd hS.1 rfl) (wi (by omega))
   (by omega) (by omega) (by rw [ex]; exact Wr_getD (by omega)) (by omega) (by omega) (Wr_getD hkl) k1
theorem r1_small {n w : Nat} (hw : 0 < w ∧ w < 1000000000) (hl : (words n).length < 35184372088000) : Fn E F_ref01_small [.c (.list (Wr (words n))), .c (.u32 w)] (.tup [.c (.list (Wr (words (n / w)))), .c (.u32 ((n % w : Nat) : Int))]) := by
 obtain ⟨rest, out, k1, k2, k3, k4, k5⟩ := r1_small_loop (E := E) (words_wd n) (N := (words n).length) rfl (by omega) (w := w) (by omega) (words n).length 0 (List.replicate (words n).length 0) (Nat.le_refl _) (by omega) (Wd.replicate _) (by simp)
  (by rw [drop_nil (by simp), drop_nil (Nat.le_refl _)]; simp [wv])
 rw [words_val] at k5
 have h0 := val_nonneg k3
 obtain ⟨q, hq⟩ : ∃ q : Nat, wv out = q := ⟨(wv out).toNat, by omega⟩
 obtain ⟨r, hr⟩ : ∃ r : Nat, rest = r := ⟨rest.toNat, by omega⟩
 rw [hq, hr] at k5
 subst hr
 have hn : n = q * w + r := by
  have : ((q * w + r : Nat) : Int) = n := by rw [Int.natCast_add, Int.natCast_mul]; exact k5
  omega
 obtain ⟨e1, e2⟩ := divmod_unique hn (by omega)
 rw [e1, e2]
 have ht := r1_trim (E := E) (ws := out) (k := (words n).length) (by omega) (by omega)
 have ha := trim_all k3 hq
 rw [k4] at ha
 exact ref01_small_0 (v1 := (words n).length) (v2 := Wr (List.replicate (words n).length 0)) (v3 := ((words n).length : Int) - 1) (v4 := (r : Int)) (v5 := Wr out) (by rw [Wr_len]; rfl) (Wr_replicate _ _) (wi (by rw [Wr_len]; omega)) (w32 (by omega)) ha (by rw [Wr_len]; omega) k1 ht
theorem r1_sub {lu k j ln : Nat} {u v : List Int} (D : Dv u v lu k j) (hln : j + k < ln) (hls : ln < 35184372088832) {g : Int} (hg : 0 ≤ g ∧ g < 1000000000) :
    ∀ d i c b u', i + d = k → 0 ≤ c ∧ c < 1000000000 → b = 0 ∨ b = 1 → Wd u' → u'.length = lu → (∀ n, n < j ∨ j + i ≤ n → u'.getD n 0 = u.getD n 0) → wv u' = wv u - pw j * (g * wv (v.take i)) + pw j * pw i * (c + b) →
    ∃ c' b' u'', Lp E 1 F_ref01_reduce 0 (ref01_reduce_L0 ln (Wr v) j g k b c i (Wr u')) (.exit 0) (ref01_reduce_L0e0 ln (Wr v) j g k b' c' (Wr u'')) ∧ (0 ≤ c' ∧ c' < 1000000000) ∧ (b' = 0 ∨ b' = 1) ∧ Wd u'' ∧ u''.length = lu ∧ (∀ n, n < j ∨ j + k ≤ n → u''.getD n 0 = u.getD n 0) ∧ wv u'' = wv u - pw j * (g * wv v) + pw j * pw k * (c' + b')
 | 0, i, c, b, u', hi, hc, hb, hw, hl, hn, hv => by
  have : i = k := by omega
  subst this
  have := D.elv
  rw [List.take_of_length_le (by omega)] at hv
  exact ⟨c, b, u', ref01_reduce_L0e0_x0 (by omega), hc, hb, hw, hl, hn, hv⟩
 | d + 1, i, c, b, u', hi, hc, hb, hw, hl, hn, hv => by
  have hjk := D.jk
  have hsm := D.small
  have hlv := D.elv
  have a0 := D.hv.getD i
  have b0 := hw.getD (j + i)
  have gk : (Wr v)[Int.toNat (i : Int)]? = some [.u32 (v.getD i 0)] := Wr_getD (by omega)
  have gu : (Wr u')[Int.toNat ((j + i : Nat) : Int)]? = some [.u32 (u'.getD (j + i) 0)] := Wr_getD (by omega)
  have et := val_take_succ v i (by omega)
  have es := val_set u' (j + i) (by omega)
  obtain ⟨x, ex⟩ : ∃ x, x = v.getD i 0 := ⟨_, rfl⟩
  obtain ⟨w, ew⟩ : ∃ w, w = u'.getD (j + i) 0 := ⟨_, rfl⟩
  rw [← ex] at a0 gk et
  rw [← ew] at b0 gu es
  have hgx : 0 ≤ g * x ∧ g * x ≤ 999999998000000001 := mul_bound hg a0
  obtain ⟨S, eS⟩ : ∃ S, S = g * x + c := ⟨_, rfl⟩
  have hS : 0 ≤ S ∧ S ≤ 999999999000000000 := by omega
  obtain ⟨dd, ed⟩ : ∃ dd, dd = w - S % 1000000000 - b := ⟨_, rfl⟩
  have key : ∀ b' d', d' = dd + 1000000000 * b' → 0 ≤ d' ∧ d' < 1000000000 → (b' = 0 ∨ b' = 1) →
      (∀ {st : St}, Lp E 1 F_ref01_reduce 0 (ref01_reduce_L0 ln (Wr v) j g k b' (S / 1000000000) ((i + 1 : Nat) : Int) (Wr (u'.set (j + i) d'))) (.exit 0) st → Lp E 1 F_ref01_reduce 0 (ref01_reduce_L0 ln (Wr v) j g k b c i (Wr u')) (.exit 0) st) →
      ∃ c' b' u'', Lp E 1 F_ref01_reduce 0 (ref01_reduce_L0 ln (Wr v) j g k b c i (Wr u')) (.exit 0) (ref01_reduce_L0e0 ln (Wr v) j g k b' c' (Wr u'')) ∧ (0 ≤ c' ∧ c' < 1000000000) ∧ (b' = 0 ∨ b' = 1) ∧ Wd u'' ∧ u''.length = lu ∧ (∀ n, n < j ∨ j + k ≤ n → u''.getD n 0 = u.getD n 0) ∧ wv u'' = wv u - pw j * (g * wv v) + pw j * pw k * (c' + b') := by
   intro b' d' hd' hd0 hb' hstep
   obtain ⟨c2, b2, u2, k1, k2⟩ := r1_sub D hln hls hg d (i + 1) (S / 1000000000) b' (u'.set (j + i) d') (by omega) (by omega) hb' (hw.set _ hd0.1 hd0.2) (by simpa using hl)
    (fun n h => by rw [getD_set_ne (by omega)]; exact hn n (by omega)) (by
     rw [es d', et, pw_succ, pw_add]
     have := sub_step hv eS (Int.emod_add_mul_ediv S 1000000000) ed hd'
     rw [this]; grind)
   exact ⟨c2, b2, u2, hstep k1, k2⟩
  by_cases c1 : dd < 0
  · refine key 1 (dd + 1000000000) (by omega) (by omega) (.inr rfl) fun k1 => ?_
    exact ref01_reduce_L0_r0 (v1 := x) (v2 := x) (v3 := g * x) (v4 := S) (v5 := S / 1000000000) (v6 := ((j + i : Nat) : Int)) (v7 := w) (v8 := w) (v9 := S % 1000000000) (v10 := S % 1000000000) (v11 := w - S % 1000000000) (v12 := dd) (v13 := dd + 1000000000) (v14 := dd + 1000000000) (v15 := Wr (u'.set (j + i) (dd + 1000000000))) (v16 := ((i + 1 : Nat) : Int))
     (wu (by omega)) (wu (by omega)) (wu (by omega)) (wu ⟨tdv hS.1 rfl, by omega, by omega⟩) (wi (by omega)) (wi (by omega)) (tmd hS.1 rfl) (wi (by omega)) (wi (by omega)) (wi (by omega)) (wi (by omega)) (w32 (by omega)) (by rw [Int.toNat_natCast, Wr_set]) (wi (by omega))
     (by omega) (by omega) gk (by omega) gu c1 k1
  · refine key 0 dd (by omega) (by omega) (.inl rfl) fun k1 => ?_
    exact ref01_reduce_L0_r1 (v1 := x) (v2 := x) (v3 := g * x) (v4 := S) (v5 := S / 1000000000) (v6 := ((j + i : Nat) : Int)) (v7 := w) (v8 := w) (v9 := S % 1000000000) (v10 := S % 1000000000) (v11 := w - S % 1000000000) (v12 := dd) (v13 := dd) (v14 := Wr (u'.set (j + i) dd)) (v15 := ((i + 1 : Nat) : Int))
     (wu (by omega)) (wu (by omega)) (wu (by omega)) (wu ⟨tdv hS.1 rfl, by omega, by omega⟩) (wi (by omega)) (wi (by omega)) (tmd hS.1 rfl) (wi (by omega)) (wi (by omega)) (wi (by omega)) (w32 (by omega)) (by rw [Int.toNat_natCast, Wr_set]) (wi (by omega))
     (by omega) (by omega) gk (by omega) gu c1 k1
theorem r1_add {lu k j ln : Nat} {u v : List Int} (D : Dv u v lu k j) (hln : j + k < ln) (hls : ln < 35184372088832) {g : Int} {u1 : List Int} :
    ∀ d i up u', i + d = k → 0 ≤ up ∧ up ≤ 1 → Wd u' → u'.length = lu → (∀ n, n < j ∨ j + i ≤ n → u'.getD n 0 = u1.getD n 0) → wv u' = wv u1 + pw j * wv (v.take i) - pw j * pw i * up →
    ∃ up' u'', Lp E 1 F_ref01_reduce 1 (ref01_reduce_L1 ln (Wr v) j g k up i (Wr u')) (.exit 2) (ref01_reduce_L1e0 ln j g k up' (Wr u'')) ∧ (0 ≤ up' ∧ up' ≤ 1) ∧ Wd u'' ∧ u''.length = lu ∧ (∀ n, n < j ∨ j + k ≤ n → u''.getD n 0 = u1.getD n 0) ∧ wv u'' = wv u1 + pw j * wv v - pw j * pw k * up'
 | 0, i, up, u', hi, hc, hw, hl, hn, hv => by
  have : i = k := by omega
  subst this
  have := D.elv
  rw [List.take_of_length_le (by omega)] at hv
  exact ⟨up, u', ref01_reduce_L1e0_x0 (by omega), hc, hw, hl, hn, hv⟩
 | d + 1, i, up, u', hi, hc, hw, hl, hn, hv => by
  have hjk := D.jk
  have hsm := D.small
  have hlv := D.elv
  have a0 := D.hv.getD i
  have b0 := hw.getD (j + i)
  have gk : (Wr v)[Int.toNat (i : Int)]? = some [.u32 (v.getD i 0)] := Wr_getD (by omega)
  have gu : (Wr u')[Int.toNat ((j + i : Nat) : Int)]? = some [.u32 (u'.getD (j + i) 0)] := Wr_getD (by omega)
  have et := val_take_succ v i (by omega)
  have es := val_set u' (j + i) (by omega)
  obtain ⟨x, ex⟩ : ∃ x, x = v.getD i 0 := ⟨_, rfl⟩
  obtain ⟨w, ew⟩ : ∃ w, w = u'.getD (j + i) 0 := ⟨_, rfl⟩
  rw [← ex] at a0 gk et
  rw [← ew] at b0 gu es
  obtain ⟨S, eS⟩ : ∃ S, S = up + (w + x) := ⟨_, rfl⟩
  have hS : 0 ≤ S ∧ S ≤ 1999999999 := by omega
  obtain ⟨up2, u2, k1, k2⟩ := r1_add (g := g) D hln hls (u1 := u1) d (i + 1) (S / 1000000000) (u'.set (j + i) (S % 1000000000)) (by omega) (by omega) (hw.set _ (by omega) (by omega)) (by simpa using hl)
   (fun n h => by rw [getD_set_ne (by omega)]; exact hn n (by omega)) (by
    rw [es, et, pw_succ, pw_add]
    have := add_step hv eS (Int.emod_add_mul_ediv S 1000000000)
    rw [this]; grind)
  refine ⟨up2, u2, ?_, k2⟩
  exact ref01_reduce_L1_r0 (v1 := ((j + i : Nat) : Int)) (v2 := w) (v3 := x) (v4 := w + x) (v5 := S) (v6 := S % 1000000000) (v7 := Wr (u'.set (j + i) (S % 1000000000))) (v8 := S / 1000000000) (v9 := ((i + 1 : Nat) : Int))
   (wi (by omega)) (w32 (by omega)) (w32 (by omega)) (tmd hS.1 rfl) (by rw [Int.toNat_natCast, Wr_set]) (w32 ⟨tdv hS.1 rfl, by omega, by omega⟩) (wi (by omega))
   (by omega) (by omega) gu (by omega) gk k1
theorem same_above {xs ys : List Int} {n : Nat} (hl : xs.length = ys.length) (h : ∀ i, n ≤ i → xs.getD i 0 = ys.getD i 0) : xs.drop n = ys.drop n := by
 apply List.ext_getElem?
 intro i
 rw [List.getElem?_drop, List.getElem?_drop]
 rcases Nat.lt_or_ge (n + i) xs.length with h1 | h1
 · rw [getD_some h1, getD_some (by omega), h _ (by omega)]
 · rw [List.getElem?_eq_none h1, List.getElem?_eq_none (by omega)]
theorem r1_reduce {lu k j ln : Nat} {u v : List Int} (D : Dv u v lu k j) (hln : j + k < ln) (hls : ln < 35184372088832) {g : Int} (hg : 0 ≤ g ∧ g < 1000000000) (hup : wv (u.drop j) < (g + 1) * wv v) (hlo : (g - 1) * wv v ≤ wv (u.drop j)) :
    ∃ u' q, Rn E F_ref01_reduce [.vec 0 ln, .c (.list (Wr v)), .c (.i64 j), .c (.u64 g)] [some (.vec T_uint32 (Wr u))] (.c (.u32 q)) [some (.vec T_uint32 (Wr u'))] ∧
     (0 ≤ q ∧ q < 1000000000) ∧ Wd u' ∧ u'.length = lu ∧ wv u' = wv u - pw j * (q * wv v) ∧ 0 ≤ wv (u'.drop j) ∧ wv (u'.drop j) < wv v := by
 have h2 := D.two
 have hjk := D.jk
 have hsm := D.small
 have hlu := D.elu
 have hlv := D.elv
 have hV := D.vpos
 have hVk := D.vk
 have b0 := D.hu.getD (j + k)
 have hz := D.zero
 obtain ⟨u0, e3⟩ : ∃ x, x = u.getD (j + k) 0 := ⟨_, rfl⟩
 rw [← e3] at b0
 obtain ⟨c, b, us, s1, s2, s3, s4, s5, s6, s7⟩ := r1_sub (E := E) D hln hls hg k 0 0 0 u (by omega) (by omega) (.inl rfl) D.hu D.elu (fun _ _ => rfl) (by simp [wv])
 have hsu : us.getD (j + k) 0 = u0 := by rw [s6 _ (.inr (Nat.le_refl _)), ← e3]
 have gs0 : (Wr us)[Int.toNat ((j + k : Nat) : Int)]? = some [.u32 u0] := by rw [← hsu]; exact Wr_getD (by omega)
 obtain ⟨last, hlast⟩ : ∃ x, x = u0 - c - b := ⟨_, rfl⟩
 have hset := val_set us (j + k) (by omega)
 rw [hsu] at hset
 have sv : wv us = wv u - pw j * (g * wv v - pw k * (c + b)) := by rw [s7]; grind
 have sd := drop_val (xs := us) (ys := u) (by omega) (j := j) (by omega) (fun n hn => s6 n (.inl hn)) sv
 have sk := val_take_drop (us.drop j) k (by simp; omega)
 have sz : wv (us.drop (j + k + 1)) = 0 := by
  rw [same_above (ys := u) (by omega) (fun i hi => s6 i (.inr (by omega)))]; exact hz
 rw [List.drop_drop, val_drop us (j + k) (by omega), sz, hsu] at sk
 have sk0 := val_nonneg ((s4.drop j).take k)
 have sk1 := (s4.drop j).val_take_lt k (by simp; omega)
 have hpk := pw_pos k
 have hpj := pw_pos j
 have hXV : (g + 1) * wv v = g * wv v + wv v := by grind
 have hwl : ((Wr v).length : Int) = k := by rw [Wr_len, hlv]
 have s1' : Lp E 1 F_ref01_reduce 0 (ref01_reduce_L0 ln (Wr v) j g ((Wr v).length : Int) 0 0 0 (Wr u)) (.exit 0) (ref01_reduce_L0e0 ln (Wr v) j g ((Wr v).length : Int) b c (Wr us)) := by rw [hwl]; exact s1
 by_cases c1 : last < 0
 · have hneg : wv (u.drop j) < g * wv v := by
    have h5 : pw k * last ≤ pw k * (-1) := Int.mul_le_mul_of_nonneg_left (by omega) (by omega)
    have h6 : pw k * last = pw k * u0 - pw k * (c + b) := by rw [hlast]; grind
    simp at sk
    omega
   have hg1 : 1 ≤ g := by
    rcases Int.lt_or_le g 1 with h | h
    · have : g = 0 := by omega
      subst this
      have := val_nonneg (D.hu.drop j)
      omega
    · exact h
   obtain ⟨m, hm⟩ : ∃ m, m = us.set (j + k) (last + 1000000000) := ⟨_, rfl⟩
   have hlb : -1000000000 ≤ last := by rcases s3 with h | h <;> omega
   have mw : Wd m := by rw [hm]; exact s4.set _ (by omega) (by omega)
   have ml : m.length = lu := by rw [hm]; simpa using s5
   have mv : wv m = wv us + pw (j + k) * (last + 1000000000 - u0) := by rw [hm, hset]
   have mj : m.getD (j + k) 0 = last + 1000000000 := by rw [hm]; exact getD_set_same (by omega) _
   obtain ⟨up, ua, t1, t2, t3, t4, t5, t6⟩ := r1_add (E := E) (g := g) D hln hls (u1 := m) k 0 0 m (by omega) (by omega) mw ml (fun _ _ => rfl) (by simp [wv])
   have hau : ua.getD (j + k) 0 = last + 1000000000 := by rw [t5 _ (.inr (Nat.le_refl _)), mj]
   have ga0 : (Wr ua)[Int.toNat ((j + k : Nat) : Int)]? = some [.u32 (last + 1000000000)] := by rw [← hau]; exact Wr_getD (by omega)
   have hset2 := val_set ua (j + k) (by omega)
   rw [hau] at hset2
   have tv : wv ua = wv u - pw j * ((g - 1) * wv v - pw k * (last + 1000000000 - u0) - pw k * (c + b) + pw k * up) := by rw [t6, mv, s7, pw_add]; grind
   have td := drop_val (xs := ua) (ys := u) (by omega) (j := j) (by omega) (fun n hn => by rw [t5 n (.inl hn), hm, getD_set_ne (by omega)]; exact s6 n (.inl hn)) tv
   have tk := val_take_drop (ua.drop j) k (by simp; omega)
   have tz : wv (ua.drop (j + k + 1)) = 0 := by
    rw [same_above (ys := us) (by omega) (fun i hi => by rw [t5 i (.inr (by omega)), hm, getD_set_ne (by omega)])]; exact sz
   rw [List.drop_drop, val_drop ua (j + k) (by omega), tz, hau] at tk
   have tk0 := val_nonneg ((t3.drop j).take k)
   have tk1 := (t3.drop j).val_take_lt k (by simp; omega)
   have hg1V : (g - 1) * wv v = g * wv v - wv v := by grind
   have hzero : last + up = 0 := by
    have h5 : pw k * (last + up) = pw k * last + pw k * up := by grind
    have h6 : pw k * (last + 1000000000 - u0) = pw k * last + pw k * 1000000000 - pw k * u0 := by grind
    have h7 : pw k * last = pw k * u0 - pw k * (c + b) := by rw [hlast]; grind
    have h8 : pw k * (last + 1000000000) = pw k * last + pw k * 1000000000 := by grind
    have h9 : -pw k < pw k * (last + up) ∧ pw k * (last + up) < pw k := by
     simp at tk
     omega
    rcases Int.lt_trichotomy (last + up) 0 with h | h | h
    · have : pw k * (last + up) ≤ pw k * (-1) := Int.mul_le_mul_of_nonneg_left (by omega) (by omega)
      omega
    · exact h
    · have : pw k * 1 ≤ pw k * (last + up) := Int.mul_le_mul_of_nonneg_left (by omega) (by omega)
      omega
   have hfin : wv (ua.set (j + k) 0) = wv u - pw j * ((g - 1) * wv v) := by
    rw [hset2, tv, pw_add]
    have e1 : u0 = c + b + last := by omega
    have e2 : up = -last := by omega
    rw [e1, e2]; grind
   have hd := drop_val (xs := ua.set (j + k) 0) (ys := u) (by simp; omega) (j := j) (by simp; omega) (fun n hn => by rw [getD_set_ne (by omega), t5 n (.inl hn), hm, getD_set_ne (by omega)]; exact s6 n (.inl hn)) hfin
   refine ⟨ua.set (j + k) 0, g - 1, ?_, by omega, t3.set _ (by omega) (by omega), by simpa using t4, hfin, by rw [hd]; omega, by rw [hd]; omega⟩
   have t1' : Lp E 1 F_ref01_reduce 1 (ref01_reduce_L1 ln (Wr v) j g ((Wr v).length : Int) 0 0 (Wr m)) (.exit 2) (ref01_reduce_L1e0 ln j g ((Wr v).length : Int) up (Wr ua)) := by rw [hwl]; exact t1
   exact ref01_reduce_1 (v1 := b) (v2 := c) (v3 := Wr us) (v4 := ((j + k : Nat) : Int)) (v5 := u0) (v6 := u0) (v7 := c) (v8 := u0 - c) (v9 := last) (v10 := last + 1000000000) (v11 := last + 1000000000) (v12 := Wr m) (v13 := up) (v14 := Wr ua) (v15 := last + 1000000000) (v16 := 1000000000) (v17 := 0) (v18 := Wr (ua.set (j + k) 0)) (v19 := g - 1) (v20 := g - 1)
    (wi (by rw [hwl]; omega)) (wi (by omega)) (wi (by omega)) (wi (by omega)) (wi (by omega)) (wi (by omega)) (w32 (by omega)) (by rw [Int.toNat_natCast, Wr_set, hm]) (w32 (by omega)) (tmd (by omega) rfl) (by rw [Int.toNat_natCast, Wr_set]) (wu (by omega)) (w32 (by omega))
    s1' (by omega) gs0 (by omega) t1' ga0
 · have hfin : wv (us.set (j + k) last) = wv u - pw j * (g * wv v) := by
    rw [hset, sv, pw_add, hlast]; grind
   have hd := drop_val (xs := us.set (j + k) last) (ys := u) (by simp; omega) (j := j) (by simp; omega) (fun n hn => by rw [getD_set_ne (by omega)]; exact s6 n (.inl hn)) hfin
   have hl9 : last < 1000000000 := by rcases s3 with h | h <;> omega
   refine ⟨us.set (j + k) last, g, ?_, hg, s4.set _ (by omega) hl9, by simpa using s5, hfin, val_nonneg ((s4.set (j + k) (show 0 ≤ last by omega) hl9).drop j), by rw [hd]; omega⟩
   exact ref01_reduce_0 (v1 := b) (v2 := c) (v3 := Wr us) (v4 := ((j + k : Nat) : Int)) (v5 := u0) (v6 := u0) (v7 := c) (v8 := u0 - c) (v9 := last) (v10 := last) (v11 := Wr (us.set (j + k) last)) (v12 := g)
    (wi (by rw [hwl]; omega)) (wi (by omega)) (wi (by omega)) (wi (by omega)) (wi (by omega)) (w32 (by omega)) (by rw [Int.toNat_natCast, Wr_set]) (w32 (by omega)) s1' (by omega) gs0 (by omega)
end Gev
