/- The law of the last text of this claim: its walk, its plain words. -/
import Derived.Test.YtpjpnmjbaedkmaaGreatDoorF
import Derived.KernelRfl
import Derived.Shelf.SlicesE.Clone
import Derived.Test.YtpjpnmjbaedkmaaGreatDoorTie
import Derived.Test.YtpjpnmjbaedkmaaGreatDoorCards
import Derived.Deep.DeepHandedRow
import Derived.Deep.Strs
set_option linter.unusedSectionVars false
set_option linter.unusedVariables false
set_option linter.unusedSimpArgs false
namespace Gev
abbrev F_lawS : Nat := 8
abbrev RW := List (List DV)
open Go Go.Proofs
variable {E : Env}
def lawS_L0 (x9 : Nat) (x10 : Nat) (x60 : RW) (x61 : Int) (x62 : Int) (c0_0 : ByteArray) (c0_1 : ByteArray) (c0_2 : ByteArray) (c1_0 : Bool) (c1_1 : RW) (c1_2 : RW) (c2_0 : Bool) (c2_1 : RW) (c2_2 : RW) (w3 : RW) (w4 : RW) : St := stOf 139 [(3,.ptr 0 0),(5,.ptr 1 0),(7,.ptr 2 0),(9,.vec 3 x9),(10,.vec 4 x10),(60,.c (.list x60)),(61,.c (.i64 x61)),(62,.c (.i64 x62))] [some (.cells [.c (.str c0_0),.c (.str c0_1),.c (.str c0_2)]),some (.cells [.c (.bool c1_0),.c (.list c1_1),.c (.list c1_2)]),some (.cells [.c (.bool c2_0),.c (.list c2_1),.c (.list c2_2)]),some (.vec T_api_Shift w3),some (.vec T_api_Shift w4)]
def lawS_L0e0 (c0_0 : ByteArray) (c0_1 : ByteArray) (c0_2 : ByteArray) (c1_0 : Bool) (c1_1 : RW) (c1_2 : RW) (c2_0 : Bool) (c2_1 : RW) (c2_2 : RW) (w3' : RW) (w4' : RW) : St := stOf 139 [(4,.c (.bool true))] [some (.cells [.c (.str c0_0),.c (.str c0_1),.c (.str c0_2)]),some (.cells [.c (.bool c1_0),.c (.list c1_1),.c (.list c1_2)]),some (.cells [.c (.bool c2_0),.c (.list c2_1),.c (.list c2_2)]),some (.vec T_api_Shift w3'),some (.vec T_api_Shift w4')]
def lawS_L0e1 (x9 : Nat) (x10 : Nat) (c0_0 : ByteArray) (c0_1 : ByteArray) (c0_2 : ByteArray) (c1_0 : Bool) (c1_1 : RW) (c1_2 : RW) (c2_0 : Bool) (c2_1 : RW) (c2_2 : RW) (w3' : RW) (w4' : RW) : St := stOf 139 [(3,.ptr 0 0),(5,.ptr 1 0),(9,.vec 3 x9),(10,.vec 4 x10)] [some (.cells [.c (.str c0_0),.c (.str c0_1),.c (.str c0_2)]),some (.cells [.c (.bool c1_0),.c (.list c1_1),.c (.list c1_2)]),some (.cells [.c (.bool c2_0),.c (.list c2_1),.c (.list c2_2)]),some (.vec T_api_Shift w3'),some (.vec T_api_Shift w4')]
theorem lawS_L0_r0 {x9 x10 : Nat} {x60 : RW} {x61 x62 : Int} {c0_0 c0_1 c0_2 : ByteArray} {c1_0 : Bool} {c1_1 c1_2 : RW} {c2_0 : Bool} {c2_1 c2_2 w3 w4 : RW} {v1 v2 : ByteArray} {v3 : Bool} {v4 v5 : RW} {v7 : Bool} {v8 v9 : RW} {v10 : Bool} {v11 v12 : RW} {v13 v14 v15 : ByteArray} {v16 : RW} {v17 : Bool} {v18 v19 : RW} {v20 v21 v22 v23 v24 : ByteArray} {v25 : RW} {v26 : Int} (e1 : List.set w3 (Int.toNat x62) [.str v14,.str v13] = v16) (e2 : List.set w4 (Int.toNat x62) [.str v20,.str v22] = v25) (e3 : IntKind.i64.wrap (x62 + 1) = v26) (h1 : x62 < x61) (h2 : 0 ≤ x62) (h3 : x60[(Int.toNat x62)]? = some [.str v1,.str v2]) (h4 : Fn E F_ref03_From [.c (.str v1)] (.tup [.agg [.bool v3,.list v4,.list v5],.c (.bool true)])) (h5 : Fn E F_ref03_Mul [.agg [.bool c1_0,.list c1_1,.list c1_2],.agg [.bool v3,.list v4,.list v5]] (.agg [.bool v7,.list v8,.list v9])) (h6 : Fn E F_ref03_Add [.agg [.bool c2_0,.list c2_1,.list c2_2],.agg [.bool v7,.list v8,.list v9]] (.agg [.bool v10,.list v11,.list v12])) (h7 : Fn E F_ref03_To [.agg [.bool v10,.list v11,.list v12]] (.c (.str v13))) (h8 : 0 ≤ x62 ∧ x62 < ((x9 : Nat) : Int)) (h9 : w3[(Int.toNat x62)]? = some [.str v14,.str v15]) (h10 : Fn E F_ref03_Neg [.agg [.bool v3,.list v4,.list v5]] (.agg [.bool v17,.list v18,.list v19])) (h11 : Fn E F_ref03_To [.agg [.bool v17,.list v18,.list v19]] (.c (.str v20))) (h12 : v16[(Int.toNat x62)]? = some [.str v21,.str v22]) (h13 : 0 ≤ x62 ∧ x62 < ((x10 : Nat) : Int)) (h14 : w4[(Int.toNat x62)]? = some [.str v23,.str v24]) {o : Out} {st' : St} (ih : Lp E 5 F_lawS 0 (lawS_L0 x9 x10 x60 x61 v26 c0_0 c0_1 c0_2 c1_0 c1_1 c1_2 c2_0 c2_1 c2_2 v16 v25) o st') :
    Lp E 5 F_lawS 0 (lawS_L0 x9 x10 x60 x61 x62 c0_0 c0_1 c0_2 c1_0 c1_1 c1_2 c2_0 c2_1 c2_2 w3 w4) o st' := by
 subst e1 e2 e3
 exact lpOn _ [3,5,7,9,10,60,61,62] [.t true,.d [.str v1,.str v2],.v (.tup [.agg [.bool v3,.list v4,.list v5],.c (.bool true)]),.v (.agg [.bool v7,.list v8,.list v9]),.v (.agg [.bool v10,.list v11,.list v12]),.v (.c (.str v13)),.d [.str v14,.str v15],.v (.agg [.bool v17,.list v18,.list v19]),.v (.c (.str v20)),.d [.str v21,.str v22],.d [.str v23,.str v24]] (aC (dT h1) (aC h2 (aC h3 (aC h4 (aC h5 (aC h6 (aC h7 (aC h8 (aC h9 (aC h10 (aC h11 (aC h8 (aC h12 (aC h13 (aO h14))))))))))))))) (by kernel_rfl) ih
theorem lawS_L0e0_x0 {x9 x10 : Nat} {x60 : RW} {x61 x62 : Int} {c0_0 c0_1 c0_2 : ByteArray} {c1_0 : Bool} {c1_1 c1_2 : RW} {c2_0 : Bool} {c2_1 c2_2 w3 w4 : RW} {v1 v2 : ByteArray} {v3 : Bool} {v4 v5 : RW} (h1 : x62 < x61) (h2 : 0 ≤ x62) (h3 : x60[(Int.toNat x62)]? = some [.str v1,.str v2]) (h4 : Fn E F_ref03_From [.c (.str v1)] (.tup [.agg [.bool v3,.list v4,.list v5],.c (.bool false)])) :
    Lp E 5 F_lawS 0 (lawS_L0 x9 x10 x60 x61 x62 c0_0 c0_1 c0_2 c1_0 c1_1 c1_2 c2_0 c2_1 c2_2 w3 w4) .ret (lawS_L0e0 c0_0 c0_1 c0_2 c1_0 c1_1 c1_2 c2_0 c2_1 c2_2 w3 w4) := by
 exact lpOff [4] [.t true,.d [.str v1,.str v2],.v (.tup [.agg [.bool v3,.list v4,.list v5],.c (.bool false)])] (aC (dT h1) (aC h2 (aC h3 (aO h4)))) (by kernel_rfl) (by simp)
theorem lawS_L0e1_x0 {x9 x10 : Nat} {x60 : RW} {x61 x62 : Int} {c0_0 c0_1 c0_2 : ByteArray} {c1_0 : Bool} {c1_1 c1_2 : RW} {c2_0 : Bool} {c2_1 c2_2 w3 w4 : RW} (h1 : ¬ x62 < x61) :
    Lp E 5 F_lawS 0 (lawS_L0 x9 x10 x60 x61 x62 c0_0 c0_1 c0_2 c1_0 c1_1 c1_2 c2_0 c2_1 c2_2 w3 w4) (.exit 0) (lawS_L0e1 x9 x10 c0_0 c0_1 c0_2 c1_0 c1_1 c1_2 c2_0 c2_1 c2_2 w3 w4) := by
 exact lpOff [3,5,9,10] [.t false] (aO (dF h1)) (by kernel_rfl) (by simp)
theorem lawS_0 {a0 : RW} {a1_0 a1_1 a1_2 : ByteArray} {v2 : Bool} {v3 v4 : RW} {v5 v6 : Bool} {v7 v8 : RW} {v9 : Bool} (h1 : Fn E F_law54_awake [] (.c (.bool true))) (h2 : Fn E F_ref03_From [.c (.str a1_0)] (.tup [.agg [.bool v2,.list v3,.list v4],.c (.bool v5)])) (h3 : Fn E F_ref03_From [.c (.str a1_1)] (.tup [.agg [.bool v6,.list v7,.list v8],.c (.bool v9)])) (h4 : Fn E F_ref54_Few [.c (.list a0),.c (.list [])] (.c (.bool true))) (h5 : (a1_0.size : Int) > 40) :
    Fn E F_lawS [.c (.list a0),.agg [.str a1_0,.str a1_1,.str a1_2]] (.c (.bool true)) := by
 exact fnMk [.v (.c (.bool true)),.v (.tup [.agg [.bool v2,.list v3,.list v4],.c (.bool v5)]),.v (.tup [.agg [.bool v6,.list v7,.list v8],.c (.bool v9)]),.v (.c (.bool true)),.t true] (by kernel_rfl) (by kernel_rfl) (aC h1 (aC h2 (aC h3 (aC h4 (aO (dT h5)))))) (by kernel_rfl)
theorem lawS_1 {a0 : RW} {a1_0 a1_1 a1_2 : ByteArray} {v2 : Bool} {v3 v4 : RW} {v5 v6 : Bool} {v7 v8 : RW} {v9 : Bool} (h1 : Fn E F_law54_awake [] (.c (.bool true))) (h2 : Fn E F_ref03_From [.c (.str a1_0)] (.tup [.agg [.bool v2,.list v3,.list v4],.c (.bool v5)])) (h3 : Fn E F_ref03_From [.c (.str a1_1)] (.tup [.agg [.bool v6,.list v7,.list v8],.c (.bool v9)])) (h4 : Fn E F_ref54_Few [.c (.list a0),.c (.list [])] (.c (.bool true))) (h5 : ¬ (a1_0.size : Int) > 40) (h6 : (a1_1.size : Int) > 40) :
    Fn E F_lawS [.c (.list a0),.agg [.str a1_0,.str a1_1,.str a1_2]] (.c (.bool true)) := by
 exact fnMk [.v (.c (.bool true)),.v (.tup [.agg [.bool v2,.list v3,.list v4],.c (.bool v5)]),.v (.tup [.agg [.bool v6,.list v7,.list v8],.c (.bool v9)]),.v (.c (.bool true)),.t false,.t true] (by kernel_rfl) (by kernel_rfl) (aC h1 (aC h2 (aC h3 (aC h4 (aC (dF h5) (aO (dT h6))))))) (by kernel_rfl)
theorem lawS_2 {a0 : RW} {a1_0 a1_1 a1_2 : ByteArray} {v2 : Bool} {v3 v4 : RW} {v6 : Bool} {v7 v8 : RW} {v11 : Nat} {v12 : RW} {v13 : Nat} {v14 v15 v16 : RW} (h1 : Fn E F_law54_awake [] (.c (.bool true))) (h2 : Fn E F_ref03_From [.c (.str a1_0)] (.tup [.agg [.bool v2,.list v3,.list v4],.c (.bool true)])) (h3 : Fn E F_ref03_From [.c (.str a1_1)] (.tup [.agg [.bool v6,.list v7,.list v8],.c (.bool true)])) (h4 : Fn E F_ref54_Few [.c (.list a0),.c (.list [])] (.c (.bool true))) (h5 : ¬ (a1_0.size : Int) > 40) (h6 : ¬ (a1_1.size : Int) > 40) (h7 : Rn E F_slices_Clone_Shift [.c (.list a0)] [] (.vec 0 v11) [some (.vec T_api_Shift v12)]) (h8 : Rn E F_slices_Clone_Shift [.c (.list a0)] [] (.vec 0 v13) [some (.vec T_api_Shift v14)]) (h9 : Lp E 5 F_lawS 0 (lawS_L0 v11 v13 a0 (a0.length : Int) 0 a1_0 a1_1 a1_2 v2 v3 v4 v6 v7 v8 v12 v14) .ret (lawS_L0e0 a1_0 a1_1 a1_2 v2 v3 v4 v6 v7 v8 v15 v16)) :
    Fn E F_lawS [.c (.list a0),.agg [.str a1_0,.str a1_1,.str a1_2]] (.c (.bool true)) := by
 exact fnMk [.v (.c (.bool true)),.v (.tup [.agg [.bool v2,.list v3,.list v4],.c (.bool true)]),.v (.tup [.agg [.bool v6,.list v7,.list v8],.c (.bool true)]),.v (.c (.bool true)),.t false,.t false,.nw v11 T_api_Shift v12,.nw v13 T_api_Shift v14,.loop [3,5,7,9,10,60,61,62] [] .ret (lawS_L0e0 a1_0 a1_1 a1_2 v2 v3 v4 v6 v7 v8 v15 v16)] (by kernel_rfl) (by kernel_rfl) (aC h1 (aC h2 (aC h3 (aC h4 (aC (dF h5) (aC (dF h6) (aC h7 (aC h8 (aO h9))))))))) (by kernel_rfl)
theorem lawS_3 {a0 : RW} {a1_0 a1_1 a1_2 : ByteArray} {v2 : Bool} {v3 v4 : RW} {v6 : Bool} {v7 v8 : RW} {v11 : Nat} {v12 : RW} {v13 : Nat} {v14 v15 v16 v17 : RW} {v18 v19 v20 : ByteArray} {v21 : Int} {v22 : RW} {v23 v24 v25 : ByteArray} {v26 : Int} (e1 : (v15.take v11) = v17) (e2 : (v16.take v13) = v22) (h1 : Fn E F_law54_awake [] (.c (.bool true))) (h2 : Fn E F_ref03_From [.c (.str a1_0)] (.tup [.agg [.bool v2,.list v3,.list v4],.c (.bool true)])) (h3 : Fn E F_ref03_From [.c (.str a1_1)] (.tup [.agg [.bool v6,.list v7,.list v8],.c (.bool true)])) (h4 : Fn E F_ref54_Few [.c (.list a0),.c (.list [])] (.c (.bool true))) (h5 : ¬ (a1_0.size : Int) > 40) (h6 : ¬ (a1_1.size : Int) > 40) (h7 : Rn E F_slices_Clone_Shift [.c (.list a0)] [] (.vec 0 v11) [some (.vec T_api_Shift v12)]) (h8 : Rn E F_slices_Clone_Shift [.c (.list a0)] [] (.vec 0 v13) [some (.vec T_api_Shift v14)]) (h9 : Lp E 5 F_lawS 0 (lawS_L0 v11 v13 a0 (a0.length : Int) 0 a1_0 a1_1 a1_2 v2 v3 v4 v6 v7 v8 v12 v14) (.exit 0) (lawS_L0e1 v11 v13 a1_0 a1_1 a1_2 v2 v3 v4 v6 v7 v8 v15 v16)) (h10 : Fn E F_incline_Fit [.c (.list v17)] (.tup [.agg [.str v18,.str v19,.str v20],.c (.i64 v21)])) (h11 : Fn E F_incline_Fit [.c (.list v22)] (.tup [.agg [.str v23,.str v24,.str v25],.c (.i64 v26)])) (h12 : ¬ v21 = 0) (h13 : ((v18 == (⟨#[]⟩ : ByteArray)) && ((v19 == (⟨#[]⟩ : ByteArray)) && ((v20 == (⟨#[]⟩ : ByteArray)) && true))) = true) (h14 : v26 = v21) :
    Fn E F_lawS [.c (.list a0),.agg [.str a1_0,.str a1_1,.str a1_2]] (.c (.bool true)) := by
 subst e1 e2
 exact fnMk [.v (.c (.bool true)),.v (.tup [.agg [.bool v2,.list v3,.list v4],.c (.bool true)]),.v (.tup [.agg [.bool v6,.list v7,.list v8],.c (.bool true)]),.v (.c (.bool true)),.t false,.t false,.nw v11 T_api_Shift v12,.nw v13 T_api_Shift v14,.loop [3,5,7,9,10,60,61,62] [] (.exit 0) (lawS_L0e1 v11 v13 a1_0 a1_1 a1_2 v2 v3 v4 v6 v7 v8 v15 v16),.v (.tup [.agg [.str v18,.str v19,.str v20],.c (.i64 v21)]),.v (.tup [.agg [.str v23,.str v24,.str v25],.c (.i64 v26)]),.t true,.t true,.t true] (by kernel_rfl) (by kernel_rfl) (aC h1 (aC h2 (aC h3 (aC h4 (aC (dF h5) (aC (dF h6) (aC h7 (aC h8 (aC h9 (aC h10 (aC h11 (aC (bnT h12) (aC (id h13) (aO (beT h14))))))))))))))) (by kernel_rfl)
theorem lawS_6 {a0 : RW} {a1_0 a1_1 a1_2 : ByteArray} {v2 : Bool} {v3 v4 : RW} {v6 : Bool} {v7 v8 : RW} {v11 : Nat} {v12 : RW} {v13 : Nat} {v14 v15 v16 v17 : RW} {v18 v19 v20 : ByteArray} {v21 : Int} {v22 : RW} {v23 v24 v25 : ByteArray} {v26 : Int} {v27 : Bool} {v28 v29 : RW} {v30 : ByteArray} (e1 : (v15.take v11) = v17) (e2 : (v16.take v13) = v22) (h1 : Fn E F_law54_awake [] (.c (.bool true))) (h2 : Fn E F_ref03_From [.c (.str a1_0)] (.tup [.agg [.bool v2,.list v3,.list v4],.c (.bool true)])) (h3 : Fn E F_ref03_From [.c (.str a1_1)] (.tup [.agg [.bool v6,.list v7,.list v8],.c (.bool true)])) (h4 : Fn E F_ref54_Few [.c (.list a0),.c (.list [])] (.c (.bool true))) (h5 : ¬ (a1_0.size : Int) > 40) (h6 : ¬ (a1_1.size : Int) > 40) (h7 : Rn E F_slices_Clone_Shift [.c (.list a0)] [] (.vec 0 v11) [some (.vec T_api_Shift v12)]) (h8 : Rn E F_slices_Clone_Shift [.c (.list a0)] [] (.vec 0 v13) [some (.vec T_api_Shift v14)]) (h9 : Lp E 5 F_lawS 0 (lawS_L0 v11 v13 a0 (a0.length : Int) 0 a1_0 a1_1 a1_2 v2 v3 v4 v6 v7 v8 v12 v14) (.exit 0) (lawS_L0e1 v11 v13 a1_0 a1_1 a1_2 v2 v3 v4 v6 v7 v8 v15 v16)) (h10 : Fn E F_incline_Fit [.c (.list v17)] (.tup [.agg [.str v18,.str v19,.str v20],.c (.i64 v21)])) (h11 : Fn E F_incline_Fit [.c (.list v22)] (.tup [.agg [.str v23,.str v24,.str v25],.c (.i64 v26)])) (h12 : v21 = 0) (h13 : v26 = 0) (h14 : ((v18 == a1_0) && ((v19 == a1_1) && ((v20 == (⟨#[48]⟩ : ByteArray)) && true))) = true) (h15 : Fn E F_ref03_Neg [.agg [.bool v2,.list v3,.list v4]] (.agg [.bool v27,.list v28,.list v29])) (h16 : Fn E F_ref03_To [.agg [.bool v27,.list v28,.list v29]] (.c (.str v30))) (h17 : ((v23 == v30) && ((v24 == a1_1) && ((v25 == (⟨#[48]⟩ : ByteArray)) && true))) = true) :
    Fn E F_lawS [.c (.list a0),.agg [.str a1_0,.str a1_1,.str a1_2]] (.c (.bool true)) := by
 subst e1 e2
 exact fnMk [.v (.c (.bool true)),.v (.tup [.agg [.bool v2,.list v3,.list v4],.c (.bool true)]),.v (.tup [.agg [.bool v6,.list v7,.list v8],.c (.bool true)]),.v (.c (.bool true)),.t false,.t false,.nw v11 T_api_Shift v12,.nw v13 T_api_Shift v14,.loop [3,5,7,9,10,60,61,62] [] (.exit 0) (lawS_L0e1 v11 v13 a1_0 a1_1 a1_2 v2 v3 v4 v6 v7 v8 v15 v16),.v (.tup [.agg [.str v18,.str v19,.str v20],.c (.i64 v21)]),.v (.tup [.agg [.str v23,.str v24,.str v25],.c (.i64 v26)]),.t false,.t true,.t true,.v (.agg [.bool v27,.list v28,.list v29]),.v (.c (.str v30)),.t true] (by kernel_rfl) (by kernel_rfl) (aC h1 (aC h2 (aC h3 (aC h4 (aC (dF h5) (aC (dF h6) (aC h7 (aC h8 (aC h9 (aC h10 (aC h11 (aC (bnF h12) (aC (beT h13) (aC (id h14) (aC h15 (aC h16 (aO (id h17)))))))))))))))))) (by kernel_rfl)
theorem lawS_10 {a0 : RW} {a1_0 a1_1 a1_2 : ByteArray} {v2 : Bool} {v3 v4 : RW} {v6 : Bool} {v7 v8 : RW} (h1 : Fn E F_law54_awake [] (.c (.bool true))) (h2 : Fn E F_ref03_From [.c (.str a1_0)] (.tup [.agg [.bool v2,.list v3,.list v4],.c (.bool true)])) (h3 : Fn E F_ref03_From [.c (.str a1_1)] (.tup [.agg [.bool v6,.list v7,.list v8],.c (.bool false)])) (h4 : Fn E F_ref54_Few [.c (.list a0),.c (.list [])] (.c (.bool true))) (h5 : ¬ (a1_0.size : Int) > 40) (h6 : ¬ (a1_1.size : Int) > 40) :
    Fn E F_lawS [.c (.list a0),.agg [.str a1_0,.str a1_1,.str a1_2]] (.c (.bool true)) := by
 exact fnMk [.v (.c (.bool true)),.v (.tup [.agg [.bool v2,.list v3,.list v4],.c (.bool true)]),.v (.tup [.agg [.bool v6,.list v7,.list v8],.c (.bool false)]),.v (.c (.bool true)),.t false,.t false] (by kernel_rfl) (by kernel_rfl) (aC h1 (aC h2 (aC h3 (aC h4 (aC (dF h5) (aO (dF h6))))))) (by kernel_rfl)
theorem lawS_11 {a0 : RW} {a1_0 a1_1 a1_2 : ByteArray} {v2 : Bool} {v3 v4 : RW} {v6 : Bool} {v7 v8 : RW} {v9 : Bool} (h1 : Fn E F_law54_awake [] (.c (.bool true))) (h2 : Fn E F_ref03_From [.c (.str a1_0)] (.tup [.agg [.bool v2,.list v3,.list v4],.c (.bool false)])) (h3 : Fn E F_ref03_From [.c (.str a1_1)] (.tup [.agg [.bool v6,.list v7,.list v8],.c (.bool v9)])) (h4 : Fn E F_ref54_Few [.c (.list a0),.c (.list [])] (.c (.bool true))) (h5 : ¬ (a1_0.size : Int) > 40) (h6 : ¬ (a1_1.size : Int) > 40) :
    Fn E F_lawS [.c (.list a0),.agg [.str a1_0,.str a1_1,.str a1_2]] (.c (.bool true)) := by
 exact fnMk [.v (.c (.bool true)),.v (.tup [.agg [.bool v2,.list v3,.list v4],.c (.bool false)]),.v (.tup [.agg [.bool v6,.list v7,.list v8],.c (.bool v9)]),.v (.c (.bool true)),.t false,.t false] (by kernel_rfl) (by kernel_rfl) (aC h1 (aC h2 (aC h3 (aC h4 (aC (dF h5) (aO (dF h6))))))) (by kernel_rfl)
theorem lawS_12 {a0 : RW} {a1_0 a1_1 a1_2 : ByteArray} {v2 : Bool} {v3 v4 : RW} {v5 v6 : Bool} {v7 v8 : RW} {v9 : Bool} (h1 : Fn E F_law54_awake [] (.c (.bool true))) (h2 : Fn E F_ref03_From [.c (.str a1_0)] (.tup [.agg [.bool v2,.list v3,.list v4],.c (.bool v5)])) (h3 : Fn E F_ref03_From [.c (.str a1_1)] (.tup [.agg [.bool v6,.list v7,.list v8],.c (.bool v9)])) (h4 : Fn E F_ref54_Few [.c (.list a0),.c (.list [])] (.c (.bool false))) :
    Fn E F_lawS [.c (.list a0),.agg [.str a1_0,.str a1_1,.str a1_2]] (.c (.bool true)) := by
 exact fnMk [.v (.c (.bool true)),.v (.tup [.agg [.bool v2,.list v3,.list v4],.c (.bool v5)]),.v (.tup [.agg [.bool v6,.list v7,.list v8],.c (.bool v9)]),.v (.c (.bool false))] (by kernel_rfl) (by kernel_rfl) (aC h1 (aC h2 (aC h3 (aO h4)))) (by kernel_rfl)
theorem law54_awake_0 {v1 : RW} {v2 v3 v4 : ByteArray} {v5 : Int} {v6 : ByteArray} {v7 : Int} {v8 : ByteArray} {v9 : Int} {v10 : RW} {v11 v12 : ByteArray} {v13 : Int} {v14 v15 : ByteArray} {v16 : Int} {v17 v18 v19 : ByteArray} {v20 : Int} {v21 : RW} {v22 : Int} {v23 : RW} {v24 : Bool} (e1 : (([[.str ⟨#[45,49,48,48]⟩,.str ⟨#[49,50]⟩]] : RW).take 1) = v10) (e2 : (([[.str ⟨#[48]⟩],[.str ⟨#[48]⟩],[.str ⟨#[48]⟩]] : RW).take 3) = v23) (h1 : Fn E F_law54_Three [] (.c (.list v1))) (h2 : Fn E F_incline_Fit [.c (.list v1)] (.tup [.agg [.str v2,.str v3,.str v4],.c (.i64 v5)])) (h3 : Fn E F_incline_Height [.agg [.str v2,.str v3,.str v4],.c (.str ⟨#[50,53,48,48]⟩)] (.tup [.c (.str v6),.c (.i64 v7)])) (h4 : Fn E F_incline_Centre [.c (.list v1),.c (.str ⟨#[50,53,48,48]⟩),.c (.str ⟨#[57]⟩)] (.tup [.c (.str v8),.c (.i64 v9)])) (h5 : Fn E F_incline_Correct [.c (.str ⟨#[50,53,48,48]⟩),.c (.str ⟨#[55]⟩),.c (.list v10)] (.tup [.agg [.str v11,.str v12],.c (.i64 v13)])) (h6 : Fn E F_incline_Spread [.c (.list v1)] (.tup [.agg [.str v14,.str v15],.c (.i64 v16)])) (h7 : Fn E F_incline_Through [.c (.list v1)] (.tup [.agg [.str v17,.str v18,.str v19],.c (.i64 v20)])) (h8 : Fn E F_incline_Differences [.c (.list v1),.agg [.str v2,.str v3,.str v4]] (.tup [.c (.list v21),.c (.i64 v22)])) (h9 : v5 = 0) (h10 : v7 = 0) (h11 : v9 = 0) (h12 : v13 = 0) (h13 : v16 = 0) (h14 : v20 = 0) (h15 : v22 = 0) (h16 : ((v2 == (⟨#[49,47,53,48,48,48]⟩ : ByteArray)) && ((v3 == (⟨#[48]⟩ : ByteArray)) && ((v4 == (⟨#[48]⟩ : ByteArray)) && true))) = true) (h17 : v6 = (⟨#[50]⟩ : ByteArray)) (h18 : v8 = (⟨#[55]⟩ : ByteArray)) (h19 : ((v11 == (⟨#[50,52,48,48]⟩ : ByteArray)) && ((v12 == (⟨#[49,54,51,47,50,52]⟩ : ByteArray)) && true)) = true) (h20 : ((v14 == (⟨#[49,47,53,48,48,48]⟩ : ByteArray)) && ((v15 == (⟨#[49,47,53,48,48,48]⟩ : ByteArray)) && true)) = true) (h21 : ((v17 == v2) && ((v18 == v3) && ((v19 == v4) && true))) = true) (h22 : Fn E F_slices_Equal_Rat [.c (.list v21),.c (.list v23)] (.c (.bool v24))) :
    Fn E F_law54_awake [] (.c (.bool v24)) := by
 subst e1 e2
 exact fnMk [.v (.c (.list v1)),.v (.tup [.agg [.str v2,.str v3,.str v4],.c (.i64 v5)]),.v (.tup [.c (.str v6),.c (.i64 v7)]),.v (.c (.list v1)),.v (.tup [.c (.str v8),.c (.i64 v9)]),.v (.tup [.agg [.str v11,.str v12],.c (.i64 v13)]),.v (.c (.list v1)),.v (.tup [.agg [.str v14,.str v15],.c (.i64 v16)]),.v (.c (.list v1)),.v (.tup [.agg [.str v17,.str v18,.str v19],.c (.i64 v20)]),.v (.c (.list v1)),.v (.tup [.c (.list v21),.c (.i64 v22)]),.t true,.t true,.t true,.t true,.t true,.t true,.t true,.t true,.t true,.t true,.t true,.t true,.t true,.v (.c (.bool v24))] (by kernel_rfl) (by kernel_rfl) (aC h1 (aC h2 (aC h3 (aC h1 (aC h4 (aC h5 (aC h1 (aC h6 (aC h1 (aC h7 (aC h1 (aC h8 (aC (beT h9) (aC (beT h10) (aC (beT h11) (aC (beT h12) (aC (beT h13) (aC (beT h14) (aC (beT h15) (aC (id h16) (aC (seT h17) (aC (seT h18) (aC (id h19) (aC (id h20) (aC (id h21) (aO h22)))))))))))))))))))))))))) (by kernel_rfl)
theorem law54_Three_0 {v1 : RW} (e1 : (([[.str ⟨#[48]⟩,.str ⟨#[48]⟩],[.str ⟨#[49,48,48]⟩,.str ⟨#[49,47,53,48]⟩],[.str ⟨#[50,48,48]⟩,.str ⟨#[49,47,50,53]⟩]] : RW).take 3) = v1) :
    Fn E F_law54_Three [] (.c (.list v1)) := by
 subst e1
 exact fnMk [] (by kernel_rfl) (by kernel_rfl) aN (by kernel_rfl)
end Gev
namespace Gev
open Go Gb
variable {E : Env}
def sh (p : List UInt8 × List UInt8) : Bool := decide (p.1.length ≤ 40) && decide (p.2.length ≤ 40)
theorem few_loop0 {l m : List (List UInt8 × List UInt8)} (hl : l.length ≤ 9223372036854775807) : ∀ d i : Nat,i + d = l.length →
    (l.drop i).all sh = true ∧ Lp E 0 F_ref54_Few 0 (ref54_Few_L0 (R2 l) (R2 m) (i : Nat)) (.exit 0) (ref54_Few_L0e1 (R2 l) (R2 m)) ∨
    (l.drop i).all sh = false ∧ Lp E 0 F_ref54_Few 0 (ref54_Few_L0 (R2 l) (R2 m) (i : Nat)) .ret ref54_Few_L0e0
 | 0,i,hi => .inl ⟨by rw [List.drop_eq_nil_of_le (by omega)]; rfl,ref54_Few_L0e1_x0 (by rw [R2_len]; omega)⟩
 | d + 1,i,hi => by
  obtain ⟨c,hc⟩ := get_ex (l := l) (i := i) (by omega)
  have g := R2_get hc
  rw [← Int.toNat_natCast i] at g
  rw [drop_get hc,List.all_cons]
  have hb1 : (i : Int) < ((R2 l).length : Int) := by rw [R2_len]; omega
  by_cases h1 : c.1.length ≤ 40
  · by_cases h2 : c.2.length ≤ 40
    · have e : sh c = true := by unfold sh; rw [decide_eq_true h1,decide_eq_true h2]; rfl
      rw [e,Bool.true_and]
      have st : ∀ {o s},Lp E 0 F_ref54_Few 0 (ref54_Few_L0 (R2 l) (R2 m) ((i + 1 : Nat) : Int)) o s → Lp E 0 F_ref54_Few 0 (ref54_Few_L0 (R2 l) (R2 m) (i : Nat)) o s := fun h => ref54_Few_L0_r0 (wi (by omega)) hb1 (by omega) g (by rw [B_size]; omega) (by rw [B_size]; omega) h
      rcases few_loop0 hl d (i + 1) (by omega) with ⟨k1,k2⟩ | ⟨k1,k2⟩
      · exact .inl ⟨k1,st k2⟩
      · exact .inr ⟨k1,st k2⟩
    · have e : sh c = false := by unfold sh; rw [decide_eq_false h2,Bool.and_false]
      rw [e]
      exact .inr ⟨rfl,ref54_Few_L0e0_x1 hb1 (by omega) g (by rw [B_size]; omega) (by rw [B_size]; omega)⟩
  · have e : sh c = false := by unfold sh; rw [decide_eq_false h1,Bool.false_and]
    rw [e]
    exact .inr ⟨rfl,ref54_Few_L0e0_x0 hb1 (by omega) g (by rw [B_size]; omega)⟩
theorem few_loop1 {l m : List (List UInt8 × List UInt8)} (hl : m.length ≤ 9223372036854775807) : ∀ d i : Nat,i + d = m.length →
    (m.drop i).all sh = true ∧ Lp E 0 F_ref54_Few 1 (ref54_Few_L1 (R2 l) (R2 m) (i : Nat)) (.exit 2) (ref54_Few_L1e1 (R2 l) (R2 m)) ∨
    (m.drop i).all sh = false ∧ Lp E 0 F_ref54_Few 1 (ref54_Few_L1 (R2 l) (R2 m) (i : Nat)) .ret ref54_Few_L1e0
 | 0,i,hi => .inl ⟨by rw [List.drop_eq_nil_of_le (by omega)]; rfl,ref54_Few_L1e1_x0 (by rw [R2_len]; omega)⟩
 | d + 1,i,hi => by
  obtain ⟨c,hc⟩ := get_ex (l := m) (i := i) (by omega)
  have g := R2_get hc
  rw [← Int.toNat_natCast i] at g
  rw [drop_get hc,List.all_cons]
  have hb1 : (i : Int) < ((R2 m).length : Int) := by rw [R2_len]; omega
  by_cases h1 : c.1.length ≤ 40
  · by_cases h2 : c.2.length ≤ 40
    · have e : sh c = true := by unfold sh; rw [decide_eq_true h1,decide_eq_true h2]; rfl
      rw [e,Bool.true_and]
      have st : ∀ {o s},Lp E 0 F_ref54_Few 1 (ref54_Few_L1 (R2 l) (R2 m) ((i + 1 : Nat) : Int)) o s → Lp E 0 F_ref54_Few 1 (ref54_Few_L1 (R2 l) (R2 m) (i : Nat)) o s := fun h => ref54_Few_L1_r0 (wi (by omega)) hb1 (by omega) g (by rw [B_size]; omega) (by rw [B_size]; omega) h
      rcases few_loop1 hl d (i + 1) (by omega) with ⟨k1,k2⟩ | ⟨k1,k2⟩
      · exact .inl ⟨k1,st k2⟩
      · exact .inr ⟨k1,st k2⟩
    · have e : sh c = false := by unfold sh; rw [decide_eq_false h2,Bool.and_false]
      rw [e]
      exact .inr ⟨rfl,ref54_Few_L1e0_x1 hb1 (by omega) g (by rw [B_size]; omega) (by rw [B_size]; omega)⟩
  · have e : sh c = false := by unfold sh; rw [decide_eq_false h1,Bool.false_and]
    rw [e]
    exact .inr ⟨rfl,ref54_Few_L1e0_x0 hb1 (by omega) g (by rw [B_size]; omega)⟩
def fewB (l m : List (List UInt8 × List UInt8)) : Bool := l.all sh && m.all sh && (decide (l.length ≤ 17) && (decide (m.length ≤ 12) || decide (m.length = 65)))
theorem r54_Few {l m : List (List UInt8 × List UInt8)} (hl : l.length ≤ 9223372036854775807) (hm : m.length ≤ 9223372036854775807) : Fn E F_ref54_Few [.c (.list (R2 l)),.c (.list (R2 m))] (.c (.bool (fewB l m))) := by
 have h0 := few_loop0 (E := E) (m := m) hl l.length 0 (by omega)
 have h1 := few_loop1 (E := E) (l := l) hm m.length 0 (by omega)
 rw [List.drop_zero] at h0 h1
 unfold fewB
 rcases h0 with ⟨a1,a2⟩ | ⟨a1,a2⟩
 · rw [a1,Bool.true_and]
   rcases h1 with ⟨b1,b2⟩ | ⟨b1,b2⟩
   · rw [b1,Bool.true_and]
     by_cases c1 : l.length ≤ 17
     · rw [decide_eq_true c1,Bool.true_and]
       by_cases c2 : m.length ≤ 12
       · rw [decide_eq_true c2,Bool.true_or]; exact ref54_Few_2 a2 b2 (by rw [R2_len]; omega) (by rw [R2_len]; omega)
       · rw [decide_eq_false c2,Bool.false_or]
         by_cases c3 : m.length = 65
         · rw [decide_eq_true c3]; exact ref54_Few_3 a2 b2 (by rw [R2_len]; omega) (by rw [R2_len]; omega) (by rw [R2_len]; omega)
         · rw [decide_eq_false c3]; exact ref54_Few_4 a2 b2 (by rw [R2_len]; omega) (by rw [R2_len]; omega) (by rw [R2_len]; omega)
     · rw [decide_eq_false c1,Bool.false_and]; exact ref54_Few_5 a2 b2 (by rw [R2_len]; omega)
   · rw [b1,Bool.false_and]; exact ref54_Few_1 a2 b2
 · rw [a1,Bool.false_and,Bool.false_and]; exact ref54_Few_0 a2
theorem fewB_few {l m : List (List UInt8 × List UInt8)} (h : fewB l m = true) : Few l ∧ Few m ∧ l.length ≤ 17 ∧ (m.length ≤ 12 ∨ m.length = 65) := by
 unfold fewB at h
 simp only [Bool.and_eq_true,Bool.or_eq_true,decide_eq_true_eq,List.all_eq_true] at h
 obtain ⟨⟨h1,h2⟩,h3,h4⟩ := h
 have s : ∀ x,sh x = true → x.1.length ≤ 40 ∧ x.2.length ≤ 40 := fun x hx => by unfold sh at hx; simpa using hx
 have s' : ∀ x,sh x = true → x.1.length ≤ 4000 ∧ x.2.length ≤ 4000 := fun x hx => by have := s x hx; omega
 exact ⟨⟨by omega,fun x hx => s' x (h1 x hx)⟩,⟨by omega,fun x hx => s' x (h2 x hx)⟩,h3,h4⟩
theorem fewB_short {l m : List (List UInt8 × List UInt8)} (h : fewB l m = true) : (∀ x ∈ l,x.1.length ≤ 40 ∧ x.2.length ≤ 40) ∧ ∀ x ∈ m,x.1.length ≤ 40 ∧ x.2.length ≤ 40 := by
 unfold fewB at h
 simp only [Bool.and_eq_true,Bool.or_eq_true,decide_eq_true_eq,List.all_eq_true] at h
 obtain ⟨⟨h1,h2⟩,h3,h4⟩ := h
 have s : ∀ x,sh x = true → x.1.length ≤ 40 ∧ x.2.length ≤ 40 := fun x hx => by unfold sh at hx; simpa using hx
 exact ⟨fun x hx => s x (h1 x hx),fun x hx => s x (h2 x hx)⟩
theorem equal_loop {xs : List Rat} (hl : xs.length < 9223372036854775807) : ∀ d i : Nat,i + d = xs.length → Lp E 0 F_slices_Equal_Rat 0 (slices_Equal_Rat_L0 (Q1 xs) (Q1 xs) (xs.length : Nat) (i : Nat)) (.exit 0) slices_Equal_Rat_L0e1
 | 0,i,hi => slices_Equal_Rat_L0e1_x0 (by omega)
 | d + 1,i,hi => by
  obtain ⟨c,hc⟩ := get_ex (l := xs) (i := i) (by omega)
  have g := Q1_get hc
  rw [← Int.toNat_natCast i] at g
  exact slices_Equal_Rat_L0_r0 (wi (by omega)) (by omega) (by omega) g g rfl (equal_loop hl d (i + 1) (by omega))
theorem equal_same {xs : List Rat} (hl : xs.length < 9223372036854775807) : Fn E F_slices_Equal_Rat [.c (.list (Q1 xs)),.c (.list (Q1 xs))] (.c (.bool true)) := by
 have h := equal_loop (E := E) hl xs.length 0 (by omega)
 rw [← Q1_len xs] at h
 exact slices_Equal_Rat_2 rfl h
end Gev
namespace Gev
open Go Gb Go.Proofs
variable {E : Env}
def three : List (Rat × Rat) := [(0,0),(100,mkRat 1 50),(200,mkRat 1 25)]
theorem txn {l : List UInt8} {q : Rat} (hd : q.den = 1) (hn : q.num = (dval l : Nat)) (h : natB l = true) : decQ q = l := by
 rw [decQ_int hd,hn,decZ_nat]; exact ((natB_iff.1 h).eq_dec).symm
theorem txf {a b : List UInt8} {q : Rat} (hn : q.num = (dval a : Nat)) (hd : q.den = dval b) (h1 : q.den ≠ 1) (ha : natB a = true) (hb : natB b = true) : decQ q = a ++ 47 :: b := by
 rw [decQ_frac h1,hn,hd,decZ_nat,← (natB_iff.1 ha).eq_dec,← (natB_iff.1 hb).eq_dec]
theorem d0 : decQ 0 = [48] := decQ_zero
theorem d2 : decQ 2 = [50] := txn (by kernel_rfl) (by kernel_rfl) (by decide)
theorem d7 : decQ 7 = [55] := txn (by kernel_rfl) (by kernel_rfl) (by decide)
theorem d9 : decQ 9 = [57] := txn (by kernel_rfl) (by kernel_rfl) (by decide)
theorem d12 : decQ 12 = [49,50] := txn (by kernel_rfl) (by kernel_rfl) (by decide)
theorem d100 : decQ 100 = [49,48,48] := txn (by kernel_rfl) (by kernel_rfl) (by decide)
theorem d200 : decQ 200 = [50,48,48] := txn (by kernel_rfl) (by kernel_rfl) (by decide)
theorem d2400 : decQ 2400 = [50,52,48,48] := txn (by kernel_rfl) (by kernel_rfl) (by decide)
theorem d2500 : decQ 2500 = [50,53,48,48] := txn (by kernel_rfl) (by kernel_rfl) (by decide)
theorem d1_50 : decQ (mkRat 1 50) = [49,47,53,48] := txf (a := [49]) (b := [53,48]) (by kernel_rfl) (by kernel_rfl) (by decide) (by decide) (by decide)
theorem d1_25 : decQ (mkRat 1 25) = [49,47,50,53] := txf (a := [49]) (b := [50,53]) (by kernel_rfl) (by kernel_rfl) (by decide) (by decide) (by decide)
theorem d1_5000 : decQ (mkRat 1 5000) = [49,47,53,48,48,48] := txf (a := [49]) (b := [53,48,48,48]) (by kernel_rfl) (by kernel_rfl) (by decide) (by decide) (by decide)
theorem d163_24 : decQ (mkRat 163 24) = [49,54,51,47,50,52] := txf (a := [49,54,51]) (b := [50,52]) (by kernel_rfl) (by kernel_rfl) (by decide) (by decide) (by decide)
theorem dm100 : decQ (-100) = [45,49,48,48] := by
 rw [decQ_int (by kernel_rfl),show (-100 : Rat).num = -100 from (by kernel_rfl),decZ_neg (by decide),show (-100 : Int).natAbs = 100 from rfl]
 have := d100
 rw [decQ_int (by kernel_rfl),show (100 : Rat).num = ((100 : Nat) : Int) from (by kernel_rfl),decZ_nat] at this
 rw [this]
theorem Tx_three : Tx three = [([48],[48]),([49,48,48],[49,47,53,48]),([50,48,48],[49,47,50,53])] := by
 show [(decQ 0,decQ 0),(decQ 100,decQ (mkRat 1 50)),(decQ 200,decQ (mkRat 1 25))] = _
 rw [d0,d100,d200,d1_50,d1_25]
theorem few_three : Few (Tx three) := by
 rw [Tx_three]
 refine ⟨by decide,fun x hx => ?_⟩
 simp only [List.mem_cons,List.not_mem_nil,or_false] at hx
 rcases hx with rfl | rfl | rfl <;> decide
theorem start_three : startI (Tx three) = 0 := by
 unfold startI
 rw [if_pos (Tx_ok three),Tx_len,if_neg (by decide),if_neg (by decide)]
theorem fit_three : fitI three = some (mkRat 1 5000,0) := by kernel_rfl
theorem ssq_three : ssq (mkRat 1 5000) 0 three = 0 := by kernel_rfl
theorem through_three : throughI three = some (mkRat 1 5000,0) := by kernel_rfl
theorem three_ok : Fn E F_law54_Three [] (.c (.list (R2 (Tx three)))) := by
 rw [Tx_three]
 exact law54_Three_0 rfl
theorem line_three : Line (mkRat 1 5000) 0 three = .agg [.str (B [49,47,53,48,48,48]),.str (B [48]),.str (B [48])] := by unfold Line; rw [ssq_three,d1_5000,d0]
theorem fit3 (hlib : Lib E) : Fn E F_incline_Fit [.c (.list (R2 (Tx three)))] (.tup [.agg [.str (B [49,47,53,48,48,48]),.str (B [48]),.str (B [48])],.c (.i64 0)]) := by
 have h := inc_Fit hlib few_three
 unfold ansI at h
 rw [if_pos start_three,nums_Tx,fit_three] at h
 rw [← line_three]; exact h
theorem through3 (hlib : Lib E) : Fn E F_incline_Through [.c (.list (R2 (Tx three)))] (.tup [.agg [.str (B [49,47,53,48,48,48]),.str (B [48]),.str (B [48])],.c (.i64 0)]) := by
 have h := inc_Through hlib few_three
 unfold ansI at h
 rw [if_pos start_three,nums_Tx,through_three] at h
 rw [← line_three]; exact h
theorem height_three : heightI [49,47,53,48,48,48] [50,53,48,48] = (0,[50]) := by
 unfold heightI
 rw [← d1_5000,← d2500,← d2]
 rw [if_pos (by unfold ok2; rw [ok1_dec,ok1_dec]; rfl),rd_decQ,rd_decQ]
 show (if 0 < mkRat 1 5000 ∧ (0 : Rat) < 2500 then (0,decQ (2500 * mkRat 1 5000)⁻¹) else (2,[])) = (0,decQ 2)
 rw [if_pos (by decide),show ((2500 : Rat) * mkRat 1 5000)⁻¹ = 2 from (by kernel_rfl)]
theorem centre_three : centreI fitI (Tx three) [50,53,48,48] [57] = (0,[55]) := by
 unfold centreI
 rw [if_pos (by rw [← d2500,← d9]; unfold ok2; rw [ok1_dec,ok1_dec]; rfl),if_pos start_three,nums_Tx,fit_three]
 simp only
 rw [d1_5000,height_three,if_pos rfl]
 simp only
 rw [← d9,← d2,rd_decQ,rd_decQ,← d7]
 rw [show (some (9 : Rat)).getD 0 - (some (2 : Rat)).getD 0 = 7 from (by kernel_rfl)]
theorem correct_three : correctI [50,53,48,48] [55] [([45,49,48,48],[49,50])] = (0,[50,52,48,48],[49,54,51,47,50,52]) := by
 have e : ([([45,49,48,48],[49,50])] : List (List UInt8 × List UInt8)) = Tx [(-100,12)] := by
  show _ = [(decQ (-100),decQ 12)]
  rw [dm100,d12]
 unfold correctI
 rw [e,nums_Tx,Tx_ok,Bool.and_true,Tx_len,← d2500,← d7]
 rw [if_pos (by unfold ok2; rw [ok1_dec,ok1_dec]; rfl),if_neg (by decide),rd_decQ,rd_decQ]
 show (if wsum 2500 [(-100,12)] = 0 then (16,[],[]) else (0,decQ (wsum 2500 [(-100,12)]),decQ (msum 2500 7 [(-100,12)] / wsum 2500 [(-100,12)]))) = _
 rw [show wsum 2500 [(-100,12)] = 2400 from (by kernel_rfl),show msum 2500 7 [(-100,12)] / 2400 = mkRat 163 24 from (by kernel_rfl),if_neg (by decide),d2400,d163_24]
theorem diff_three : diffI (Tx three) [49,47,53,48,48,48] [48] = (0,[0,0,0]) := by
 unfold diffI
 rw [Tx_ok,Bool.true_and,Tx_len,nums_Tx,← d1_5000,← d0]
 rw [if_pos (by unfold ok2; rw [ok1_dec,ok1_dec]; rfl),if_neg (by decide),rd_decQ,rd_decQ]
 show (0,three.map (dif (mkRat 1 5000) 0)) = (0,[0,0,0])
 rw [show three.map (dif (mkRat 1 5000) 0) = [0,0,0] from (by kernel_rfl)]
theorem b_self (l : List UInt8) : (B l == B l) = true := by rw [B_beq]; simp
theorem and3 (a b c : List UInt8) : ((B a == B a) && ((B b == B b) && ((B c == B c) && true))) = true := by rw [b_self,b_self,b_self]; rfl
theorem and2 (a b : List UInt8) : ((B a == B a) && ((B b == B b) && true)) = true := by rw [b_self,b_self]; rfl
theorem awake_ok (hlib : Lib E) (hsp : Fn E F_incline_Spread [.c (.list (R2 (Tx three)))] (.tup [.agg [.str (B [49,47,53,48,48,48]),.str (B [49,47,53,48,48,48])],.c (.i64 0)])) : Fn E F_law54_awake [] (.c (.bool true)) := by
 have hh := inc_Height hlib (p := [49,47,53,48,48,48]) (e := [50,53,48,48]) (s := B [48]) (t := B [48]) (by decide) (by decide)
 rw [height_three] at hh
 have hc := inc_Centre hlib (e := [50,53,48,48]) (d := [57]) few_three (by decide) (by decide)
 rw [centre_three] at hc
 have hk := inc_Correct hlib (p := [50,53,48,48]) (e := [55]) (l := [([45,49,48,48],[49,50])]) ⟨by decide,fun x hx => by simp only [List.mem_singleton] at hx; subst hx; decide⟩ (by decide) (by decide)
 rw [correct_three] at hk
 have hd := inc_Differences hlib (p := [49,47,53,48,48,48]) (e := [48]) (s := B [48]) few_three (by decide) (by decide)
 rw [diff_three] at hd
 have he := equal_same (E := E) (xs := [0,0,0]) (by decide)
 have e3 : Q1 [0,0,0] = [[.str (B [48])],[.str (B [48])],[.str (B [48])]] := by
  show [[DV.str (B (decQ 0))],[DV.str (B (decQ 0))],[DV.str (B (decQ 0))]] = _
  rw [d0]
 unfold Lc at hd
 rw [e3] at he hd
 exact law54_awake_0 rfl rfl three_ok (fit3 hlib) hh hc hk hsp (through3 hlib) hd rfl rfl rfl rfl rfl rfl rfl (and3 [49,47,53,48,48,48] [48] [48]) rfl rfl (and2 [50,52,48,48] [49,54,51,47,50,52]) (and2 [49,47,53,48,48,48] [49,47,53,48,48,48]) (and3 [49,47,53,48,48,48] [48] [48]) he
end Gev
namespace Gev
open Go Gb Go.Proofs
variable {E : Env}
structure Cl (E : Env) : Prop where
 shift : ∀ l : List (List UInt8 × List UInt8),l.length < 1000 → Rn E F_slices_Clone_Shift [.c (.list (R2 l))] [] (.vec 0 l.length) [some (.vec T_api_Shift (R2 l))]
 lump : ∀ l : List (List UInt8 × List UInt8),l.length < 1000 → Rn E F_slices_Clone_Lump [.c (.list (R2 l))] [] (.vec 0 l.length) [some (.vec T_api_Lump (R2 l))]
structure Sp (E : Env) : Prop where
 same : ∀ l : List (List UInt8 × List UInt8),Few l → ∃ (x y : List UInt8) (c : Int),Fn E F_incline_Spread [.c (.list (R2 l))] (.tup [.agg [.str (B x),.str (B y)],.c (.i64 c)]) ∧ Fn E F_ref54_Spread [.c (.list (R2 l))] (.tup [.agg [.str (B x),.str (B y)],.c (.i64 c)])
end Gev
namespace Gev
open Go Gb Go.Proofs
variable {E : Env}
theorem two_rep' {Γ : Ctx} (x y : ByteArray) : RepA DD Γ (.agg #[.string x,.string y]) (.agg [.str x,.str y]) := by
 refine .agg #[_,_] _ rfl fun j u d h1 h2 => ?_
 match j,h1,h2 with
 | 0,h1,h2 => cases h1; cases h2; exact .str _
 | 1,h1,h2 => cases h1; cases h2; exact .str _
theorem incline_Spread_err {a0 : RW} {v1 : Int} (h1 : Fn E F_incline_start [.c (.list a0)] (.c (.i64 v1))) (h2 : ¬ v1 = 0) : Fn E F_incline_Spread [.c (.list a0)] (.tup [.agg [.str ⟨#[]⟩,.str ⟨#[]⟩],.c (.i64 v1)]) :=
 fnMk [.v (.c (.i64 v1)),.t true] (by kernel_rfl) (by kernel_rfl) (aC h1 (aO (bnT h2))) (by kernel_rfl)
theorem inc_Spread (hlib : Lib E) {l : List (List UInt8 × List UInt8)} (hf : Few l) : Fn E F_incline_Spread [.c (.list (R2 l))] (sprI l) := by
 have hst := inc_start hlib hf
 unfold sprI
 by_cases h0 : startI l = 0
 · rw [if_pos h0]
   rw [h0] at hst
   obtain ⟨qs,rfl,h2,hn⟩ := start_zero h0
   have hq := Tx_in hf
   rw [Tx_R2] at hst ⊢
   rw [nums_Tx]
   have hdat : (ivI (spreadI qs)).Data := by
    cases spreadI qs with
    | none => exact AV.isData_ok rfl
    | some p => exact AV.isData_ok rfl
   refine ⟨enters_known (by kernel_rfl),hdat,fun w ext cargs hg hB hx hcl ha => ?_⟩
   obtain ⟨v,rfl⟩ : ∃ v,cargs = #[v] := by
    match cargs,hcl with
    | ⟨[v]⟩,_ => exact ⟨v,rfl⟩
   have hc0 := ha 0 v _ rfl rfl
   have hc1 := hc0
   cases hc0 with
   | c hr =>
    generalize hxs : Q2 qs = xs at hr
    cases hr with
    | list A c xs sz u hc hA hx' hu hd =>
     subst hxs
     rw [Q2_len] at hc hc1 ⊢
     obtain ⟨a,rfl,hab,_⟩ := hA (by intro e; have h9 := congrArg List.length e; rw [Q2_len,List.length_nil] at h9; omega)
     have hsz : sz = 2 := by
      obtain ⟨q,hq0⟩ := get_ex' (l := qs) (i := 0) (by omega)
      rw [← hx' _ (List.mem_of_getElem? (Q2_get hq0))]; rfl
     subst hsz
     have hrow : RowQ a qs w := fun j q hj => by
      have g := Q2_get hj
      have e0 := hu a j _ 0 _ rfl g rfl
      have e1 := hu a j _ 1 _ rfl g rfl
      have d0 := hd j _ 0 _ g rfl
      have d1 := hd j _ 1 _ g rfl
      rw [Nat.add_zero] at e0
      rw [add_add,e0,e1]
      generalize u j 0 = p0 at d0
      generalize u j 1 = p1 at d1
      cases d0; cases d1; exact ⟨rfl,rfl⟩
     refine Calls.mono (spread_raw hlib hq (by omega) a c hc w hg hB hab hrow (loT (spreadI qs)) (hiT (spreadI qs)) _ rfl rfl rfl ?_) ?_
     · intro w' hk
       have hg' : E.Gd w' := E.hs w _ (fun b hb => hk.heap b (by omega) id) hk.size hg
       refine Calls.mono (hst.calls w' (fun _ => False) #[_] hg' (Nat.le_trans hB hk.size) (fun _ h => h.elim) rfl fun i v x h1 h2 => ?_) ?_
       · match i,h1,h2 with
         | 0,h1,h2 =>
          cases h1; cases h2
          cases hc1 with | c hr => exact .c (hr.mono (hk.mono fun _ h => False.elim h) fun b _ h => False.elim (h.elim id no_mine))
       · rintro e w2 ⟨v,rfl,_,k2,k3⟩
         cases k3 with | c k3 => cases k3; exact ⟨rfl,k2⟩
     · rintro e w' ⟨rfl,hk⟩
       refine ⟨_,rfl,E.hs w _ (fun b hb => hk.heap b (by omega) id) hk.size hg,hk,?_⟩
       cases spreadI qs with
       | none =>
        refine .tup [_,_] _ rfl fun i v a h1 h2 => ?_
        match i,h1,h2 with
        | 0,h1,h2 => cases h1; cases h2; exact two_rep' _ _
        | 1,h1,h2 => cases h1; cases h2; exact .c (.int _ _)
       | some p =>
        refine .tup [_,_] _ rfl fun i v a h1 h2 => ?_
        match i,h1,h2 with
        | 0,h1,h2 => cases h1; cases h2; exact two_rep' _ _
        | 1,h1,h2 => cases h1; cases h2; exact .c (.int _ _)
 · rw [if_neg h0]; exact incline_Spread_err hst h0
end Gev
namespace Gev
open Go Gb Go.Proofs
variable {E : Env}
def vals : List (List UInt8 × List UInt8) → List Value
 | [] => []
 | p :: l => .string (B p.1) :: .string (B p.2) :: vals l
theorem vals_len : ∀ l,(vals l).length = l.length * 2
 | [] => rfl
 | p :: l => by show (vals l).length + 1 + 1 = (l.length + 1) * 2; rw [vals_len l]; omega
theorem vals_get : ∀ {l : List (List UInt8 × List UInt8)} {j : Nat} {u : Value},(vals l)[j]? = some u → ∃ i p,l[i]? = some p ∧ ((j = i * 2 + 0 ∧ u = .string (B p.1)) ∨ (j = i * 2 + 1 ∧ u = .string (B p.2)))
 | [],j,u,h => by cases h
 | p :: l,0,u,h => by cases h; exact ⟨0,p,rfl,.inl ⟨rfl,rfl⟩⟩
 | p :: l,1,u,h => by cases h; exact ⟨0,p,rfl,.inr ⟨rfl,rfl⟩⟩
 | p :: l,j + 2,u,h => by
  obtain ⟨i,q,h1,h2⟩ := vals_get (l := l) (j := j) h
  exact ⟨i + 1,q,h1,h2.imp (fun h => ⟨by omega,h.2⟩) fun h => ⟨by omega,h.2⟩⟩
theorem vals_at : ∀ {l : List (List UInt8 × List UInt8)} {i : Nat} {p},l[i]? = some p → (vals l)[i * 2 + 0]? = some (.string (B p.1)) ∧ (vals l)[i * 2 + 1]? = some (.string (B p.2))
 | q :: l,0,p,h => by cases h; exact ⟨rfl,rfl⟩
 | q :: l,i + 1,p,h => by
  have := vals_at (l := l) (i := i) (p := p) h
  rw [show (i + 1) * 2 + 0 = i * 2 + 0 + 2 by omega,show (i + 1) * 2 + 1 = i * 2 + 1 + 2 by omega]
  exact this
theorem own_row {P : Program} {Γ : Ctx} {B0 : Nat} {Gd : World → Prop} (hs : Stable B0 Gd) (ho : Γ.objs = []) (hG : Good DD B0 Gd Γ) {w' : World} (hk : Kept (fun _ => False) Γ.w w') {T : Nat} {ti : TI} (ht : DD.ty T = some ti) (h2 : ti.size = 2) {l : List (List UInt8 × List UInt8)} {v : Value}
    (hr : w'.ownsRow Γ.w.heap.size T 2 v l.length (vals l)) : ∃ Γ' : Ctx,Γ'.objs = [some (.vec T (R2 l))] ∧ Γ'.w = w' ∧ Good DD B0 Gd Γ' ∧ Tr DD Γ Γ' ∧ RepA DD Γ' v (.vec 0 l.length) := by
 have hnone : ∀ k,lk Γ.objs k = none := fun k => by rw [ho]; rfl
 have hmine : ∀ b,¬ Γ.mine b := fun b ⟨k,o,h,_⟩ => by rw [hnone] at h; cases h
 have hgd : Gd w' := hs _ _ (fun b hb => hk.heap b (Nat.lt_of_lt_of_le hb hG.size) id) hk.size hG.gd
 have hlen : ∀ x ∈ R2 l,x.length = ti.size := fun x hx => by
  unfold R2 at hx
  obtain ⟨p,_,rfl⟩ := List.mem_map.1 hx
  rw [h2]; rfl
 have mk : ∀ (ob : Option Nat),(∀ b,ob = some b → Γ.w.heap.size ≤ b) → ∀ Γ' : Ctx,Γ' = ⟨⟨fun k => if k = 0 then ob else none,Γ.S.ext⟩,[some (.vec T (R2 l))],w'⟩ → ObRep DD Γ' 0 (.vec T (R2 l)) → Good DD B0 Gd Γ' ∧ Tr DD Γ Γ' := by
  intro ob hob Γ' e hob2
  have hm : ∀ b,Γ'.mine b → Γ.w.heap.size ≤ b := fun b ⟨k,o,h,_,hS⟩ => by
   subst e
   have hS : (if k = 0 then ob else none) = some b := hS
   split at hS
   · exact hob b hS
   · cases hS
  have hl : ∀ k o,lk Γ'.objs k = some o → k = 0 ∧ o = .vec T (R2 l) := fun k o h => by
   subst e
   match k,h with
   | 0,h => cases h; exact ⟨rfl,rfl⟩
  have hw : Γ'.w = w' := by subst e; rfl
  have hex : Γ'.S.ext = Γ.S.ext := by subst e; rfl
  refine ⟨⟨fun k o h => ?_,fun k k' o o' b h h' _ _ _ _ => ?_,fun b hb => ?_,fun b hb => ⟨?_,fun h => ?_⟩,?_,?_⟩,⟨by rw [hw]; exact hk.mono fun _ h => h.elim,hex,fun b hb => .inr (hm b hb),fun k cs h => ?_,fun v k len h => ?_,fun v k i off h => ?_⟩⟩
  · obtain ⟨rfl,rfl⟩ := hl k o h; exact hob2
  · rw [(hl k o h).1,(hl k' o' h').1]
  · rcases hb with hb | hb
    · exact hG.own b (.inl (hex ▸ hb))
    · exact Nat.le_trans hG.size (hm b hb)
  · rw [hw]; exact Nat.lt_of_lt_of_le (hG.ext b (hex ▸ hb)).1 hk.size
  · have := hm b h; have := (hG.ext b (hex ▸ hb)).1; omega
  · rw [hw]; exact Nat.le_trans hG.size hk.size
  · rw [hw]; exact hgd
  · rw [hnone] at h; cases h
  · cases h with
    | vnil _ _ h1 => rw [hnone] at h1; cases h1
    | vec _ _ _ _ _ _ _ _ h1 => rw [hnone] at h1; cases h1
    | fvec _ _ _ h1 => rw [hnone] at h1; cases h1
    | gone _ _ h1 => rw [hnone] at h1; cases h1
  · cases h with
    | vptr _ _ _ _ _ _ _ h1 => rw [hnone] at h1; cases h1
    | fptr _ _ _ _ _ _ h1 => rw [hnone] at h1; cases h1
    | pgone _ _ _ h1 => rw [hnone] at h1; cases h1
 obtain ⟨_,hr⟩ := hr
 rcases hr with ⟨rfl,h0⟩ | ⟨g,cap,cur,rfl,hb,hg,hnc,_,hsz,hcur⟩
 · have hl0 : l = [] := List.eq_nil_of_length_eq_zero h0
   subst hl0
   obtain ⟨a1,a2⟩ := mk none (fun _ h => by cases h) _ rfl ⟨ti,ht,hlen,.inl ⟨rfl,rfl⟩⟩
   exact ⟨_,rfl,rfl,a1,a2,.vnil 0 T rfl rfl⟩
 · obtain ⟨a1,a2⟩ := mk (some g) (fun b h => by cases h; exact hb) _ rfl ⟨ti,ht,hlen,.inr ⟨g,cur,cap,rfl,hg,by rw [h2]; exact hsz,by rw [R2_len]; exact hnc,fun i x j d u h1 h3 h4 => by
    rw [h2] at h4
    unfold R2 at h1
    rw [List.getElem?_map] at h1
    cases hp : l[i]? with
    | none => rw [hp] at h1; cases h1
    | some p =>
     rw [hp] at h1; cases h1
     have hi := (List.getElem?_eq_some_iff.1 hp).1
     have hv := vals_at hp
     have hcg : ∀ j,j < l.length * 2 → cur[j]? = (vals l)[j]? := fun j hj => by rw [← hcur,List.getElem?_take,if_pos hj,Array.getElem?_toList]
     match j,h3,h4 with
     | 0,h3,h4 => cases h3; rw [hcg _ (by omega),hv.1] at h4; cases h4; exact .str _
     | 1,h3,h4 => cases h3; rw [hcg _ (by omega),hv.2] at h4; cases h4; exact .str _⟩⟩
   exact ⟨_,rfl,rfl,a1,a2,.vec 0 l.length cap g T ti (R2 l) cur rfl ht rfl (by rw [R2_len]; exact Nat.le_refl _) hg (by rw [h2]; exact hsz) (by rw [R2_len]; exact hnc)⟩
end Gev
namespace Go.Proofs
open Go.RowKit Go.Shelf Go.Sort Go.Lib Gev
set_option maxHeartbeats 2000000 in
set_option maxRecDepth 100000 in
theorem clone_shift (a : Addr) (n c : Nat) (news : List Value) (w : World) (hl : news.length = n * 2) (hn : n ≤ 100000) (hc : ∀ j u,news[j]? = some u → w.cell? (a.add j) = some u) (h1 : ∀ u ∈ news,u.oneCell' = true) :
    Calls Tryz.prog 13 #[.slice (some a) n c] w fun e w' => ∃ v',e = .returned v' ∧ w'.ownsRow w.heap.size 33 2 v' n news ∧ Below w.heap.size w w' := by
 have t22 : Tryz.prog.underlying 22 = some (.slice 33) := by kernel_rfl
 have q22 : ∀ (w : World) (a : Option Addr) (n c n' c' : Nat),(binOp .eql 22 (.slice a n c) (.slice none n' c')).run Tryz.prog w = .ok (.bool a.isNone) w := fun w a n c n' c' => Lib.run_eql_slice_nil w _ _ a n c n' c' t22
 obtain ⟨i0,hi,hz0,hz1,hz2⟩ := info_parts (by kernel_rfl : (Tryz.prog.info? 33).map (fun i => (i.zero,i.size,i.bytes)) = some (some (.agg #[.string ⟨#[]⟩,.string ⟨#[]⟩]),2,32))
 have A : Aside (∀ j u,news[j]? = some u → w.cell? (a.add j) = some u) := hc
 clear hc
 go_enter Tryz.func13,Tryz.ntmps13
 go_wp2_with (at_builtin; refine wpList_append_own _ rfl _ _ 22 rfl w.heap.size 33 i0 (.agg #[.string ⟨#[]⟩,.string ⟨#[]⟩]) 2 32 t22 hi hz0 hz1 hz2 rfl (by decide) _ _ _ rfl (World.ownsRow_made w #[] 0 (Nat.le_refl _) (Nat.zero_le _) (by simp)) a n c news rfl ?qc1 ?qc2 ?qc3 ?qc4 ?qc5 ?qc6 ?_)
 case qc1 => exact hl
 case qc2 => exact fun j u hj => Lib.cell?_alloc_some _ (A.out j u hj)
 case qc3 => exact h1
 case qc4 => rw [Nat.zero_add]; unfold maxLen; omega
 case qc5 => rw [Nat.zero_add]; omega
 case qc6 => simp
 intro v' w1 hown hgrow hnil
 go_wp2
 go_ret
 refine ⟨v',rfl,by simpa using hown,?_⟩
 exact ((Below.refl _ w).alloc (Nat.le_refl _) _).grown hgrow (by simp) (by intro k hk; simp [Value.ownBlock] at hk; omega)
set_option maxRecDepth 100000 in
theorem clone_shift_nil (n c : Nat) (w : World) : Calls Tryz.prog 13 #[.slice none n c] w fun e w' => e = .returned (.slice none 0 0) ∧ w' = w := by
 have t22 : Tryz.prog.underlying 22 = some (.slice 33) := by kernel_rfl
 have q22 : ∀ (w : World) (a : Option Addr) (n c n' c' : Nat),(binOp .eql 22 (.slice a n c) (.slice none n' c')).run Tryz.prog w = .ok (.bool a.isNone) w := fun w a n c n' c' => Lib.run_eql_slice_nil w _ _ a n c n' c' t22
 go_enter Tryz.func13,Tryz.ntmps13
 go_wp2
 go_ret
 exact ⟨rfl,rfl⟩
set_option maxHeartbeats 2000000 in
set_option maxRecDepth 100000 in
theorem clone_lump (a : Addr) (n c : Nat) (news : List Value) (w : World) (hl : news.length = n * 2) (hn : n ≤ 100000) (hc : ∀ j u,news[j]? = some u → w.cell? (a.add j) = some u) (h1 : ∀ u ∈ news,u.oneCell' = true) :
    Calls Tryz.prog 27 #[.slice (some a) n c] w fun e w' => ∃ v',e = .returned v' ∧ w'.ownsRow w.heap.size 49 2 v' n news ∧ Below w.heap.size w w' := by
 have t22 : Tryz.prog.underlying 47 = some (.slice 49) := by kernel_rfl
 have q22 : ∀ (w : World) (a : Option Addr) (n c n' c' : Nat),(binOp .eql 47 (.slice a n c) (.slice none n' c')).run Tryz.prog w = .ok (.bool a.isNone) w := fun w a n c n' c' => Lib.run_eql_slice_nil w _ _ a n c n' c' t22
 obtain ⟨i0,hi,hz0,hz1,hz2⟩ := info_parts (by kernel_rfl : (Tryz.prog.info? 49).map (fun i => (i.zero,i.size,i.bytes)) = some (some (.agg #[.string ⟨#[]⟩,.string ⟨#[]⟩]),2,32))
 have A : Aside (∀ j u,news[j]? = some u → w.cell? (a.add j) = some u) := hc
 clear hc
 go_enter Tryz.func27,Tryz.ntmps27
 go_wp2_with (at_builtin; refine wpList_append_own _ rfl _ _ 47 rfl w.heap.size 49 i0 (.agg #[.string ⟨#[]⟩,.string ⟨#[]⟩]) 2 32 t22 hi hz0 hz1 hz2 rfl (by decide) _ _ _ rfl (World.ownsRow_made w #[] 0 (Nat.le_refl _) (Nat.zero_le _) (by simp)) a n c news rfl ?qc1 ?qc2 ?qc3 ?qc4 ?qc5 ?qc6 ?_)
 case qc1 => exact hl
 case qc2 => exact fun j u hj => Lib.cell?_alloc_some _ (A.out j u hj)
 case qc3 => exact h1
 case qc4 => rw [Nat.zero_add]; unfold maxLen; omega
 case qc5 => rw [Nat.zero_add]; omega
 case qc6 => simp
 intro v' w1 hown hgrow hnil
 go_wp2
 go_ret
 refine ⟨v',rfl,by simpa using hown,?_⟩
 exact ((Below.refl _ w).alloc (Nat.le_refl _) _).grown hgrow (by simp) (by intro k hk; simp [Value.ownBlock] at hk; omega)
set_option maxRecDepth 100000 in
theorem clone_lump_nil (n c : Nat) (w : World) : Calls Tryz.prog 27 #[.slice none n c] w fun e w' => e = .returned (.slice none 0 0) ∧ w' = w := by
 have t22 : Tryz.prog.underlying 47 = some (.slice 49) := by kernel_rfl
 have q22 : ∀ (w : World) (a : Option Addr) (n c n' c' : Nat),(binOp .eql 47 (.slice a n c) (.slice none n' c')).run Tryz.prog w = .ok (.bool a.isNone) w := fun w a n c n' c' => Lib.run_eql_slice_nil w _ _ a n c n' c' t22
 go_enter Tryz.func27,Tryz.ntmps27
 go_wp2
 go_ret
 exact ⟨rfl,rfl⟩
end Go.Proofs
namespace Gev
open Go Gb Go.Proofs
variable {E : Env}
theorem rn_clone_shift (l : List (List UInt8 × List UInt8)) (hl : l.length < 1000) : Rn E F_slices_Clone_Shift [.c (.list (R2 l))] [] (.vec 0 l.length) [some (.vec T_api_Shift (R2 l))] := by
 have hti : ∃ ti,DD.ty T_api_Shift = some ti ∧ ti.size = 2 := by
  have h : (DD.ty T_api_Shift).map (·.size) = some 2 := by kernel_rfl
  cases ht : DD.ty T_api_Shift with
  | none => rw [ht] at h; cases h
  | some ti => rw [ht] at h; exact ⟨ti,rfl,Option.some.inj h⟩
 obtain ⟨ti,ht,h2⟩ := hti
 refine ⟨enters_known (by kernel_rfl),fun Γ cargs ho hG hcl ha => ?_⟩
 obtain ⟨v,rfl⟩ : ∃ v,cargs = #[v] := by
  match cargs,hcl with
  | ⟨[v]⟩,_ => exact ⟨v,rfl⟩
 have hc0 := ha 0 v _ rfl rfl
 cases hc0 with
 | c hr =>
  generalize hxs : R2 l = xs at hr
  cases hr with
  | list A c xs sz u hc hA hx' hu hd =>
   subst hxs
   rw [R2_len] at hc ⊢
   cases A with
   | none =>
    have hl0 : l = [] := by
     cases l with
     | nil => rfl
     | cons p l => obtain ⟨a,h,_⟩ := hA (by intro e; cases e); cases h
    subst hl0
    refine Calls.mono (clone_shift_nil _ c Γ.w) ?_
    rintro e w' ⟨rfl,rfl⟩
    obtain ⟨Γ',a1,a2,a3,a4,a5⟩ := own_row (P := PP) E.hs ho hG (Kept.refl _ _) ht h2 (l := []) (v := .slice none 0 0) ⟨rfl,.inl ⟨rfl,rfl⟩⟩
    exact ⟨_,Γ',rfl,a1,a2,a3,a4,a5⟩
   | some a =>
    refine Calls.mono (clone_shift a l.length c (vals l) Γ.w (vals_len l) (by omega) (fun j u hj => ?_) (fun u hu => ?_)) ?_
    · obtain ⟨i,p,h3,h4⟩ := vals_get hj
      have g := R2_get h3
      have hsz : sz = 2 := by rw [← hx' _ (List.mem_of_getElem? g)]; rfl
      subst hsz
      rcases h4 with ⟨rfl,rfl⟩ | ⟨rfl,rfl⟩
      · have d0 := hd i _ 0 _ g rfl
        rw [hu a i _ 0 _ rfl g rfl]
        generalize u i 0 = q at d0
        cases d0; rfl
      · have d0 := hd i _ 1 _ g rfl
        rw [hu a i _ 1 _ rfl g rfl]
        generalize u i 1 = q at d0
        cases d0; rfl
    · obtain ⟨j,hj⟩ := List.getElem?_of_mem hu
      obtain ⟨i,p,_,h4⟩ := vals_get hj
      rcases h4 with ⟨_,rfl⟩ | ⟨_,rfl⟩ <;> rfl
    · rintro e w' ⟨v',rfl,hown,hb⟩
      obtain ⟨Γ',a1,a2,a3,a4,a5⟩ := own_row (P := PP) E.hs ho hG (Kept.of_below hb) ht h2 hown
      exact ⟨_,Γ',rfl,a1,a2,a3,a4,a5⟩
theorem rn_clone_lump (l : List (List UInt8 × List UInt8)) (hl : l.length < 1000) : Rn E F_slices_Clone_Lump [.c (.list (R2 l))] [] (.vec 0 l.length) [some (.vec T_api_Lump (R2 l))] := by
 have hti : ∃ ti,DD.ty T_api_Lump = some ti ∧ ti.size = 2 := by
  have h : (DD.ty T_api_Lump).map (·.size) = some 2 := by kernel_rfl
  cases ht : DD.ty T_api_Lump with
  | none => rw [ht] at h; cases h
  | some ti => rw [ht] at h; exact ⟨ti,rfl,Option.some.inj h⟩
 obtain ⟨ti,ht,h2⟩ := hti
 refine ⟨enters_known (by kernel_rfl),fun Γ cargs ho hG hcl ha => ?_⟩
 obtain ⟨v,rfl⟩ : ∃ v,cargs = #[v] := by
  match cargs,hcl with
  | ⟨[v]⟩,_ => exact ⟨v,rfl⟩
 have hc0 := ha 0 v _ rfl rfl
 cases hc0 with
 | c hr =>
  generalize hxs : R2 l = xs at hr
  cases hr with
  | list A c xs sz u hc hA hx' hu hd =>
   subst hxs
   rw [R2_len] at hc ⊢
   cases A with
   | none =>
    have hl0 : l = [] := by
     cases l with
     | nil => rfl
     | cons p l => obtain ⟨a,h,_⟩ := hA (by intro e; cases e); cases h
    subst hl0
    refine Calls.mono (clone_lump_nil _ c Γ.w) ?_
    rintro e w' ⟨rfl,rfl⟩
    obtain ⟨Γ',a1,a2,a3,a4,a5⟩ := own_row (P := PP) E.hs ho hG (Kept.refl _ _) ht h2 (l := []) (v := .slice none 0 0) ⟨rfl,.inl ⟨rfl,rfl⟩⟩
    exact ⟨_,Γ',rfl,a1,a2,a3,a4,a5⟩
   | some a =>
    refine Calls.mono (clone_lump a l.length c (vals l) Γ.w (vals_len l) (by omega) (fun j u hj => ?_) (fun u hu => ?_)) ?_
    · obtain ⟨i,p,h3,h4⟩ := vals_get hj
      have g := R2_get h3
      have hsz : sz = 2 := by rw [← hx' _ (List.mem_of_getElem? g)]; rfl
      subst hsz
      rcases h4 with ⟨rfl,rfl⟩ | ⟨rfl,rfl⟩
      · have d0 := hd i _ 0 _ g rfl
        rw [hu a i _ 0 _ rfl g rfl]
        generalize u i 0 = q at d0
        cases d0; rfl
      · have d0 := hd i _ 1 _ g rfl
        rw [hu a i _ 1 _ rfl g rfl]
        generalize u i 1 = q at d0
        cases d0; rfl
    · obtain ⟨j,hj⟩ := List.getElem?_of_mem hu
      obtain ⟨i,p,_,h4⟩ := vals_get hj
      rcases h4 with ⟨_,rfl⟩ | ⟨_,rfl⟩ <;> rfl
    · rintro e w' ⟨v',rfl,hown,hb⟩
      obtain ⟨Γ',a1,a2,a3,a4,a5⟩ := own_row (P := PP) E.hs ho hG (Kept.of_below hb) ht h2 hown
      exact ⟨_,Γ',rfl,a1,a2,a3,a4,a5⟩
theorem cl_ok : Cl E := ⟨rn_clone_shift,rn_clone_lump⟩
end Gev
namespace Gev
open Go Gb
def r0 (a b : Rat) (qs : List (Rat × Rat)) : Rat := qsum (dif a b) qs
def r1 (a b : Rat) (qs : List (Rat × Rat)) : Rat := qsum (fun q => dif a b q * q.1) qs
theorem r0_eq (a b : Rat) : ∀ qs,r0 a b qs = sy qs - b * len qs - a * sx qs
 | [] => by show (0 : Rat) = 0 - b * (((0 : Nat) : Int) : Rat) - a * 0; have : (((0 : Nat) : Int) : Rat) = 0 := rfl; rw [this]; grind
 | q :: qs => by
  have ih := r0_eq a b qs
  rw [len_cons]
  unfold r0 sx sy dif at ih ⊢
  rw [qsum_cons,qsum_cons,qsum_cons]
  grind
theorem r1_eq (a b : Rat) : ∀ qs,r1 a b qs = tp qs - b * sx qs - a * tq qs
 | [] => by show (0 : Rat) = 0 - b * 0 - a * 0; grind
 | q :: qs => by
  have ih := r1_eq a b qs
  unfold r1 sx tp tq dif at ih ⊢
  rw [qsum_cons,qsum_cons,qsum_cons,qsum_cons]
  grind
theorem len_ne {qs : List (Rat × Rat)} (h : qs.length ≠ 0) : len qs ≠ 0 := rat_len_ne h
theorem fit_normal {qs : List (Rat × Rat)} (hn : qs.length ≠ 0) {a b : Rat} (h : fitI qs = some (a,b)) : r0 a b qs = 0 ∧ r1 a b qs = 0 ∧ fitD qs ≠ 0 ∧ a = fitS qs := by
 rw [← fit_eq hn] at h
 unfold fitR at h
 split at h
 · cases h
 · rename_i hD
   cases h
   have hl := len_ne hn
   have hs : fitS qs * fitD qs = len qs * tp qs - sx qs * sy qs := by unfold fitS; rw [Rat.div_def,Rat.mul_assoc,Rat.inv_mul_cancel _ hD,Rat.mul_one]
   have hb : (sy qs - fitS qs * sx qs) / len qs * len qs = sy qs - fitS qs * sx qs := by rw [Rat.div_def,Rat.mul_assoc,Rat.inv_mul_cancel _ hl,Rat.mul_one]
   have e0 : r0 (fitS qs) ((sy qs - fitS qs * sx qs) / len qs) qs = 0 := by rw [r0_eq,hb]; grind
   refine ⟨e0,?_,hD,rfl⟩
   have e1 : len qs * r1 (fitS qs) ((sy qs - fitS qs * sx qs) / len qs) qs = 0 := by
    rw [r1_eq]
    unfold fitD at hs
    generalize (sy qs - fitS qs * sx qs) / len qs = b at hb ⊢
    generalize fitS qs = a at hs hb ⊢
    grind
   exact (Rat.mul_eq_zero.1 e1).resolve_left hl
end Gev
namespace Gev
open Go Gb Go.Proofs
variable {E : Env}
attribute [local irreducible] Sz
end Gev
namespace Gev
open Go Gb Go.Proofs
variable {E : Env}
attribute [local irreducible] Sz
end Gev
namespace Gev
open Go Gb
end Gev
namespace Gev
open Go Gb Go.Proofs
variable {E : Env}
attribute [local irreducible] Sz
end Gev
namespace Gev
open Go Gb Go.Proofs
variable {E : Env}
attribute [local irreducible] Sz
theorem R2_set (ws : List (List UInt8 × List UInt8)) (i : Nat) (p : List UInt8 × List UInt8) : (R2 ws).set i [.str (B p.1),.str (B p.2)] = R2 (ws.set i p) := by unfold R2; rw [List.map_set]
theorem Few.reverse {l : List (List UInt8 × List UInt8)} (h : Few l) : Few l.reverse := ⟨by rw [List.length_reverse]; exact h.1,fun x hx => h.2 x (List.mem_reverse.1 hx)⟩
end Gev
namespace Gev
open Go Gb Go.Proofs
variable {E : Env}
attribute [local irreducible] Sz
def up (a b m : Rat) : Rat × Rat := (m,b + a * m)
def dn (a b m : Rat) : Rat × Rat := (-m,b + a * m)
theorem dif_up {a b : Rat} {ms : List Rat} : ∀ q ∈ ms.map (up a b),dif a b q = 0 := fun q hq => by
 obtain ⟨m,_,rfl⟩ := List.mem_map.1 hq
 show b + a * m - (b + a * m) = 0
 grind
theorem dif_dn {a b : Rat} {ms : List Rat} : ∀ q ∈ ms.map (dn a b),dif (-a) b q = 0 := fun q hq => by
 obtain ⟨m,_,rfl⟩ := List.mem_map.1 hq
 show b + a * m - (b + -a * -m) = 0
 grind
theorem qsum_none {α : Type} {g : α → Rat} : ∀ {l : List α},(∀ x ∈ l,g x = 0) → qsum g l = 0
 | [],_ => rfl
 | x :: l,h => by rw [qsum_cons,h x List.mem_cons_self,qsum_none (fun y hy => h y (List.mem_cons_of_mem _ hy)),Rat.add_zero]
theorem fit_on {qs : List (Rat × Rat)} {a b : Rat} (hn : qs.length ≠ 0) (h : ∀ q ∈ qs,dif a b q = 0) : fitI qs = (if fitD qs = 0 then none else some (a,b)) ∧ ssq a b qs = 0 := by
 refine ⟨?_,qsum_none fun q hq => by rw [h q hq,Rat.zero_mul]⟩
 have z0 : r0 a b qs = 0 := qsum_none h
 have z1 : r1 a b qs = 0 := qsum_none fun q hq => by rw [h q hq,Rat.zero_mul]
 cases hf : fitI qs with
 | none =>
  rw [← fit_eq hn] at hf
  unfold fitR at hf
  split at hf
  · rename_i h0; rw [if_pos h0]
  · cases hf
 | some ab =>
  obtain ⟨c,d⟩ := ab
  obtain ⟨y0,y1,hD,_⟩ := fit_normal hn hf
  rw [if_neg hD]
  rw [r0_eq] at z0 y0
  rw [r1_eq] at z1 y1
  have hl := len_ne hn
  have e1 : (c - a) * fitD qs = 0 := by unfold fitD; grind
  have e2 : c = a := by
   have := (Rat.mul_eq_zero.1 e1).resolve_right hD
   grind
  subst e2
  have e3 : (d - b) * len qs = 0 := by grind
  have e4 : d = b := by
   have := (Rat.mul_eq_zero.1 e3).resolve_right hl
   grind
  rw [e4]
theorem dn_D (a b : Rat) (ms : List Rat) : fitD (ms.map (dn a b)) = fitD (ms.map (up a b)) := by
 have e1 : len (ms.map (dn a b)) = len (ms.map (up a b)) := by unfold len; rw [List.length_map,List.length_map]
 have e2 : ∀ ms : List Rat,tq (ms.map (dn a b)) = tq (ms.map (up a b)) := fun ms => by
  induction ms with
  | nil => rfl
  | cons m ms ih =>
   unfold tq at ih ⊢
   rw [List.map_cons,List.map_cons,qsum_cons,qsum_cons,ih]
   show -m * -m + _ = m * m + _
   grind
 have e3 : ∀ ms : List Rat,sx (ms.map (dn a b)) = - sx (ms.map (up a b)) := fun ms => by
  induction ms with
  | nil => rfl
  | cons m ms ih =>
   unfold sx at ih ⊢
   rw [List.map_cons,List.map_cons,qsum_cons,qsum_cons,ih]
   show -m + _ = -(m + _)
   grind
 unfold fitD
 rw [e1,e2,e3]; grind
theorem set_mid {α : Type} (xs : List α) (c x : α) (t : List α) : (xs ++ c :: t).set xs.length x = xs ++ [x] ++ t := by simp
theorem straight_loop {l : List (List UInt8 × List UInt8)} {p e s : ByteArray} {a b : Rat} (hl : ∀ x ∈ l,x.1.length ≤ 40) (hn : l.length < 1000) (ha : Sz a 40) (hb : Sz b 40) : ∀ (d i : Nat) (ms : List Rat),i + d = l.length → ms.length = i → (∀ m ∈ ms,Sz m 40) →
    (∃ ms' : List Rat,ms'.length = l.length ∧ (∀ m ∈ ms',Sz m 40) ∧ Lp E 5 F_lawS 0 (lawS_L0 l.length l.length (R2 l) (l.length : Nat) (i : Nat) p e s (q0 a) (q1 a) (q2 a) (q0 b) (q1 b) (q2 b) (R2 (Tx (ms.map (up a b)) ++ l.drop i)) (R2 (Tx (ms.map (dn a b)) ++ l.drop i))) (.exit 0) (lawS_L0e1 l.length l.length p e s (q0 a) (q1 a) (q2 a) (q0 b) (q1 b) (q2 b) (R2 (Tx (ms'.map (up a b)))) (R2 (Tx (ms'.map (dn a b)))))) ∨
    ∃ x y,Lp E 5 F_lawS 0 (lawS_L0 l.length l.length (R2 l) (l.length : Nat) (i : Nat) p e s (q0 a) (q1 a) (q2 a) (q0 b) (q1 b) (q2 b) (R2 (Tx (ms.map (up a b)) ++ l.drop i)) (R2 (Tx (ms.map (dn a b)) ++ l.drop i))) .ret (lawS_L0e0 p e s (q0 a) (q1 a) (q2 a) (q0 b) (q1 b) (q2 b) x y)
 | 0,i,ms,hi,hm,hs => .inl ⟨ms,by omega,hs,by
     rw [List.drop_eq_nil_of_le (by omega),List.append_nil,List.append_nil]
     exact lawS_L0e1_x0 (by omega)⟩
 | d + 1,i,ms,hi,hm,hs => by
  have hL := Lim_val
  obtain ⟨c,hc⟩ := get_ex (l := l) (i := i) (by omega)
  have g := R2_get hc
  have hcl := hl c (List.mem_of_getElem? hc)
  have hf := r3_From (E := E) (l := c.1) (by omega)
  cases ho : ok1 c.1 with
  | false =>
   rw [show (rd c.1).isSome = false from ho] at hf
   exact .inr ⟨_,_,lawS_L0e0_x0 (by omega) (by omega) (by rw [Int.toNat_natCast]; exact g) hf⟩
  | true =>
   rw [show (rd c.1).isSome = true from ho] at hf
   obtain ⟨m,em⟩ := ok1_some ho
   rw [em] at hcl hf
   rw [rd_decQ] at hf
   have zm := Sz.of_len hcl
   have lu : (Tx (ms.map (up a b))).length = i := by rw [Tx_len,List.length_map,hm]
   have ld : (Tx (ms.map (dn a b))).length = i := by rw [Tx_len,List.length_map,hm]
   have step : ∀ {x y : List UInt8} {xs : List (List UInt8 × List UInt8)},xs.length = i → (R2 (xs ++ c :: l.drop (i + 1))).set i [.str (B x),.str (B y)] = R2 (xs ++ [(x,y)] ++ l.drop (i + 1)) := fun {x y xs} h => by
    rw [R2_set _ _ (x,y),← h,set_mid]
   have at0 : ∀ {xs : List (List UInt8 × List UInt8)} {x : List UInt8 × List UInt8} {t},xs.length = i → (xs ++ x :: t)[i]? = some x := fun {xs x t} h => by
    rw [List.getElem?_append_right (by omega),h,Nat.sub_self]; rfl
   rw [drop_get hc]
   have k1 := straight_loop (p := p) (e := e) (s := s) hl hn ha hb d (i + 1) (ms ++ [m]) (by omega) (by simp [hm]) (fun y hy => by
    rcases List.mem_append.1 hy with h | h
    · exact hs y h
    · rw [List.mem_singleton.1 h]; exact zm)
   have eu : Tx ((ms ++ [m]).map (up a b)) = Tx (ms.map (up a b)) ++ [(decQ m,decQ (b + a * m))] := by unfold Tx; rw [List.map_append,List.map_append]; rfl
   have ed : Tx ((ms ++ [m]).map (dn a b)) = Tx (ms.map (dn a b)) ++ [(decQ (-m),decQ (b + a * m))] := by unfold Tx; rw [List.map_append,List.map_append]; rfl
   rw [eu,ed] at k1
   have zam := ha.mul zm
   have zs := hb.add zam
   have st : ∀ {o st'},Lp E 5 F_lawS 0 (lawS_L0 l.length l.length (R2 l) (l.length : Nat) ((i + 1 : Nat) : Int) p e s (q0 a) (q1 a) (q2 a) (q0 b) (q1 b) (q2 b) (R2 (Tx (ms.map (up a b)) ++ [(decQ m,decQ (b + a * m))] ++ l.drop (i + 1))) (R2 (Tx (ms.map (dn a b)) ++ [(decQ (-m),decQ (b + a * m))] ++ l.drop (i + 1)))) o st' →
       Lp E 5 F_lawS 0 (lawS_L0 l.length l.length (R2 l) (l.length : Nat) (i : Nat) p e s (q0 a) (q1 a) (q2 a) (q0 b) (q1 b) (q2 b) (R2 (Tx (ms.map (up a b)) ++ c :: l.drop (i + 1))) (R2 (Tx (ms.map (dn a b)) ++ c :: l.drop (i + 1)))) o st' := fun ih => by
    refine lawS_L0_r0 (v16 := R2 (Tx (ms.map (up a b)) ++ [(decQ m,decQ (b + a * m))] ++ l.drop (i + 1))) (v25 := R2 (Tx (ms.map (dn a b)) ++ [(decQ (-m),decQ (b + a * m))] ++ l.drop (i + 1))) (v1 := B c.1) (v2 := B c.2) (v14 := B c.1) (v15 := B c.2) (v23 := B c.1) (v24 := B c.2) (v13 := B (decQ (b + a * m))) (v20 := B (decQ (-m))) (v21 := B (decQ m)) (v22 := B (decQ (b + a * m))) (v26 := ((i + 1 : Nat) : Int)) ?_ ?_ (wi (by omega)) (by omega) (by omega) ?_ ?_ (r3_Mul ha zm (by omega)) (r3_Add hb zam (by omega)) (r3_To zs (by omega)) ⟨by omega,by omega⟩ ?_ (r3_Neg m) (r3_To zm.neg (by omega)) ?_ ⟨by omega,by omega⟩ ?_ ih
    · rw [Int.toNat_natCast,em]; exact step lu
    · rw [Int.toNat_natCast]; exact step ld
    · rw [Int.toNat_natCast]; exact g
    · rw [em]; exact hf
    · rw [Int.toNat_natCast]; exact R2_get (at0 lu)
    · rw [Int.toNat_natCast]
      have := at0 (x := (decQ m,decQ (b + a * m))) (t := l.drop (i + 1)) lu
      rw [List.append_assoc]
      exact R2_get this
    · rw [Int.toNat_natCast]; exact R2_get (at0 ld)
   rcases k1 with ⟨ms',h1,h2,h3⟩ | ⟨x,y,h3⟩
   · exact .inl ⟨ms',h1,h2,st h3⟩
   · exact .inr ⟨x,y,st h3⟩
theorem few_on {f : Rat → Rat × Rat} {ms : List Rat} (hn : ms.length < 1000) (h : ∀ m ∈ ms,(decQ (f m).1).length ≤ 4000 ∧ (decQ (f m).2).length ≤ 4000) : Few (Tx (ms.map f)) := by
 refine ⟨by rw [Tx_len,List.length_map]; exact hn,fun x hx => ?_⟩
 unfold Tx at hx
 obtain ⟨q,hq,rfl⟩ := List.mem_map.1 hx
 obtain ⟨m,hm,rfl⟩ := List.mem_map.1 hq
 exact h m hm
theorem start_on {f g : Rat → Rat × Rat} {ms : List Rat} : startI (Tx (ms.map f)) = startI (Tx (ms.map g)) := by
 unfold startI
 rw [Tx_ok,Tx_ok,Tx_len,Tx_len,List.length_map,List.length_map]
theorem law_Straight (hlib : Lib E) (hcl : Cl E) (haw : Fn E F_law54_awake [] (.c (.bool true))) (l : List (List UInt8 × List UInt8)) (p e s : List UInt8) (hl : l.length ≤ 9223372036854775807) (hp : p.length ≤ Lim) (he : e.length ≤ Lim) : Fn E F_lawS [.c (.list (R2 l)),.agg [.str (B p),.str (B e),.str (B s)]] (.c (.bool true)) := by
 have hf := r54_Few (E := E) (l := l) (m := []) hl (by decide)
 have f1 := r3_From (E := E) hp
 have f2 := r3_From (E := E) he
 cases hb : fewB l [] with
 | false => rw [hb] at hf; exact lawS_12 haw f1 f2 hf
 | true =>
  rw [hb] at hf
  obtain ⟨hm,_,h17,_⟩ := fewB_few hb
  have hsh := (fewB_short hb).1
  have hL := Lim_val
  by_cases h1 : p.length ≤ 40
  · by_cases h2 : e.length ≤ 40
    · have n1 : ¬ ((B p).size : Int) > 40 := by rw [B_size]; omega
      have n2 : ¬ ((B e).size : Int) > 40 := by rw [B_size]; omega
      cases o1 : ok1 p with
      | false => rw [show (rd p).isSome = false from o1] at f1; exact lawS_11 haw f1 f2 hf n1 n2
      | true =>
       rw [show (rd p).isSome = true from o1] at f1
       cases o2 : ok1 e with
       | false => rw [show (rd e).isSome = false from o2] at f2; exact lawS_10 haw f1 f2 hf n1 n2
       | true =>
        rw [show (rd e).isSome = true from o2] at f2
        obtain ⟨a,rfl⟩ := ok1_some o1
        obtain ⟨b,rfl⟩ := ok1_some o2
        rw [rd_decQ] at f1 f2
        have za := Sz.of_len h1
        have zb := Sz.of_len h2
        have hc := hcl.shift l hm.1
        rcases straight_loop (E := E) (p := B (decQ a)) (e := B (decQ b)) (s := B s) (fun x hx => (hsh x hx).1) hm.1 za zb l.length 0 [] (by omega) rfl (fun m h => by cases h) with ⟨ms,hn,hms,hlp⟩ | ⟨x,y,hlp⟩
        · rw [show ((l.length : Nat) : Int) = ((R2 l).length : Int) by rw [R2_len]] at hlp
          have zu : ∀ m ∈ ms,(decQ m).length ≤ 4000 ∧ (decQ (b + a * m)).length ≤ 4000 := fun m h => by
           have z1 := (hms m h).len
           have z2 := (zb.add (za.mul (hms m h))).len
           exact ⟨by omega,by omega⟩
          have zd : ∀ m ∈ ms,(decQ (-m)).length ≤ 4000 ∧ (decQ (b + a * m)).length ≤ 4000 := fun m h => by
           have z1 := (hms m h).neg.len
           exact ⟨by omega,(zu m h).2⟩
          have hU : Few (Tx (ms.map (up a b))) := few_on (by omega) zu
          have hD : Few (Tx (ms.map (dn a b))) := few_on (by omega) zd
          have k1 := inc_Fit hlib hU
          have k2 := inc_Fit hlib hD
          have t1 : (R2 (Tx (ms.map (up a b)))).take l.length = R2 (Tx (ms.map (up a b))) := List.take_of_length_le (by rw [R2_len,Tx_len,List.length_map]; omega)
          have t2 : (R2 (Tx (ms.map (dn a b)))).take l.length = R2 (Tx (ms.map (dn a b))) := List.take_of_length_le (by rw [R2_len,Tx_len,List.length_map]; omega)
          unfold ansI at k1 k2
          rw [start_on (f := dn a b) (g := up a b)] at k2
          by_cases h0 : startI (Tx (ms.map (up a b))) = 0
          · rw [if_pos h0,nums_Tx] at k1 k2
            obtain ⟨qs,eq,hq2,_⟩ := start_zero h0
            have hn0 : ms.length ≠ 0 := by
             have := congrArg List.length eq
             rw [Tx_len,Tx_len,List.length_map] at this
             omega
            obtain ⟨u1,u2⟩ := fit_on (qs := ms.map (up a b)) (by rw [List.length_map]; exact hn0) dif_up
            obtain ⟨w1,w2⟩ := fit_on (qs := ms.map (dn a b)) (by rw [List.length_map]; exact hn0) dif_dn
            rw [dn_D] at w1
            rw [u1] at k1
            rw [w1] at k2
            by_cases hz : fitD (ms.map (up a b)) = 0
            · rw [if_pos hz] at k1 k2
              exact lawS_3 t1 t2 haw f1 f2 hf n1 n2 hc hc hlp k1 k2 (by decide) rfl rfl
            · rw [if_neg hz] at k1 k2
              simp only [FitRes,Line,u2,w2,decQ_zero] at k1 k2
              exact lawS_6 t1 t2 haw f1 f2 hf n1 n2 hc hc hlp k1 k2 rfl rfl (and3 _ _ _) (r3_Neg a) (r3_To za.neg (by omega)) (and3 _ _ _)
          · rw [if_neg h0] at k1 k2
            exact lawS_3 t1 t2 haw f1 f2 hf n1 n2 hc hc hlp k1 k2 h0 rfl rfl
        · rw [show ((l.length : Nat) : Int) = ((R2 l).length : Int) by rw [R2_len]] at hlp
          exact lawS_2 haw f1 f2 hf n1 n2 hc hc hlp
    · exact lawS_1 haw f1 f2 hf (by rw [B_size]; omega) (by rw [B_size]; omega)
  · exact lawS_0 haw f1 f2 hf (by rw [B_size]; omega)
end Gev
namespace Gev
open Go Gb Go.Proofs
variable {P : Program}
theorem uStr {t : TypeId} (h : P.underlying t = some .string) {ds : List DV} (hd : TyD P t ds) : ∃ l,ds = [.str (B l)] := by
 cases hd with
 | str s hu => exact ⟨s.data.toList,by rw [B_of]⟩
 | int n hu hw => rw [h] at hu; cases hu
 | bool b hu => rw [h] at hu; cases hu
 | slice xs hu hx hl => rw [h] at hu; cases hu
 | struct ds hu hl hp => rw [h] at hu; cases hu
def fieldsOf (P : Program) (e : TypeId) : Option (List (Nat × TypeId)) := match P.underlying e with | some (.struct fs) => some (fs.toList.map fun f => (f.offset,f.type)) | _ => none
theorem fields_get {e : TypeId} {l : List (Nat × TypeId)} (h : fieldsOf P e = some l) : ∃ fs,P.underlying e = some (.struct fs) ∧ fs.toList.map (fun f => (f.offset,f.type)) = l := by
 unfold fieldsOf at h
 split at h
 · rename_i fs hu; exact ⟨fs,hu,Option.some.inj h⟩
 · cases h
theorem uStruct {e : TypeId} {l : List (Nat × TypeId)} (h : fieldsOf P e = some l) {ds : List DV} (hd : TyD P e ds) : ds.length = P.cellsOf e ∧ ∀ x ∈ l,TyD P x.2 ((ds.drop x.1).take (P.cellsOf x.2)) := by
 obtain ⟨fs,hu0,rfl⟩ := fields_get h
 cases hd with
 | struct _ hu hl hp =>
  rw [hu0] at hu; cases hu
  refine ⟨hl,fun x hx => ?_⟩
  obtain ⟨f,hf,rfl⟩ := List.mem_map.1 hx
  exact hp f hf
 | int n hu hw => rw [hu0] at hu; cases hu
 | bool b hu => rw [hu0] at hu; cases hu
 | str s hu => rw [hu0] at hu; cases hu
 | slice xs hu hx hl => rw [hu0] at hu; cases hu
theorem uSlice {t e : TypeId} (ht : P.underlying t = some (.slice e)) {d : DV} (hd : TyD P t [d]) : ∃ xs,d = .list xs ∧ (∀ x ∈ xs,TyD P e x) ∧ xs.length ≤ 9223372036854775807 := by
 generalize hds : [d] = ds at hd
 cases hd with
 | slice xs hu hx hl => rw [ht] at hu; cases hu; cases hds; exact ⟨xs,rfl,hx,hl⟩
 | int n hu hw => rw [ht] at hu; cases hu
 | bool b hu => rw [ht] at hu; cases hu
 | str s hu => rw [ht] at hu; cases hu
 | struct ds hu hl hp => rw [ht] at hu; cases hu
theorem two_cells {x : List DV} (h : x.length = 2) : ∃ a b,x = [a,b] := by
 match x,h with
 | [a,b],_ => exact ⟨a,b,rfl⟩
theorem uPair {e s : TypeId} (he : fieldsOf P e = some [(0,s),(1,s)]) (c2 : P.cellsOf e = 2) (cs : P.cellsOf s = 1) (hs : P.underlying s = some .string) {x : List DV} (hd : TyD P e x) : ∃ p q,x = [.str (B p),.str (B q)] := by
 obtain ⟨hl,hp⟩ := uStruct he hd
 rw [c2] at hl
 obtain ⟨a,b,rfl⟩ := two_cells hl
 have ha := hp (0,s) (by simp)
 have hb := hp (1,s) (by simp)
 simp only [cs,List.drop_zero,List.drop_succ_cons,List.take_succ_cons,List.take_zero] at ha hb
 obtain ⟨p,e1⟩ := uStr hs ha
 obtain ⟨q,e2⟩ := uStr hs hb
 cases e1; cases e2; exact ⟨p,q,rfl⟩
theorem uPairs {t e s : TypeId} (ht : P.underlying t = some (.slice e)) (he : fieldsOf P e = some [(0,s),(1,s)]) (c2 : P.cellsOf e = 2) (cs : P.cellsOf s = 1) (hs : P.underlying s = some .string) {d : DV} (hd : TyD P t [d]) : ∃ l,d = .list (R2 l) ∧ l.length ≤ 9223372036854775807 := by
 obtain ⟨xs,rfl,hx,hl⟩ := uSlice ht hd
 have hex : ∀ xs : RW,(∀ x ∈ xs,TyD P e x) → ∃ l,xs = R2 l := by
  intro xs
  induction xs with
  | nil => exact fun _ => ⟨[],rfl⟩
  | cons x xs ih =>
   intro hx
   obtain ⟨l,rfl⟩ := ih fun y hy => hx y (by simp [hy])
   obtain ⟨p,q,rfl⟩ := uPair he c2 cs hs (hx x (by simp))
   exact ⟨(p,q) :: l,rfl⟩
 obtain ⟨l,rfl⟩ := hex xs hx
 exact ⟨l,rfl,by rw [R2_len] at hl; exact hl⟩
theorem three_cells {x : List DV} (h : x.length = 3) : ∃ a b c,x = [a,b,c] := by
 match x,h with
 | [a,b,c],_ => exact ⟨a,b,c,rfl⟩
theorem uTriple {e s : TypeId} (he : fieldsOf P e = some [(0,s),(1,s),(2,s)]) (c3 : P.cellsOf e = 3) (cs : P.cellsOf s = 1) (hs : P.underlying s = some .string) {x : List DV} (hd : TyD P e x) : ∃ p q r,x = [.str (B p),.str (B q),.str (B r)] := by
 obtain ⟨hl,hp⟩ := uStruct he hd
 rw [c3] at hl
 obtain ⟨a,b,c,rfl⟩ := three_cells hl
 have ha := hp (0,s) (by simp)
 have hb := hp (1,s) (by simp)
 have hc := hp (2,s) (by simp)
 simp only [cs,List.drop_zero,List.drop_succ_cons,List.take_succ_cons,List.take_zero] at ha hb hc
 obtain ⟨p,e1⟩ := uStr hs ha
 obtain ⟨q,e2⟩ := uStr hs hb
 obtain ⟨r,e3⟩ := uStr hs hc
 cases e1; cases e2; cases e3; exact ⟨p,q,r,rfl⟩
theorem spread3 (hlib : Lib E0) : Fn E0 F_incline_Spread [.c (.list (R2 (Tx three)))] (.tup [.agg [.str (B [49,47,53,48,48,48]),.str (B [49,47,53,48,48,48])],.c (.i64 0)]) := by
 have h := inc_Spread hlib few_three
 unfold sprI at h
 rw [if_pos start_three,nums_Tx,show spreadI three = some (mkRat 1 5000,mkRat 1 5000) by kernel_rfl] at h
 simp only [ivI] at h
 rw [d1_5000] at h
 exact h
theorem awake0 : Fn E0 F_law54_awake [] (.c (.bool true)) := awake_ok lib0 (spread3 lib0)
end Gev
namespace Gev
open Go Gb Go.Proofs Go.ChangeShapes Go.WideShapes Go.ChangeAt Go.RowKit
open YtpjpnmjbaedkmaaGreatDoor (Rows.uptoBulk Rows.uptoBulkAll Rows.uptoSmall Rows.OpenSpec.upto)
variable {H : Type} {enc : TypeId × Value → H}
def ArgsAt (enc : TypeId × Value → H) (fn : Func) (W : World) (args : Array Value) (ds : List (DataW H)) (us : List AV) : Prop :=
 (∃ p,DataW.TrodAll enc Tryz.checked.prog W 0 (fun _ => true) true fn.params.toList args.toList ds p) ∧ args.toList.length = us.length ∧ ∀ (i : Nat) v a,args.toList[i]? = some v → us[i]? = some a → RepA DD ⟨⟨fun _ => none,fun _ => False⟩,[],W⟩ v a
set_option maxRecDepth 100000 in
theorem law_upto (f : FuncId) (fn : Func) (s : ChangeSpec) (os : Os) (started : os.Started) (F : Stop.Interp) (hfn : Tryz.checked.prog.funcs[f]? = some fn) (noInit : Tryz.checked.prog.inits.idxOf? f = none) (hres : fn.resultTypes = #[4]) (hv : s.vars = [])
    (hs : ∀ ds : List (DataW H),ds.length = fn.params.size → s.fn H ds = { results := [.lit (.bool true)],args := ds }) (hp : fn.params.toList.all (plainT Tryz.prog 10) = true) (hr : (fn.params.toList.all fun t => Tryz.prog.readableRec t && decide (t < Tryz.prog.types.size)) = true)
    (witness : ∃ (w : World) (tape : Tape) (i : Input),w.os = os ∧ (w.forCall tape i).Shaped Tryz.checked.prog ∧ i.vars = [] ∧ Input.okWide Tryz.checked.prog (w.forCall tape i) .any w.heap.size f i ∧
     (Rows.OpenSpec.upto s).preRow enc Tryz.checked.prog fn [] false laidL (w.forCall tape i).memory i.args ∧ Assume.holds {} Tryz.checked.prog (lone (Frame.enter Tryz.checked.prog f i.args .normal) [] (w.forCall tape i)))
    (law : ∀ W args ds us,ArgsAt enc fn W args ds us → AvsOf Tryz.prog fn.params.toList us → Rows.uptoBulkAll ds ≤ 1048576 → Fn E0 f us (.c (.bool true))) :
    ReturnsInHanded {} Tryz.checked os f .any ((Rows.OpenSpec.upto s).preRow enc Tryz.checked.prog fn [] false laidL) (((Rows.OpenSpec.upto s).at F).post enc Tryz.checked.prog fn false true false false) := by
 refine returnsInHanded_of_row (C := Tryz.checked) (s := Rows.OpenSpec.upto s) own0 started noInit hfn witness fun W base args ds gs before hval hW _ hcond _ hL hsh _ => ?_
 show Calls Tryz.checked.prog f args W fun e W' => ∃ v,e = .returned v ∧ s.post enc Tryz.checked.prog fn false true false false W args v W'
 have hW' := hW
 obtain ⟨p,q,hA,hV,rfl,_,_⟩ := hW
 have hV : DataW.TrodVars enc Tryz.checked.prog W (fun _ => true) s.vars gs q := hV
 rw [hv] at hV
 obtain ⟨rfl,rfl⟩ := trodVars_none hV
 have hsm := hcond _ rfl
 rw [List.append_nil] at hsm
 have hsm := of_decide_eq_true hsm
 have hT := told_of hL hsh
 have hlt : ∀ y ∈ p,y.block < W.heap.size := fun y hy => hW'.lt y (List.mem_append_left _ hy)
 obtain ⟨us,u1,u2,u3⟩ := targs_rep none_own hp (fun j t v h1 h2 => hval j t v (by rw [← Array.getElem?_toList]; exact h1) (by rw [← Array.getElem?_toList]; exact h2)) hA
 have hdl : ds.length = fn.params.size := by
  have : ∀ {ts : List TypeId} {vs : List Value} {ds : List (DataW H)} {ps : List MemPlace},DataW.TrodAll enc Tryz.checked.prog W 0 (fun _ => true) true ts vs ds ps → ds.length = ts.length := by
   intro ts
   induction ts with
   | nil => intro vs ds ps h; cases vs <;> cases ds <;> simp_all [DataW.TrodAll]
   | cons t ts ih =>
    intro vs ds ps h
    cases vs with
    | nil => cases ds <;> simp [DataW.TrodAll] at h
    | cons v vs => cases ds with
     | nil => simp [DataW.TrodAll] at h
     | cons d ds => obtain ⟨_,_,_,h2,_⟩ := h; simp [ih h2]
  rw [this hA]; simp
 refine Calls.mono ((law W args ds us ⟨⟨p,hA⟩,u2,u3⟩ u1 hsm).calls W (fun _ => False) args hT (told_size hT) (fun _ h => h.elim) (by rw [← u2]; simp) fun i v a h1 h2 => u3 i v a (by rw [Array.getElem?_toList]; exact h1) h2) ?_
 rintro e W' ⟨v,rfl,_,k1,k2⟩
 have hb : Below W.heap.size W W' := ⟨k1.os,k1.tape,k1.output,k1.size,fun b hb => k1.heap b hb id⟩
 have hvv : v = .bool true := by cases k2 with | c k2 => cases k2; rfl
 subst hvv
 refine ⟨_,rfl,ds,[],p ++ [],[],p,[],hW',?_,?_,?_,hb.frame _,fun h => by cases h⟩
 · rw [List.append_nil,hs ds hdl,hres]; exact trodAll_mk1 (shut_bool (by kernel_rfl) true)
 · rw [List.append_nil,hs ds hdl]; exact trodAll_below laidOut0 hb hr hlt hA
 · rw [List.append_nil,hs ds hdl,hv]; rfl
theorem upto_witness {f : FuncId} {fn : Func} {s : ChangeSpec} (os : Os) (args : Array Value)
    (hsh : ((World.doorLaid Tryz.prog 400 os).forCall (fun _ _ => 0) ⟨#[],args,[]⟩).Shaped Tryz.checked.prog)
    (hok : Input.okWideB Tryz.checked.prog ((World.doorLaid Tryz.prog 400 os).forCall (fun _ _ => 0) ⟨#[],args,[]⟩) f ⟨#[],args,[]⟩ = true)
    (hrow : (Rows.OpenSpec.upto s).preRow enc Tryz.checked.prog fn [] false laidL ((World.doorLaid Tryz.prog 400 os).forCall (fun _ _ => 0) ⟨#[],args,[]⟩).memory args) :
    ∃ (w : World) (tape : Tape) (i : Input),w.os = os ∧ (w.forCall tape i).Shaped Tryz.checked.prog ∧ i.vars = [] ∧ Input.okWide Tryz.checked.prog (w.forCall tape i) .any w.heap.size f i ∧
     (Rows.OpenSpec.upto s).preRow enc Tryz.checked.prog fn [] false laidL (w.forCall tape i).memory i.args ∧ Assume.holds {} Tryz.checked.prog (lone (Frame.enter Tryz.checked.prog f i.args .normal) [] (w.forCall tape i)) :=
 ⟨World.doorLaid Tryz.prog 400 os,fun _ _ => 0,⟨#[],args,[]⟩,rfl,hsh,(Input.okWide_of_okWideB (base := 0) hok).1,(Input.okWide_of_okWideB hok).2,hrow,by
  simp only [Assume.holds]
  simp⟩
theorem triple_bulk {P : Program} {w : World} {t s : TypeId} {fs : Array Field} (ht : P.underlying t = some (.struct fs)) (hf : fs.toList.map (fun f => (f.offset,f.type)) = [(0,s),(1,s),(2,s)]) (hs : P.underlying s = some .string) (c1 : P.cellsOf s = 1)
    {v : Value} {d : DataW H} {base : Nat} {sp : Nat → Bool} {hd : Bool} {ps : List MemPlace} (h : DataW.Trod enc P w base sp hd t v d ps) {p e q : List UInt8} {Γ : Ctx} (hr : RepA DD Γ v (.agg [.str (B p),.str (B e),.str (B q)])) : p.length + e.length + q.length ≤ Rows.uptoBulk d := by
 obtain ⟨fuel,h⟩ := h
 have hlen : fs.toList.length = 3 := by have := congrArg List.length hf; rwa [List.length_map] at this
 obtain ⟨f0,f1,f2,rfl⟩ : ∃ f0 f1 f2,fs = #[f0,f1,f2] := by
  match fs,hlen with
  | ⟨[f0,f1,f2]⟩,_ => exact ⟨f0,f1,f2,rfl⟩
 · simp only [List.map_cons,List.map_nil,List.cons.injEq,Prod.mk.injEq,and_true] at hf
   obtain ⟨⟨o0,t0⟩,⟨o1,t1⟩,o2,t2⟩ := hf
   obtain ⟨y0,y1,y2,n,e1,hl,h0,h1,h2⟩ := Go.Deep.trod_struct3 ht h
   cases hr with
   | agg vs cs hl' hh =>
    have hc : ((Value.agg vs).cells).toList = vs.toList := by simp [Value.cells]
    rw [hc] at h0 h1 h2
    rw [t0,o0] at h0
    rw [t1,o1] at h1
    rw [t2,o2] at h2
    have hsz : vs.size = 3 := hl'
    obtain ⟨va,vb,vc,rfl⟩ : ∃ a b c,vs = #[a,b,c] := by
     match vs,hsz with
     | ⟨[a,b,c]⟩,_ => exact ⟨a,b,c,rfl⟩
    rw [c1] at h0 h1 h2
    obtain ⟨s0,a0,x0,_⟩ := DataW.trod_string hs h0
    obtain ⟨s1,a1,x1,_⟩ := DataW.trod_string hs h1
    obtain ⟨s2,a2,x2,_⟩ := DataW.trod_string hs h2
    simp at a0 a1 a2
    subst a0 a1 a2
    have r0 := hh 0 _ _ rfl rfl
    have r1 := hh 1 _ _ rfl rfl
    have r2 := hh 2 _ _ rfl rfl
    cases r0; cases r1; cases r2
    have ed : d = .agg [y0.1,y1.1,y2.1] := congrArg Prod.fst e1
    rw [ed,x0,x1,x2]
    simp only [Rows.uptoBulk,Rows.uptoBulkAll]
    have eb : ∀ l : List UInt8,(B l).data.toList.length = l.length := fun l => by
     rw [Array.length_toList]; exact B_size l
    rw [eb,eb,eb]; omega
end Gev
