/- The law of the last text of this claim: its walk, its plain words. -/
import Derived.Test.YtgkchlchkdecfaaGreatDoorE
import Derived.KernelRfl
import Derived.Test.YtgkchlchkdecfaaGreatDoorTie
import Derived.Test.YtgkchlchkdecfaaGreatDoorCards
import Derived.Deep.DeepHandedRow
import Derived.Deep.Strs
set_option linter.unusedSectionVars false
set_option linter.unusedVariables false
set_option linter.unusedSimpArgs false
namespace Gev
open Go Go.Proofs
variable {E:Env}
def I8 (x0:RW) (x106:RW) (x107:Int) (x108:Int) (w0:RW) (c1_0:BA) (c1_1:BA) (c1_2:BA) (w2:RW) (c3_0:BA) (c3_1:BA) (c3_2:BA) (c4_0:Bool) (c4_1:RW) (c4_2:RW) (c5_0:Bool) (c5_1:RW) (c5_2:RW) (c6_0:Bool) (c6_1:RW) (c6_2:RW) (c7_0:Bool) (c7_1:RW) (c7_2:RW):St:=stOf 128 [(0,.c (.list x0)),(106,.c (.list x106)),(107,.c (.i64 x107)),(108,.c (.i64 x108))] [some (.fro w0),some (.cells [.c (.str c1_0),.c (.str c1_1),.c (.str c1_2)]),some (.fro w2),some (.cells [.c (.str c3_0),.c (.str c3_1),.c (.str c3_2)]),some (.cells [.c (.bool c4_0),.c (.list c4_1),.c (.list c4_2)]),some (.cells [.c (.bool c5_0),.c (.list c5_1),.c (.list c5_2)]),some (.cells [.c (.bool c6_0),.c (.list c6_1),.c (.list c6_2)]),some (.cells [.c (.bool c7_0),.c (.list c7_1),.c (.list c7_2)])]
def J1 (w0:RW) (c1_0:BA) (c1_1:BA) (c1_2:BA) (w2:RW) (c3_0:BA) (c3_1:BA) (c3_2:BA) (c4_0:Bool) (c4_1:RW) (c4_2:RW) (c5_0:Bool) (c5_1:RW) (c5_2:RW) (c6_0:Bool) (c6_1:RW) (c6_2:RW) (c7_0:Bool) (c7_1:RW) (c7_2:RW):St:=stOf 128 [] [some (.fro w0),some (.cells [.c (.str c1_0),.c (.str c1_1),.c (.str c1_2)]),some (.fro w2),some (.cells [.c (.str c3_0),.c (.str c3_1),.c (.str c3_2)]),some (.cells [.c (.bool c4_0),.c (.list c4_1),.c (.list c4_2)]),some (.cells [.c (.bool c5_0),.c (.list c5_1),.c (.list c5_2)]),some (.cells [.c (.bool c6_0),.c (.list c6_1),.c (.list c6_2)]),some (.cells [.c (.bool c7_0),.c (.list c7_1),.c (.list c7_2)])]
theorem y0h {x0 x106:RW} {x107 x108:Int} {w0:RW} {c1_0 c1_1 c1_2:BA} {w2:RW} {c3_0 c3_1 c3_2:BA} {c4_0:Bool} {c4_1 c4_2:RW} {c5_0:Bool} {c5_1 c5_2:RW} {c6_0:Bool} {c6_1 c6_2:RW} {c7_0:Bool} {c7_1 c7_2:RW} {v1 v2 v3:BA} {v4:Nat} {v5 v6:RW} {v7 v8 v9:BA} {v10 v11:Int} (e1:(v5.take v4)=v6) (e2:IntKind.i64.wrap (x108+1)=v11) (h1:x108 < x107) (h2:0≤x108) (h3:x106[(Int.toNat x108)]?=some [.str v1,.str v2,.str v3]) (h4:Rn E B7 [.c (.list x0)] [] (.vec 0 v4) [some (.vec B6 v5)]) (h5:Fn E A5 [.c (.list v6),.c (.str v1)] (.tup [.agg [.str v7,.str v8,.str v9],.c (.i64 v10)])) (h6:v10=0) (h7:(!((v7 == v1) && ((v8 == v2) && ((v9 == v3) && true))))=false) {o:Out} {st':St} (ih:Lp E 8 B4 0 (I8 x0 x106 x107 v11 w0 c1_0 c1_1 c1_2 w2 c3_0 c3_1 c3_2 c4_0 c4_1 c4_2 c5_0 c5_1 c5_2 c6_0 c6_1 c6_2 c7_0 c7_1 c7_2) o st') :Lp E 8 B4 0 (I8 x0 x106 x107 x108 w0 c1_0 c1_1 c1_2 w2 c3_0 c3_1 c3_2 c4_0 c4_1 c4_2 c5_0 c5_1 c5_2 c6_0 c6_1 c6_2 c7_0 c7_1 c7_2) o st':=by
 subst e1 e2
 exact lpOn _ [0,106,107,108] [.t true,.d [.str v1,.str v2,.str v3],.nw v4 B6 v5,.v (.tup [.agg [.str v7,.str v8,.str v9],.c (.i64 v10)]),.t true,.t false] (aC (dT h1) (aC h2 (aC h3 (aC h4 (aC h5 (aC (beT h6) (aO (id h7)))))))) (by kernel_rfl) ih
theorem y0i {x0 x106:RW} {x107 x108:Int} {w0:RW} {c1_0 c1_1 c1_2:BA} {w2:RW} {c3_0 c3_1 c3_2:BA} {c4_0:Bool} {c4_1 c4_2:RW} {c5_0:Bool} {c5_1 c5_2:RW} {c6_0:Bool} {c6_1 c6_2:RW} {c7_0:Bool} {c7_1 c7_2:RW} {v1 v2 v3:BA} {v4:Nat} {v5 v6:RW} {v7 v8 v9:BA} {v10 v11:Int} (e1:(v5.take v4)=v6) (e2:IntKind.i64.wrap (x108+1)=v11) (h1:x108 < x107) (h2:0≤x108) (h3:x106[(Int.toNat x108)]?=some [.str v1,.str v2,.str v3]) (h4:Rn E B7 [.c (.list x0)] [] (.vec 0 v4) [some (.vec B6 v5)]) (h5:Fn E A5 [.c (.list v6),.c (.str v1)] (.tup [.agg [.str v7,.str v8,.str v9],.c (.i64 v10)])) (h6:¬ v10=0) {o:Out} {st':St} (ih:Lp E 8 B4 0 (I8 x0 x106 x107 v11 w0 c1_0 c1_1 c1_2 w2 c3_0 c3_1 c3_2 c4_0 c4_1 c4_2 c5_0 c5_1 c5_2 c6_0 c6_1 c6_2 c7_0 c7_1 c7_2) o st') :Lp E 8 B4 0 (I8 x0 x106 x107 x108 w0 c1_0 c1_1 c1_2 w2 c3_0 c3_1 c3_2 c4_0 c4_1 c4_2 c5_0 c5_1 c5_2 c6_0 c6_1 c6_2 c7_0 c7_1 c7_2) o st':=by
 subst e1 e2
 exact lpOn _ [0,106,107,108] [.t true,.d [.str v1,.str v2,.str v3],.nw v4 B6 v5,.v (.tup [.agg [.str v7,.str v8,.str v9],.c (.i64 v10)]),.t false] (aC (dT h1) (aC h2 (aC h3 (aC h4 (aC h5 (aO (beF h6))))))) (by kernel_rfl) ih
theorem z8p {x0 x106:RW} {x107 x108:Int} {w0:RW} {c1_0 c1_1 c1_2:BA} {w2:RW} {c3_0 c3_1 c3_2:BA} {c4_0:Bool} {c4_1 c4_2:RW} {c5_0:Bool} {c5_1 c5_2:RW} {c6_0:Bool} {c6_1 c6_2:RW} {c7_0:Bool} {c7_1 c7_2:RW} (h1:¬ x108 < x107) :Lp E 8 B4 0 (I8 x0 x106 x107 x108 w0 c1_0 c1_1 c1_2 w2 c3_0 c3_1 c3_2 c4_0 c4_1 c4_2 c5_0 c5_1 c5_2 c6_0 c6_1 c6_2 c7_0 c7_1 c7_2) (.exit 0) (J1 w0 c1_0 c1_1 c1_2 w2 c3_0 c3_1 c3_2 c4_0 c4_1 c4_2 c5_0 c5_1 c5_2 c6_0 c6_1 c6_2 c7_0 c7_1 c7_2):=by
 exact lpOff [] [.t false] (aO (dF h1)) (by kernel_rfl) (by simp)
def J7 (x0:RW) (x106:RW) (x107:Int) (x108:Int) (w0:RW) (c1_0:BA) (c1_1:BA) (c1_2:BA) (w2:RW) (c3_0:BA) (c3_1:BA) (c3_2:BA):St:=stOf 128 [(0,.c (.list x0)),(106,.c (.list x106)),(107,.c (.i64 x107)),(108,.c (.i64 x108))] [some (.fro w0),some (.cells [.c (.str c1_0),.c (.str c1_1),.c (.str c1_2)]),some (.fro w2),some (.cells [.c (.str c3_0),.c (.str c3_1),.c (.str c3_2)])]
def M9 (w0:RW) (c1_0:BA) (c1_1:BA) (c1_2:BA) (w2:RW) (c3_0:BA) (c3_1:BA) (c3_2:BA):St:=stOf 128 [] [some (.fro w0),some (.cells [.c (.str c1_0),.c (.str c1_1),.c (.str c1_2)]),some (.fro w2),some (.cells [.c (.str c3_0),.c (.str c3_1),.c (.str c3_2)])]
theorem z9g {x0 x106:RW} {x107 x108:Int} {w0:RW} {c1_0 c1_1 c1_2:BA} {w2:RW} {c3_0 c3_1 c3_2 v1 v2 v3:BA} {v4:Nat} {v5 v6:RW} {v7 v8 v9:BA} {v10 v11:Int} (e1:(v5.take v4)=v6) (e2:IntKind.i64.wrap (x108+1)=v11) (h1:x108 < x107) (h2:0≤x108) (h3:x106[(Int.toNat x108)]?=some [.str v1,.str v2,.str v3]) (h4:Rn E B7 [.c (.list x0)] [] (.vec 0 v4) [some (.vec B6 v5)]) (h5:Fn E A5 [.c (.list v6),.c (.str v1)] (.tup [.agg [.str v7,.str v8,.str v9],.c (.i64 v10)])) (h6:v10=0) (h7:(!((v7 == v1) && ((v8 == v2) && ((v9 == v3) && true))))=false) {o:Out} {st':St} (ih:Lp E 4 B4 0 (J7 x0 x106 x107 v11 w0 c1_0 c1_1 c1_2 w2 c3_0 c3_1 c3_2) o st') :Lp E 4 B4 0 (J7 x0 x106 x107 x108 w0 c1_0 c1_1 c1_2 w2 c3_0 c3_1 c3_2) o st':=by
 subst e1 e2
 exact lpOn _ [0,106,107,108] [.t true,.d [.str v1,.str v2,.str v3],.nw v4 B6 v5,.v (.tup [.agg [.str v7,.str v8,.str v9],.c (.i64 v10)]),.t true,.t false] (aC (dT h1) (aC h2 (aC h3 (aC h4 (aC h5 (aC (beT h6) (aO (id h7)))))))) (by kernel_rfl) ih
theorem z9h {x0 x106:RW} {x107 x108:Int} {w0:RW} {c1_0 c1_1 c1_2:BA} {w2:RW} {c3_0 c3_1 c3_2 v1 v2 v3:BA} {v4:Nat} {v5 v6:RW} {v7 v8 v9:BA} {v10 v11:Int} (e1:(v5.take v4)=v6) (e2:IntKind.i64.wrap (x108+1)=v11) (h1:x108 < x107) (h2:0≤x108) (h3:x106[(Int.toNat x108)]?=some [.str v1,.str v2,.str v3]) (h4:Rn E B7 [.c (.list x0)] [] (.vec 0 v4) [some (.vec B6 v5)]) (h5:Fn E A5 [.c (.list v6),.c (.str v1)] (.tup [.agg [.str v7,.str v8,.str v9],.c (.i64 v10)])) (h6:¬ v10=0) {o:Out} {st':St} (ih:Lp E 4 B4 0 (J7 x0 x106 x107 v11 w0 c1_0 c1_1 c1_2 w2 c3_0 c3_1 c3_2) o st') :Lp E 4 B4 0 (J7 x0 x106 x107 x108 w0 c1_0 c1_1 c1_2 w2 c3_0 c3_1 c3_2) o st':=by
 subst e1 e2
 exact lpOn _ [0,106,107,108] [.t true,.d [.str v1,.str v2,.str v3],.nw v4 B6 v5,.v (.tup [.agg [.str v7,.str v8,.str v9],.c (.i64 v10)]),.t false] (aC (dT h1) (aC h2 (aC h3 (aC h4 (aC h5 (aO (beF h6))))))) (by kernel_rfl) ih
theorem z7y {x0 x106:RW} {x107 x108:Int} {w0:RW} {c1_0 c1_1 c1_2:BA} {w2:RW} {c3_0 c3_1 c3_2:BA} (h1:¬ x108 < x107) :Lp E 4 B4 0 (J7 x0 x106 x107 x108 w0 c1_0 c1_1 c1_2 w2 c3_0 c3_1 c3_2) (.exit 0) (M9 w0 c1_0 c1_1 c1_2 w2 c3_0 c3_1 c3_2):=by
 exact lpOff [] [.t false] (aO (dF h1)) (by kernel_rfl) (by simp)
theorem y3y {a0:RW} {a1 a2:BA} (h1:Fn E A8 [] (.c (.bool true))) (h2:Fn E A6 [.c (.list []),.c (.list a0)] (.c (.bool true))) (h3:(a1.size:Int) > 40) :Fn E B4 [.c (.list a0),.c (.str a1),.c (.str a2)] (.c (.bool true)):=by
 exact fnMk [.v (.c (.bool true)),.v (.c (.bool true)),.t true] (by kernel_rfl) (by kernel_rfl) (aC h1 (aC h2 (aO (dT h3)))) (by kernel_rfl)
theorem y3z {a0:RW} {a1 a2:BA} (h1:Fn E A8 [] (.c (.bool true))) (h2:Fn E A6 [.c (.list []),.c (.list a0)] (.c (.bool true))) (h3:¬ (a1.size:Int) > 40) (h4:(a2.size:Int) > 40) :Fn E B4 [.c (.list a0),.c (.str a1),.c (.str a2)] (.c (.bool true)):=by
 exact fnMk [.v (.c (.bool true)),.v (.c (.bool true)),.t false,.t true] (by kernel_rfl) (by kernel_rfl) (aC h1 (aC h2 (aC (dF h3) (aO (dT h4))))) (by kernel_rfl)
theorem y4a {a0:RW} {a1 a2:BA} {v3:Nat} {v4 v5:RW} {v6 v7 v8:BA} {v9:Int} {v10:Nat} {v11 v12:RW} {v13 v14 v15:BA} {v16:Int} {v17:Bool} {v18 v19:RW} {v20 v21:Bool} {v22 v23:RW} {v24 v25:Bool} {v26 v27:RW} {v29:Bool} {v30 v31:RW} (e1:(v4.take v3)=v5) (e2:(v11.take v10)=v12) (h1:Fn E A8 [] (.c (.bool true))) (h2:Fn E A6 [.c (.list []),.c (.list a0)] (.c (.bool true))) (h3:¬ (a1.size:Int) > 40) (h4:¬ (a2.size:Int) > 40) (h5:Rn E B7 [.c (.list a0)] [] (.vec 0 v3) [some (.vec B6 v4)]) (h6:Fn E A5 [.c (.list v5),.c (.str a1)] (.tup [.agg [.str v6,.str v7,.str v8],.c (.i64 v9)])) (h7:Rn E B7 [.c (.list a0)] [] (.vec 0 v10) [some (.vec B6 v11)]) (h8:Fn E A5 [.c (.list v12),.c (.str a2)] (.tup [.agg [.str v13,.str v14,.str v15],.c (.i64 v16)])) (h9:v9=0) (h10:v16=0) (h11:Fn E D2 [.c (.str a1)] (.tup [.agg [.bool v17,.list v18,.list v19],.c (.bool v20)])) (h12:Fn E D2 [.c (.str a2)] (.tup [.agg [.bool v21,.list v22,.list v23],.c (.bool v24)])) (h13:Fn E D2 [.c (.str v7)] (.tup [.agg [.bool v25,.list v26,.list v27],.c (.bool true)])) (h14:Fn E D2 [.c (.str v14)] (.tup [.agg [.bool v29,.list v30,.list v31],.c (.bool true)])) (h15:Fn E G2 [.agg [.bool v17,.list v18,.list v19],.agg [.bool v21,.list v22,.list v23]] (.c (.bool true))) (h16:Fn E G2 [.agg [.bool v29,.list v30,.list v31],.agg [.bool v25,.list v26,.list v27]] (.c (.bool false))) (h17:Fn E G2 [.agg [.bool v21,.list v22,.list v23],.agg [.bool v17,.list v18,.list v19]] (.c (.bool false))) (h18:Lp E 8 B4 0 (I8 a0 a0 (a0.length:Int) 0 v4 v6 v7 v8 v11 v13 v14 v15 v17 v18 v19 v21 v22 v23 v25 v26 v27 v29 v30 v31) (.exit 0) (J1 v4 v6 v7 v8 v11 v13 v14 v15 v17 v18 v19 v21 v22 v23 v25 v26 v27 v29 v30 v31)) :Fn E B4 [.c (.list a0),.c (.str a1),.c (.str a2)] (.c (.bool true)):=by
 subst e1 e2
 exact fnMk [.v (.c (.bool true)),.v (.c (.bool true)),.t false,.t false,.nw v3 B6 v4,.v (.tup [.agg [.str v6,.str v7,.str v8],.c (.i64 v9)]),.nw v10 B6 v11,.v (.tup [.agg [.str v13,.str v14,.str v15],.c (.i64 v16)]),.t true,.t true,.v (.tup [.agg [.bool v17,.list v18,.list v19],.c (.bool v20)]),.v (.tup [.agg [.bool v21,.list v22,.list v23],.c (.bool v24)]),.v (.tup [.agg [.bool v25,.list v26,.list v27],.c (.bool true)]),.v (.tup [.agg [.bool v29,.list v30,.list v31],.c (.bool true)]),.v (.c (.bool true)),.v (.c (.bool false)),.v (.c (.bool false)),.loop [0,106,107,108] [] (.exit 0) (J1 v4 v6 v7 v8 v11 v13 v14 v15 v17 v18 v19 v21 v22 v23 v25 v26 v27 v29 v30 v31)] (by kernel_rfl) (by kernel_rfl) (aC h1 (aC h2 (aC (dF h3) (aC (dF h4) (aC h5 (aC h6 (aC h7 (aC h8 (aC (beT h9) (aC (beT h10) (aC h11 (aC h12 (aC h13 (aC h14 (aC h15 (aC h16 (aC h17 (aO h18)))))))))))))))))) (by kernel_rfl)
theorem y2t {a0:RW} {a1 a2:BA} {v3:Nat} {v4 v5:RW} {v6 v7 v8:BA} {v9:Int} {v10:Nat} {v11 v12:RW} {v13 v14 v15:BA} {v16:Int} {v17:Bool} {v18 v19:RW} {v20 v21:Bool} {v22 v23:RW} {v24 v25:Bool} {v26 v27:RW} {v29:Bool} {v30 v31:RW} (e1:(v4.take v3)=v5) (e2:(v11.take v10)=v12) (h1:Fn E A8 [] (.c (.bool true))) (h2:Fn E A6 [.c (.list []),.c (.list a0)] (.c (.bool true))) (h3:¬ (a1.size:Int) > 40) (h4:¬ (a2.size:Int) > 40) (h5:Rn E B7 [.c (.list a0)] [] (.vec 0 v3) [some (.vec B6 v4)]) (h6:Fn E A5 [.c (.list v5),.c (.str a1)] (.tup [.agg [.str v6,.str v7,.str v8],.c (.i64 v9)])) (h7:Rn E B7 [.c (.list a0)] [] (.vec 0 v10) [some (.vec B6 v11)]) (h8:Fn E A5 [.c (.list v12),.c (.str a2)] (.tup [.agg [.str v13,.str v14,.str v15],.c (.i64 v16)])) (h9:v9=0) (h10:v16=0) (h11:Fn E D2 [.c (.str a1)] (.tup [.agg [.bool v17,.list v18,.list v19],.c (.bool v20)])) (h12:Fn E D2 [.c (.str a2)] (.tup [.agg [.bool v21,.list v22,.list v23],.c (.bool v24)])) (h13:Fn E D2 [.c (.str v7)] (.tup [.agg [.bool v25,.list v26,.list v27],.c (.bool true)])) (h14:Fn E D2 [.c (.str v14)] (.tup [.agg [.bool v29,.list v30,.list v31],.c (.bool true)])) (h15:Fn E G2 [.agg [.bool v17,.list v18,.list v19],.agg [.bool v21,.list v22,.list v23]] (.c (.bool false))) (h16:Fn E G2 [.agg [.bool v21,.list v22,.list v23],.agg [.bool v17,.list v18,.list v19]] (.c (.bool true))) (h17:Fn E G2 [.agg [.bool v25,.list v26,.list v27],.agg [.bool v29,.list v30,.list v31]] (.c (.bool false))) (h18:Lp E 8 B4 0 (I8 a0 a0 (a0.length:Int) 0 v4 v6 v7 v8 v11 v13 v14 v15 v17 v18 v19 v21 v22 v23 v25 v26 v27 v29 v30 v31) (.exit 0) (J1 v4 v6 v7 v8 v11 v13 v14 v15 v17 v18 v19 v21 v22 v23 v25 v26 v27 v29 v30 v31)) :Fn E B4 [.c (.list a0),.c (.str a1),.c (.str a2)] (.c (.bool true)):=by
 subst e1 e2
 exact fnMk [.v (.c (.bool true)),.v (.c (.bool true)),.t false,.t false,.nw v3 B6 v4,.v (.tup [.agg [.str v6,.str v7,.str v8],.c (.i64 v9)]),.nw v10 B6 v11,.v (.tup [.agg [.str v13,.str v14,.str v15],.c (.i64 v16)]),.t true,.t true,.v (.tup [.agg [.bool v17,.list v18,.list v19],.c (.bool v20)]),.v (.tup [.agg [.bool v21,.list v22,.list v23],.c (.bool v24)]),.v (.tup [.agg [.bool v25,.list v26,.list v27],.c (.bool true)]),.v (.tup [.agg [.bool v29,.list v30,.list v31],.c (.bool true)]),.v (.c (.bool false)),.v (.c (.bool true)),.v (.c (.bool false)),.loop [0,106,107,108] [] (.exit 0) (J1 v4 v6 v7 v8 v11 v13 v14 v15 v17 v18 v19 v21 v22 v23 v25 v26 v27 v29 v30 v31)] (by kernel_rfl) (by kernel_rfl) (aC h1 (aC h2 (aC (dF h3) (aC (dF h4) (aC h5 (aC h6 (aC h7 (aC h8 (aC (beT h9) (aC (beT h10) (aC h11 (aC h12 (aC h13 (aC h14 (aC h15 (aC h16 (aC h17 (aO h18)))))))))))))))))) (by kernel_rfl)
theorem y2u {a0:RW} {a1 a2:BA} {v3:Nat} {v4 v5:RW} {v6 v7 v8:BA} {v9:Int} {v10:Nat} {v11 v12:RW} {v13 v14 v15:BA} {v16:Int} {v17:Bool} {v18 v19:RW} {v20 v21:Bool} {v22 v23:RW} {v24 v25:Bool} {v26 v27:RW} {v29:Bool} {v30 v31:RW} (e1:(v4.take v3)=v5) (e2:(v11.take v10)=v12) (h1:Fn E A8 [] (.c (.bool true))) (h2:Fn E A6 [.c (.list []),.c (.list a0)] (.c (.bool true))) (h3:¬ (a1.size:Int) > 40) (h4:¬ (a2.size:Int) > 40) (h5:Rn E B7 [.c (.list a0)] [] (.vec 0 v3) [some (.vec B6 v4)]) (h6:Fn E A5 [.c (.list v5),.c (.str a1)] (.tup [.agg [.str v6,.str v7,.str v8],.c (.i64 v9)])) (h7:Rn E B7 [.c (.list a0)] [] (.vec 0 v10) [some (.vec B6 v11)]) (h8:Fn E A5 [.c (.list v12),.c (.str a2)] (.tup [.agg [.str v13,.str v14,.str v15],.c (.i64 v16)])) (h9:v9=0) (h10:v16=0) (h11:Fn E D2 [.c (.str a1)] (.tup [.agg [.bool v17,.list v18,.list v19],.c (.bool v20)])) (h12:Fn E D2 [.c (.str a2)] (.tup [.agg [.bool v21,.list v22,.list v23],.c (.bool v24)])) (h13:Fn E D2 [.c (.str v7)] (.tup [.agg [.bool v25,.list v26,.list v27],.c (.bool true)])) (h14:Fn E D2 [.c (.str v14)] (.tup [.agg [.bool v29,.list v30,.list v31],.c (.bool true)])) (h15:Fn E G2 [.agg [.bool v17,.list v18,.list v19],.agg [.bool v21,.list v22,.list v23]] (.c (.bool false))) (h16:Fn E G2 [.agg [.bool v21,.list v22,.list v23],.agg [.bool v17,.list v18,.list v19]] (.c (.bool false))) (h17:Lp E 8 B4 0 (I8 a0 a0 (a0.length:Int) 0 v4 v6 v7 v8 v11 v13 v14 v15 v17 v18 v19 v21 v22 v23 v25 v26 v27 v29 v30 v31) (.exit 0) (J1 v4 v6 v7 v8 v11 v13 v14 v15 v17 v18 v19 v21 v22 v23 v25 v26 v27 v29 v30 v31)) :Fn E B4 [.c (.list a0),.c (.str a1),.c (.str a2)] (.c (.bool true)):=by
 subst e1 e2
 exact fnMk [.v (.c (.bool true)),.v (.c (.bool true)),.t false,.t false,.nw v3 B6 v4,.v (.tup [.agg [.str v6,.str v7,.str v8],.c (.i64 v9)]),.nw v10 B6 v11,.v (.tup [.agg [.str v13,.str v14,.str v15],.c (.i64 v16)]),.t true,.t true,.v (.tup [.agg [.bool v17,.list v18,.list v19],.c (.bool v20)]),.v (.tup [.agg [.bool v21,.list v22,.list v23],.c (.bool v24)]),.v (.tup [.agg [.bool v25,.list v26,.list v27],.c (.bool true)]),.v (.tup [.agg [.bool v29,.list v30,.list v31],.c (.bool true)]),.v (.c (.bool false)),.v (.c (.bool false)),.loop [0,106,107,108] [] (.exit 0) (J1 v4 v6 v7 v8 v11 v13 v14 v15 v17 v18 v19 v21 v22 v23 v25 v26 v27 v29 v30 v31)] (by kernel_rfl) (by kernel_rfl) (aC h1 (aC h2 (aC (dF h3) (aC (dF h4) (aC h5 (aC h6 (aC h7 (aC h8 (aC (beT h9) (aC (beT h10) (aC h11 (aC h12 (aC h13 (aC h14 (aC h15 (aC h16 (aO h17))))))))))))))))) (by kernel_rfl)
theorem y2v {a0:RW} {a1 a2:BA} {v3:Nat} {v4 v5:RW} {v6 v7 v8:BA} {v9:Int} {v10:Nat} {v11 v12:RW} {v13 v14 v15:BA} {v16:Int} (e1:(v4.take v3)=v5) (e2:(v11.take v10)=v12) (h1:Fn E A8 [] (.c (.bool true))) (h2:Fn E A6 [.c (.list []),.c (.list a0)] (.c (.bool true))) (h3:¬ (a1.size:Int) > 40) (h4:¬ (a2.size:Int) > 40) (h5:Rn E B7 [.c (.list a0)] [] (.vec 0 v3) [some (.vec B6 v4)]) (h6:Fn E A5 [.c (.list v5),.c (.str a1)] (.tup [.agg [.str v6,.str v7,.str v8],.c (.i64 v9)])) (h7:Rn E B7 [.c (.list a0)] [] (.vec 0 v10) [some (.vec B6 v11)]) (h8:Fn E A5 [.c (.list v12),.c (.str a2)] (.tup [.agg [.str v13,.str v14,.str v15],.c (.i64 v16)])) (h9:v9=0) (h10:¬ v16=0) (h11:Lp E 4 B4 0 (J7 a0 a0 (a0.length:Int) 0 v4 v6 v7 v8 v11 v13 v14 v15) (.exit 0) (M9 v4 v6 v7 v8 v11 v13 v14 v15)) :Fn E B4 [.c (.list a0),.c (.str a1),.c (.str a2)] (.c (.bool true)):=by
 subst e1 e2
 exact fnMk [.v (.c (.bool true)),.v (.c (.bool true)),.t false,.t false,.nw v3 B6 v4,.v (.tup [.agg [.str v6,.str v7,.str v8],.c (.i64 v9)]),.nw v10 B6 v11,.v (.tup [.agg [.str v13,.str v14,.str v15],.c (.i64 v16)]),.t true,.t false,.loop [0,106,107,108] [] (.exit 0) (M9 v4 v6 v7 v8 v11 v13 v14 v15)] (by kernel_rfl) (by kernel_rfl) (aC h1 (aC h2 (aC (dF h3) (aC (dF h4) (aC h5 (aC h6 (aC h7 (aC h8 (aC (beT h9) (aC (beF h10) (aO h11))))))))))) (by kernel_rfl)
theorem y2w {a0:RW} {a1 a2:BA} {v3:Nat} {v4 v5:RW} {v6 v7 v8:BA} {v9:Int} {v10:Nat} {v11 v12:RW} {v13 v14 v15:BA} {v16:Int} (e1:(v4.take v3)=v5) (e2:(v11.take v10)=v12) (h1:Fn E A8 [] (.c (.bool true))) (h2:Fn E A6 [.c (.list []),.c (.list a0)] (.c (.bool true))) (h3:¬ (a1.size:Int) > 40) (h4:¬ (a2.size:Int) > 40) (h5:Rn E B7 [.c (.list a0)] [] (.vec 0 v3) [some (.vec B6 v4)]) (h6:Fn E A5 [.c (.list v5),.c (.str a1)] (.tup [.agg [.str v6,.str v7,.str v8],.c (.i64 v9)])) (h7:Rn E B7 [.c (.list a0)] [] (.vec 0 v10) [some (.vec B6 v11)]) (h8:Fn E A5 [.c (.list v12),.c (.str a2)] (.tup [.agg [.str v13,.str v14,.str v15],.c (.i64 v16)])) (h9:¬ v9=0) (h10:Lp E 4 B4 0 (J7 a0 a0 (a0.length:Int) 0 v4 v6 v7 v8 v11 v13 v14 v15) (.exit 0) (M9 v4 v6 v7 v8 v11 v13 v14 v15)) :Fn E B4 [.c (.list a0),.c (.str a1),.c (.str a2)] (.c (.bool true)):=by
 subst e1 e2
 exact fnMk [.v (.c (.bool true)),.v (.c (.bool true)),.t false,.t false,.nw v3 B6 v4,.v (.tup [.agg [.str v6,.str v7,.str v8],.c (.i64 v9)]),.nw v10 B6 v11,.v (.tup [.agg [.str v13,.str v14,.str v15],.c (.i64 v16)]),.t false,.loop [0,106,107,108] [] (.exit 0) (M9 v4 v6 v7 v8 v11 v13 v14 v15)] (by kernel_rfl) (by kernel_rfl) (aC h1 (aC h2 (aC (dF h3) (aC (dF h4) (aC h5 (aC h6 (aC h7 (aC h8 (aC (beF h9) (aO h10)))))))))) (by kernel_rfl)
theorem y2x {a0:RW} {a1 a2:BA} (h1:Fn E A8 [] (.c (.bool true))) (h2:Fn E A6 [.c (.list []),.c (.list a0)] (.c (.bool false))) :Fn E B4 [.c (.list a0),.c (.str a1),.c (.str a2)] (.c (.bool true)):=by
 exact fnMk [.v (.c (.bool true)),.v (.c (.bool false))] (by kernel_rfl) (by kernel_rfl) (aC h1 (aO h2)) (by kernel_rfl)
theorem x7l {v1:RW} {v2 v3 v4 v5:BA} {v6:Int} {v7:RW} {v8 v9 v10 v11 v12 v13:BA} {v14:Int} {v15:RW} {v16:Int} {v17:BA} {v18:Int} {v19 v20 v21:BA} {v22 v23 v24:Int} {v25:RW} (e1:(([[.str ⟨#[48]⟩],[.str ⟨#[48]⟩],[.str ⟨#[48]⟩],[.str ⟨#[48]⟩]]:RW).take 4)=v25) (h1:Fn E y1w [] (.c (.list v1))) (h2:Fn E B8 [.c (.list v1)] (.tup [.agg [.str v2,.str v3,.str v4,.str v5],.c (.i64 v6)])) (h3:Fn E y0d [] (.c (.list v7))) (h4:Fn E U6 [.c (.list v1),.c (.list v7),.c (.str ⟨#[53]⟩),.c (.str ⟨#[49,48]⟩),.c (.str ⟨#[52,49,47,52,48]⟩)] (.tup [.agg [.str v8,.str v9,.str v10,.str v11,.str v12,.str v13],.c (.i64 v14)])) (h5:Fn E B2 [.c (.list v1),.agg [.str v2,.str v3,.str v4,.str v5]] (.tup [.c (.list v15),.c (.i64 v16)])) (h6:Fn E z3c [.agg [.str v2,.str v3,.str v4,.str v5],.c (.str ⟨#[53]⟩),.c (.str ⟨#[48]⟩)] (.tup [.c (.str v17),.c (.i64 v18)])) (h7:Fn E A5 [.c (.list v7),.c (.str ⟨#[49,49,47,50]⟩)] (.tup [.agg [.str v19,.str v20,.str v21],.c (.i64 v22)])) (h8:Fn E F7 [.c (.list v1)] (.tup [.c (.i64 v23),.c (.i64 v24)])) (h9:v6=0) (h10:v14=0) (h11:v16=0) (h12:v18=0) (h13:v22=0) (h14:v24=0) (h15:((v2 == (⟨#[53]⟩:BA)) && ((v3 == (⟨#[49,47,49,48]⟩:BA)) && ((v4 == (⟨#[48]⟩:BA)) && ((v5 == (⟨#[48]⟩:BA)) && true))))=true) (h16:((v8 == (⟨#[49,49,47,50]⟩:BA)) && ((v9 == (⟨#[49]⟩:BA)) && ((v10 == (⟨#[48]⟩:BA)) && ((v11 == (⟨#[49,54,52]⟩:BA)) && ((v12 == (⟨#[55,47,52]⟩:BA)) && ((v13 == (⟨#[48]⟩:BA)) && true))))))=true) (h17:Fn E M5 [.c (.list v15),.c (.list v25)] (.c (.bool true))) (h18:v17=(⟨#[49,49,47,50]⟩:BA)) (h19:v20=(⟨#[49,54,48]⟩:BA)) (h20:v23=0) :Fn E A8 [] (.c (.bool true)):=by
 subst e1
 exact fnMk [.v (.c (.list v1)),.v (.tup [.agg [.str v2,.str v3,.str v4,.str v5],.c (.i64 v6)]),.v (.c (.list v1)),.v (.c (.list v7)),.v (.tup [.agg [.str v8,.str v9,.str v10,.str v11,.str v12,.str v13],.c (.i64 v14)]),.v (.c (.list v1)),.v (.tup [.c (.list v15),.c (.i64 v16)]),.v (.tup [.c (.str v17),.c (.i64 v18)]),.v (.c (.list v7)),.v (.tup [.agg [.str v19,.str v20,.str v21],.c (.i64 v22)]),.v (.c (.list v1)),.v (.tup [.c (.i64 v23),.c (.i64 v24)]),.t true,.t true,.t true,.t true,.t true,.t true,.t true,.t true,.v (.c (.bool true)),.t true,.t true,.t true] (by kernel_rfl) (by kernel_rfl) (aC h1 (aC h2 (aC h1 (aC h3 (aC h4 (aC h1 (aC h5 (aC h6 (aC h3 (aC h7 (aC h1 (aC h8 (aC (beT h9) (aC (beT h10) (aC (beT h11) (aC (beT h12) (aC (beT h13) (aC (beT h14) (aC (id h15) (aC (id h16) (aC h17 (aC (seT h18) (aC (seT h19) (aO (beT h20))))))))))))))))))))))))) (by kernel_rfl)
theorem x8r {v1:RW} (e1:(([[.str ⟨#[97]⟩,.str ⟨#[48]⟩,.str ⟨#[48]⟩,.str ⟨#[53]⟩],[.str ⟨#[98]⟩,.str ⟨#[49,48]⟩,.str ⟨#[48]⟩,.str ⟨#[54]⟩],[.str ⟨#[99]⟩,.str ⟨#[48]⟩,.str ⟨#[52]⟩,.str ⟨#[53]⟩],[.str ⟨#[100]⟩,.str ⟨#[49,48]⟩,.str ⟨#[52]⟩,.str ⟨#[54]⟩]]:RW).take 4)=v1) :Fn E y1w [] (.c (.list v1)):=by
 subst e1
 exact fnMk [] (by kernel_rfl) (by kernel_rfl) aN (by kernel_rfl)
theorem x7k {v1:RW} (e1:(([[.str ⟨#[52]⟩,.str ⟨#[49,48,48]⟩,.str ⟨#[49]⟩],[.str ⟨#[54]⟩,.str ⟨#[49,56,48]⟩,.str ⟨#[50]⟩]]:RW).take 2)=v1) :Fn E y0d [] (.c (.list v1)):=by
 subst e1
 exact fnMk [] (by kernel_rfl) (by kernel_rfl) aN (by kernel_rfl)
end Gev
namespace Gev
open Go Gb
variable {E:Env}
def sh4 (m:Mk):Bool:=decide (m.1.length≤70) && (decide (m.2.1.length≤40) && (decide (m.2.2.1.length≤40) && decide (m.2.2.2.length≤40)))
def sh3 (m:D3):Bool:=decide (m.1.length≤40) && (decide (m.2.1.length≤40) && decide (m.2.2.length≤40))
theorem fewS_loop0 {l:List Mk} {t:RW} (hl:l.length≤9223372036854775807):∀ d i:Nat,i+d=l.length →
    (l.drop i).all sh4=true∧Lp E 0 A6 0 (K6 (R4 l) t (i:Nat)) (.exit 0) (U5 (R4 l) t) ∨
    (l.drop i).all sh4=false∧Lp E 0 A6 0 (K6 (R4 l) t (i:Nat)) .ret z1t
 | 0,i,hi=>.inl ⟨by rw [List.drop_eq_nil_of_le (by omega)]; rfl,x1g (by rw [R4_len]; omega)⟩
 | d+1,i,hi=>by
  obtain ⟨m,hc⟩:=get_ex (l:=l) (i:=i) (by omega)
  have g:=R4_get hc
  rw [← Int.toNat_natCast i] at g
  rw [drop_get hc,List.all_cons]
  have hlt:(i:Int) < ((R4 l).length:Int):=by rw [R4_len]; omega
  by_cases h1:m.1.length≤70
  · by_cases h2:m.2.1.length≤40
    · by_cases h3:m.2.2.1.length≤40
      · by_cases h4:m.2.2.2.length≤40
        · have e:sh4 m=true:=by unfold sh4; rw [decide_eq_true h1,decide_eq_true h2,decide_eq_true h3,decide_eq_true h4]; rfl
          rw [e,Bool.true_and]
          have st:∀ {o s},Lp E 0 A6 0 (K6 (R4 l) t ((i+1:Nat):Int)) o s→Lp E 0 A6 0 (K6 (R4 l) t (i:Nat)) o s:=fun h=>x4u (wi (by omega)) hlt (by omega) g (by rw [B_size]; omega) (by rw [B_size]; omega) (by rw [B_size]; omega) (by rw [B_size]; omega) h
          rcases fewS_loop0 hl d (i+1) (by omega) with ⟨k1,k2⟩ | ⟨k1,k2⟩
          · exact .inl ⟨k1,st k2⟩
          · exact .inr ⟨k1,st k2⟩
        · have e:sh4 m=false:=by unfold sh4; rw [decide_eq_false h4]; simp
          rw [e]
          exact .inr ⟨rfl,x1f hlt (by omega) g (by rw [B_size]; omega) (by rw [B_size]; omega) (by rw [B_size]; omega) (by rw [B_size]; omega)⟩
      · have e:sh4 m=false:=by unfold sh4; rw [decide_eq_false h3]; simp
        rw [e]
        exact .inr ⟨rfl,x1e hlt (by omega) g (by rw [B_size]; omega) (by rw [B_size]; omega) (by rw [B_size]; omega)⟩
    · have e:sh4 m=false:=by unfold sh4; rw [decide_eq_false h2]; simp
      rw [e]
      exact .inr ⟨rfl,x1d hlt (by omega) g (by rw [B_size]; omega) (by rw [B_size]; omega)⟩
  · have e:sh4 m=false:=by unfold sh4; rw [decide_eq_false h1]; simp
    rw [e]
    exact .inr ⟨rfl,x1c hlt (by omega) g (by rw [B_size]; omega)⟩
theorem fewS_loop1 {l:RW} {t:List D3} (hl:t.length≤9223372036854775807):∀ d i:Nat,i+d=t.length →
    (t.drop i).all sh3=true∧Lp E 0 A6 1 (N6 l (R3 t) (i:Nat)) (.exit 2) (z0i l (R3 t)) ∨
    (t.drop i).all sh3=false∧Lp E 0 A6 1 (N6 l (R3 t) (i:Nat)) .ret z2t
 | 0,i,hi=>.inl ⟨by rw [List.drop_eq_nil_of_le (by omega)]; rfl,x1k (by rw [R3_len]; omega)⟩
 | d+1,i,hi=>by
  obtain ⟨m,hc⟩:=get_ex (l:=t) (i:=i) (by omega)
  have g:=R3_get hc
  rw [← Int.toNat_natCast i] at g
  rw [drop_get hc,List.all_cons]
  have hlt:(i:Int) < ((R3 t).length:Int):=by rw [R3_len]; omega
  by_cases h1:m.1.length≤40
  · by_cases h2:m.2.1.length≤40
    · by_cases h3:m.2.2.length≤40
      · have e:sh3 m=true:=by unfold sh3; rw [decide_eq_true h1,decide_eq_true h2,decide_eq_true h3]; rfl
        rw [e,Bool.true_and]
        have st:∀ {o s},Lp E 0 A6 1 (N6 l (R3 t) ((i+1:Nat):Int)) o s→Lp E 0 A6 1 (N6 l (R3 t) (i:Nat)) o s:=fun h=>x4v (wi (by omega)) hlt (by omega) g (by rw [B_size]; omega) (by rw [B_size]; omega) (by rw [B_size]; omega) h
        rcases fewS_loop1 hl d (i+1) (by omega) with ⟨k1,k2⟩ | ⟨k1,k2⟩
        · exact .inl ⟨k1,st k2⟩
        · exact .inr ⟨k1,st k2⟩
      · have e:sh3 m=false:=by unfold sh3; rw [decide_eq_false h3]; simp
        rw [e]
        exact .inr ⟨rfl,x1j hlt (by omega) g (by rw [B_size]; omega) (by rw [B_size]; omega) (by rw [B_size]; omega)⟩
    · have e:sh3 m=false:=by unfold sh3; rw [decide_eq_false h2]; simp
      rw [e]
      exact .inr ⟨rfl,x1i hlt (by omega) g (by rw [B_size]; omega) (by rw [B_size]; omega)⟩
  · have e:sh3 m=false:=by unfold sh3; rw [decide_eq_false h1]; simp
    rw [e]
    exact .inr ⟨rfl,x1h hlt (by omega) g (by rw [B_size]; omega)⟩
def fewS (l:List Mk) (t:List D3):Bool:=l.all sh4 && (t.all sh3 && (decide (l.length≤17) && decide (t.length≤33)))
theorem r53_Few {l:List Mk} {t:List D3} (hl:l.length≤9223372036854775807) (ht:t.length≤9223372036854775807):Fn E A6 [.c (.list (R4 l)),.c (.list (R3 t))] (.c (.bool (fewS l t))):=by
 have h0:=fewS_loop0 (E:=E) (t:=R3 t) hl l.length 0 (by omega)
 have h1:=fewS_loop1 (E:=E) (l:=R4 l) ht t.length 0 (by omega)
 rw [List.drop_zero] at h0 h1
 unfold fewS
 rcases h0 with ⟨a1,a2⟩ | ⟨a1,a2⟩
 · rw [a1,Bool.true_and]
   rcases h1 with ⟨b1,b2⟩ | ⟨b1,b2⟩
   · rw [b1,Bool.true_and]
     by_cases c1:l.length≤17
     · rw [decide_eq_true c1,Bool.true_and]
       by_cases c2:t.length≤33
       · rw [decide_eq_true c2]; exact k1a a2 b2 (by rw [R4_len]; omega) (by rw [R3_len]; omega)
       · rw [decide_eq_false c2]; exact k1b a2 b2 (by rw [R4_len]; omega) (by rw [R3_len]; omega)
     · rw [decide_eq_false c1,Bool.false_and]; exact k1c a2 b2 (by rw [R4_len]; omega)
   · rw [b1,Bool.false_and]; exact k0z a2 b2
 · rw [a1,Bool.false_and]; exact k0y a2
theorem fewS_short {l:List Mk} {t:List D3} (h:fewS l t=true):(∀ m∈l,m.1.length≤70∧m.2.1.length≤40∧m.2.2.1.length≤40∧m.2.2.2.length≤40)∧(∀ m∈t,m.1.length≤40∧m.2.1.length≤40∧m.2.2.length≤40)∧l.length≤17∧t.length≤33:=by
 unfold fewS at h
 simp only [Bool.and_eq_true,decide_eq_true_eq,List.all_eq_true] at h
 obtain ⟨h1,h2,h3,h4⟩:=h
 refine ⟨fun m hm=>?_,fun m hm=>?_,h3,h4⟩
 · have:=h1 m hm
   unfold sh4 at this
   simpa using this
 · have:=h2 m hm
   unfold sh3 at this
   simpa using this
theorem fewS_Short {l:List Mk} {t:List D3} (h:fewS l t=true):Short l∧ShortD t:=by
 obtain ⟨h1,h2,h3,h4⟩:=fewS_short h
 exact ⟨⟨by omega,fun m hm=>by have:=h1 m hm; omega⟩,by omega,fun m hm=>by have:=h2 m hm; omega⟩
theorem R3_take (l:List D3):(R3 l).take l.length=R3 l:=List.take_of_length_le (by rw [R3_len]; omega)
theorem b_self (l:List UInt8):(B l == B l)=true:=by rw [B_beq]; simp
end Gev
namespace Gev
open Go Gb
variable {E:Env}
theorem equal_loop {xs:List Rat} (hl:xs.length < 9223372036854775807):∀ d i:Nat,i+d=xs.length→Lp E 0 M5 0 (z0u (Q1 xs) (Q1 xs) (xs.length:Nat) (i:Nat)) (.exit 0) z1x
 | 0,i,hi=>y0p (by omega)
 | d+1,i,hi=>by
  obtain ⟨c,hc⟩:=get_ex (l:=xs) (i:=i) (by omega)
  have g:=Q1_get hc
  rw [← Int.toNat_natCast i] at g
  exact y2f (wi (by omega)) (by omega) (by omega) g g rfl (equal_loop hl d (i+1) (by omega))
theorem equal_same {xs:List Rat} (hl:xs.length < 9223372036854775807):Fn E M5 [.c (.list (Q1 xs)),.c (.list (Q1 xs))] (.c (.bool true)):=by
 have h:=equal_loop (E:=E) hl xs.length 0 (by omega)
 rw [← Q1_len xs] at h
 exact y9q rfl h
end Gev
namespace Gev
open Go Gb
variable {E:Env}
attribute [local irreducible] Sz
end Gev
namespace Gev
open Go Gb
variable {E:Env}
attribute [local irreducible] Sz
theorem ok1_all3 (a b c:Rat):[decQ a,decQ b,decQ c].all ok1=true:=by
 rw [List.all_eq_true]
 intro x hx
 simp at hx
 rcases hx with rfl | rfl | rfl <;> exact ok1_dec _
theorem diffA_Tm {ms:List QM} (hn:ms.length≤16) (a b c:Rat):diffA (Tm ms) (decQ a) (decQ b) (decQ c)=(0,(pts ms).map (off3 a b c)):=by
 unfold diffA
 rw [Tm_ok,ok1_all3,Bool.true_and,if_pos rfl,Tm_len,if_neg (by omega),nums3_Tm,rdv_dec,rdv_dec,rdv_dec]
theorem not_lt_dec {a b:Rat} (h:b≤a):decide (a < b)=false:=decide_eq_false (Rat.not_lt.2 h)
theorem fitA_yes {l:List Mk} {a b c:Rat} (h0:startS l=0) (h:fit3 (nums3 l)=some (a,b,c)):fitA l=.tup [.agg [.str (B (decQ a)),.str (B (decQ b)),.str (B (decQ c)),.str (B (decQ (sq3 a b c (nums3 l))))],.c (.i64 0)]:=by
 unfold fitA
 rw [if_pos h0,h]; rfl
end Gev
namespace Gev
open Go Gb
variable {E:Env}
attribute [local irreducible] Sz
end Gev
namespace Gev
open Go Gb
variable {E:Env}
attribute [local irreducible] Sz
theorem okN_Tm (ms:List QM):(Tm ms).all okN=ms.all fun m=>decide (m.1.length≤64):=by
 unfold Tm
 rw [List.all_map]
 congr 1
 funext m
 show okN (m.1,decQ (px m.2),decQ (py m.2),decQ (pz m.2))=_
 unfold okN
 rw [okM_dec]; rfl
end Gev
namespace Gev
open Go Gb
variable {E:Env}
attribute [local irreducible] Sz
def fl (a b c:Rat) (q:P3):P3:=(px q,py q,a+(b*px q+c*py q))
end Gev
namespace Gev
open Go Gb
theorem rdiv_cancel {x w:Rat} (h:w≠0):x / w*w=x:=by rw [Rat.div_def,Rat.mul_assoc,Rat.inv_mul_cancel _ h,Rat.mul_one]
theorem lt_ne {a b:Rat} (h:a < b):b - a≠0:=fun e=>by
 have:b=a:=by grind
 rw [this] at h
 exact Rat.lt_irrefl h
theorem lineT_first {a b:P3} (x y:Rat):lineT (px a) a b x y=x:=by
 unfold lineT
 have:px a - px a=0:=by grind
 rw [this,Rat.div_def]; grind
theorem lineT_last {a b:P3} (h:px a < px b) (x y:Rat):lineT (px b) a b x y=y:=by
 unfold lineT
 have e:=rdiv_cancel (x:=px b - px a) (lt_ne h)
 have:(px b - px a) / (px b - px a)=1:=by
  have:=Rat.mul_inv_cancel _ (lt_ne h)
  rw [Rat.div_def]; exact this
 rw [this]; grind
theorem lineT_mono {a b:P3} {x y d e:Rat} (h:px a < px b) (hxy:x≤y) (hd:d≤e):lineT d a b x y≤lineT e a b x y:=by
 unfold lineT
 have hw:0 < px b - px a:=by grind
 have hi:0 < (px b - px a)⁻¹:=Rat.inv_pos.2 hw
 have h1:0≤(e - d)*(px b - px a)⁻¹:=Rat.mul_nonneg (by grind) (Rat.le_of_lt hi)
 have h2:0≤(e - d)*(px b - px a)⁻¹*(y - x):=Rat.mul_nonneg h1 (by grind)
 rw [Rat.div_def,Rat.div_def]
 generalize (px b - px a)⁻¹=w at h1 h2
 grind
theorem findT_ge {d:Rat}:∀ {x:P3} {ts:List P3} {a b:P3},ordB (x::ts)=true→px x≤d→findT d (x::ts)=some (a,b)→py x≤lineT d a b (py a) (py b)
 | x,[],a,b,_,_,h=>by cases h
 | x,y::r,a,b,ho,hd,h=>by
  obtain ⟨h1,h2,h3⟩:=ord_tail ho
  have h:(if d≤px y then some (x,y) else findT d (y::r))=some (a,b):=h
  by_cases k:d≤px y
  · rw [if_pos k] at h
    cases h
    have:=lineT_mono (d:=px x) (e:=d) h1 h2 hd
    rw [lineT_first] at this
    exact this
  · rw [if_neg k] at h
    exact Rat.le_trans h2 (findT_ge h3 (Rat.le_of_lt (Rat.not_le.1 k)) h)
theorem findT_mono {d e:Rat} (hde:d≤e):∀ {x:P3} {ts:List P3} {a b a' b':P3},ordB (x::ts)=true→px x≤d→findT d (x::ts)=some (a,b)→findT e (x::ts)=some (a',b')→lineT d a b (py a) (py b)≤lineT e a' b' (py a') (py b')
 | x,[],a,b,_,_,_,_,h,_=>by cases h
 | x,y::r,a,b,a',b',ho,hd,h,h'=>by
  obtain ⟨h1,h2,h3⟩:=ord_tail ho
  have h:(if d≤px y then some (x,y) else findT d (y::r))=some (a,b):=h
  have h':(if e≤px y then some (x,y) else findT e (y::r))=some (a',b'):=h'
  by_cases k:d≤px y
  · rw [if_pos k] at h
    cases h
    by_cases k':e≤px y
    · rw [if_pos k'] at h'
      cases h'
      exact lineT_mono h1 h2 hde
    · rw [if_neg k'] at h'
      have u:=lineT_mono (d:=d) (e:=px y) h1 h2 k
      rw [lineT_last h1] at u
      exact Rat.le_trans u (findT_ge h3 (Rat.le_of_lt (Rat.not_le.1 k')) h')
  · rw [if_neg k] at h
    by_cases k':e≤px y
    · exact absurd (Rat.le_trans hde k') k
    · rw [if_neg k'] at h'
      exact findT_mono hde h3 (Rat.le_of_lt (Rat.not_le.1 k)) h h'
theorem ord_ge {x:P3}:∀ {ts:List P3},ordB (x::ts)=true→∀ m∈ts,px x < px m
 | [],_,m,hm=>by cases hm
 | y::r,ho,m,hm=>by
  obtain ⟨h1,_,h3⟩:=ord_tail ho
  rcases List.mem_cons.1 hm with rfl | h
  · exact h1
  · have:=ord_ge h3 m h
    grind
theorem findT_row {m:P3}:∀ {x:P3} {ts:List P3} {a b:P3},ordB (x::ts)=true→m∈x::ts→findT (px m) (x::ts)=some (a,b)→lookR (px m) a b=(py m,pz m)
 | x,[],a,b,_,_,h=>by cases h
 | x,y::r,a,b,ho,hm,h=>by
  obtain ⟨h1,_,h3⟩:=ord_tail ho
  have h:(if px m≤px y then some (x,y) else findT (px m) (y::r))=some (a,b):=h
  unfold lookR
  by_cases k:px m≤px y
  · rw [if_pos k] at h
    cases h
    rcases List.mem_cons.1 hm with rfl | hm
    · rw [lineT_first,lineT_first]
    · rcases List.mem_cons.1 hm with rfl | hm
      · rw [lineT_last h1,lineT_last h1]
      · exact absurd k (Rat.not_le.2 (ord_ge h3 m hm))
  · rw [if_neg k] at h
    have hm':m∈y::r:=by
     rcases List.mem_cons.1 hm with rfl | hm
     · exact absurd (Rat.le_of_lt h1) k
     · exact hm
    exact findT_row h3 hm' h
theorem lookA_yes {t:List D3} {d:List UInt8} {u v:Rat} (h:lookA t d=(0,some (u,v))):∃ ts q x r a b,t=Td ts∧d=decQ q∧ts=x::r∧ordB ts=true∧px x≤q∧findT q ts=some (a,b)∧a∈ts∧b∈ts∧px a < px b∧(u,v)=lookR q a b:=by
 unfold lookA at h
 by_cases h1:(t.all okD && ok1 d)=true
 · rw [if_pos h1] at h
   rw [Bool.and_eq_true] at h1
   obtain ⟨ts,rfl⟩:=Td_of h1.1
   obtain ⟨q,rfl⟩:=ok1_dec' h1.2
   by_cases h2:(Td ts).length < 2
   · rw [if_pos h2] at h; cases h
   · rw [if_neg h2] at h
     by_cases h3:32 < (Td ts).length
     · rw [if_pos h3] at h; cases h
     · rw [if_neg h3,numsD_Td,rdv_dec] at h
       unfold lookP at h
       cases ho:ordB ts with
       | false=>rw [ho] at h; cases h
       | true =>
        rw [ho,if_pos rfl] at h
        match ts,h2,ho,h with
        | [],h2,_,_=>exact absurd (show (Td []).length < 2 by decide) h2
        | x::r,_,ho,h =>
         have h:(if q < px x then ((2:Int),(none:Option (Rat × Rat))) else match findT q (x::r) with | none=>(2,none) | some (a,b)=>(0,some (lookR q a b)))=(0,some (u,v)):=h
         by_cases h4:q < px x
         · rw [if_pos h4] at h; cases h
         · rw [if_neg h4] at h
           cases hf:findT q (x::r) with
           | none=>rw [hf] at h; cases h
           | some ab =>
            obtain ⟨a,b⟩:=ab
            rw [hf] at h
            obtain ⟨k1,_,k3,k4,_⟩:=findT_in ho hf
            have h:((0:Int),some (lookR q a b))=(0,some (u,v)):=h
            injection h with _ h
            injection h with h
            exact ⟨x::r,q,x,r,a,b,rfl,rfl,rfl,ho,Rat.not_lt.1 h4,hf,k3,k4,k1,h.symm⟩
 · rw [if_neg h1] at h; cases h
theorem Td_inj:∀ {a b:List P3},Td a=Td b→a=b
 | [],[],_=>rfl
 | [],_::_,h=>by cases h
 | _::_,[],h=>by cases h
 | (p,q,r)::l,(x,y,z)::m,h=>by
  unfold Td at h
  rw [List.map_cons,List.map_cons] at h
  injection h with h1 h2
  injection h1 with h3 h4
  injection h4 with h5 h6
  have h3:decQ p=decQ x:=h3
  have h5:decQ q=decQ y:=h5
  have h6:decQ r=decQ z:=h6
  rw [decQ_inj h3,decQ_inj h5,decQ_inj h6,Td_inj h2]
theorem lookA_mono {t:List D3} {d e:List UInt8} {u v u' v':Rat} (h:lookA t d=(0,some (u,v))) (h':lookA t e=(0,some (u',v'))):∃ p q,d=decQ p∧e=decQ q∧(p≤q→u≤u')∧(q≤p→u'≤u):=by
 obtain ⟨ts,p,x,r,a,b,h1,h2,h3,h4,h5,h6,_,_,_,h7⟩:=lookA_yes h
 obtain ⟨ts',q,x',r',a',b',k1,k2,k3,k4,k5,k6,_,_,_,k7⟩:=lookA_yes h'
 have:=Td_inj (h1.symm.trans k1)
 subst this
 subst h3
 injection k3 with k3 k3'
 subst k3
 subst k3'
 injection h7 with e1 _
 injection k7 with e2 _
 refine ⟨p,q,h2,k2,fun c=>?_,fun c=>?_⟩
 · rw [e1,e2]; exact findT_mono c h4 h5 h6 k6
 · rw [e1,e2]; exact findT_mono c h4 k5 k6 h6
theorem lookA_row {t:List D3} {m:D3} (hm:m∈t) {u v:Rat} (h:lookA t m.1=(0,some (u,v))):m.2.1=decQ u∧m.2.2=decQ v:=by
 obtain ⟨ts,p,x,r,a,b,h1,h2,h3,h4,h5,h6,_,_,_,h7⟩:=lookA_yes h
 subst h1
 obtain ⟨q,hq,rfl⟩:=List.mem_map.1 hm
 have e:px q=p:=decQ_inj h2
 subst e
 subst h3
 have:=findT_row h4 hq h6
 rw [← h7] at this
 injection this with e1 e2
 subst e1
 subst e2
 exact ⟨rfl,rfl⟩
theorem lookA_cases (t:List D3) (d:List UInt8):(∃ c,c≠0∧lookA t d=(c,none))∨∃ u v,lookA t d=(0,some (u,v)):=by
 unfold lookA lookP
 split
 · split
   · exact .inl ⟨9,by decide,rfl⟩
   · split
     · exact .inl ⟨8,by decide,rfl⟩
     · split
       · split
         · exact .inl ⟨2,by decide,rfl⟩
         · split
           · exact .inl ⟨2,by decide,rfl⟩
           · exact .inr ⟨_,_,rfl⟩
       · exact .inl ⟨5,by decide,rfl⟩
 · exact .inl ⟨1,by decide,rfl⟩
theorem lookA_sz {t:List D3} {d:List UInt8} {u v:Rat} {L:Nat} (hf:ShortD t) (hd:d.length≤L) (h:lookA t d=(0,some (u,v))):Sz u (L+40000)∧Sz v (L+40000):=by
 obtain ⟨ts,p,x,r,a,b,h1,h2,h3,h4,h5,h6,ha,hb,_,h7⟩:=lookA_yes h
 subst h1
 subst h2
 have hI:=Td_in hf
 have za:=hI a ha
 have zb:=hI b hb
 have zp:=Sz.of_len hd
 injection h7 with e1 e2
 have pp:=(zp.sub za.1).div (zb.1.sub za.1)
 rw [e1,e2]
 unfold lineT
 exact ⟨(za.2.1.add (pp.mul (zb.2.1.sub za.2.1))).mono (by omega),(za.2.2.add (pp.mul (zb.2.2.sub za.2.2))).mono (by omega)⟩
end Gev
namespace Gev
open Go Gb
variable {E:Env}
attribute [local irreducible] Sz
theorem Dc_shape (d:List UInt8) (r:Int × Option (Rat × Rat)):∃ x y z:BA,Dc d r=.tup [.agg [.str x,.str y,.str z],.c (.i64 r.1)]:=by
 obtain ⟨e,o⟩:=r
 cases o with
 | none=>exact ⟨_,_,_,rfl⟩
 | some p=>exact ⟨_,_,_,rfl⟩
theorem same3 {a b c:List UInt8}:(!((B a == B a) && ((B b == B b) && ((B c == B c) && true))))=false:=by rw [b_self,b_self,b_self]; rfl
theorem Deep_loop (hlib:Lib E) (hcs:Cs E) {t:List D3} (hm:ShortD t) {w0:RW} {c10 c11 c12:BA} {w2:RW} {c30 c31 c32:BA} {c40:Bool} {c41 c42:RW} {c50:Bool} {c51 c52:RW} {c60:Bool} {c61 c62:RW} {c70:Bool} {c71 c72:RW}:∀ d i:Nat,i+d=t.length →
    Lp E 8 B4 0 (I8 (R3 t) (R3 t) (t.length:Nat) (i:Nat) w0 c10 c11 c12 w2 c30 c31 c32 c40 c41 c42 c50 c51 c52 c60 c61 c62 c70 c71 c72) (.exit 0) (J1 w0 c10 c11 c12 w2 c30 c31 c32 c40 c41 c42 c50 c51 c52 c60 c61 c62 c70 c71 c72)
 | 0,i,hi=>z8p (by omega)
 | d+1,i,hi=>by
  have hn:=hm.1
  obtain ⟨m,hx⟩:=get_ex (l:=t) (i:=i) (by omega)
  have g:=R3_get hx
  rw [← Int.toNat_natCast i] at g
  have hmm:=List.mem_of_getElem? hx
  have hms:=hm.2 m hmm
  have ih:=Deep_loop hlib hcs hm (w0:=w0) (c10:=c10) (c11:=c11) (c12:=c12) (w2:=w2) (c30:=c30) (c31:=c31) (c32:=c32) (c40:=c40) (c41:=c41) (c42:=c42) (c50:=c50) (c51:=c51) (c52:=c52) (c60:=c60) (c61:=c61) (c62:=c62) (c70:=c70) (c71:=c71) (c72:=c72) d (i+1) (by omega)
  have k:=sur_Lookup hlib hm (d:=m.1) (by omega)
  rcases lookA_cases t m.1 with ⟨c,hc,e⟩ | ⟨u,v,e⟩
  · rw [e] at k
    exact y0i (R3_take t) (wi (by omega)) (by omega) (by omega) g (hcs.table t hn) k hc ih
  · obtain ⟨e1,e2⟩:=lookA_row hmm e
    rw [e] at k
    obtain ⟨m1,m2,m3⟩:=m
    have e1:m2=decQ u:=e1
    have e2:m3=decQ v:=e2
    subst e1
    subst e2
    exact y0h (R3_take t) (wi (by omega)) (by omega) (by omega) g (hcs.table t hn) k rfl same3 ih
theorem Deep_loopA (hlib:Lib E) (hcs:Cs E) {t:List D3} (hm:ShortD t) {w0:RW} {c10 c11 c12:BA} {w2:RW} {c30 c31 c32:BA}:∀ d i:Nat,i+d=t.length →
    Lp E 4 B4 0 (J7 (R3 t) (R3 t) (t.length:Nat) (i:Nat) w0 c10 c11 c12 w2 c30 c31 c32) (.exit 0) (M9 w0 c10 c11 c12 w2 c30 c31 c32)
 | 0,i,hi=>z7y (by omega)
 | d+1,i,hi=>by
  have hn:=hm.1
  obtain ⟨m,hx⟩:=get_ex (l:=t) (i:=i) (by omega)
  have g:=R3_get hx
  rw [← Int.toNat_natCast i] at g
  have hmm:=List.mem_of_getElem? hx
  have hms:=hm.2 m hmm
  have ih:=Deep_loopA hlib hcs hm (w0:=w0) (c10:=c10) (c11:=c11) (c12:=c12) (w2:=w2) (c30:=c30) (c31:=c31) (c32:=c32) d (i+1) (by omega)
  have k:=sur_Lookup hlib hm (d:=m.1) (by omega)
  rcases lookA_cases t m.1 with ⟨c,hc,e⟩ | ⟨u,v,e⟩
  · rw [e] at k
    exact z9h (R3_take t) (wi (by omega)) (by omega) (by omega) g (hcs.table t hn) k hc ih
  · obtain ⟨e1,e2⟩:=lookA_row hmm e
    rw [e] at k
    obtain ⟨m1,m2,m3⟩:=m
    have e1:m2=decQ u:=e1
    have e2:m3=decQ v:=e2
    subst e1
    subst e2
    exact z9g (R3_take t) (wi (by omega)) (by omega) (by omega) g (hcs.table t hn) k rfl same3 ih
theorem law_SurveyDeeper (hlib:Lib E) (hcs:Cs E) (haw:Fn E A8 [] (.c (.bool true))) (t:List D3) (a b:List UInt8) (ht:t.length≤9223372036854775807):Fn E B4 [.c (.list (R3 t)),.c (.str (B a)),.c (.str (B b))] (.c (.bool true)):=by
 have hf:Fn E A6 [.c (.list []),.c (.list (R3 t))] (.c (.bool (fewS [] t))):=r53_Few (E:=E) (l:=[]) (t:=t) (by decide) ht
 cases hb:fewS [] t with
 | false=>rw [hb] at hf; exact y2x haw hf
 | true =>
  rw [hb] at hf
  have hm:=(fewS_Short hb).2
  have hn:=hm.1
  by_cases h1:a.length≤40
  · have n1:¬ ((B a).size:Int) > 40:=by rw [B_size]; omega
    by_cases h2:b.length≤40
    · have n2:¬ ((B b).size:Int) > 40:=by rw [B_size]; omega
      have hc:=hcs.table t hn
      have k1:=sur_Lookup hlib hm (d:=a) (by omega)
      have k2:=sur_Lookup hlib hm (d:=b) (by omega)
      rcases lookA_cases t a with ⟨c,hne,e⟩ | ⟨u,v,e⟩
      · obtain ⟨x,y,z,ek⟩:=Dc_shape b (lookA t b)
        rw [ek] at k2
        rw [e] at k1
        exact y2w (R3_take t) (R3_take t) haw hf n1 n2 hc k1 hc k2 hne (by rw [R3_len]; exact Deep_loopA hlib hcs hm t.length 0 (by omega))
      · rcases lookA_cases t b with ⟨c,hne,e'⟩ | ⟨u',v',e'⟩
        · rw [e] at k1
          rw [e'] at k2
          exact y2v (R3_take t) (R3_take t) haw hf n1 n2 hc k1 hc k2 rfl hne (by rw [R3_len]; exact Deep_loopA hlib hcs hm t.length 0 (by omega))
        · obtain ⟨zu,_⟩:=lookA_sz hm h1 e
          obtain ⟨zu',_⟩:=lookA_sz hm h2 e'
          obtain ⟨p,q,rfl,rfl,m1,m2⟩:=lookA_mono e e'
          have zp:=Sz.of_len h1
          have zq:=Sz.of_len h2
          have hL:=Lim_val
          rw [e] at k1
          rw [e'] at k2
          have f1:=r3_From (E:=E) (l:=decQ p) (by omega)
          have f2:=r3_From (E:=E) (l:=decQ q) (by omega)
          have f3:=r3_From (E:=E) (l:=decQ u) (by have:=zu.len; omega)
          have f4:=r3_From (E:=E) (l:=decQ u') (by have:=zu'.len; omega)
          rw [rd_decQ] at f1 f2 f3 f4
          have l1:=r3_Less (E:=E) zp zq (by omega)
          have l2:=r3_Less (E:=E) zq zp (by omega)
          have l3:=r3_Less (E:=E) zu' zu (by omega)
          have l4:=r3_Less (E:=E) zu zu' (by omega)
          by_cases c1:p < q
          · rw [decide_eq_true c1] at l1
            rw [not_lt_dec (Rat.le_of_lt c1)] at l2
            rw [not_lt_dec (m1 (Rat.le_of_lt c1))] at l3
            exact y4a (R3_take t) (R3_take t) haw hf n1 n2 hc k1 hc k2 rfl rfl f1 f2 f3 f4 l1 l3 l2 (by rw [R3_len]; exact Deep_loop hlib hcs hm t.length 0 (by omega))
          · rw [decide_eq_false c1] at l1
            by_cases c2:q < p
            · rw [decide_eq_true c2] at l2
              rw [not_lt_dec (m2 (Rat.le_of_lt c2))] at l4
              exact y2t (R3_take t) (R3_take t) haw hf n1 n2 hc k1 hc k2 rfl rfl f1 f2 f3 f4 l1 l2 l4 (by rw [R3_len]; exact Deep_loop hlib hcs hm t.length 0 (by omega))
            · rw [decide_eq_false c2] at l2
              exact y2u (R3_take t) (R3_take t) haw hf n1 n2 hc k1 hc k2 rfl rfl f1 f2 f3 f4 l1 l2 (by rw [R3_len]; exact Deep_loop hlib hcs hm t.length 0 (by omega))
    · exact y3z haw hf n1 (by rw [B_size]; omega)
  · exact y3y haw hf (by rw [B_size]; omega)
end Gev
namespace Gev
open Go Gb Go.Proofs
variable {E:Env}
attribute [local irreducible] Sz
theorem txn {l:List UInt8} {q:Rat} (hd:q.den=1) (hn:q.num=(dval l:Nat)) (h:natB l=true):decQ q=l:=by
 rw [decQ_int hd,hn,decZ_nat]; exact ((natB_iff.1 h).eq_dec).symm
theorem txf {a b:List UInt8} {q:Rat} (hn:q.num=(dval a:Nat)) (hd:q.den=dval b) (h1:q.den≠1) (ha:natB a=true) (hb:natB b=true):decQ q=a++47::b:=by
 rw [decQ_frac h1,hn,hd,decZ_nat,← (natB_iff.1 ha).eq_dec,← (natB_iff.1 hb).eq_dec]
theorem d0:decQ 0=[48]:=decQ_zero
theorem d1:decQ 1=[49]:=txn (by kernel_rfl) (by kernel_rfl) (by decide)
theorem d2:decQ 2=[50]:=txn (by kernel_rfl) (by kernel_rfl) (by decide)
theorem d4:decQ 4=[52]:=txn (by kernel_rfl) (by kernel_rfl) (by decide)
theorem d5:decQ 5=[53]:=txn (by kernel_rfl) (by kernel_rfl) (by decide)
theorem d6:decQ 6=[54]:=txn (by kernel_rfl) (by kernel_rfl) (by decide)
theorem d10:decQ 10=[49,48]:=txn (by kernel_rfl) (by kernel_rfl) (by decide)
theorem d100:decQ 100=[49,48,48]:=txn (by kernel_rfl) (by kernel_rfl) (by decide)
theorem d160:decQ 160=[49,54,48]:=txn (by kernel_rfl) (by kernel_rfl) (by decide)
theorem d164:decQ 164=[49,54,52]:=txn (by kernel_rfl) (by kernel_rfl) (by decide)
theorem d180:decQ 180=[49,56,48]:=txn (by kernel_rfl) (by kernel_rfl) (by decide)
theorem d1_10:decQ (mkRat 1 10)=[49,47,49,48]:=txf (a:=[49]) (b:=[49,48]) (by kernel_rfl) (by kernel_rfl) (by decide) (by decide) (by decide)
theorem d11_2:decQ (mkRat 11 2)=[49,49,47,50]:=txf (a:=[49,49]) (b:=[50]) (by kernel_rfl) (by kernel_rfl) (by decide) (by decide) (by decide)
theorem d7_4:decQ (mkRat 7 4)=[55,47,52]:=txf (a:=[55]) (b:=[52]) (by kernel_rfl) (by kernel_rfl) (by decide) (by decide) (by decide)
def four:List QM:=[([97],0,0,5),([98],10,0,6),([99],0,4,5),([100],10,4,6)]
theorem Q4_four:Q4 four=[[.str ⟨#[97]⟩,.str ⟨#[48]⟩,.str ⟨#[48]⟩,.str ⟨#[53]⟩],[.str ⟨#[98]⟩,.str ⟨#[49,48]⟩,.str ⟨#[48]⟩,.str ⟨#[54]⟩],[.str ⟨#[99]⟩,.str ⟨#[48]⟩,.str ⟨#[52]⟩,.str ⟨#[53]⟩],[.str ⟨#[100]⟩,.str ⟨#[49,48]⟩,.str ⟨#[52]⟩,.str ⟨#[54]⟩]]:=by
 show ([[.str (B [97]),.str (B (decQ 0)),.str (B (decQ 0)),.str (B (decQ 5))],[.str (B [98]),.str (B (decQ 10)),.str (B (decQ 0)),.str (B (decQ 6))],[.str (B [99]),.str (B (decQ 0)),.str (B (decQ 4)),.str (B (decQ 5))],[.str (B [100]),.str (B (decQ 10)),.str (B (decQ 4)),.str (B (decQ 6))]]:RW)=_
 rw [d0,d4,d5,d6,d10]; rfl
theorem four_ok:Fn E y1w [] (.c (.list (R4 (Tm four)))):=by
 rw [Tm_R4,Q4_four]
 exact x8r rfl
theorem fit_four:fit3 (pts four)=some (5,mkRat 1 10,0):=by kernel_rfl
theorem sq_four:sq3 5 (mkRat 1 10) 0 (pts four)=0:=by kernel_rfl
end Gev
namespace Gev
open Go Gb Go.Proofs
variable {E:Env}
attribute [local irreducible] Sz
theorem Tm_four:Tm four=[([97],[48],[48],[53]),([98],[49,48],[48],[54]),([99],[48],[52],[53]),([100],[49,48],[52],[54])]:=by
 show ([([97],decQ 0,decQ 0,decQ 5),([98],decQ 10,decQ 0,decQ 6),([99],decQ 0,decQ 4,decQ 5),([100],decQ 10,decQ 4,decQ 6)]:List Mk)=_
 rw [d0,d4,d5,d6,d10]
theorem short_four:Short (Tm four):=by
 rw [Tm_four]
 refine ⟨by decide,fun m hm=>?_⟩
 simp only [List.mem_cons,List.not_mem_nil,or_false] at hm
 rcases hm with rfl | rfl | rfl | rfl <;> decide
theorem start_four:startS (Tm four)=0:=by
 unfold startS
 rw [okN_Tm,Tm_len,if_pos (by decide),if_neg (by decide),if_neg (by decide)]
theorem fit_ok4 (hlib:Lib E):Fn E B8 [.c (.list (R4 (Tm four)))] (.tup [.agg [.str (B [53]),.str (B [49,47,49,48]),.str (B [48]),.str (B [48])],.c (.i64 0)]):=by
 have h:=sur_Fit hlib short_four
 rw [fitA_yes start_four (by rw [nums3_Tm]; exact fit_four),nums3_Tm,sq_four,d5,d1_10,d0] at h
 exact h
theorem diff_ok4 (hlib:Lib E) {s:BA}:Fn E B2 [.c (.list (R4 (Tm four))),.agg [.str (B [53]),.str (B [49,47,49,48]),.str (B [48]),.str s]] (.tup [.c (.list (Q1 [0,0,0,0])),.c (.i64 0)]):=by
 have h:=sur_Differences hlib (s:=s) short_four (a:=decQ 5) (b:=decQ (mkRat 1 10)) (c:=decQ 0) (by rw [d5]; decide) (by rw [d1_10]; decide) (by rw [d0]; decide)
 rw [diffA_Tm (by decide),show (pts four).map (off3 5 (mkRat 1 10) 0)=[0,0,0,0] by kernel_rfl,d5,d1_10,d0] at h
 exact h
theorem at_ok4 (hlib:Lib E) {s:BA}:Fn E z3c [.agg [.str (B [53]),.str (B [49,47,49,48]),.str (B [48]),.str s],.c (.str (B [53])),.c (.str (B [48]))] (.tup [.c (.str (B [49,49,47,50])),.c (.i64 0)]):=by
 have h:=sur_At hlib (s:=s) (a:=decQ 5) (b:=decQ (mkRat 1 10)) (c:=decQ 0) (x:=decQ 5) (y:=decQ 0) (by rw [d5]; decide) (by rw [d1_10]; decide) (by rw [d0]; decide) (by rw [d5]; decide) (by rw [d0]; decide)
 have e:atA (decQ 5) (decQ (mkRat 1 10)) (decQ 0) (decQ 5) (decQ 0)=(0,[49,49,47,50]):=by
  unfold atA
  rw [if_pos (by simp [ok1_dec]),rdv_dec,rdv_dec,rdv_dec,show (5:Rat)+(mkRat 1 10*5+0*0)=mkRat 11 2 by kernel_rfl,d11_2]
 rw [e,d5,d1_10,d0] at h
 exact h
end Gev
namespace Gev
open Go Gb Go.Proofs
variable {E:Env}
attribute [local irreducible] Sz
def two:List P3:=[(4,100,1),(6,180,2)]
theorem Td_two:Td two=[([52],[49,48,48],[49]),([54],[49,56,48],[50])]:=by
 show ([(decQ 4,decQ 100,decQ 1),(decQ 6,decQ 180,decQ 2)]:List D3)=_
 rw [d4,d100,d1,d6,d180,d2]
theorem short_two:ShortD (Td two):=by
 rw [Td_two]
 refine ⟨by decide,fun m hm=>?_⟩
 simp only [List.mem_cons,List.not_mem_nil,or_false] at hm
 rcases hm with rfl | rfl <;> decide
theorem two_ok:Fn E y0d [] (.c (.list (R3 (Td two)))):=by
 rw [Td_two]
 exact x7k rfl
theorem okD_two:(Td two).all okD=true:=by
 rw [List.all_eq_true]
 intro m hm
 unfold Td at hm
 obtain ⟨q,_,rfl⟩:=List.mem_map.1 hm
 show [decQ (px q),decQ (py q),decQ (pz q)].all ok1=true
 simp [ok1_dec]
theorem look_two:lookA (Td two) (decQ (mkRat 11 2))=(0,some (160,mkRat 7 4)):=by
 unfold lookA
 rw [okD_two,ok1_dec,Bool.true_and,if_pos rfl,Td_len,if_neg (by decide),if_neg (by decide),numsD_Td,rdv_dec]
 kernel_rfl
theorem look_ok4 (hlib:Lib E):Fn E A5 [.c (.list (R3 (Td two))),.c (.str (B [49,49,47,50]))] (.tup [.agg [.str (B [49,49,47,50]),.str (B [49,54,48]),.str (B [55,47,52])],.c (.i64 0)]):=by
 have h:=sur_Lookup hlib short_two (d:=decQ (mkRat 11 2)) (by rw [d11_2]; decide)
 rw [look_two] at h
 have e:Dc (decQ (mkRat 11 2)) (0,some (160,mkRat 7 4))=.tup [.agg [.str (B (decQ (mkRat 11 2))),.str (B (decQ 160)),.str (B (decQ (mkRat 7 4)))],.c (.i64 0)]:=rfl
 rw [e,d11_2,d160,d7_4] at h
 exact h
theorem worst_ok4 (hlib:Lib E) (hcs:Cs E):Fn E F7 [.c (.list (R4 (Tm four)))] (.tup [.c (.i64 0),.c (.i64 0)]):=by
 have h:=sur_Worst hlib hcs short_four
 have e:worstA (Tm four)=(0,0):=by
  unfold worstA
  rw [if_pos start_four,nums3_Tm,fit_four]
  show (if (Tm four).length < 4 then ((9:Int),(0:Int)) else worstP (pts four))=(0,0)
  rw [Tm_len,if_neg (by decide)]
  kernel_rfl
 rw [e] at h
 exact h
end Gev
namespace Gev
open Go Gb Go.Proofs
variable {E:Env}
attribute [local irreducible] Sz
theorem d41_40:decQ (mkRat 41 40)=[52,49,47,52,48]:=txf (a:=[52,49]) (b:=[52,48]) (by kernel_rfl) (by kernel_rfl) (by decide) (by decide) (by decide)
theorem surv_four:survA (Tm four) (Td two) (decQ 5) (decQ 10) (decQ (mkRat 41 40))=.tup [.agg [.str (B [49,49,47,50]),.str (B [49]),.str (B [48]),.str (B [49,54,52]),.str (B [55,47,52]),.str (B [48])],.c (.i64 0)]:=by
 unfold survA
 rw [if_pos (ok1_all3 _ _ _),rdv_dec,rdv_dec,rdv_dec,if_pos (by decide),if_pos start_four,nums3_Tm,fit_four]
 have e:draftS 5 (mkRat 1 10) 0 5=mkRat 11 2:=by kernel_rfl
 show (match lookA (Td two) (decQ (draftS 5 (mkRat 1 10) 0 5)) with
  | (e,none)=>errS e
  | (_,some (x,y))=>AV.tup [.agg [.str (B (decQ (draftS 5 (mkRat 1 10) 0 5))),.str (B (decQ (mkRat 1 10*10))),.str (B (decQ 0)),.str (B (decQ (x*mkRat 41 40))),.str (B (decQ y)),.str (B (decQ (sq3 5 (mkRat 1 10) 0 (pts four))))],.c (.i64 0)])=_
 rw [e,look_two,sq_four]
 show AV.tup [.agg [.str (B (decQ (mkRat 11 2))),.str (B (decQ (mkRat 1 10*10))),.str (B (decQ 0)),.str (B (decQ (160*mkRat 41 40))),.str (B (decQ (mkRat 7 4))),.str (B (decQ 0))],.c (.i64 0)]=_
 rw [show mkRat 1 10*10=(1:Rat) by kernel_rfl,show (160:Rat)*mkRat 41 40=164 by kernel_rfl,d11_2,d1,d0,d164,d7_4]
theorem awake_ok (hlib:Lib E) (hcs:Cs E):Fn E A8 [] (.c (.bool true)):=by
 have hs:=sur_Survey hlib short_four short_two (m:=decQ 5) (n:=decQ 10) (r:=decQ (mkRat 41 40)) (by rw [d5]; decide) (by rw [d10]; decide) (by rw [d41_40]; decide)
 rw [surv_four,d5,d10,d41_40] at hs
 have he:=equal_same (E:=E) (xs:=[0,0,0,0]) (by decide)
 have e0:Q1 [0,0,0,0]=[[.str ⟨#[48]⟩],[.str ⟨#[48]⟩],[.str ⟨#[48]⟩],[.str ⟨#[48]⟩]]:=by
  show ([[.str (B (decQ 0))],[.str (B (decQ 0))],[.str (B (decQ 0))],[.str (B (decQ 0))]]:RW)=_
  rw [d0]; rfl
 exact x7l e0.symm four_ok (fit_ok4 hlib) two_ok hs (diff_ok4 hlib) (at_ok4 hlib) (look_ok4 hlib) (worst_ok4 hlib hcs) rfl rfl rfl rfl rfl rfl rfl rfl he rfl rfl rfl
end Gev
namespace Gev
open Go Gb Go.Proofs
theorem cs0:Cs E0:=cs_ok
theorem awake0:Fn E0 A8 [] (.c (.bool true)):=awake_ok lib0 cs0
end Gev
namespace Gev
open Go Gb Go.Proofs Go.ChangeShapes Go.WideShapes Go.ChangeAt Go.RowKit
open YtgkchlchkdecfaaGreatDoor (Rows.uptoBulk Rows.uptoBulkAll Rows.uptoSmall Rows.OpenSpec.upto)
variable {H:Type} {enc:TypeId × Value→H}
end Gev
