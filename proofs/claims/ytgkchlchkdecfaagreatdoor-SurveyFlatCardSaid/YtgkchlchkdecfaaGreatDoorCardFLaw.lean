/- The law of the last text of this claim: its walk, its plain words. -/
import Derived.Test.YtgkchlchkdecfaaGreatDoorE
import Derived.KernelRfl
import Derived.Test.YtgkchlchkdecfaaGreatDoorTie
import Derived.Test.YtgkchlchkdecfaaGreatDoorCards
import Derived.Deep.DeepHandedRow
import Derived.Deep.Strs
set_option linter.unusedSectionVars false
set_option linter.unusedVariables false
set_option linter.unusedSimpArgs false
namespace Gev
open Go Go.Proofs
variable {E:Env}
def H0 (x0:RW) (x5:Nat) (x39:RW) (x40:Int) (x41:Int) (c0_0:BA) (c0_1:BA) (c0_2:BA) (c0_3:BA) (w1:RW):St:=stOf 99 [(0,.c (.list x0)),(3,.ptr 0 0),(5,.vec 1 x5),(39,.c (.list x39)),(40,.c (.i64 x40)),(41,.c (.i64 x41))] [some (.cells [.c (.str c0_0),.c (.str c0_1),.c (.str c0_2),.c (.str c0_3)]),some (.vec A9 w1)]
def z1v (c0_0:BA) (c0_1:BA) (c0_2:BA) (c0_3:BA) (x4':Bool) (w1':RW):St:=stOf 99 [(4,.c (.bool x4'))] [some (.cells [.c (.str c0_0),.c (.str c0_1),.c (.str c0_2),.c (.str c0_3)]),some (.vec A9 w1')]
def K5 (x0:RW) (x5:Nat) (c0_0:BA) (c0_1:BA) (c0_2:BA) (c0_3:BA) (w1':RW):St:=stOf 99 [(0,.c (.list x0)),(3,.ptr 0 0),(5,.vec 1 x5)] [some (.cells [.c (.str c0_0),.c (.str c0_1),.c (.str c0_2),.c (.str c0_3)]),some (.vec A9 w1')]
theorem y1z {x0:RW} {x5:Nat} {x39:RW} {x40 x41:Int} {c0_0 c0_1 c0_2 c0_3:BA} {w1:RW} {v1 v2 v3 v4 v5:BA} {v6:Int} {v7 v8 v9 v10:BA} {v11:RW} {v12:Int} (e1:List.set w1 (Int.toNat x41) [.str v7,.str v8,.str v9,.str v5]=v11) (e2:IntKind.i64.wrap (x41+1)=v12) (h1:x41 < x40) (h2:0≤x41) (h3:x39[(Int.toNat x41)]?=some [.str v1,.str v2,.str v3,.str v4]) (h4:Fn E z3c [.agg [.str c0_0,.str c0_1,.str c0_2,.str c0_3],.c (.str v2),.c (.str v3)] (.tup [.c (.str v5),.c (.i64 v6)])) (h5:v6=0) (h6:0≤x41∧x41 < ((x5:Nat):Int)) (h7:w1[(Int.toNat x41)]?=some [.str v7,.str v8,.str v9,.str v10]) {o:Out} {st':St} (ih:Lp E 2 C8 0 (H0 x0 x5 x39 x40 v12 c0_0 c0_1 c0_2 c0_3 v11) o st') :Lp E 2 C8 0 (H0 x0 x5 x39 x40 x41 c0_0 c0_1 c0_2 c0_3 w1) o st':=by
 subst e1 e2
 exact lpOn _ [0,3,5,39,40,41] [.t true,.d [.str v1,.str v2,.str v3,.str v4],.v (.tup [.c (.str v5),.c (.i64 v6)]),.t false,.d [.str v7,.str v8,.str v9,.str v10]] (aC (dT h1) (aC h2 (aC h3 (aC h4 (aC (bnF h5) (aC h6 (aO h7))))))) (by kernel_rfl) ih
theorem y0j {x0:RW} {x5:Nat} {x39:RW} {x40 x41:Int} {c0_0 c0_1 c0_2 c0_3:BA} {w1:RW} {v1 v2 v3 v4 v5:BA} {v6:Int} (h1:x41 < x40) (h2:0≤x41) (h3:x39[(Int.toNat x41)]?=some [.str v1,.str v2,.str v3,.str v4]) (h4:Fn E z3c [.agg [.str c0_0,.str c0_1,.str c0_2,.str c0_3],.c (.str v2),.c (.str v3)] (.tup [.c (.str v5),.c (.i64 v6)])) (h5:¬ v6=0) (h6:v5=(⟨#[]⟩:BA)) :Lp E 2 C8 0 (H0 x0 x5 x39 x40 x41 c0_0 c0_1 c0_2 c0_3 w1) .ret (z1v c0_0 c0_1 c0_2 c0_3 true w1):=by
 exact lpOff [4] [.t true,.d [.str v1,.str v2,.str v3,.str v4],.v (.tup [.c (.str v5),.c (.i64 v6)]),.t true,.t true] (aC (dT h1) (aC h2 (aC h3 (aC h4 (aC (bnT h5) (aO (seT h6))))))) (by kernel_rfl) (by simp)
theorem y0k {x0:RW} {x5:Nat} {x39:RW} {x40 x41:Int} {c0_0 c0_1 c0_2 c0_3:BA} {w1:RW} (h1:¬ x41 < x40) :Lp E 2 C8 0 (H0 x0 x5 x39 x40 x41 c0_0 c0_1 c0_2 c0_3 w1) (.exit 0) (K5 x0 x5 c0_0 c0_1 c0_2 c0_3 w1):=by
 exact lpOff [0,3,5] [.t false] (aO (dF h1)) (by kernel_rfl) (by simp)
theorem y8h {a0:RW} {a1_0 a1_1 a1_2 a1_3:BA} (h1:Fn E A8 [] (.c (.bool true))) (h2:Fn E A6 [.c (.list a0),.c (.list [])] (.c (.bool true))) (h3:(a1_0.size:Int) > 40) :Fn E C8 [.c (.list a0),.agg [.str a1_0,.str a1_1,.str a1_2,.str a1_3]] (.c (.bool true)):=by
 exact fnMk [.v (.c (.bool true)),.v (.c (.bool true)),.t true] (by kernel_rfl) (by kernel_rfl) (aC h1 (aC h2 (aO (dT h3)))) (by kernel_rfl)
theorem y8i {a0:RW} {a1_0 a1_1 a1_2 a1_3:BA} (h1:Fn E A8 [] (.c (.bool true))) (h2:Fn E A6 [.c (.list a0),.c (.list [])] (.c (.bool true))) (h3:¬ (a1_0.size:Int) > 40) (h4:(a1_1.size:Int) > 40) :Fn E C8 [.c (.list a0),.agg [.str a1_0,.str a1_1,.str a1_2,.str a1_3]] (.c (.bool true)):=by
 exact fnMk [.v (.c (.bool true)),.v (.c (.bool true)),.t false,.t true] (by kernel_rfl) (by kernel_rfl) (aC h1 (aC h2 (aC (dF h3) (aO (dT h4))))) (by kernel_rfl)
theorem y8j {a0:RW} {a1_0 a1_1 a1_2 a1_3:BA} (h1:Fn E A8 [] (.c (.bool true))) (h2:Fn E A6 [.c (.list a0),.c (.list [])] (.c (.bool true))) (h3:¬ (a1_0.size:Int) > 40) (h4:¬ (a1_1.size:Int) > 40) (h5:(a1_2.size:Int) > 40) :Fn E C8 [.c (.list a0),.agg [.str a1_0,.str a1_1,.str a1_2,.str a1_3]] (.c (.bool true)):=by
 exact fnMk [.v (.c (.bool true)),.v (.c (.bool true)),.t false,.t false,.t true] (by kernel_rfl) (by kernel_rfl) (aC h1 (aC h2 (aC (dF h3) (aC (dF h4) (aO (dT h5)))))) (by kernel_rfl)
theorem y8k {a0:RW} {a1_0 a1_1 a1_2 a1_3:BA} {v3:Nat} {v4:RW} {v5:Bool} {v6:RW} (h1:Fn E A8 [] (.c (.bool true))) (h2:Fn E A6 [.c (.list a0),.c (.list [])] (.c (.bool true))) (h3:¬ (a1_0.size:Int) > 40) (h4:¬ (a1_1.size:Int) > 40) (h5:¬ (a1_2.size:Int) > 40) (h6:Rn E B3 [.c (.list a0)] [] (.vec 0 v3) [some (.vec A9 v4)]) (h7:Lp E 2 C8 0 (H0 a0 v3 a0 (a0.length:Int) 0 a1_0 a1_1 a1_2 a1_3 v4) .ret (z1v a1_0 a1_1 a1_2 a1_3 v5 v6)) :Fn E C8 [.c (.list a0),.agg [.str a1_0,.str a1_1,.str a1_2,.str a1_3]] (.c (.bool v5)):=by
 exact fnMk [.v (.c (.bool true)),.v (.c (.bool true)),.t false,.t false,.t false,.nw v3 A9 v4,.loop [0,3,5,39,40,41] [] .ret (z1v a1_0 a1_1 a1_2 a1_3 v5 v6)] (by kernel_rfl) (by kernel_rfl) (aC h1 (aC h2 (aC (dF h3) (aC (dF h4) (aC (dF h5) (aC h6 (aO h7))))))) (by kernel_rfl)
theorem z8q {a0:RW} {a1_0 a1_1 a1_2 a1_3:BA} {v3:Nat} {v4 v5 v6:RW} {v7 v8 v9 v10:BA} {v11:Int} {v12:Nat} {v13 v14:RW} {v15 v16 v17 v18:BA} {v19:Int} (e1:(v5.take v3)=v6) (e2:(v13.take v12)=v14) (h1:Fn E A8 [] (.c (.bool true))) (h2:Fn E A6 [.c (.list a0),.c (.list [])] (.c (.bool true))) (h3:¬ (a1_0.size:Int) > 40) (h4:¬ (a1_1.size:Int) > 40) (h5:¬ (a1_2.size:Int) > 40) (h6:Rn E B3 [.c (.list a0)] [] (.vec 0 v3) [some (.vec A9 v4)]) (h7:Lp E 2 C8 0 (H0 a0 v3 a0 (a0.length:Int) 0 a1_0 a1_1 a1_2 a1_3 v4) (.exit 0) (K5 a0 v3 a1_0 a1_1 a1_2 a1_3 v5)) (h8:Fn E B8 [.c (.list v6)] (.tup [.agg [.str v7,.str v8,.str v9,.str v10],.c (.i64 v11)])) (h9:Rn E B3 [.c (.list a0)] [] (.vec 0 v12) [some (.vec A9 v13)]) (h10:Fn E B8 [.c (.list v14)] (.tup [.agg [.str v15,.str v16,.str v17,.str v18],.c (.i64 v19)])) (h11:¬ v11=0) (h12:((v7 == (⟨#[]⟩:BA)) && ((v8 == (⟨#[]⟩:BA)) && ((v9 == (⟨#[]⟩:BA)) && ((v10 == (⟨#[]⟩:BA)) && true))))=true) (h13:v19=v11) :Fn E C8 [.c (.list a0),.agg [.str a1_0,.str a1_1,.str a1_2,.str a1_3]] (.c (.bool true)):=by
 subst e1 e2
 exact fnMk [.v (.c (.bool true)),.v (.c (.bool true)),.t false,.t false,.t false,.nw v3 A9 v4,.loop [0,3,5,39,40,41] [] (.exit 0) (K5 a0 v3 a1_0 a1_1 a1_2 a1_3 v5),.v (.tup [.agg [.str v7,.str v8,.str v9,.str v10],.c (.i64 v11)]),.nw v12 A9 v13,.v (.tup [.agg [.str v15,.str v16,.str v17,.str v18],.c (.i64 v19)]),.t true,.t true,.t true] (by kernel_rfl) (by kernel_rfl) (aC h1 (aC h2 (aC (dF h3) (aC (dF h4) (aC (dF h5) (aC h6 (aC h7 (aC h8 (aC h9 (aC h10 (aC (bnT h11) (aC (id h12) (aO (beT h13)))))))))))))) (by kernel_rfl)
theorem y8l {a0:RW} {a1_0 a1_1 a1_2 a1_3:BA} {v3:Nat} {v4 v5 v6:RW} {v7 v8 v9 v10:BA} {v11:Int} {v12:Nat} {v13 v14:RW} {v15 v16 v17 v18:BA} {v19:Int} (e1:(v5.take v3)=v6) (e2:(v13.take v12)=v14) (h1:Fn E A8 [] (.c (.bool true))) (h2:Fn E A6 [.c (.list a0),.c (.list [])] (.c (.bool true))) (h3:¬ (a1_0.size:Int) > 40) (h4:¬ (a1_1.size:Int) > 40) (h5:¬ (a1_2.size:Int) > 40) (h6:Rn E B3 [.c (.list a0)] [] (.vec 0 v3) [some (.vec A9 v4)]) (h7:Lp E 2 C8 0 (H0 a0 v3 a0 (a0.length:Int) 0 a1_0 a1_1 a1_2 a1_3 v4) (.exit 0) (K5 a0 v3 a1_0 a1_1 a1_2 a1_3 v5)) (h8:Fn E B8 [.c (.list v6)] (.tup [.agg [.str v7,.str v8,.str v9,.str v10],.c (.i64 v11)])) (h9:Rn E B3 [.c (.list a0)] [] (.vec 0 v12) [some (.vec A9 v13)]) (h10:Fn E B8 [.c (.list v14)] (.tup [.agg [.str v15,.str v16,.str v17,.str v18],.c (.i64 v19)])) (h11:¬ v11=0) (h12:((v7 == (⟨#[]⟩:BA)) && ((v8 == (⟨#[]⟩:BA)) && ((v9 == (⟨#[]⟩:BA)) && ((v10 == (⟨#[]⟩:BA)) && true))))=true) (h13:¬ v19=v11) (h14:v19=1) :Fn E C8 [.c (.list a0),.agg [.str a1_0,.str a1_1,.str a1_2,.str a1_3]] (.c (.bool true)):=by
 subst e1 e2
 exact fnMk [.v (.c (.bool true)),.v (.c (.bool true)),.t false,.t false,.t false,.nw v3 A9 v4,.loop [0,3,5,39,40,41] [] (.exit 0) (K5 a0 v3 a1_0 a1_1 a1_2 a1_3 v5),.v (.tup [.agg [.str v7,.str v8,.str v9,.str v10],.c (.i64 v11)]),.nw v12 A9 v13,.v (.tup [.agg [.str v15,.str v16,.str v17,.str v18],.c (.i64 v19)]),.t true,.t true,.t false,.t true] (by kernel_rfl) (by kernel_rfl) (aC h1 (aC h2 (aC (dF h3) (aC (dF h4) (aC (dF h5) (aC h6 (aC h7 (aC h8 (aC h9 (aC h10 (aC (bnT h11) (aC (id h12) (aC (beF h13) (aO (beT h14))))))))))))))) (by kernel_rfl)
theorem y8m {a0:RW} {a1_0 a1_1 a1_2 a1_3:BA} {v3:Nat} {v4 v5 v6:RW} {v7 v8 v9 v10:BA} {v11:Int} {v12:Nat} {v13 v14:RW} {v15 v16 v17 v18:BA} {v19:Int} (e1:(v5.take v3)=v6) (e2:(v13.take v12)=v14) (h1:Fn E A8 [] (.c (.bool true))) (h2:Fn E A6 [.c (.list a0),.c (.list [])] (.c (.bool true))) (h3:¬ (a1_0.size:Int) > 40) (h4:¬ (a1_1.size:Int) > 40) (h5:¬ (a1_2.size:Int) > 40) (h6:Rn E B3 [.c (.list a0)] [] (.vec 0 v3) [some (.vec A9 v4)]) (h7:Lp E 2 C8 0 (H0 a0 v3 a0 (a0.length:Int) 0 a1_0 a1_1 a1_2 a1_3 v4) (.exit 0) (K5 a0 v3 a1_0 a1_1 a1_2 a1_3 v5)) (h8:Fn E B8 [.c (.list v6)] (.tup [.agg [.str v7,.str v8,.str v9,.str v10],.c (.i64 v11)])) (h9:Rn E B3 [.c (.list a0)] [] (.vec 0 v12) [some (.vec A9 v13)]) (h10:Fn E B8 [.c (.list v14)] (.tup [.agg [.str v15,.str v16,.str v17,.str v18],.c (.i64 v19)])) (h11:v11=0) (h12:((v7 == a1_0) && ((v8 == a1_1) && ((v9 == a1_2) && ((v10 == (⟨#[48]⟩:BA)) && true))))=true) :Fn E C8 [.c (.list a0),.agg [.str a1_0,.str a1_1,.str a1_2,.str a1_3]] (.c (.bool true)):=by
 subst e1 e2
 exact fnMk [.v (.c (.bool true)),.v (.c (.bool true)),.t false,.t false,.t false,.nw v3 A9 v4,.loop [0,3,5,39,40,41] [] (.exit 0) (K5 a0 v3 a1_0 a1_1 a1_2 a1_3 v5),.v (.tup [.agg [.str v7,.str v8,.str v9,.str v10],.c (.i64 v11)]),.nw v12 A9 v13,.v (.tup [.agg [.str v15,.str v16,.str v17,.str v18],.c (.i64 v19)]),.t false,.t true] (by kernel_rfl) (by kernel_rfl) (aC h1 (aC h2 (aC (dF h3) (aC (dF h4) (aC (dF h5) (aC h6 (aC h7 (aC h8 (aC h9 (aC h10 (aC (bnF h11) (aO (id h12))))))))))))) (by kernel_rfl)
theorem y5t {a0:RW} {a1_0 a1_1 a1_2 a1_3:BA} (h1:Fn E A8 [] (.c (.bool true))) (h2:Fn E A6 [.c (.list a0),.c (.list [])] (.c (.bool false))) :Fn E C8 [.c (.list a0),.agg [.str a1_0,.str a1_1,.str a1_2,.str a1_3]] (.c (.bool true)):=by
 exact fnMk [.v (.c (.bool true)),.v (.c (.bool false))] (by kernel_rfl) (by kernel_rfl) (aC h1 (aO h2)) (by kernel_rfl)
theorem x7l {v1:RW} {v2 v3 v4 v5:BA} {v6:Int} {v7:RW} {v8 v9 v10 v11 v12 v13:BA} {v14:Int} {v15:RW} {v16:Int} {v17:BA} {v18:Int} {v19 v20 v21:BA} {v22 v23 v24:Int} {v25:RW} (e1:(([[.str ⟨#[48]⟩],[.str ⟨#[48]⟩],[.str ⟨#[48]⟩],[.str ⟨#[48]⟩]]:RW).take 4)=v25) (h1:Fn E y1w [] (.c (.list v1))) (h2:Fn E B8 [.c (.list v1)] (.tup [.agg [.str v2,.str v3,.str v4,.str v5],.c (.i64 v6)])) (h3:Fn E y0d [] (.c (.list v7))) (h4:Fn E U6 [.c (.list v1),.c (.list v7),.c (.str ⟨#[53]⟩),.c (.str ⟨#[49,48]⟩),.c (.str ⟨#[52,49,47,52,48]⟩)] (.tup [.agg [.str v8,.str v9,.str v10,.str v11,.str v12,.str v13],.c (.i64 v14)])) (h5:Fn E B2 [.c (.list v1),.agg [.str v2,.str v3,.str v4,.str v5]] (.tup [.c (.list v15),.c (.i64 v16)])) (h6:Fn E z3c [.agg [.str v2,.str v3,.str v4,.str v5],.c (.str ⟨#[53]⟩),.c (.str ⟨#[48]⟩)] (.tup [.c (.str v17),.c (.i64 v18)])) (h7:Fn E A5 [.c (.list v7),.c (.str ⟨#[49,49,47,50]⟩)] (.tup [.agg [.str v19,.str v20,.str v21],.c (.i64 v22)])) (h8:Fn E F7 [.c (.list v1)] (.tup [.c (.i64 v23),.c (.i64 v24)])) (h9:v6=0) (h10:v14=0) (h11:v16=0) (h12:v18=0) (h13:v22=0) (h14:v24=0) (h15:((v2 == (⟨#[53]⟩:BA)) && ((v3 == (⟨#[49,47,49,48]⟩:BA)) && ((v4 == (⟨#[48]⟩:BA)) && ((v5 == (⟨#[48]⟩:BA)) && true))))=true) (h16:((v8 == (⟨#[49,49,47,50]⟩:BA)) && ((v9 == (⟨#[49]⟩:BA)) && ((v10 == (⟨#[48]⟩:BA)) && ((v11 == (⟨#[49,54,52]⟩:BA)) && ((v12 == (⟨#[55,47,52]⟩:BA)) && ((v13 == (⟨#[48]⟩:BA)) && true))))))=true) (h17:Fn E M5 [.c (.list v15),.c (.list v25)] (.c (.bool true))) (h18:v17=(⟨#[49,49,47,50]⟩:BA)) (h19:v20=(⟨#[49,54,48]⟩:BA)) (h20:v23=0) :Fn E A8 [] (.c (.bool true)):=by
 subst e1
 exact fnMk [.v (.c (.list v1)),.v (.tup [.agg [.str v2,.str v3,.str v4,.str v5],.c (.i64 v6)]),.v (.c (.list v1)),.v (.c (.list v7)),.v (.tup [.agg [.str v8,.str v9,.str v10,.str v11,.str v12,.str v13],.c (.i64 v14)]),.v (.c (.list v1)),.v (.tup [.c (.list v15),.c (.i64 v16)]),.v (.tup [.c (.str v17),.c (.i64 v18)]),.v (.c (.list v7)),.v (.tup [.agg [.str v19,.str v20,.str v21],.c (.i64 v22)]),.v (.c (.list v1)),.v (.tup [.c (.i64 v23),.c (.i64 v24)]),.t true,.t true,.t true,.t true,.t true,.t true,.t true,.t true,.v (.c (.bool true)),.t true,.t true,.t true] (by kernel_rfl) (by kernel_rfl) (aC h1 (aC h2 (aC h1 (aC h3 (aC h4 (aC h1 (aC h5 (aC h6 (aC h3 (aC h7 (aC h1 (aC h8 (aC (beT h9) (aC (beT h10) (aC (beT h11) (aC (beT h12) (aC (beT h13) (aC (beT h14) (aC (id h15) (aC (id h16) (aC h17 (aC (seT h18) (aC (seT h19) (aO (beT h20))))))))))))))))))))))))) (by kernel_rfl)
theorem x8r {v1:RW} (e1:(([[.str ⟨#[97]⟩,.str ⟨#[48]⟩,.str ⟨#[48]⟩,.str ⟨#[53]⟩],[.str ⟨#[98]⟩,.str ⟨#[49,48]⟩,.str ⟨#[48]⟩,.str ⟨#[54]⟩],[.str ⟨#[99]⟩,.str ⟨#[48]⟩,.str ⟨#[52]⟩,.str ⟨#[53]⟩],[.str ⟨#[100]⟩,.str ⟨#[49,48]⟩,.str ⟨#[52]⟩,.str ⟨#[54]⟩]]:RW).take 4)=v1) :Fn E y1w [] (.c (.list v1)):=by
 subst e1
 exact fnMk [] (by kernel_rfl) (by kernel_rfl) aN (by kernel_rfl)
theorem x7k {v1:RW} (e1:(([[.str ⟨#[52]⟩,.str ⟨#[49,48,48]⟩,.str ⟨#[49]⟩],[.str ⟨#[54]⟩,.str ⟨#[49,56,48]⟩,.str ⟨#[50]⟩]]:RW).take 2)=v1) :Fn E y0d [] (.c (.list v1)):=by
 subst e1
 exact fnMk [] (by kernel_rfl) (by kernel_rfl) aN (by kernel_rfl)
end Gev
namespace Gev
open Go Gb
variable {E:Env}
def sh4 (m:Mk):Bool:=decide (m.1.length≤70) && (decide (m.2.1.length≤40) && (decide (m.2.2.1.length≤40) && decide (m.2.2.2.length≤40)))
def sh3 (m:D3):Bool:=decide (m.1.length≤40) && (decide (m.2.1.length≤40) && decide (m.2.2.length≤40))
theorem fewS_loop0 {l:List Mk} {t:RW} (hl:l.length≤9223372036854775807):∀ d i:Nat,i+d=l.length →
    (l.drop i).all sh4=true∧Lp E 0 A6 0 (K6 (R4 l) t (i:Nat)) (.exit 0) (U5 (R4 l) t) ∨
    (l.drop i).all sh4=false∧Lp E 0 A6 0 (K6 (R4 l) t (i:Nat)) .ret z1t
 | 0,i,hi=>.inl ⟨by rw [List.drop_eq_nil_of_le (by omega)]; rfl,x1g (by rw [R4_len]; omega)⟩
 | d+1,i,hi=>by
  obtain ⟨m,hc⟩:=get_ex (l:=l) (i:=i) (by omega)
  have g:=R4_get hc
  rw [← Int.toNat_natCast i] at g
  rw [drop_get hc,List.all_cons]
  have hlt:(i:Int) < ((R4 l).length:Int):=by rw [R4_len]; omega
  by_cases h1:m.1.length≤70
  · by_cases h2:m.2.1.length≤40
    · by_cases h3:m.2.2.1.length≤40
      · by_cases h4:m.2.2.2.length≤40
        · have e:sh4 m=true:=by unfold sh4; rw [decide_eq_true h1,decide_eq_true h2,decide_eq_true h3,decide_eq_true h4]; rfl
          rw [e,Bool.true_and]
          have st:∀ {o s},Lp E 0 A6 0 (K6 (R4 l) t ((i+1:Nat):Int)) o s→Lp E 0 A6 0 (K6 (R4 l) t (i:Nat)) o s:=fun h=>x4u (wi (by omega)) hlt (by omega) g (by rw [B_size]; omega) (by rw [B_size]; omega) (by rw [B_size]; omega) (by rw [B_size]; omega) h
          rcases fewS_loop0 hl d (i+1) (by omega) with ⟨k1,k2⟩ | ⟨k1,k2⟩
          · exact .inl ⟨k1,st k2⟩
          · exact .inr ⟨k1,st k2⟩
        · have e:sh4 m=false:=by unfold sh4; rw [decide_eq_false h4]; simp
          rw [e]
          exact .inr ⟨rfl,x1f hlt (by omega) g (by rw [B_size]; omega) (by rw [B_size]; omega) (by rw [B_size]; omega) (by rw [B_size]; omega)⟩
      · have e:sh4 m=false:=by unfold sh4; rw [decide_eq_false h3]; simp
        rw [e]
        exact .inr ⟨rfl,x1e hlt (by omega) g (by rw [B_size]; omega) (by rw [B_size]; omega) (by rw [B_size]; omega)⟩
    · have e:sh4 m=false:=by unfold sh4; rw [decide_eq_false h2]; simp
      rw [e]
      exact .inr ⟨rfl,x1d hlt (by omega) g (by rw [B_size]; omega) (by rw [B_size]; omega)⟩
  · have e:sh4 m=false:=by unfold sh4; rw [decide_eq_false h1]; simp
    rw [e]
    exact .inr ⟨rfl,x1c hlt (by omega) g (by rw [B_size]; omega)⟩
theorem fewS_loop1 {l:RW} {t:List D3} (hl:t.length≤9223372036854775807):∀ d i:Nat,i+d=t.length →
    (t.drop i).all sh3=true∧Lp E 0 A6 1 (N6 l (R3 t) (i:Nat)) (.exit 2) (z0i l (R3 t)) ∨
    (t.drop i).all sh3=false∧Lp E 0 A6 1 (N6 l (R3 t) (i:Nat)) .ret z2t
 | 0,i,hi=>.inl ⟨by rw [List.drop_eq_nil_of_le (by omega)]; rfl,x1k (by rw [R3_len]; omega)⟩
 | d+1,i,hi=>by
  obtain ⟨m,hc⟩:=get_ex (l:=t) (i:=i) (by omega)
  have g:=R3_get hc
  rw [← Int.toNat_natCast i] at g
  rw [drop_get hc,List.all_cons]
  have hlt:(i:Int) < ((R3 t).length:Int):=by rw [R3_len]; omega
  by_cases h1:m.1.length≤40
  · by_cases h2:m.2.1.length≤40
    · by_cases h3:m.2.2.length≤40
      · have e:sh3 m=true:=by unfold sh3; rw [decide_eq_true h1,decide_eq_true h2,decide_eq_true h3]; rfl
        rw [e,Bool.true_and]
        have st:∀ {o s},Lp E 0 A6 1 (N6 l (R3 t) ((i+1:Nat):Int)) o s→Lp E 0 A6 1 (N6 l (R3 t) (i:Nat)) o s:=fun h=>x4v (wi (by omega)) hlt (by omega) g (by rw [B_size]; omega) (by rw [B_size]; omega) (by rw [B_size]; omega) h
        rcases fewS_loop1 hl d (i+1) (by omega) with ⟨k1,k2⟩ | ⟨k1,k2⟩
        · exact .inl ⟨k1,st k2⟩
        · exact .inr ⟨k1,st k2⟩
      · have e:sh3 m=false:=by unfold sh3; rw [decide_eq_false h3]; simp
        rw [e]
        exact .inr ⟨rfl,x1j hlt (by omega) g (by rw [B_size]; omega) (by rw [B_size]; omega) (by rw [B_size]; omega)⟩
    · have e:sh3 m=false:=by unfold sh3; rw [decide_eq_false h2]; simp
      rw [e]
      exact .inr ⟨rfl,x1i hlt (by omega) g (by rw [B_size]; omega) (by rw [B_size]; omega)⟩
  · have e:sh3 m=false:=by unfold sh3; rw [decide_eq_false h1]; simp
    rw [e]
    exact .inr ⟨rfl,x1h hlt (by omega) g (by rw [B_size]; omega)⟩
def fewS (l:List Mk) (t:List D3):Bool:=l.all sh4 && (t.all sh3 && (decide (l.length≤17) && decide (t.length≤33)))
theorem r53_Few {l:List Mk} {t:List D3} (hl:l.length≤9223372036854775807) (ht:t.length≤9223372036854775807):Fn E A6 [.c (.list (R4 l)),.c (.list (R3 t))] (.c (.bool (fewS l t))):=by
 have h0:=fewS_loop0 (E:=E) (t:=R3 t) hl l.length 0 (by omega)
 have h1:=fewS_loop1 (E:=E) (l:=R4 l) ht t.length 0 (by omega)
 rw [List.drop_zero] at h0 h1
 unfold fewS
 rcases h0 with ⟨a1,a2⟩ | ⟨a1,a2⟩
 · rw [a1,Bool.true_and]
   rcases h1 with ⟨b1,b2⟩ | ⟨b1,b2⟩
   · rw [b1,Bool.true_and]
     by_cases c1:l.length≤17
     · rw [decide_eq_true c1,Bool.true_and]
       by_cases c2:t.length≤33
       · rw [decide_eq_true c2]; exact k1a a2 b2 (by rw [R4_len]; omega) (by rw [R3_len]; omega)
       · rw [decide_eq_false c2]; exact k1b a2 b2 (by rw [R4_len]; omega) (by rw [R3_len]; omega)
     · rw [decide_eq_false c1,Bool.false_and]; exact k1c a2 b2 (by rw [R4_len]; omega)
   · rw [b1,Bool.false_and]; exact k0z a2 b2
 · rw [a1,Bool.false_and]; exact k0y a2
theorem fewS_short {l:List Mk} {t:List D3} (h:fewS l t=true):(∀ m∈l,m.1.length≤70∧m.2.1.length≤40∧m.2.2.1.length≤40∧m.2.2.2.length≤40)∧(∀ m∈t,m.1.length≤40∧m.2.1.length≤40∧m.2.2.length≤40)∧l.length≤17∧t.length≤33:=by
 unfold fewS at h
 simp only [Bool.and_eq_true,decide_eq_true_eq,List.all_eq_true] at h
 obtain ⟨h1,h2,h3,h4⟩:=h
 refine ⟨fun m hm=>?_,fun m hm=>?_,h3,h4⟩
 · have:=h1 m hm
   unfold sh4 at this
   simpa using this
 · have:=h2 m hm
   unfold sh3 at this
   simpa using this
theorem fewS_Short {l:List Mk} {t:List D3} (h:fewS l t=true):Short l∧ShortD t:=by
 obtain ⟨h1,h2,h3,h4⟩:=fewS_short h
 exact ⟨⟨by omega,fun m hm=>by have:=h1 m hm; omega⟩,by omega,fun m hm=>by have:=h2 m hm; omega⟩
theorem R4_take (l:List Mk):(R4 l).take l.length=R4 l:=List.take_of_length_le (by rw [R4_len]; omega)
theorem b_self (l:List UInt8):(B l == B l)=true:=by rw [B_beq]; simp
theorem and4 (a b c d:List UInt8):((B a == B a) && ((B b == B b) && ((B c == B c) && ((B d == B d) && true))))=true:=by rw [b_self,b_self,b_self,b_self]; rfl
theorem fitA_form (l:List Mk):∃ (a b c d:List UInt8) (e:Int),fitA l=.tup [.agg [.str (B a),.str (B b),.str (B c),.str (B d)],.c (.i64 e)]:=by
 unfold fitA
 split
 · exact fitRes_form _ _
 · exact ⟨[],[],[],[],_,rfl⟩
end Gev
namespace Gev
open Go Gb
variable {E:Env}
theorem equal_loop {xs:List Rat} (hl:xs.length < 9223372036854775807):∀ d i:Nat,i+d=xs.length→Lp E 0 M5 0 (z0u (Q1 xs) (Q1 xs) (xs.length:Nat) (i:Nat)) (.exit 0) z1x
 | 0,i,hi=>y0p (by omega)
 | d+1,i,hi=>by
  obtain ⟨c,hc⟩:=get_ex (l:=xs) (i:=i) (by omega)
  have g:=Q1_get hc
  rw [← Int.toNat_natCast i] at g
  exact y2f (wi (by omega)) (by omega) (by omega) g g rfl (equal_loop hl d (i+1) (by omega))
theorem equal_same {xs:List Rat} (hl:xs.length < 9223372036854775807):Fn E M5 [.c (.list (Q1 xs)),.c (.list (Q1 xs))] (.c (.bool true)):=by
 have h:=equal_loop (E:=E) hl xs.length 0 (by omega)
 rw [← Q1_len xs] at h
 exact y9q rfl h
end Gev
namespace Gev
open Go Gb
variable {E:Env}
attribute [local irreducible] Sz
end Gev
namespace Gev
open Go Gb
variable {E:Env}
attribute [local irreducible] Sz
theorem ok1_all3 (a b c:Rat):[decQ a,decQ b,decQ c].all ok1=true:=by
 rw [List.all_eq_true]
 intro x hx
 simp at hx
 rcases hx with rfl | rfl | rfl <;> exact ok1_dec _
theorem diffA_Tm {ms:List QM} (hn:ms.length≤16) (a b c:Rat):diffA (Tm ms) (decQ a) (decQ b) (decQ c)=(0,(pts ms).map (off3 a b c)):=by
 unfold diffA
 rw [Tm_ok,ok1_all3,Bool.true_and,if_pos rfl,Tm_len,if_neg (by omega),nums3_Tm,rdv_dec,rdv_dec,rdv_dec]
theorem qsum_map {α β:Type} (g:α→Rat) (f:β→α):∀ l:List β,qsum g (l.map f)=qsum (fun x=>g (f x)) l
 | []=>rfl
 | x::l=>by rw [List.map_cons,qsum_cons,qsum_cons,qsum_map g f l]
theorem fitA_no {l:List Mk} (h:startS l≠0∨fit3 (nums3 l)=none):∃ c:Int,c≠0∧fitA l=.tup [.agg [.str ⟨#[]⟩,.str ⟨#[]⟩,.str ⟨#[]⟩,.str ⟨#[]⟩],.c (.i64 c)]:=by
 unfold fitA
 by_cases h0:startS l=0
 · rw [if_pos h0,h.resolve_left (fun h=>h h0)]; exact ⟨18,by decide,rfl⟩
 · rw [if_neg h0]; exact ⟨_,h0,rfl⟩
theorem fitA_yes {l:List Mk} {a b c:Rat} (h0:startS l=0) (h:fit3 (nums3 l)=some (a,b,c)):fitA l=.tup [.agg [.str (B (decQ a)),.str (B (decQ b)),.str (B (decQ c)),.str (B (decQ (sq3 a b c (nums3 l))))],.c (.i64 0)]:=by
 unfold fitA
 rw [if_pos h0,h]; rfl
end Gev
namespace Gev
open Go Gb
variable {E:Env}
attribute [local irreducible] Sz
end Gev
namespace Gev
open Go Gb
variable {E:Env}
attribute [local irreducible] Sz
theorem okN_Tm (ms:List QM):(Tm ms).all okN=ms.all fun m=>decide (m.1.length≤64):=by
 unfold Tm
 rw [List.all_map]
 congr 1
 funext m
 show okN (m.1,decQ (px m.2),decQ (py m.2),decQ (pz m.2))=_
 unfold okN
 rw [okM_dec]; rfl
theorem set_cut {α:Type} {f:α→α} {l:List α} {i:Nat} {m:α} (h:l[i]?=some m):((l.take i).map f++l.drop i).set i (f m)=(l.take (i+1)).map f++l.drop (i+1):=by
 have hi:i < l.length:=(List.getElem?_eq_some_iff.1 h).1
 have hlen:((l.take i).map f).length=i:=by rw [List.length_map,List.length_take]; omega
 rw [drop_get h,take_get h,List.map_append,List.set_append_right _ _ (by omega),hlen,Nat.sub_self,List.append_assoc]
 rfl
theorem get_cut {α:Type} {f:α→α} {l:List α} {i:Nat} {m:α} (h:l[i]?=some m):((l.take i).map f++l.drop i)[i]?=some m:=by
 have hi:i < l.length:=(List.getElem?_eq_some_iff.1 h).1
 have hlen:((l.take i).map f).length=i:=by rw [List.length_map,List.length_take]; omega
 rw [List.getElem?_append_right (by omega),hlen,Nat.sub_self,drop_get h]; rfl
end Gev
namespace Gev
open Go Gb
variable {E:Env}
attribute [local irreducible] Sz
noncomputable def zM (p q r:List UInt8) (m:Mk):Mk:=(m.1,m.2.1,m.2.2.1,(atA p q r m.2.1 m.2.2.1).2)
noncomputable def okZ (p q r:List UInt8) (m:Mk):Bool:=[p,q,r,m.2.1,m.2.2.1].all ok1
theorem R4_set (l:List Mk) (i:Nat) (m:Mk):(R4 l).set i [.str (B m.1),.str (B m.2.1),.str (B m.2.2.1),.str (B m.2.2.2)]=R4 (l.set i m):=by
 unfold R4; rw [List.map_set]
theorem Flat_loop (hlib:Lib E) {l:List Mk} {p q r s:List UInt8} (hs:Short l) (hp:p.length≤40) (hq:q.length≤40) (hr:r.length≤40):∀ d i:Nat,i+d=l.length →
    (l.drop i).all (okZ p q r)=true∧Lp E 2 C8 0 (H0 (R4 l) l.length (R4 l) (l.length:Nat) (i:Nat) (B p) (B q) (B r) (B s) (R4 ((l.take i).map (zM p q r)++l.drop i))) (.exit 0) (K5 (R4 l) l.length (B p) (B q) (B r) (B s) (R4 (l.map (zM p q r)))) ∨
    (l.drop i).all (okZ p q r)=false∧∃ w,Lp E 2 C8 0 (H0 (R4 l) l.length (R4 l) (l.length:Nat) (i:Nat) (B p) (B q) (B r) (B s) (R4 ((l.take i).map (zM p q r)++l.drop i))) .ret (z1v (B p) (B q) (B r) (B s) true w)
 | 0,i,hi=>by
  rw [List.take_of_length_le (by omega),List.drop_eq_nil_of_le (by omega),List.append_nil]
  exact .inl ⟨rfl,y0k (by omega)⟩
 | d+1,i,hi=>by
  have hl:=hs.1
  obtain ⟨m,hm⟩:=get_ex (l:=l) (i:=i) (by omega)
  have g:=R4_get hm
  have g2:=R4_get (get_cut (f:=zM p q r) hm)
  have hsm:=hs.2 m (List.mem_of_getElem? hm)
  have ha:=sur_At hlib (a:=p) (b:=q) (c:=r) (x:=m.2.1) (y:=m.2.2.1) (s:=B s) (by omega) (by omega) (by omega) (by omega) (by omega)
  have e:(l.drop i).all (okZ p q r)=(okZ p q r m && (l.drop (i+1)).all (okZ p q r)):=by rw [drop_get hm,List.all_cons]
  rw [e]
  cases ho:okZ p q r m with
  | false =>
   have ea:atA p q r m.2.1 m.2.2.1=(1,[]):=by unfold atA; rw [show [p,q,r,m.2.1,m.2.2.1].all ok1=false from ho]; rfl
   rw [ea] at ha
   exact .inr ⟨rfl,_,y0j (by omega) (by omega) (by rw [Int.toNat_natCast]; exact g) ha (by decide) rfl⟩
  | true =>
   have ea:(atA p q r m.2.1 m.2.2.1).1=0:=by unfold atA; rw [show [p,q,r,m.2.1,m.2.2.1].all ok1=true from ho]; rfl
   have es:=R4_set ((l.take i).map (zM p q r)++l.drop i) i (zM p q r m)
   rw [set_cut hm] at es
   have st:∀ {o t},Lp E 2 C8 0 (H0 (R4 l) l.length (R4 l) (l.length:Nat) ((i+1:Nat):Int) (B p) (B q) (B r) (B s) (R4 ((l.take (i+1)).map (zM p q r)++l.drop (i+1)))) o t→Lp E 2 C8 0 (H0 (R4 l) l.length (R4 l) (l.length:Nat) (i:Nat) (B p) (B q) (B r) (B s) (R4 ((l.take i).map (zM p q r)++l.drop i))) o t:=fun h =>
    y1z (by rw [Int.toNat_natCast]; exact es) (wi (by omega)) (by omega) (by omega) (by rw [Int.toNat_natCast]; exact g) ha ea (by omega) (by rw [Int.toNat_natCast]; exact g2) h
   rcases Flat_loop hlib hs hp hq hr d (i+1) (by omega) with ⟨k1,k2⟩ | ⟨k1,w,k2⟩
   · exact .inl ⟨by rw [k1]; rfl,st k2⟩
   · exact .inr ⟨by rw [k1]; rfl,w,st k2⟩
theorem dD_of {f:P3→P3} (hx:∀ q,px (f q)=px q) (hy:∀ q,py (f q)=py q) (qs:List P3):dD (qs.map f)=dD qs:=by
 have e1:nS (qs.map f)=nS qs:=by unfold nS; rw [List.length_map]
 have e2:xS (qs.map f)=xS qs:=by unfold xS; rw [qsum_map]; simp only [hx]
 have e3:yS (qs.map f)=yS qs:=by unfold yS; rw [qsum_map]; simp only [hy]
 have e4:xxS (qs.map f)=xxS qs:=by unfold xxS; rw [qsum_map]; simp only [hx]
 have e5:xyS (qs.map f)=xyS qs:=by unfold xyS; rw [qsum_map]; simp only [hx,hy]
 have e6:yyS (qs.map f)=yyS qs:=by unfold yyS; rw [qsum_map]; simp only [hy]
 unfold dD
 rw [e1,e2,e3,e4,e5,e6]
theorem fit3_none {qs:List P3}:fit3 qs=none↔dD qs=0:=by
 unfold fit3
 by_cases h:dD qs=0
 · rw [if_pos h]; exact ⟨fun _=>h,fun _=>rfl⟩
 · rw [if_neg h]; exact ⟨fun e=>(by cases e),fun e=>absurd e h⟩
def fl (a b c:Rat) (q:P3):P3:=(px q,py q,a+(b*px q+c*py q))
theorem off_fl (a b c:Rat) (q:P3):off3 a b c (fl a b c q)=0:=by
 unfold off3
 show (a+(b*px q+c*py q)) - (a+(b*px q+c*py q))=0
 exact Rat.sub_self
theorem numM_zM {p q r:List UInt8} {m:Mk} (h:okZ p q r m=true):numM (zM p q r m)=fl (rdv p) (rdv q) (rdv r) (numM m):=by
 have e:(atA p q r m.2.1 m.2.2.1).2=decQ (rdv p+(rdv q*rdv m.2.1+rdv r*rdv m.2.2.1)):=by
  unfold atA; rw [show [p,q,r,m.2.1,m.2.2.1].all ok1=true from h]; rfl
 show (rdv m.2.1,rdv m.2.2.1,rdv (atA p q r m.2.1 m.2.2.1).2)=_
 rw [e,rdv_dec]; rfl
theorem nums3_zM {p q r:List UInt8} {l:List Mk} (h:l.all (okZ p q r)=true):nums3 (l.map (zM p q r))=(nums3 l).map (fl (rdv p) (rdv q) (rdv r)):=by
 rw [List.all_eq_true] at h
 unfold nums3
 rw [List.map_map,List.map_map]
 exact List.map_congr_left fun m hm=>numM_zM (h m hm)
theorem okZ_parts {p q r:List UInt8} {m:Mk} (h:okZ p q r m=true):ok1 p=true∧ok1 q=true∧ok1 r=true∧ok1 m.2.1=true∧ok1 m.2.2.1=true:=by
 unfold okZ at h
 rw [List.all_eq_true] at h
 exact ⟨h _ (by simp),h _ (by simp),h _ (by simp),h _ (by simp),h _ (by simp)⟩
theorem okN_zM {p q r:List UInt8} {m:Mk} (h:okZ p q r m=true) (k:okN m=true):okN (zM p q r m)=true:=by
 obtain ⟨_,_,_,h4,h5⟩:=okZ_parts h
 have e:(atA p q r m.2.1 m.2.2.1).2=decQ (rdv p+(rdv q*rdv m.2.1+rdv r*rdv m.2.2.1)):=by
  unfold atA; rw [show [p,q,r,m.2.1,m.2.2.1].all ok1=true from h]; rfl
 unfold okN at k ⊢
 rw [Bool.and_eq_true] at k ⊢
 refine ⟨?_,k.2⟩
 show [m.2.1,m.2.2.1,(atA p q r m.2.1 m.2.2.1).2].all ok1=true
 rw [e]
 simp [h4,h5,ok1_dec]
theorem Sz_rdv {x:List UInt8} (h:ok1 x=true) (k:x.length≤40):Sz (rdv x) 40:=by
 obtain ⟨u,rfl⟩:=ok1_dec' h
 rw [rdv_dec]
 exact Sz.of_len k
theorem Short_zM {p q r:List UInt8} {l:List Mk} (h:l.all (okZ p q r)=true) (hf:fewS l []=true) (hp:p.length≤40) (hq:q.length≤40) (hr:r.length≤40):Short (l.map (zM p q r)):=by
 obtain ⟨h1,_,h3,_⟩:=fewS_short hf
 rw [List.all_eq_true] at h
 refine ⟨by rw [List.length_map]; omega,fun m hm=>?_⟩
 obtain ⟨n,hn,rfl⟩:=List.mem_map.1 hm
 have k:=h1 n hn
 have ho:=h n hn
 obtain ⟨o1,o2,o3,o4,o5⟩:=okZ_parts ho
 have e:(atA p q r n.2.1 n.2.2.1).2=decQ (rdv p+(rdv q*rdv n.2.1+rdv r*rdv n.2.2.1)):=by
  unfold atA; rw [show [p,q,r,n.2.1,n.2.2.1].all ok1=true from ho]; rfl
 have z:=((Sz_rdv o1 hp).add (((Sz_rdv o2 hq).mul (Sz_rdv o4 k.2.1)).add ((Sz_rdv o3 hr).mul (Sz_rdv o5 k.2.2.1)))).len
 show n.1.length≤4000∧n.2.1.length≤4000∧n.2.2.1.length≤4000∧(atA p q r n.2.1 n.2.2.1).2.length≤4000
 rw [e]
 omega
theorem law_SurveyFlat (hlib:Lib E) (hcs:Cs E) (haw:Fn E A8 [] (.c (.bool true))) (l:List Mk) (p q r s:List UInt8) (hl:l.length≤9223372036854775807):Fn E C8 [.c (.list (R4 l)),.agg [.str (B p),.str (B q),.str (B r),.str (B s)]] (.c (.bool true)):=by
 have hf:=r53_Few (E:=E) (l:=l) (t:=[]) hl (by decide)
 cases hb:fewS l [] with
 | false=>rw [hb] at hf; exact y5t haw hf
 | true =>
  rw [hb] at hf
  have hm:=(fewS_Short hb).1
  by_cases h1:p.length≤40
  · by_cases h2:q.length≤40
    · by_cases h3:r.length≤40
      · have n1:¬ ((B p).size:Int) > 40:=by rw [B_size]; omega
        have n2:¬ ((B q).size:Int) > 40:=by rw [B_size]; omega
        have n3:¬ ((B r).size:Int) > 40:=by rw [B_size]; omega
        have hc:=hcs.mark l hm.1
        have L:=Flat_loop hlib (s:=s) hm h1 h2 h3 l.length 0 (by omega)
        rw [List.take_zero,List.map_nil,List.nil_append,List.drop_zero] at L
        have ln:((l.length:Nat):Int)=((R4 l).length:Int):=by rw [R4_len]
        rcases L with ⟨ho,L⟩ | ⟨_,w,L⟩
        · rw [ln] at L
          have hz:=Short_zM ho hb h1 h2 h3
          have k1:=sur_Fit hlib hz
          have k2:=sur_Fit hlib hm
          have tk:(R4 (l.map (zM p q r))).take l.length=R4 (l.map (zM p q r)):=List.take_of_length_le (by rw [R4_len,List.length_map]; omega)
          have hd:dD (nums3 (l.map (zM p q r)))=dD (nums3 l):=by rw [nums3_zM ho]; exact dD_of (f:=fl (rdv p) (rdv q) (rdv r)) (fun _=>rfl) (fun _=>rfl) _
          by_cases hs:startS (l.map (zM p q r))=0∧fit3 (nums3 (l.map (zM p q r)))≠none
          · obtain ⟨hs,hfn⟩:=hs
            have hfl:=fit3_flat (qs:=nums3 (l.map (zM p q r))) (a:=rdv p) (b:=rdv q) (c:=rdv r) (by
             intro x hx
             rw [nums3_zM ho] at hx
             obtain ⟨y,_,rfl⟩:=List.mem_map.1 hx
             exact off_fl _ _ _ y)
            rw [if_neg (fun e=>hfn (fit3_none.2 e))] at hfl
            rw [fitA_yes hs hfl.1,hfl.2] at k1
            obtain ⟨ms,e,hms,_⟩:=startS_zero hs
            have hne:0 < l.length:=by
             have:=congrArg List.length e
             rw [List.length_map,Tm_len] at this
             omega
            obtain ⟨m,hm0⟩:=get_ex (l:=l) (i:=0) hne
            obtain ⟨o1,o2,o3,_,_⟩:=okZ_parts (List.all_eq_true.1 ho m (List.mem_of_getElem? hm0))
            obtain ⟨a,rfl⟩:=ok1_dec' o1
            obtain ⟨b,rfl⟩:=ok1_dec' o2
            obtain ⟨c,rfl⟩:=ok1_dec' o3
            rw [rdv_dec,rdv_dec,rdv_dec,decQ_zero] at k1
            obtain ⟨x1,x2,x3,x4,x5,hx⟩:=fitA_form l
            rw [hx] at k2
            exact y8m tk (R4_take _) haw hf n1 n2 n3 hc L k1 hc k2 rfl (and4 _ _ _ [48])
          · have hno:startS (l.map (zM p q r))≠0∨fit3 (nums3 (l.map (zM p q r)))=none:=by
             by_cases h0:startS (l.map (zM p q r))=0
             · exact .inr (Classical.not_not.1 fun h=>hs ⟨h0,h⟩)
             · exact .inl h0
            cases hN:l.all okN with
            | false =>
             have s1:startS l=1:=by unfold startS; rw [hN]; rfl
             have e2:fitA l=.tup [.agg [.str ⟨#[]⟩,.str ⟨#[]⟩,.str ⟨#[]⟩,.str ⟨#[]⟩],.c (.i64 1)]:=by unfold fitA; rw [s1]; rfl
             obtain ⟨c,hc0,e1⟩:=fitA_no hno
             rw [e1] at k1
             rw [e2] at k2
             by_cases c1:(1:Int)=c
             · exact z8q tk (R4_take _) haw hf n1 n2 n3 hc L k1 hc k2 hc0 rfl c1
             · exact y8l tk (R4_take _) haw hf n1 n2 n3 hc L k1 hc k2 hc0 rfl c1 rfl
            | true =>
             have hN':(l.map (zM p q r)).all okN=true:=by
              rw [List.all_map,List.all_eq_true]
              intro m hm'
              exact okN_zM (List.all_eq_true.1 ho m hm') (List.all_eq_true.1 hN m hm')
             have hst:startS (l.map (zM p q r))=startS l:=by unfold startS; rw [hN,hN',List.length_map]
             have e2:fitA l=fitA (l.map (zM p q r)):=by
              unfold fitA
              rw [hst]
              by_cases h0:startS l=0
              · rw [if_pos h0,if_pos h0]
                have f1:=hno.resolve_left (fun h=>h (hst.trans h0))
                have f2:fit3 (nums3 l)=none:=fit3_none.2 (hd ▸ fit3_none.1 f1)
                rw [f1,f2]; rfl
              · rw [if_neg h0,if_neg h0]
             obtain ⟨c,hc0,e1⟩:=fitA_no hno
             rw [e2] at k2
             rw [e1] at k1 k2
             exact z8q tk (R4_take _) haw hf n1 n2 n3 hc L k1 hc k2 hc0 rfl rfl
        · rw [ln] at L
          exact y8k haw hf n1 n2 n3 hc L
      · exact y8j haw hf (by rw [B_size]; omega) (by rw [B_size]; omega) (by rw [B_size]; omega)
    · exact y8i haw hf (by rw [B_size]; omega) (by rw [B_size]; omega)
  · exact y8h haw hf (by rw [B_size]; omega)
end Gev
namespace Gev
open Go Gb
end Gev
namespace Gev
open Go Gb
variable {E:Env}
attribute [local irreducible] Sz
end Gev
namespace Gev
open Go Gb Go.Proofs
variable {E:Env}
attribute [local irreducible] Sz
theorem txn {l:List UInt8} {q:Rat} (hd:q.den=1) (hn:q.num=(dval l:Nat)) (h:natB l=true):decQ q=l:=by
 rw [decQ_int hd,hn,decZ_nat]; exact ((natB_iff.1 h).eq_dec).symm
theorem txf {a b:List UInt8} {q:Rat} (hn:q.num=(dval a:Nat)) (hd:q.den=dval b) (h1:q.den≠1) (ha:natB a=true) (hb:natB b=true):decQ q=a++47::b:=by
 rw [decQ_frac h1,hn,hd,decZ_nat,← (natB_iff.1 ha).eq_dec,← (natB_iff.1 hb).eq_dec]
theorem d0:decQ 0=[48]:=decQ_zero
theorem d1:decQ 1=[49]:=txn (by kernel_rfl) (by kernel_rfl) (by decide)
theorem d2:decQ 2=[50]:=txn (by kernel_rfl) (by kernel_rfl) (by decide)
theorem d4:decQ 4=[52]:=txn (by kernel_rfl) (by kernel_rfl) (by decide)
theorem d5:decQ 5=[53]:=txn (by kernel_rfl) (by kernel_rfl) (by decide)
theorem d6:decQ 6=[54]:=txn (by kernel_rfl) (by kernel_rfl) (by decide)
theorem d10:decQ 10=[49,48]:=txn (by kernel_rfl) (by kernel_rfl) (by decide)
theorem d100:decQ 100=[49,48,48]:=txn (by kernel_rfl) (by kernel_rfl) (by decide)
theorem d160:decQ 160=[49,54,48]:=txn (by kernel_rfl) (by kernel_rfl) (by decide)
theorem d164:decQ 164=[49,54,52]:=txn (by kernel_rfl) (by kernel_rfl) (by decide)
theorem d180:decQ 180=[49,56,48]:=txn (by kernel_rfl) (by kernel_rfl) (by decide)
theorem d1_10:decQ (mkRat 1 10)=[49,47,49,48]:=txf (a:=[49]) (b:=[49,48]) (by kernel_rfl) (by kernel_rfl) (by decide) (by decide) (by decide)
theorem d11_2:decQ (mkRat 11 2)=[49,49,47,50]:=txf (a:=[49,49]) (b:=[50]) (by kernel_rfl) (by kernel_rfl) (by decide) (by decide) (by decide)
theorem d7_4:decQ (mkRat 7 4)=[55,47,52]:=txf (a:=[55]) (b:=[52]) (by kernel_rfl) (by kernel_rfl) (by decide) (by decide) (by decide)
def four:List QM:=[([97],0,0,5),([98],10,0,6),([99],0,4,5),([100],10,4,6)]
theorem Q4_four:Q4 four=[[.str ⟨#[97]⟩,.str ⟨#[48]⟩,.str ⟨#[48]⟩,.str ⟨#[53]⟩],[.str ⟨#[98]⟩,.str ⟨#[49,48]⟩,.str ⟨#[48]⟩,.str ⟨#[54]⟩],[.str ⟨#[99]⟩,.str ⟨#[48]⟩,.str ⟨#[52]⟩,.str ⟨#[53]⟩],[.str ⟨#[100]⟩,.str ⟨#[49,48]⟩,.str ⟨#[52]⟩,.str ⟨#[54]⟩]]:=by
 show ([[.str (B [97]),.str (B (decQ 0)),.str (B (decQ 0)),.str (B (decQ 5))],[.str (B [98]),.str (B (decQ 10)),.str (B (decQ 0)),.str (B (decQ 6))],[.str (B [99]),.str (B (decQ 0)),.str (B (decQ 4)),.str (B (decQ 5))],[.str (B [100]),.str (B (decQ 10)),.str (B (decQ 4)),.str (B (decQ 6))]]:RW)=_
 rw [d0,d4,d5,d6,d10]; rfl
theorem four_ok:Fn E y1w [] (.c (.list (R4 (Tm four)))):=by
 rw [Tm_R4,Q4_four]
 exact x8r rfl
theorem fit_four:fit3 (pts four)=some (5,mkRat 1 10,0):=by kernel_rfl
theorem sq_four:sq3 5 (mkRat 1 10) 0 (pts four)=0:=by kernel_rfl
end Gev
namespace Gev
open Go Gb Go.Proofs
variable {E:Env}
attribute [local irreducible] Sz
theorem Tm_four:Tm four=[([97],[48],[48],[53]),([98],[49,48],[48],[54]),([99],[48],[52],[53]),([100],[49,48],[52],[54])]:=by
 show ([([97],decQ 0,decQ 0,decQ 5),([98],decQ 10,decQ 0,decQ 6),([99],decQ 0,decQ 4,decQ 5),([100],decQ 10,decQ 4,decQ 6)]:List Mk)=_
 rw [d0,d4,d5,d6,d10]
theorem short_four:Short (Tm four):=by
 rw [Tm_four]
 refine ⟨by decide,fun m hm=>?_⟩
 simp only [List.mem_cons,List.not_mem_nil,or_false] at hm
 rcases hm with rfl | rfl | rfl | rfl <;> decide
theorem start_four:startS (Tm four)=0:=by
 unfold startS
 rw [okN_Tm,Tm_len,if_pos (by decide),if_neg (by decide),if_neg (by decide)]
theorem fit_ok4 (hlib:Lib E):Fn E B8 [.c (.list (R4 (Tm four)))] (.tup [.agg [.str (B [53]),.str (B [49,47,49,48]),.str (B [48]),.str (B [48])],.c (.i64 0)]):=by
 have h:=sur_Fit hlib short_four
 rw [fitA_yes start_four (by rw [nums3_Tm]; exact fit_four),nums3_Tm,sq_four,d5,d1_10,d0] at h
 exact h
theorem diff_ok4 (hlib:Lib E) {s:BA}:Fn E B2 [.c (.list (R4 (Tm four))),.agg [.str (B [53]),.str (B [49,47,49,48]),.str (B [48]),.str s]] (.tup [.c (.list (Q1 [0,0,0,0])),.c (.i64 0)]):=by
 have h:=sur_Differences hlib (s:=s) short_four (a:=decQ 5) (b:=decQ (mkRat 1 10)) (c:=decQ 0) (by rw [d5]; decide) (by rw [d1_10]; decide) (by rw [d0]; decide)
 rw [diffA_Tm (by decide),show (pts four).map (off3 5 (mkRat 1 10) 0)=[0,0,0,0] by kernel_rfl,d5,d1_10,d0] at h
 exact h
theorem at_ok4 (hlib:Lib E) {s:BA}:Fn E z3c [.agg [.str (B [53]),.str (B [49,47,49,48]),.str (B [48]),.str s],.c (.str (B [53])),.c (.str (B [48]))] (.tup [.c (.str (B [49,49,47,50])),.c (.i64 0)]):=by
 have h:=sur_At hlib (s:=s) (a:=decQ 5) (b:=decQ (mkRat 1 10)) (c:=decQ 0) (x:=decQ 5) (y:=decQ 0) (by rw [d5]; decide) (by rw [d1_10]; decide) (by rw [d0]; decide) (by rw [d5]; decide) (by rw [d0]; decide)
 have e:atA (decQ 5) (decQ (mkRat 1 10)) (decQ 0) (decQ 5) (decQ 0)=(0,[49,49,47,50]):=by
  unfold atA
  rw [if_pos (by simp [ok1_dec]),rdv_dec,rdv_dec,rdv_dec,show (5:Rat)+(mkRat 1 10*5+0*0)=mkRat 11 2 by kernel_rfl,d11_2]
 rw [e,d5,d1_10,d0] at h
 exact h
end Gev
namespace Gev
open Go Gb Go.Proofs
variable {E:Env}
attribute [local irreducible] Sz
def two:List P3:=[(4,100,1),(6,180,2)]
theorem Td_two:Td two=[([52],[49,48,48],[49]),([54],[49,56,48],[50])]:=by
 show ([(decQ 4,decQ 100,decQ 1),(decQ 6,decQ 180,decQ 2)]:List D3)=_
 rw [d4,d100,d1,d6,d180,d2]
theorem short_two:ShortD (Td two):=by
 rw [Td_two]
 refine ⟨by decide,fun m hm=>?_⟩
 simp only [List.mem_cons,List.not_mem_nil,or_false] at hm
 rcases hm with rfl | rfl <;> decide
theorem two_ok:Fn E y0d [] (.c (.list (R3 (Td two)))):=by
 rw [Td_two]
 exact x7k rfl
theorem okD_two:(Td two).all okD=true:=by
 rw [List.all_eq_true]
 intro m hm
 unfold Td at hm
 obtain ⟨q,_,rfl⟩:=List.mem_map.1 hm
 show [decQ (px q),decQ (py q),decQ (pz q)].all ok1=true
 simp [ok1_dec]
theorem look_two:lookA (Td two) (decQ (mkRat 11 2))=(0,some (160,mkRat 7 4)):=by
 unfold lookA
 rw [okD_two,ok1_dec,Bool.true_and,if_pos rfl,Td_len,if_neg (by decide),if_neg (by decide),numsD_Td,rdv_dec]
 kernel_rfl
theorem look_ok4 (hlib:Lib E):Fn E A5 [.c (.list (R3 (Td two))),.c (.str (B [49,49,47,50]))] (.tup [.agg [.str (B [49,49,47,50]),.str (B [49,54,48]),.str (B [55,47,52])],.c (.i64 0)]):=by
 have h:=sur_Lookup hlib short_two (d:=decQ (mkRat 11 2)) (by rw [d11_2]; decide)
 rw [look_two] at h
 have e:Dc (decQ (mkRat 11 2)) (0,some (160,mkRat 7 4))=.tup [.agg [.str (B (decQ (mkRat 11 2))),.str (B (decQ 160)),.str (B (decQ (mkRat 7 4)))],.c (.i64 0)]:=rfl
 rw [e,d11_2,d160,d7_4] at h
 exact h
theorem worst_ok4 (hlib:Lib E) (hcs:Cs E):Fn E F7 [.c (.list (R4 (Tm four)))] (.tup [.c (.i64 0),.c (.i64 0)]):=by
 have h:=sur_Worst hlib hcs short_four
 have e:worstA (Tm four)=(0,0):=by
  unfold worstA
  rw [if_pos start_four,nums3_Tm,fit_four]
  show (if (Tm four).length < 4 then ((9:Int),(0:Int)) else worstP (pts four))=(0,0)
  rw [Tm_len,if_neg (by decide)]
  kernel_rfl
 rw [e] at h
 exact h
end Gev
namespace Gev
open Go Gb Go.Proofs
variable {E:Env}
attribute [local irreducible] Sz
theorem d41_40:decQ (mkRat 41 40)=[52,49,47,52,48]:=txf (a:=[52,49]) (b:=[52,48]) (by kernel_rfl) (by kernel_rfl) (by decide) (by decide) (by decide)
theorem surv_four:survA (Tm four) (Td two) (decQ 5) (decQ 10) (decQ (mkRat 41 40))=.tup [.agg [.str (B [49,49,47,50]),.str (B [49]),.str (B [48]),.str (B [49,54,52]),.str (B [55,47,52]),.str (B [48])],.c (.i64 0)]:=by
 unfold survA
 rw [if_pos (ok1_all3 _ _ _),rdv_dec,rdv_dec,rdv_dec,if_pos (by decide),if_pos start_four,nums3_Tm,fit_four]
 have e:draftS 5 (mkRat 1 10) 0 5=mkRat 11 2:=by kernel_rfl
 show (match lookA (Td two) (decQ (draftS 5 (mkRat 1 10) 0 5)) with
  | (e,none)=>errS e
  | (_,some (x,y))=>AV.tup [.agg [.str (B (decQ (draftS 5 (mkRat 1 10) 0 5))),.str (B (decQ (mkRat 1 10*10))),.str (B (decQ 0)),.str (B (decQ (x*mkRat 41 40))),.str (B (decQ y)),.str (B (decQ (sq3 5 (mkRat 1 10) 0 (pts four))))],.c (.i64 0)])=_
 rw [e,look_two,sq_four]
 show AV.tup [.agg [.str (B (decQ (mkRat 11 2))),.str (B (decQ (mkRat 1 10*10))),.str (B (decQ 0)),.str (B (decQ (160*mkRat 41 40))),.str (B (decQ (mkRat 7 4))),.str (B (decQ 0))],.c (.i64 0)]=_
 rw [show mkRat 1 10*10=(1:Rat) by kernel_rfl,show (160:Rat)*mkRat 41 40=164 by kernel_rfl,d11_2,d1,d0,d164,d7_4]
theorem awake_ok (hlib:Lib E) (hcs:Cs E):Fn E A8 [] (.c (.bool true)):=by
 have hs:=sur_Survey hlib short_four short_two (m:=decQ 5) (n:=decQ 10) (r:=decQ (mkRat 41 40)) (by rw [d5]; decide) (by rw [d10]; decide) (by rw [d41_40]; decide)
 rw [surv_four,d5,d10,d41_40] at hs
 have he:=equal_same (E:=E) (xs:=[0,0,0,0]) (by decide)
 have e0:Q1 [0,0,0,0]=[[.str ⟨#[48]⟩],[.str ⟨#[48]⟩],[.str ⟨#[48]⟩],[.str ⟨#[48]⟩]]:=by
  show ([[.str (B (decQ 0))],[.str (B (decQ 0))],[.str (B (decQ 0))],[.str (B (decQ 0))]]:RW)=_
  rw [d0]; rfl
 exact x7l e0.symm four_ok (fit_ok4 hlib) two_ok hs (diff_ok4 hlib) (at_ok4 hlib) (look_ok4 hlib) (worst_ok4 hlib hcs) rfl rfl rfl rfl rfl rfl rfl rfl he rfl rfl rfl
end Gev
namespace Gev
open Go Gb Go.Proofs
theorem cs0:Cs E0:=cs_ok
theorem awake0:Fn E0 A8 [] (.c (.bool true)):=awake_ok lib0 cs0
end Gev
namespace Gev
open Go Gb Go.Proofs Go.ChangeShapes Go.WideShapes Go.ChangeAt Go.RowKit
open YtgkchlchkdecfaaGreatDoor (Rows.uptoBulk Rows.uptoBulkAll Rows.uptoSmall Rows.OpenSpec.upto)
variable {H:Type} {enc:TypeId × Value→H}
end Gev
