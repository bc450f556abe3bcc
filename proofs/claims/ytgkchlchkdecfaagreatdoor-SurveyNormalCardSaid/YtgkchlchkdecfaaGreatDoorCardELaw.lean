/- The law of the last text of this claim: its walk, its plain words. -/
import Derived.Test.YtgkchlchkdecfaaGreatDoorE
import Derived.KernelRfl
import Derived.Test.YtgkchlchkdecfaaGreatDoorTie
import Derived.Test.YtgkchlchkdecfaaGreatDoorCards
import Derived.Deep.DeepHandedRow
import Derived.Deep.Strs
set_option linter.unusedSectionVars false
set_option linter.unusedVariables false
set_option linter.unusedSimpArgs false
namespace Gev
open Go Go.Proofs
variable {E:Env}
def Y5 (x5:RW) (x7:Nat) (x8:Nat) (x9:Nat) (x48:RW) (x49:Int) (x50:Int) (w0:RW) (c1_0:BA) (c1_1:BA) (c1_2:BA) (c1_3:BA) (w2:RW) (w3:RW) (w4:RW) (w5:RW):St:=stOf 91 [(5,.c (.list x5)),(7,.vec 3 x7),(8,.vec 4 x8),(9,.vec 5 x9),(48,.c (.list x48)),(49,.c (.i64 x49)),(50,.c (.i64 x50))] [some (.fro w0),some (.cells [.c (.str c1_0),.c (.str c1_1),.c (.str c1_2),.c (.str c1_3)]),some (.fro w2),some (.vec C9 w3),some (.vec C9 w4),some (.vec C9 w5)]
def z0j (x5:RW) (w0:RW) (c1_0:BA) (c1_1:BA) (c1_2:BA) (c1_3:BA) (w2:RW) (x7':Nat) (x8':Nat) (x9':Nat) (w3':RW) (w4':RW) (w5':RW):St:=stOf 91 [(5,.c (.list x5)),(7,.vec 3 x7'),(8,.vec 4 x8'),(9,.vec 5 x9')] [some (.fro w0),some (.cells [.c (.str c1_0),.c (.str c1_1),.c (.str c1_2),.c (.str c1_3)]),some (.fro w2),some (.vec C9 w3'),some (.vec C9 w4'),some (.vec C9 w5')]
theorem y0l {x5:RW} {x7 x8 x9:Nat} {x48:RW} {x49 x50:Int} {w0:RW} {c1_0 c1_1 c1_2 c1_3:BA} {w2 w3 w4 w5:RW} {v1 v2 v3 v4:BA} {v5:RW} {v6:Nat} {v7:RW} {v8:Nat} {v9:RW} {v10:Nat} {v11:Int} (e1:(w3.take x7)++[[.str ⟨#[49]⟩]]=v5) (e2:x7+1=v6) (e3:(w4.take x8)++[[.str v2]]=v7) (e4:x8+1=v8) (e5:(w5.take x9)++[[.str v3]]=v9) (e6:x9+1=v10) (e7:IntKind.i64.wrap (x50+1)=v11) (h1:x50 < x49) (h2:0≤x50) (h3:x48[(Int.toNat x50)]?=some [.str v1,.str v2,.str v3,.str v4]) (h4:(x7+1)*16≤140737488355328∧x7+1≤140737488355328) (h5:(x8+1)*16≤140737488355328∧x8+1≤140737488355328) (h6:(x9+1)*16≤140737488355328∧x9+1≤140737488355328) {o:Out} {st':St} (ih:Lp E 3 F8 0 (Y5 x5 v6 v8 v10 x48 x49 v11 w0 c1_0 c1_1 c1_2 c1_3 w2 v5 v7 v9) o st') :Lp E 3 F8 0 (Y5 x5 x7 x8 x9 x48 x49 x50 w0 c1_0 c1_1 c1_2 c1_3 w2 w3 w4 w5) o st':=by
 subst e1 e2 e3 e4 e5 e6 e7
 exact lpOn _ [5,7,8,9,48,49,50] [.t true,.d [.str v1,.str v2,.str v3,.str v4]] (aC (dT h1) (aC h2 (aC h3 (aC (show ∀ y∈([[.str ⟨#[49]⟩]]:RW),y.length=1 from by simp) (aC h4 (aC (show ∀ y∈([[.str v2]]:RW),y.length=1 from by simp) (aC h5 (aC (show ∀ y∈([[.str v3]]:RW),y.length=1 from by simp) (aO h6))))))))) (by kernel_rfl) ih
theorem z8r {x5:RW} {x7 x8 x9:Nat} {x48:RW} {x49 x50:Int} {w0:RW} {c1_0 c1_1 c1_2 c1_3:BA} {w2 w3 w4 w5:RW} (h1:¬ x50 < x49) :Lp E 3 F8 0 (Y5 x5 x7 x8 x9 x48 x49 x50 w0 c1_0 c1_1 c1_2 c1_3 w2 w3 w4 w5) (.exit 0) (z0j x5 w0 c1_0 c1_1 c1_2 c1_3 w2 x7 x8 x9 w3 w4 w5):=by
 exact lpOff [5,7,8,9] [.t false] (aO (dF h1)) (by kernel_rfl) (by simp)
def z1w (x5:RW) (x71:Nat) (x72:Int) (x73:Int) (w0:RW) (c1_0:BA) (c1_1:BA) (c1_2:BA) (c1_3:BA) (w2:RW) (w3:RW) (w4:RW) (w5:RW) (w6:RW):St:=stOf 91 [(5,.c (.list x5)),(71,.vec 6 x71),(72,.c (.i64 x72)),(73,.c (.i64 x73))] [some (.fro w0),some (.cells [.c (.str c1_0),.c (.str c1_1),.c (.str c1_2),.c (.str c1_3)]),some (.fro w2),some (.fro w3),some (.fro w4),some (.fro w5),some (.vec x0b w6)]
def z2q (w0:RW) (c1_0:BA) (c1_1:BA) (c1_2:BA) (c1_3:BA) (w2:RW) (w3:RW) (w4:RW) (w5:RW) (w6:RW):St:=stOf 91 [] [some (.fro w0),some (.cells [.c (.str c1_0),.c (.str c1_1),.c (.str c1_2),.c (.str c1_3)]),some (.fro w2),some (.fro w3),some (.fro w4),some (.fro w5),some (.vec x0b w6)]
theorem z2l {x5:RW} {x71:Nat} {x72 x73:Int} {w0:RW} {c1_0 c1_1 c1_2 c1_3:BA} {w2 w3 w4 w5 w6 v1:RW} {v2:Bool} {v3 v4:RW} {v6 v7:Int} (e1:IntKind.i64.wrap (x73+1)=v7) (h1:x73 < x72) (h2:0≤x73∧x73 < ((x71:Nat):Int)) (h3:w6[(Int.toNat x73)]?=some [.list v1]) (h4:Fn E P5 [.c (.list x5),.c (.list v1)] (.tup [.agg [.bool v2,.list v3,.list v4],.c (.bool true)])) (h5:Fn E H6 [.agg [.bool v2,.list v3,.list v4]] (.c (.i64 v6))) (h6:v6=0) {o:Out} {st':St} (ih:Lp E 7 F8 1 (z1w x5 x71 x72 v7 w0 c1_0 c1_1 c1_2 c1_3 w2 w3 w4 w5 w6) o st') :Lp E 7 F8 1 (z1w x5 x71 x72 x73 w0 c1_0 c1_1 c1_2 c1_3 w2 w3 w4 w5 w6) o st':=by
 subst e1
 exact lpOn _ [5,71,72,73] [.t true,.d [.list v1],.v (.tup [.agg [.bool v2,.list v3,.list v4],.c (.bool true)]),.v (.c (.i64 v6)),.t false] (aC (dT h1) (aC h2 (aC h3 (aC h4 (aC h5 (aO (bnF h6))))))) (by kernel_rfl) ih
theorem z8s {x5:RW} {x71:Nat} {x72 x73:Int} {w0:RW} {c1_0 c1_1 c1_2 c1_3:BA} {w2 w3 w4 w5 w6:RW} (h1:¬ x73 < x72) :Lp E 7 F8 1 (z1w x5 x71 x72 x73 w0 c1_0 c1_1 c1_2 c1_3 w2 w3 w4 w5 w6) (.exit 2) (z2q w0 c1_0 c1_1 c1_2 c1_3 w2 w3 w4 w5 w6):=by
 exact lpOff [] [.t false] (aO (dF h1)) (by kernel_rfl) (by simp)
theorem y4c {a0:RW} {v3:Nat} {v4 v5:RW} {v6 v7 v8 v9:BA} {v10:Int} (e1:(v4.take v3)=v5) (h1:Fn E A8 [] (.c (.bool true))) (h2:Fn E A6 [.c (.list a0),.c (.list [])] (.c (.bool true))) (h3:Rn E B3 [.c (.list a0)] [] (.vec 0 v3) [some (.vec A9 v4)]) (h4:Fn E B8 [.c (.list v5)] (.tup [.agg [.str v6,.str v7,.str v8,.str v9],.c (.i64 v10)])) (h5:¬ v10=0) (h6:((v6 == (⟨#[]⟩:BA)) && ((v7 == (⟨#[]⟩:BA)) && ((v8 == (⟨#[]⟩:BA)) && ((v9 == (⟨#[]⟩:BA)) && true))))=true) :Fn E F8 [.c (.list a0)] (.c (.bool true)):=by
 subst e1
 exact fnMk [.v (.c (.bool true)),.v (.c (.bool true)),.nw v3 A9 v4,.v (.tup [.agg [.str v6,.str v7,.str v8,.str v9],.c (.i64 v10)]),.t true,.t true] (by kernel_rfl) (by kernel_rfl) (aC h1 (aC h2 (aC h3 (aC h4 (aC (bnT h5) (aO (id h6))))))) (by kernel_rfl)
theorem y4d {a0:RW} {v3:Nat} {v4 v5:RW} {v6 v7 v8 v9:BA} {v10:Int} {v11:Nat} {v12 v13 v14:RW} {v15:Int} {v16 v17 v18:Nat} {v19 v20 v21 v22 v23 v24:RW} (e1:(v4.take v3)=v5) (e2:(v12.take v11)=v13) (e3:(v19.take v16)=v22) (e4:(v20.take v17)=v23) (e5:(v21.take v18)=v24) (h1:Fn E A8 [] (.c (.bool true))) (h2:Fn E A6 [.c (.list a0),.c (.list [])] (.c (.bool true))) (h3:Rn E B3 [.c (.list a0)] [] (.vec 0 v3) [some (.vec A9 v4)]) (h4:Fn E B8 [.c (.list v5)] (.tup [.agg [.str v6,.str v7,.str v8,.str v9],.c (.i64 v10)])) (h5:v10=0) (h6:Rn E B3 [.c (.list a0)] [] (.vec 0 v11) [some (.vec A9 v12)]) (h7:Fn E B2 [.c (.list v13),.agg [.str v6,.str v7,.str v8,.str v9]] (.tup [.c (.list v14),.c (.i64 v15)])) (h8:v15=0) (h9:(v14.length:Int)=(a0.length:Int)) (h10:Lp E 3 F8 0 (Y5 v14 0 0 0 a0 (a0.length:Int) 0 v4 v6 v7 v8 v9 v12 [] [] []) (.exit 0) (z0j v14 v4 v6 v7 v8 v9 v12 v16 v17 v18 v19 v20 v21)) (h11:Lp E 7 F8 1 (z1w v14 3 3 0 v4 v6 v7 v8 v9 v12 v19 v20 v21 [[.list v22],[.list v23],[.list v24]]) (.exit 2) (z2q v4 v6 v7 v8 v9 v12 v19 v20 v21 [[.list v22],[.list v23],[.list v24]])) :Fn E F8 [.c (.list a0)] (.c (.bool true)):=by
 subst e1 e2 e3 e4 e5
 exact fnMk [.v (.c (.bool true)),.v (.c (.bool true)),.nw v3 A9 v4,.v (.tup [.agg [.str v6,.str v7,.str v8,.str v9],.c (.i64 v10)]),.t false,.nw v11 A9 v12,.v (.tup [.c (.list v14),.c (.i64 v15)]),.t false,.t false,.loop [5,7,8,9,48,49,50] [(7,C9),(8,C9),(9,C9)] (.exit 0) (z0j v14 v4 v6 v7 v8 v9 v12 v16 v17 v18 v19 v20 v21),.loop [5,71,72,73] [] (.exit 2) (z2q v4 v6 v7 v8 v9 v12 v19 v20 v21 [[.list (v19.take v16)],[.list (v20.take v17)],[.list (v21.take v18)]])] (by kernel_rfl) (by kernel_rfl) (aC h1 (aC h2 (aC h3 (aC h4 (aC (bnF h5) (aC h6 (aC h7 (aC (bnF h8) (aC (bnF h9) (aC h10 (aO h11))))))))))) (by kernel_rfl)
theorem y4e {a0:RW} (h1:Fn E A8 [] (.c (.bool true))) (h2:Fn E A6 [.c (.list a0),.c (.list [])] (.c (.bool false))) :Fn E F8 [.c (.list a0)] (.c (.bool true)):=by
 exact fnMk [.v (.c (.bool true)),.v (.c (.bool false))] (by kernel_rfl) (by kernel_rfl) (aC h1 (aO h2)) (by kernel_rfl)
theorem x7l {v1:RW} {v2 v3 v4 v5:BA} {v6:Int} {v7:RW} {v8 v9 v10 v11 v12 v13:BA} {v14:Int} {v15:RW} {v16:Int} {v17:BA} {v18:Int} {v19 v20 v21:BA} {v22 v23 v24:Int} {v25:RW} (e1:(([[.str ⟨#[48]⟩],[.str ⟨#[48]⟩],[.str ⟨#[48]⟩],[.str ⟨#[48]⟩]]:RW).take 4)=v25) (h1:Fn E y1w [] (.c (.list v1))) (h2:Fn E B8 [.c (.list v1)] (.tup [.agg [.str v2,.str v3,.str v4,.str v5],.c (.i64 v6)])) (h3:Fn E y0d [] (.c (.list v7))) (h4:Fn E U6 [.c (.list v1),.c (.list v7),.c (.str ⟨#[53]⟩),.c (.str ⟨#[49,48]⟩),.c (.str ⟨#[52,49,47,52,48]⟩)] (.tup [.agg [.str v8,.str v9,.str v10,.str v11,.str v12,.str v13],.c (.i64 v14)])) (h5:Fn E B2 [.c (.list v1),.agg [.str v2,.str v3,.str v4,.str v5]] (.tup [.c (.list v15),.c (.i64 v16)])) (h6:Fn E z3c [.agg [.str v2,.str v3,.str v4,.str v5],.c (.str ⟨#[53]⟩),.c (.str ⟨#[48]⟩)] (.tup [.c (.str v17),.c (.i64 v18)])) (h7:Fn E A5 [.c (.list v7),.c (.str ⟨#[49,49,47,50]⟩)] (.tup [.agg [.str v19,.str v20,.str v21],.c (.i64 v22)])) (h8:Fn E F7 [.c (.list v1)] (.tup [.c (.i64 v23),.c (.i64 v24)])) (h9:v6=0) (h10:v14=0) (h11:v16=0) (h12:v18=0) (h13:v22=0) (h14:v24=0) (h15:((v2 == (⟨#[53]⟩:BA)) && ((v3 == (⟨#[49,47,49,48]⟩:BA)) && ((v4 == (⟨#[48]⟩:BA)) && ((v5 == (⟨#[48]⟩:BA)) && true))))=true) (h16:((v8 == (⟨#[49,49,47,50]⟩:BA)) && ((v9 == (⟨#[49]⟩:BA)) && ((v10 == (⟨#[48]⟩:BA)) && ((v11 == (⟨#[49,54,52]⟩:BA)) && ((v12 == (⟨#[55,47,52]⟩:BA)) && ((v13 == (⟨#[48]⟩:BA)) && true))))))=true) (h17:Fn E M5 [.c (.list v15),.c (.list v25)] (.c (.bool true))) (h18:v17=(⟨#[49,49,47,50]⟩:BA)) (h19:v20=(⟨#[49,54,48]⟩:BA)) (h20:v23=0) :Fn E A8 [] (.c (.bool true)):=by
 subst e1
 exact fnMk [.v (.c (.list v1)),.v (.tup [.agg [.str v2,.str v3,.str v4,.str v5],.c (.i64 v6)]),.v (.c (.list v1)),.v (.c (.list v7)),.v (.tup [.agg [.str v8,.str v9,.str v10,.str v11,.str v12,.str v13],.c (.i64 v14)]),.v (.c (.list v1)),.v (.tup [.c (.list v15),.c (.i64 v16)]),.v (.tup [.c (.str v17),.c (.i64 v18)]),.v (.c (.list v7)),.v (.tup [.agg [.str v19,.str v20,.str v21],.c (.i64 v22)]),.v (.c (.list v1)),.v (.tup [.c (.i64 v23),.c (.i64 v24)]),.t true,.t true,.t true,.t true,.t true,.t true,.t true,.t true,.v (.c (.bool true)),.t true,.t true,.t true] (by kernel_rfl) (by kernel_rfl) (aC h1 (aC h2 (aC h1 (aC h3 (aC h4 (aC h1 (aC h5 (aC h6 (aC h3 (aC h7 (aC h1 (aC h8 (aC (beT h9) (aC (beT h10) (aC (beT h11) (aC (beT h12) (aC (beT h13) (aC (beT h14) (aC (id h15) (aC (id h16) (aC h17 (aC (seT h18) (aC (seT h19) (aO (beT h20))))))))))))))))))))))))) (by kernel_rfl)
def z6z (x0:RW) (x1:RW) (x20:Int) (x21:Int) (c0_0:Bool) (c1_0:Bool) (c1_1:RW) (c1_2:RW):St:=stOf 54 [(0,.c (.list x0)),(1,.c (.list x1)),(4,.ptr 0 0),(6,.ptr 1 0),(20,.c (.i64 x20)),(21,.c (.i64 x21))] [some (.cells [.c (.bool c0_0),.nils,.nils]),some (.cells [.c (.bool c1_0),.c (.list c1_1),.c (.list c1_2)])]
def z7a (c0_0:Bool) (c1_0':Bool) (c1_1':RW) (c1_2':RW):St:=stOf 54 [(4,.ptr 0 0),(6,.ptr 1 0)] [some (.cells [.c (.bool c0_0),.nils,.nils]),some (.cells [.c (.bool c1_0'),.c (.list c1_1'),.c (.list c1_2')])]
theorem x4a {x0 x1:RW} {x20 x21:Int} {c0_0 c1_0:Bool} {c1_1 c1_2:RW} {v1:BA} {v2:Bool} {v3 v4:RW} {v6:BA} {v7:Bool} {v8 v9:RW} {v11:Bool} {v12 v13:RW} {v14:Bool} {v15 v16:RW} {v17:Int} (e1:IntKind.i64.wrap (x21+1)=v17) (h1:x21 < x20) (h2:0≤x21) (h3:x0[(Int.toNat x21)]?=some [.str v1]) (h4:Fn E D2 [.c (.str v1)] (.tup [.agg [.bool v2,.list v3,.list v4],.c (.bool true)])) (h5:x1[(Int.toNat x21)]?=some [.str v6]) (h6:Fn E D2 [.c (.str v6)] (.tup [.agg [.bool v7,.list v8,.list v9],.c (.bool true)])) (h7:Fn E P7 [.agg [.bool v2,.list v3,.list v4],.agg [.bool v7,.list v8,.list v9]] (.agg [.bool v11,.list v12,.list v13])) (h8:Fn E N3 [.agg [.bool c1_0,.list c1_1,.list c1_2],.agg [.bool v11,.list v12,.list v13]] (.agg [.bool v14,.list v15,.list v16])) {o:Out} {st':St} (ih:Lp E 2 P5 0 (z6z x0 x1 x20 v17 c0_0 v14 v15 v16) o st') :Lp E 2 P5 0 (z6z x0 x1 x20 x21 c0_0 c1_0 c1_1 c1_2) o st':=by
 subst e1
 exact lpOn _ [0,1,4,6,20,21] [.t true,.d [.str v1],.v (.tup [.agg [.bool v2,.list v3,.list v4],.c (.bool true)]),.d [.str v6],.v (.tup [.agg [.bool v7,.list v8,.list v9],.c (.bool true)]),.v (.agg [.bool v11,.list v12,.list v13]),.v (.agg [.bool v14,.list v15,.list v16])] (aC (dT h1) (aC h2 (aC h3 (aC h4 (aC h2 (aC h5 (aC h6 (aC h7 (aO h8))))))))) (by kernel_rfl) ih
theorem x0h {x0 x1:RW} {x20 x21:Int} {c0_0 c1_0:Bool} {c1_1 c1_2:RW} (h1:¬ x21 < x20) :Lp E 2 P5 0 (z6z x0 x1 x20 x21 c0_0 c1_0 c1_1 c1_2) (.exit 0) (z7a c0_0 c1_0 c1_1 c1_2):=by
 exact lpOff [4,6] [.t false] (aO (dF h1)) (by kernel_rfl) (by simp)
theorem k0g {a0 a1:RW} {v1:Bool} {v2 v3:RW} {v4:Bool} {v5 v6:RW} (h1:Fn E J0 [.c (.i64 0)] (.agg [.bool v1,.list v2,.list v3])) (h2:(a0.length:Int)=(a1.length:Int)) (h3:Lp E 2 P5 0 (z6z a0 a1 (a0.length:Int) 0 false v1 v2 v3) (.exit 0) (z7a false v4 v5 v6)) :Fn E P5 [.c (.list a0),.c (.list a1)] (.tup [.agg [.bool v4,.list v5,.list v6],.c (.bool true)]):=by
 exact fnMk [.v (.agg [.bool v1,.list v2,.list v3]),.t false,.loop [0,1,4,6,20,21] [] (.exit 0) (z7a false v4 v5 v6)] (by kernel_rfl) (by kernel_rfl) (aC h1 (aC (bnF h2) (aO h3))) (by kernel_rfl)
theorem x8r {v1:RW} (e1:(([[.str ⟨#[97]⟩,.str ⟨#[48]⟩,.str ⟨#[48]⟩,.str ⟨#[53]⟩],[.str ⟨#[98]⟩,.str ⟨#[49,48]⟩,.str ⟨#[48]⟩,.str ⟨#[54]⟩],[.str ⟨#[99]⟩,.str ⟨#[48]⟩,.str ⟨#[52]⟩,.str ⟨#[53]⟩],[.str ⟨#[100]⟩,.str ⟨#[49,48]⟩,.str ⟨#[52]⟩,.str ⟨#[54]⟩]]:RW).take 4)=v1) :Fn E y1w [] (.c (.list v1)):=by
 subst e1
 exact fnMk [] (by kernel_rfl) (by kernel_rfl) aN (by kernel_rfl)
theorem x7k {v1:RW} (e1:(([[.str ⟨#[52]⟩,.str ⟨#[49,48,48]⟩,.str ⟨#[49]⟩],[.str ⟨#[54]⟩,.str ⟨#[49,56,48]⟩,.str ⟨#[50]⟩]]:RW).take 2)=v1) :Fn E y0d [] (.c (.list v1)):=by
 subst e1
 exact fnMk [] (by kernel_rfl) (by kernel_rfl) aN (by kernel_rfl)
end Gev
namespace Gev
open Go Gb
variable {E:Env}
def sh4 (m:Mk):Bool:=decide (m.1.length≤70) && (decide (m.2.1.length≤40) && (decide (m.2.2.1.length≤40) && decide (m.2.2.2.length≤40)))
def sh3 (m:D3):Bool:=decide (m.1.length≤40) && (decide (m.2.1.length≤40) && decide (m.2.2.length≤40))
theorem fewS_loop0 {l:List Mk} {t:RW} (hl:l.length≤9223372036854775807):∀ d i:Nat,i+d=l.length →
    (l.drop i).all sh4=true∧Lp E 0 A6 0 (K6 (R4 l) t (i:Nat)) (.exit 0) (U5 (R4 l) t) ∨
    (l.drop i).all sh4=false∧Lp E 0 A6 0 (K6 (R4 l) t (i:Nat)) .ret z1t
 | 0,i,hi=>.inl ⟨by rw [List.drop_eq_nil_of_le (by omega)]; rfl,x1g (by rw [R4_len]; omega)⟩
 | d+1,i,hi=>by
  obtain ⟨m,hc⟩:=get_ex (l:=l) (i:=i) (by omega)
  have g:=R4_get hc
  rw [← Int.toNat_natCast i] at g
  rw [drop_get hc,List.all_cons]
  have hlt:(i:Int) < ((R4 l).length:Int):=by rw [R4_len]; omega
  by_cases h1:m.1.length≤70
  · by_cases h2:m.2.1.length≤40
    · by_cases h3:m.2.2.1.length≤40
      · by_cases h4:m.2.2.2.length≤40
        · have e:sh4 m=true:=by unfold sh4; rw [decide_eq_true h1,decide_eq_true h2,decide_eq_true h3,decide_eq_true h4]; rfl
          rw [e,Bool.true_and]
          have st:∀ {o s},Lp E 0 A6 0 (K6 (R4 l) t ((i+1:Nat):Int)) o s→Lp E 0 A6 0 (K6 (R4 l) t (i:Nat)) o s:=fun h=>x4u (wi (by omega)) hlt (by omega) g (by rw [B_size]; omega) (by rw [B_size]; omega) (by rw [B_size]; omega) (by rw [B_size]; omega) h
          rcases fewS_loop0 hl d (i+1) (by omega) with ⟨k1,k2⟩ | ⟨k1,k2⟩
          · exact .inl ⟨k1,st k2⟩
          · exact .inr ⟨k1,st k2⟩
        · have e:sh4 m=false:=by unfold sh4; rw [decide_eq_false h4]; simp
          rw [e]
          exact .inr ⟨rfl,x1f hlt (by omega) g (by rw [B_size]; omega) (by rw [B_size]; omega) (by rw [B_size]; omega) (by rw [B_size]; omega)⟩
      · have e:sh4 m=false:=by unfold sh4; rw [decide_eq_false h3]; simp
        rw [e]
        exact .inr ⟨rfl,x1e hlt (by omega) g (by rw [B_size]; omega) (by rw [B_size]; omega) (by rw [B_size]; omega)⟩
    · have e:sh4 m=false:=by unfold sh4; rw [decide_eq_false h2]; simp
      rw [e]
      exact .inr ⟨rfl,x1d hlt (by omega) g (by rw [B_size]; omega) (by rw [B_size]; omega)⟩
  · have e:sh4 m=false:=by unfold sh4; rw [decide_eq_false h1]; simp
    rw [e]
    exact .inr ⟨rfl,x1c hlt (by omega) g (by rw [B_size]; omega)⟩
theorem fewS_loop1 {l:RW} {t:List D3} (hl:t.length≤9223372036854775807):∀ d i:Nat,i+d=t.length →
    (t.drop i).all sh3=true∧Lp E 0 A6 1 (N6 l (R3 t) (i:Nat)) (.exit 2) (z0i l (R3 t)) ∨
    (t.drop i).all sh3=false∧Lp E 0 A6 1 (N6 l (R3 t) (i:Nat)) .ret z2t
 | 0,i,hi=>.inl ⟨by rw [List.drop_eq_nil_of_le (by omega)]; rfl,x1k (by rw [R3_len]; omega)⟩
 | d+1,i,hi=>by
  obtain ⟨m,hc⟩:=get_ex (l:=t) (i:=i) (by omega)
  have g:=R3_get hc
  rw [← Int.toNat_natCast i] at g
  rw [drop_get hc,List.all_cons]
  have hlt:(i:Int) < ((R3 t).length:Int):=by rw [R3_len]; omega
  by_cases h1:m.1.length≤40
  · by_cases h2:m.2.1.length≤40
    · by_cases h3:m.2.2.length≤40
      · have e:sh3 m=true:=by unfold sh3; rw [decide_eq_true h1,decide_eq_true h2,decide_eq_true h3]; rfl
        rw [e,Bool.true_and]
        have st:∀ {o s},Lp E 0 A6 1 (N6 l (R3 t) ((i+1:Nat):Int)) o s→Lp E 0 A6 1 (N6 l (R3 t) (i:Nat)) o s:=fun h=>x4v (wi (by omega)) hlt (by omega) g (by rw [B_size]; omega) (by rw [B_size]; omega) (by rw [B_size]; omega) h
        rcases fewS_loop1 hl d (i+1) (by omega) with ⟨k1,k2⟩ | ⟨k1,k2⟩
        · exact .inl ⟨k1,st k2⟩
        · exact .inr ⟨k1,st k2⟩
      · have e:sh3 m=false:=by unfold sh3; rw [decide_eq_false h3]; simp
        rw [e]
        exact .inr ⟨rfl,x1j hlt (by omega) g (by rw [B_size]; omega) (by rw [B_size]; omega) (by rw [B_size]; omega)⟩
    · have e:sh3 m=false:=by unfold sh3; rw [decide_eq_false h2]; simp
      rw [e]
      exact .inr ⟨rfl,x1i hlt (by omega) g (by rw [B_size]; omega) (by rw [B_size]; omega)⟩
  · have e:sh3 m=false:=by unfold sh3; rw [decide_eq_false h1]; simp
    rw [e]
    exact .inr ⟨rfl,x1h hlt (by omega) g (by rw [B_size]; omega)⟩
def fewS (l:List Mk) (t:List D3):Bool:=l.all sh4 && (t.all sh3 && (decide (l.length≤17) && decide (t.length≤33)))
theorem r53_Few {l:List Mk} {t:List D3} (hl:l.length≤9223372036854775807) (ht:t.length≤9223372036854775807):Fn E A6 [.c (.list (R4 l)),.c (.list (R3 t))] (.c (.bool (fewS l t))):=by
 have h0:=fewS_loop0 (E:=E) (t:=R3 t) hl l.length 0 (by omega)
 have h1:=fewS_loop1 (E:=E) (l:=R4 l) ht t.length 0 (by omega)
 rw [List.drop_zero] at h0 h1
 unfold fewS
 rcases h0 with ⟨a1,a2⟩ | ⟨a1,a2⟩
 · rw [a1,Bool.true_and]
   rcases h1 with ⟨b1,b2⟩ | ⟨b1,b2⟩
   · rw [b1,Bool.true_and]
     by_cases c1:l.length≤17
     · rw [decide_eq_true c1,Bool.true_and]
       by_cases c2:t.length≤33
       · rw [decide_eq_true c2]; exact k1a a2 b2 (by rw [R4_len]; omega) (by rw [R3_len]; omega)
       · rw [decide_eq_false c2]; exact k1b a2 b2 (by rw [R4_len]; omega) (by rw [R3_len]; omega)
     · rw [decide_eq_false c1,Bool.false_and]; exact k1c a2 b2 (by rw [R4_len]; omega)
   · rw [b1,Bool.false_and]; exact k0z a2 b2
 · rw [a1,Bool.false_and]; exact k0y a2
theorem fewS_short {l:List Mk} {t:List D3} (h:fewS l t=true):(∀ m∈l,m.1.length≤70∧m.2.1.length≤40∧m.2.2.1.length≤40∧m.2.2.2.length≤40)∧(∀ m∈t,m.1.length≤40∧m.2.1.length≤40∧m.2.2.length≤40)∧l.length≤17∧t.length≤33:=by
 unfold fewS at h
 simp only [Bool.and_eq_true,decide_eq_true_eq,List.all_eq_true] at h
 obtain ⟨h1,h2,h3,h4⟩:=h
 refine ⟨fun m hm=>?_,fun m hm=>?_,h3,h4⟩
 · have:=h1 m hm
   unfold sh4 at this
   simpa using this
 · have:=h2 m hm
   unfold sh3 at this
   simpa using this
theorem fewS_Short {l:List Mk} {t:List D3} (h:fewS l t=true):Short l∧ShortD t:=by
 obtain ⟨h1,h2,h3,h4⟩:=fewS_short h
 exact ⟨⟨by omega,fun m hm=>by have:=h1 m hm; omega⟩,by omega,fun m hm=>by have:=h2 m hm; omega⟩
theorem R4_take (l:List Mk):(R4 l).take l.length=R4 l:=List.take_of_length_le (by rw [R4_len]; omega)
end Gev
namespace Gev
open Go Gb
variable {E:Env}
theorem equal_loop {xs:List Rat} (hl:xs.length < 9223372036854775807):∀ d i:Nat,i+d=xs.length→Lp E 0 M5 0 (z0u (Q1 xs) (Q1 xs) (xs.length:Nat) (i:Nat)) (.exit 0) z1x
 | 0,i,hi=>y0p (by omega)
 | d+1,i,hi=>by
  obtain ⟨c,hc⟩:=get_ex (l:=xs) (i:=i) (by omega)
  have g:=Q1_get hc
  rw [← Int.toNat_natCast i] at g
  exact y2f (wi (by omega)) (by omega) (by omega) g g rfl (equal_loop hl d (i+1) (by omega))
theorem equal_same {xs:List Rat} (hl:xs.length < 9223372036854775807):Fn E M5 [.c (.list (Q1 xs)),.c (.list (Q1 xs))] (.c (.bool true)):=by
 have h:=equal_loop (E:=E) hl xs.length 0 (by omega)
 rw [← Q1_len xs] at h
 exact y9q rfl h
end Gev
namespace Gev
open Go Gb
variable {E:Env}
attribute [local irreducible] Sz
def dotQ (ps:List (Rat × Rat)):Rat:=qsum (fun p=>p.1*p.2) ps
theorem dotQ_Sz {ps:List (Rat × Rat)} {K L:Nat} (hn:ps.length≤16) (h:∀ p∈ps,Sz p.1 K∧Sz p.2 L):Sz (dotQ ps) (1+16*(K+L+1)):=Sz16 hn (fun p hp=>(h p hp).1.mul (h p hp).2) (Nat.le_refl _)
theorem dot_loop {ps:List (Rat × Rat)} {K L:Nat} (hn:ps.length≤16) (h:∀ p∈ps,Sz p.1 K∧Sz p.2 L) (hK:K≤20000000) (hL:L≤20000000):∀ d i:Nat,i+d=ps.length →
    Lp E 2 P5 0 (z6z (Q1 (ps.map (·.1))) (Q1 (ps.map (·.2))) (ps.length:Nat) (i:Nat) false (q0 (dotQ (ps.take i))) (q1 (dotQ (ps.take i))) (q2 (dotQ (ps.take i)))) (.exit 0) (z7a false (q0 (dotQ ps)) (q1 (dotQ ps)) (q2 (dotQ ps)))
 | 0,i,hi=>by
  rw [List.take_of_length_le (by omega)]
  exact x0h (by omega)
 | d+1,i,hi=>by
  have hl:=Lim_val
  obtain ⟨p,hx⟩:=get_ex (l:=ps) (i:=i) (by omega)
  obtain ⟨z1,z2⟩:=h p (List.mem_of_getElem? hx)
  have f1:=r3_From (E:=E) (l:=decQ p.1) (by have:=z1.len; omega)
  have f2:=r3_From (E:=E) (l:=decQ p.2) (by have:=z2.len; omega)
  rw [rd_decQ] at f1 f2
  have zs:=dotQ_Sz (ps:=ps.take i) (K:=K) (L:=L) (by rw [List.length_take]; omega) (fun y hy=>h y (List.mem_of_mem_take hy))
  have ha:=r3_Add (E:=E) zs (z1.mul z2) (by omega)
  have e:dotQ (ps.take i)+p.1*p.2=dotQ (ps.take (i+1)):=by unfold dotQ; rw [take_get hx,qsum_snoc]
  rw [e] at ha
  have g1:(ps.map (·.1))[i]?=some p.1:=by rw [List.getElem?_map,hx]; rfl
  have g2:(ps.map (·.2))[i]?=some p.2:=by rw [List.getElem?_map,hx]; rfl
  exact x4a (v17:=((i+1:Nat):Int)) (wi (by omega)) (by omega) (by omega) (by rw [Int.toNat_natCast]; exact Q1_get g1) f1 (by rw [Int.toNat_natCast]; exact Q1_get g2) f2 (r3_Mul z1 z2 (by omega)) ha (dot_loop hn h hK hL d (i+1) (by omega))
theorem dot_ok {ps:List (Rat × Rat)} {K L:Nat} (hn:ps.length≤16) (h:∀ p∈ps,Sz p.1 K∧Sz p.2 L) (hK:K≤20000000) (hL:L≤20000000):Fn E P5 [.c (.list (Q1 (ps.map (·.1)))),.c (.list (Q1 (ps.map (·.2))))] (.tup [.agg (Qr (dotQ ps)),.c (.bool true)]):=by
 have hl:=dot_loop (E:=E) hn h hK hL ps.length 0 (by omega)
 have e:((ps.length:Nat):Int)=((Q1 (ps.map (·.1))).length:Int):=by rw [Q1_len,List.length_map]
 rw [e] at hl
 exact k0g r3_zero (by rw [Q1_len,Q1_len,List.length_map,List.length_map]) hl
end Gev
namespace Gev
open Go Gb
variable {E:Env}
attribute [local irreducible] Sz
theorem ok1_all3 (a b c:Rat):[decQ a,decQ b,decQ c].all ok1=true:=by
 rw [List.all_eq_true]
 intro x hx
 simp at hx
 rcases hx with rfl | rfl | rfl <;> exact ok1_dec _
theorem diffA_Tm {ms:List QM} (hn:ms.length≤16) (a b c:Rat):diffA (Tm ms) (decQ a) (decQ b) (decQ c)=(0,(pts ms).map (off3 a b c)):=by
 unfold diffA
 rw [Tm_ok,ok1_all3,Bool.true_and,if_pos rfl,Tm_len,if_neg (by omega),nums3_Tm,rdv_dec,rdv_dec,rdv_dec]
theorem qsum_map {α β:Type} (g:α→Rat) (f:β→α):∀ l:List β,qsum g (l.map f)=qsum (fun x=>g (f x)) l
 | []=>rfl
 | x::l=>by rw [List.map_cons,qsum_cons,qsum_cons,qsum_map g f l]
theorem fitA_no {l:List Mk} (h:startS l≠0∨fit3 (nums3 l)=none):∃ c:Int,c≠0∧fitA l=.tup [.agg [.str ⟨#[]⟩,.str ⟨#[]⟩,.str ⟨#[]⟩,.str ⟨#[]⟩],.c (.i64 c)]:=by
 unfold fitA
 by_cases h0:startS l=0
 · rw [if_pos h0,h.resolve_left (fun h=>h h0)]; exact ⟨18,by decide,rfl⟩
 · rw [if_neg h0]; exact ⟨_,h0,rfl⟩
theorem fitA_yes {l:List Mk} {a b c:Rat} (h0:startS l=0) (h:fit3 (nums3 l)=some (a,b,c)):fitA l=.tup [.agg [.str (B (decQ a)),.str (B (decQ b)),.str (B (decQ c)),.str (B (decQ (sq3 a b c (nums3 l))))],.c (.i64 0)]:=by
 unfold fitA
 rw [if_pos h0,h]; rfl
end Gev
namespace Gev
open Go Gb
variable {E:Env}
attribute [local irreducible] Sz
theorem Q1_push {qs:List P3} {f:P3→Rat} {i:Nat} {q:P3} (hq:qs[i]?=some q):(Q1 ((qs.take i).map f)).take i++[[.str (B (decQ (f q)))]]=Q1 ((qs.take (i+1)).map f):=by
 rw [List.take_of_length_le (by rw [Q1_len,List.length_map,List.length_take]; omega),take_get hq]
 unfold Q1
 rw [List.map_append,List.map_append]; rfl
theorem Norm_loop0 {ms:List QM} {x5 w0 w2:RW} {c0 c1 c2 c3:BA} (h1:B (decQ 1)=⟨#[49]⟩) (hn:ms.length≤16):∀ d i:Nat,i+d=ms.length →
    Lp E 3 F8 0 (Y5 x5 i i i (Q4 ms) (ms.length:Nat) (i:Nat) w0 c0 c1 c2 c3 w2 (Q1 (((pts ms).take i).map fun _=>1)) (Q1 (((pts ms).take i).map px)) (Q1 (((pts ms).take i).map py))) (.exit 0) (z0j x5 w0 c0 c1 c2 c3 w2 ms.length ms.length ms.length (Q1 ((pts ms).map fun _=>1)) (Q1 ((pts ms).map px)) (Q1 ((pts ms).map py)))
 | 0,i,hi=>by
  have e:i=ms.length:=by omega
  subst e
  rw [List.take_of_length_le (by rw [pts_len]; omega)]
  exact z8r (by omega)
 | d+1,i,hi=>by
  obtain ⟨m,hm⟩:=get_ex (l:=ms) (i:=i) (by omega)
  have g:=Q4_get hm
  rw [← Int.toNat_natCast i] at g
  have hq:(pts ms)[i]?=some m.2:=by unfold pts; rw [List.getElem?_map,hm]; rfl
  have p1:=Q1_push (f:=fun _=>1) hq
  have p2:=Q1_push (f:=px) hq
  have p3:=Q1_push (f:=py) hq
  rw [h1] at p1
  exact y0l p1 rfl p2 rfl p3 rfl (wi (by omega)) (by omega) (by omega) g (by omega) (by omega) (by omega) (Norm_loop0 h1 hn d (i+1) (by omega))
theorem dot_by {qs:List P3} {f:P3→Rat} {a b c:Rat} {K:Nat} (hI:In3 qs) (hn:qs.length≤16) (ha:Sz a K) (hb:Sz b K) (hc:Sz c K) (hK:K≤6000000) (hf:∀ q∈qs,Sz (f q) 4000):Fn E P5 [.c (.list (Q1 (qs.map (off3 a b c)))),.c (.list (Q1 (qs.map f)))] (.tup [.agg (Qr (qsum (fun q=>off3 a b c q*f q) qs)),.c (.bool true)]):=by
 have k:=dot_ok (E:=E) (ps:=qs.map fun q=>(off3 a b c q,f q)) (K:=3*K+12003) (L:=4000) (by rw [List.length_map]; exact hn) (by
  intro p hp
  obtain ⟨q,hq,rfl⟩:=List.mem_map.1 hp
  exact ⟨Sz_off3 ha hb hc (hI q hq),hf q hq⟩) (by omega) (by omega)
 rw [List.map_map,List.map_map] at k
 unfold dotQ at k
 rw [qsum_map] at k
 exact k
theorem law_SurveyNormal (hlib:Lib E) (hcs:Cs E) (haw:Fn E A8 [] (.c (.bool true))) (hone:B (decQ 1)=⟨#[49]⟩) (l:List Mk) (hl:l.length≤9223372036854775807):Fn E F8 [.c (.list (R4 l))] (.c (.bool true)):=by
 have hf:=r53_Few (E:=E) (l:=l) (t:=[]) hl (by decide)
 cases hb:fewS l [] with
 | false=>rw [hb] at hf; exact y4e haw hf
 | true =>
  rw [hb] at hf
  have hm:=(fewS_Short hb).1
  have hc:=hcs.mark l hm.1
  have k1:=sur_Fit hlib hm
  by_cases hs:startS l=0∧fit3 (nums3 l)≠none
  · obtain ⟨hs,hfn⟩:=hs
    obtain ⟨abc,hfi⟩:=Option.ne_none_iff_exists'.1 hfn
    obtain ⟨a,b,c⟩:=abc
    rw [fitA_yes hs hfi] at k1
    obtain ⟨ms,rfl,_,hn⟩:=startS_zero hs
    have hI:=Tm_in hm
    have hnp:(pts ms).length≤16:=by rw [pts_len]; exact hn
    rw [nums3_Tm] at k1 hfi
    obtain ⟨m0,mx,my,_⟩:=fit3_normal hfi
    obtain ⟨za,zb,zc⟩:=Sz_fit3 hI hnp hfi
    have k2:=sur_Differences hlib (s:=B (decQ (sq3 a b c (pts ms)))) hm (a:=decQ a) (b:=decQ b) (c:=decQ c) (by have:=za.len; omega) (by have:=zb.len; omega) (by have:=zc.len; omega)
    rw [diffA_Tm hn] at k2
    have z1:Sz 1 4000:=(Sz.one).mono (by omega)
    have d1:=dot_by (E:=E) (f:=fun _=>1) hI hnp za zb zc (by omega) (fun _ _=>z1)
    have d2:=dot_by (E:=E) (f:=px) hI hnp za zb zc (by omega) (fun q hq=>(hI q hq).1)
    have d3:=dot_by (E:=E) (f:=py) hI hnp za zb zc (by omega) (fun q hq=>(hI q hq).2.1)
    have e1:qsum (fun q=>off3 a b c q*1) (pts ms)=0:=by
     have:(fun q=>off3 a b c q*1)=off3 a b c:=by funext q; exact Rat.mul_one _
     rw [this]; exact m0
    have e2:qsum (fun q=>off3 a b c q*px q) (pts ms)=0:=mx
    have e3:qsum (fun q=>off3 a b c q*py q) (pts ms)=0:=my
    rw [e1] at d1
    rw [e2] at d2
    rw [e3] at d3
    have sg:=r3_Sign (E:=E) 0
    have L0:=Norm_loop0 (E:=E) (x5:=Q1 ((pts ms).map (off3 a b c))) (w0:=R4 (Tm ms)) (w2:=R4 (Tm ms)) (c0:=B (decQ a)) (c1:=B (decQ b)) (c2:=B (decQ c)) (c3:=B (decQ (sq3 a b c (pts ms)))) hone hn ms.length 0 (by omega)
    rw [← Q4_len ms,← Tm_R4] at L0
    have tk:∀ f:P3→Rat,(Q1 ((pts ms).map f)).take (R4 (Tm ms)).length=Q1 ((pts ms).map f):=fun f=>List.take_of_length_le (by rw [Q1_len,List.length_map,pts_len,R4_len,Tm_len]; omega)
    refine y4d (R4_take _) (R4_take _) (tk _) (tk _) (tk _) haw hf hc k1 rfl hc k2 rfl (by rw [Q1_len,List.length_map,pts_len,R4_len,Tm_len]) L0 ?_
    refine z2l (v7:=1) rfl (by omega) (by omega) rfl d1 sg rfl ?_
    refine z2l (v7:=2) rfl (by omega) (by omega) rfl d2 sg rfl ?_
    refine z2l (v7:=3) rfl (by omega) (by omega) rfl d3 sg rfl ?_
    exact z8s (by omega)
  · have hno:startS l≠0∨fit3 (nums3 l)=none:=by
     by_cases h0:startS l=0
     · exact .inr (Classical.not_not.1 fun h=>hs ⟨h0,h⟩)
     · exact .inl h0
    obtain ⟨c,hc0,e1⟩:=fitA_no hno
    rw [e1] at k1
    exact y4c (R4_take _) haw hf hc k1 hc0 rfl
end Gev
namespace Gev
open Go Gb
variable {E:Env}
attribute [local irreducible] Sz
theorem okN_Tm (ms:List QM):(Tm ms).all okN=ms.all fun m=>decide (m.1.length≤64):=by
 unfold Tm
 rw [List.all_map]
 congr 1
 funext m
 show okN (m.1,decQ (px m.2),decQ (py m.2),decQ (pz m.2))=_
 unfold okN
 rw [okM_dec]; rfl
end Gev
namespace Gev
open Go Gb
variable {E:Env}
attribute [local irreducible] Sz
def fl (a b c:Rat) (q:P3):P3:=(px q,py q,a+(b*px q+c*py q))
end Gev
namespace Gev
open Go Gb
end Gev
namespace Gev
open Go Gb
variable {E:Env}
attribute [local irreducible] Sz
end Gev
namespace Gev
open Go Gb Go.Proofs
variable {E:Env}
attribute [local irreducible] Sz
theorem txn {l:List UInt8} {q:Rat} (hd:q.den=1) (hn:q.num=(dval l:Nat)) (h:natB l=true):decQ q=l:=by
 rw [decQ_int hd,hn,decZ_nat]; exact ((natB_iff.1 h).eq_dec).symm
theorem txf {a b:List UInt8} {q:Rat} (hn:q.num=(dval a:Nat)) (hd:q.den=dval b) (h1:q.den≠1) (ha:natB a=true) (hb:natB b=true):decQ q=a++47::b:=by
 rw [decQ_frac h1,hn,hd,decZ_nat,← (natB_iff.1 ha).eq_dec,← (natB_iff.1 hb).eq_dec]
theorem d0:decQ 0=[48]:=decQ_zero
theorem d1:decQ 1=[49]:=txn (by kernel_rfl) (by kernel_rfl) (by decide)
theorem d2:decQ 2=[50]:=txn (by kernel_rfl) (by kernel_rfl) (by decide)
theorem d4:decQ 4=[52]:=txn (by kernel_rfl) (by kernel_rfl) (by decide)
theorem d5:decQ 5=[53]:=txn (by kernel_rfl) (by kernel_rfl) (by decide)
theorem d6:decQ 6=[54]:=txn (by kernel_rfl) (by kernel_rfl) (by decide)
theorem d10:decQ 10=[49,48]:=txn (by kernel_rfl) (by kernel_rfl) (by decide)
theorem d100:decQ 100=[49,48,48]:=txn (by kernel_rfl) (by kernel_rfl) (by decide)
theorem d160:decQ 160=[49,54,48]:=txn (by kernel_rfl) (by kernel_rfl) (by decide)
theorem d164:decQ 164=[49,54,52]:=txn (by kernel_rfl) (by kernel_rfl) (by decide)
theorem d180:decQ 180=[49,56,48]:=txn (by kernel_rfl) (by kernel_rfl) (by decide)
theorem d1_10:decQ (mkRat 1 10)=[49,47,49,48]:=txf (a:=[49]) (b:=[49,48]) (by kernel_rfl) (by kernel_rfl) (by decide) (by decide) (by decide)
theorem d11_2:decQ (mkRat 11 2)=[49,49,47,50]:=txf (a:=[49,49]) (b:=[50]) (by kernel_rfl) (by kernel_rfl) (by decide) (by decide) (by decide)
theorem d7_4:decQ (mkRat 7 4)=[55,47,52]:=txf (a:=[55]) (b:=[52]) (by kernel_rfl) (by kernel_rfl) (by decide) (by decide) (by decide)
theorem B_one:B (decQ 1)=⟨#[49]⟩:=by rw [d1]; rfl
def four:List QM:=[([97],0,0,5),([98],10,0,6),([99],0,4,5),([100],10,4,6)]
theorem Q4_four:Q4 four=[[.str ⟨#[97]⟩,.str ⟨#[48]⟩,.str ⟨#[48]⟩,.str ⟨#[53]⟩],[.str ⟨#[98]⟩,.str ⟨#[49,48]⟩,.str ⟨#[48]⟩,.str ⟨#[54]⟩],[.str ⟨#[99]⟩,.str ⟨#[48]⟩,.str ⟨#[52]⟩,.str ⟨#[53]⟩],[.str ⟨#[100]⟩,.str ⟨#[49,48]⟩,.str ⟨#[52]⟩,.str ⟨#[54]⟩]]:=by
 show ([[.str (B [97]),.str (B (decQ 0)),.str (B (decQ 0)),.str (B (decQ 5))],[.str (B [98]),.str (B (decQ 10)),.str (B (decQ 0)),.str (B (decQ 6))],[.str (B [99]),.str (B (decQ 0)),.str (B (decQ 4)),.str (B (decQ 5))],[.str (B [100]),.str (B (decQ 10)),.str (B (decQ 4)),.str (B (decQ 6))]]:RW)=_
 rw [d0,d4,d5,d6,d10]; rfl
theorem four_ok:Fn E y1w [] (.c (.list (R4 (Tm four)))):=by
 rw [Tm_R4,Q4_four]
 exact x8r rfl
theorem fit_four:fit3 (pts four)=some (5,mkRat 1 10,0):=by kernel_rfl
theorem sq_four:sq3 5 (mkRat 1 10) 0 (pts four)=0:=by kernel_rfl
end Gev
namespace Gev
open Go Gb Go.Proofs
variable {E:Env}
attribute [local irreducible] Sz
theorem Tm_four:Tm four=[([97],[48],[48],[53]),([98],[49,48],[48],[54]),([99],[48],[52],[53]),([100],[49,48],[52],[54])]:=by
 show ([([97],decQ 0,decQ 0,decQ 5),([98],decQ 10,decQ 0,decQ 6),([99],decQ 0,decQ 4,decQ 5),([100],decQ 10,decQ 4,decQ 6)]:List Mk)=_
 rw [d0,d4,d5,d6,d10]
theorem short_four:Short (Tm four):=by
 rw [Tm_four]
 refine ⟨by decide,fun m hm=>?_⟩
 simp only [List.mem_cons,List.not_mem_nil,or_false] at hm
 rcases hm with rfl | rfl | rfl | rfl <;> decide
theorem start_four:startS (Tm four)=0:=by
 unfold startS
 rw [okN_Tm,Tm_len,if_pos (by decide),if_neg (by decide),if_neg (by decide)]
theorem fit_ok4 (hlib:Lib E):Fn E B8 [.c (.list (R4 (Tm four)))] (.tup [.agg [.str (B [53]),.str (B [49,47,49,48]),.str (B [48]),.str (B [48])],.c (.i64 0)]):=by
 have h:=sur_Fit hlib short_four
 rw [fitA_yes start_four (by rw [nums3_Tm]; exact fit_four),nums3_Tm,sq_four,d5,d1_10,d0] at h
 exact h
theorem diff_ok4 (hlib:Lib E) {s:BA}:Fn E B2 [.c (.list (R4 (Tm four))),.agg [.str (B [53]),.str (B [49,47,49,48]),.str (B [48]),.str s]] (.tup [.c (.list (Q1 [0,0,0,0])),.c (.i64 0)]):=by
 have h:=sur_Differences hlib (s:=s) short_four (a:=decQ 5) (b:=decQ (mkRat 1 10)) (c:=decQ 0) (by rw [d5]; decide) (by rw [d1_10]; decide) (by rw [d0]; decide)
 rw [diffA_Tm (by decide),show (pts four).map (off3 5 (mkRat 1 10) 0)=[0,0,0,0] by kernel_rfl,d5,d1_10,d0] at h
 exact h
theorem at_ok4 (hlib:Lib E) {s:BA}:Fn E z3c [.agg [.str (B [53]),.str (B [49,47,49,48]),.str (B [48]),.str s],.c (.str (B [53])),.c (.str (B [48]))] (.tup [.c (.str (B [49,49,47,50])),.c (.i64 0)]):=by
 have h:=sur_At hlib (s:=s) (a:=decQ 5) (b:=decQ (mkRat 1 10)) (c:=decQ 0) (x:=decQ 5) (y:=decQ 0) (by rw [d5]; decide) (by rw [d1_10]; decide) (by rw [d0]; decide) (by rw [d5]; decide) (by rw [d0]; decide)
 have e:atA (decQ 5) (decQ (mkRat 1 10)) (decQ 0) (decQ 5) (decQ 0)=(0,[49,49,47,50]):=by
  unfold atA
  rw [if_pos (by simp [ok1_dec]),rdv_dec,rdv_dec,rdv_dec,show (5:Rat)+(mkRat 1 10*5+0*0)=mkRat 11 2 by kernel_rfl,d11_2]
 rw [e,d5,d1_10,d0] at h
 exact h
end Gev
namespace Gev
open Go Gb Go.Proofs
variable {E:Env}
attribute [local irreducible] Sz
def two:List P3:=[(4,100,1),(6,180,2)]
theorem Td_two:Td two=[([52],[49,48,48],[49]),([54],[49,56,48],[50])]:=by
 show ([(decQ 4,decQ 100,decQ 1),(decQ 6,decQ 180,decQ 2)]:List D3)=_
 rw [d4,d100,d1,d6,d180,d2]
theorem short_two:ShortD (Td two):=by
 rw [Td_two]
 refine ⟨by decide,fun m hm=>?_⟩
 simp only [List.mem_cons,List.not_mem_nil,or_false] at hm
 rcases hm with rfl | rfl <;> decide
theorem two_ok:Fn E y0d [] (.c (.list (R3 (Td two)))):=by
 rw [Td_two]
 exact x7k rfl
theorem okD_two:(Td two).all okD=true:=by
 rw [List.all_eq_true]
 intro m hm
 unfold Td at hm
 obtain ⟨q,_,rfl⟩:=List.mem_map.1 hm
 show [decQ (px q),decQ (py q),decQ (pz q)].all ok1=true
 simp [ok1_dec]
theorem look_two:lookA (Td two) (decQ (mkRat 11 2))=(0,some (160,mkRat 7 4)):=by
 unfold lookA
 rw [okD_two,ok1_dec,Bool.true_and,if_pos rfl,Td_len,if_neg (by decide),if_neg (by decide),numsD_Td,rdv_dec]
 kernel_rfl
theorem look_ok4 (hlib:Lib E):Fn E A5 [.c (.list (R3 (Td two))),.c (.str (B [49,49,47,50]))] (.tup [.agg [.str (B [49,49,47,50]),.str (B [49,54,48]),.str (B [55,47,52])],.c (.i64 0)]):=by
 have h:=sur_Lookup hlib short_two (d:=decQ (mkRat 11 2)) (by rw [d11_2]; decide)
 rw [look_two] at h
 have e:Dc (decQ (mkRat 11 2)) (0,some (160,mkRat 7 4))=.tup [.agg [.str (B (decQ (mkRat 11 2))),.str (B (decQ 160)),.str (B (decQ (mkRat 7 4)))],.c (.i64 0)]:=rfl
 rw [e,d11_2,d160,d7_4] at h
 exact h
theorem worst_ok4 (hlib:Lib E) (hcs:Cs E):Fn E F7 [.c (.list (R4 (Tm four)))] (.tup [.c (.i64 0),.c (.i64 0)]):=by
 have h:=sur_Worst hlib hcs short_four
 have e:worstA (Tm four)=(0,0):=by
  unfold worstA
  rw [if_pos start_four,nums3_Tm,fit_four]
  show (if (Tm four).length < 4 then ((9:Int),(0:Int)) else worstP (pts four))=(0,0)
  rw [Tm_len,if_neg (by decide)]
  kernel_rfl
 rw [e] at h
 exact h
end Gev
namespace Gev
open Go Gb Go.Proofs
variable {E:Env}
attribute [local irreducible] Sz
theorem d41_40:decQ (mkRat 41 40)=[52,49,47,52,48]:=txf (a:=[52,49]) (b:=[52,48]) (by kernel_rfl) (by kernel_rfl) (by decide) (by decide) (by decide)
theorem surv_four:survA (Tm four) (Td two) (decQ 5) (decQ 10) (decQ (mkRat 41 40))=.tup [.agg [.str (B [49,49,47,50]),.str (B [49]),.str (B [48]),.str (B [49,54,52]),.str (B [55,47,52]),.str (B [48])],.c (.i64 0)]:=by
 unfold survA
 rw [if_pos (ok1_all3 _ _ _),rdv_dec,rdv_dec,rdv_dec,if_pos (by decide),if_pos start_four,nums3_Tm,fit_four]
 have e:draftS 5 (mkRat 1 10) 0 5=mkRat 11 2:=by kernel_rfl
 show (match lookA (Td two) (decQ (draftS 5 (mkRat 1 10) 0 5)) with
  | (e,none)=>errS e
  | (_,some (x,y))=>AV.tup [.agg [.str (B (decQ (draftS 5 (mkRat 1 10) 0 5))),.str (B (decQ (mkRat 1 10*10))),.str (B (decQ 0)),.str (B (decQ (x*mkRat 41 40))),.str (B (decQ y)),.str (B (decQ (sq3 5 (mkRat 1 10) 0 (pts four))))],.c (.i64 0)])=_
 rw [e,look_two,sq_four]
 show AV.tup [.agg [.str (B (decQ (mkRat 11 2))),.str (B (decQ (mkRat 1 10*10))),.str (B (decQ 0)),.str (B (decQ (160*mkRat 41 40))),.str (B (decQ (mkRat 7 4))),.str (B (decQ 0))],.c (.i64 0)]=_
 rw [show mkRat 1 10*10=(1:Rat) by kernel_rfl,show (160:Rat)*mkRat 41 40=164 by kernel_rfl,d11_2,d1,d0,d164,d7_4]
theorem awake_ok (hlib:Lib E) (hcs:Cs E):Fn E A8 [] (.c (.bool true)):=by
 have hs:=sur_Survey hlib short_four short_two (m:=decQ 5) (n:=decQ 10) (r:=decQ (mkRat 41 40)) (by rw [d5]; decide) (by rw [d10]; decide) (by rw [d41_40]; decide)
 rw [surv_four,d5,d10,d41_40] at hs
 have he:=equal_same (E:=E) (xs:=[0,0,0,0]) (by decide)
 have e0:Q1 [0,0,0,0]=[[.str ⟨#[48]⟩],[.str ⟨#[48]⟩],[.str ⟨#[48]⟩],[.str ⟨#[48]⟩]]:=by
  show ([[.str (B (decQ 0))],[.str (B (decQ 0))],[.str (B (decQ 0))],[.str (B (decQ 0))]]:RW)=_
  rw [d0]; rfl
 exact x7l e0.symm four_ok (fit_ok4 hlib) two_ok hs (diff_ok4 hlib) (at_ok4 hlib) (look_ok4 hlib) (worst_ok4 hlib hcs) rfl rfl rfl rfl rfl rfl rfl rfl he rfl rfl rfl
end Gev
namespace Gev
open Go Gb Go.Proofs
theorem cs0:Cs E0:=cs_ok
theorem awake0:Fn E0 A8 [] (.c (.bool true)):=awake_ok lib0 cs0
end Gev
namespace Gev
open Go Gb Go.Proofs Go.ChangeShapes Go.WideShapes Go.ChangeAt Go.RowKit
open YtgkchlchkdecfaaGreatDoor (Rows.uptoBulk Rows.uptoBulkAll Rows.uptoSmall Rows.OpenSpec.upto)
variable {H:Type} {enc:TypeId × Value→H}
end Gev
