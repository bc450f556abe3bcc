/- The law of the last text of this claim: its walk, its plain words. -/
import Derived.Test.YtgkchlchkdecfaaGreatDoorE
import Derived.KernelRfl
import Derived.Test.YtgkchlchkdecfaaGreatDoorTie
import Derived.Test.YtgkchlchkdecfaaGreatDoorCards
import Derived.Deep.DeepHandedRow
import Derived.Deep.Strs
set_option linter.unusedSectionVars false
set_option linter.unusedVariables false
set_option linter.unusedSimpArgs false
namespace Gev
open Go Go.Proofs
variable {E:Env}
def Y6 (x9:Nat) (x50:Int) (x51:Int) (c0_0:Bool) (c0_1:RW) (c0_2:RW) (w1:RW) (c2_0:BA) (c2_1:BA) (c2_2:BA) (c2_3:BA) (w3:RW):St:=stOf 103 [(5,.ptr 0 0),(7,.ptr 2 0),(9,.vec 3 x9),(50,.c (.i64 x50)),(51,.c (.i64 x51))] [some (.cells [.c (.bool c0_0),.c (.list c0_1),.c (.list c0_2)]),some (.fro w1),some (.cells [.c (.str c2_0),.c (.str c2_1),.c (.str c2_2),.c (.str c2_3)]),some (.vec A9 w3)]
def z0k (x9:Nat) (c0_0:Bool) (c0_1:RW) (c0_2:RW) (w1:RW) (c2_0:BA) (c2_1:BA) (c2_2:BA) (c2_3:BA) (w3':RW):St:=stOf 103 [(5,.ptr 0 0),(7,.ptr 2 0),(9,.vec 3 x9)] [some (.cells [.c (.bool c0_0),.c (.list c0_1),.c (.list c0_2)]),some (.fro w1),some (.cells [.c (.str c2_0),.c (.str c2_1),.c (.str c2_2),.c (.str c2_3)]),some (.vec A9 w3')]
theorem y0m {x9:Nat} {x50 x51:Int} {c0_0:Bool} {c0_1 c0_2 w1:RW} {c2_0 c2_1 c2_2 c2_3:BA} {w3:RW} {v1 v2 v3 v4:BA} {v5:Bool} {v6 v7:RW} {v8 v9:Bool} {v10 v11:RW} {v12:BA} {v13:RW} {v14:Int} (e1:List.set w3 (Int.toNat x51) [.str v1,.str v2,.str v3,.str v12]=v13) (e2:IntKind.i64.wrap (x51+1)=v14) (h1:x51 < x50) (h2:0≤x51∧x51 < ((x9:Nat):Int)) (h3:w3[(Int.toNat x51)]?=some [.str v1,.str v2,.str v3,.str v4]) (h4:Fn E D2 [.c (.str v4)] (.tup [.agg [.bool v5,.list v6,.list v7],.c (.bool v8)])) (h5:Fn E N3 [.agg [.bool v5,.list v6,.list v7],.agg [.bool c0_0,.list c0_1,.list c0_2]] (.agg [.bool v9,.list v10,.list v11])) (h6:Fn E P2 [.agg [.bool v9,.list v10,.list v11]] (.c (.str v12))) {o:Out} {st':St} (ih:Lp E 4 H4 0 (Y6 x9 x50 v14 c0_0 c0_1 c0_2 w1 c2_0 c2_1 c2_2 c2_3 v13) o st') :Lp E 4 H4 0 (Y6 x9 x50 x51 c0_0 c0_1 c0_2 w1 c2_0 c2_1 c2_2 c2_3 w3) o st':=by
 subst e1 e2
 exact lpOn _ [5,7,9,50,51] [.t true,.d [.str v1,.str v2,.str v3,.str v4],.v (.tup [.agg [.bool v5,.list v6,.list v7],.c (.bool v8)]),.v (.agg [.bool v9,.list v10,.list v11]),.v (.c (.str v12)),.d [.str v1,.str v2,.str v3,.str v4]] (aC (dT h1) (aC h2 (aC h3 (aC h4 (aC h5 (aC h6 (aC h2 (aO h3)))))))) (by kernel_rfl) ih
theorem z8t {x9:Nat} {x50 x51:Int} {c0_0:Bool} {c0_1 c0_2 w1:RW} {c2_0 c2_1 c2_2 c2_3:BA} {w3:RW} (h1:¬ x51 < x50) :Lp E 4 H4 0 (Y6 x9 x50 x51 c0_0 c0_1 c0_2 w1 c2_0 c2_1 c2_2 c2_3 w3) (.exit 0) (z0k x9 c0_0 c0_1 c0_2 w1 c2_0 c2_1 c2_2 c2_3 w3):=by
 exact lpOff [5,7,9] [.t false] (aO (dF h1)) (by kernel_rfl) (by simp)
theorem y4m {a0:RW} {a1:BA} {v2:Bool} {v3 v4:RW} {v5:Bool} (h1:Fn E A8 [] (.c (.bool true))) (h2:Fn E D2 [.c (.str a1)] (.tup [.agg [.bool v2,.list v3,.list v4],.c (.bool v5)])) (h3:Fn E A6 [.c (.list a0),.c (.list [])] (.c (.bool true))) (h4:(a1.size:Int) > 40) :Fn E H4 [.c (.list a0),.c (.str a1)] (.c (.bool true)):=by
 exact fnMk [.v (.c (.bool true)),.v (.tup [.agg [.bool v2,.list v3,.list v4],.c (.bool v5)]),.v (.c (.bool true)),.t true] (by kernel_rfl) (by kernel_rfl) (aC h1 (aC h2 (aC h3 (aO (dT h4))))) (by kernel_rfl)
theorem y4n {a0:RW} {a1:BA} {v2:Bool} {v3 v4:RW} {v7:Nat} {v8 v9:RW} {v10 v11 v12 v13:BA} {v14:Int} (e1:(v8.take v7)=v9) (h1:Fn E A8 [] (.c (.bool true))) (h2:Fn E D2 [.c (.str a1)] (.tup [.agg [.bool v2,.list v3,.list v4],.c (.bool true)])) (h3:Fn E A6 [.c (.list a0),.c (.list [])] (.c (.bool true))) (h4:¬ (a1.size:Int) > 40) (h5:Rn E B3 [.c (.list a0)] [] (.vec 0 v7) [some (.vec A9 v8)]) (h6:Fn E B8 [.c (.list v9)] (.tup [.agg [.str v10,.str v11,.str v12,.str v13],.c (.i64 v14)])) (h7:¬ v14=0) (h8:((v10 == (⟨#[]⟩:BA)) && ((v11 == (⟨#[]⟩:BA)) && ((v12 == (⟨#[]⟩:BA)) && ((v13 == (⟨#[]⟩:BA)) && true))))=true) :Fn E H4 [.c (.list a0),.c (.str a1)] (.c (.bool true)):=by
 subst e1
 exact fnMk [.v (.c (.bool true)),.v (.tup [.agg [.bool v2,.list v3,.list v4],.c (.bool true)]),.v (.c (.bool true)),.t false,.nw v7 A9 v8,.v (.tup [.agg [.str v10,.str v11,.str v12,.str v13],.c (.i64 v14)]),.t true,.t true] (by kernel_rfl) (by kernel_rfl) (aC h1 (aC h2 (aC h3 (aC (dF h4) (aC h5 (aC h6 (aC (bnT h7) (aO (id h8))))))))) (by kernel_rfl)
theorem y4o {a0:RW} {a1:BA} {v2:Bool} {v3 v4:RW} {v7:Nat} {v8 v9:RW} {v10 v11 v12 v13:BA} {v14:Int} {v15:Nat} {v16 v17 v18:RW} {v19 v20 v21 v22:BA} {v23:Int} {v24:Bool} {v25 v26:RW} {v28:Bool} {v29 v30:RW} {v31:BA} (e1:(v8.take v7)=v9) (e2:(v17.take v15)=v18) (h1:Fn E A8 [] (.c (.bool true))) (h2:Fn E D2 [.c (.str a1)] (.tup [.agg [.bool v2,.list v3,.list v4],.c (.bool true)])) (h3:Fn E A6 [.c (.list a0),.c (.list [])] (.c (.bool true))) (h4:¬ (a1.size:Int) > 40) (h5:Rn E B3 [.c (.list a0)] [] (.vec 0 v7) [some (.vec A9 v8)]) (h6:Fn E B8 [.c (.list v9)] (.tup [.agg [.str v10,.str v11,.str v12,.str v13],.c (.i64 v14)])) (h7:v14=0) (h8:Rn E B3 [.c (.list a0)] [] (.vec 0 v15) [some (.vec A9 v16)]) (h9:Lp E 4 H4 0 (Y6 v15 ((v15:Nat):Int) 0 v2 v3 v4 v8 v10 v11 v12 v13 v16) (.exit 0) (z0k v15 v2 v3 v4 v8 v10 v11 v12 v13 v17)) (h10:Fn E B8 [.c (.list v18)] (.tup [.agg [.str v19,.str v20,.str v21,.str v22],.c (.i64 v23)])) (h11:Fn E D2 [.c (.str v10)] (.tup [.agg [.bool v24,.list v25,.list v26],.c (.bool true)])) (h12:v23=0) (h13:Fn E N3 [.agg [.bool v24,.list v25,.list v26],.agg [.bool v2,.list v3,.list v4]] (.agg [.bool v28,.list v29,.list v30])) (h14:Fn E P2 [.agg [.bool v28,.list v29,.list v30]] (.c (.str v31))) (h15:((v19 == v31) && ((v20 == v11) && ((v21 == v12) && ((v22 == v13) && true))))=true) :Fn E H4 [.c (.list a0),.c (.str a1)] (.c (.bool true)):=by
 subst e1 e2
 exact fnMk [.v (.c (.bool true)),.v (.tup [.agg [.bool v2,.list v3,.list v4],.c (.bool true)]),.v (.c (.bool true)),.t false,.nw v7 A9 v8,.v (.tup [.agg [.str v10,.str v11,.str v12,.str v13],.c (.i64 v14)]),.t false,.nw v15 A9 v16,.loop [5,7,9,50,51] [] (.exit 0) (z0k v15 v2 v3 v4 v8 v10 v11 v12 v13 v17),.v (.tup [.agg [.str v19,.str v20,.str v21,.str v22],.c (.i64 v23)]),.v (.tup [.agg [.bool v24,.list v25,.list v26],.c (.bool true)]),.t true,.v (.agg [.bool v28,.list v29,.list v30]),.v (.c (.str v31)),.t true] (by kernel_rfl) (by kernel_rfl) (aC h1 (aC h2 (aC h3 (aC (dF h4) (aC h5 (aC h6 (aC (bnF h7) (aC h8 (aC h9 (aC h10 (aC h11 (aC (beT h12) (aC h13 (aC h14 (aO (id h15)))))))))))))))) (by kernel_rfl)
theorem y4p {a0:RW} {a1:BA} {v2:Bool} {v3 v4:RW} (h1:Fn E A8 [] (.c (.bool true))) (h2:Fn E D2 [.c (.str a1)] (.tup [.agg [.bool v2,.list v3,.list v4],.c (.bool false)])) (h3:Fn E A6 [.c (.list a0),.c (.list [])] (.c (.bool true))) (h4:¬ (a1.size:Int) > 40) :Fn E H4 [.c (.list a0),.c (.str a1)] (.c (.bool true)):=by
 exact fnMk [.v (.c (.bool true)),.v (.tup [.agg [.bool v2,.list v3,.list v4],.c (.bool false)]),.v (.c (.bool true)),.t false] (by kernel_rfl) (by kernel_rfl) (aC h1 (aC h2 (aC h3 (aO (dF h4))))) (by kernel_rfl)
theorem y4q {a0:RW} {a1:BA} {v2:Bool} {v3 v4:RW} {v5:Bool} (h1:Fn E A8 [] (.c (.bool true))) (h2:Fn E D2 [.c (.str a1)] (.tup [.agg [.bool v2,.list v3,.list v4],.c (.bool v5)])) (h3:Fn E A6 [.c (.list a0),.c (.list [])] (.c (.bool false))) :Fn E H4 [.c (.list a0),.c (.str a1)] (.c (.bool true)):=by
 exact fnMk [.v (.c (.bool true)),.v (.tup [.agg [.bool v2,.list v3,.list v4],.c (.bool v5)]),.v (.c (.bool false))] (by kernel_rfl) (by kernel_rfl) (aC h1 (aC h2 (aO h3))) (by kernel_rfl)
theorem x7l {v1:RW} {v2 v3 v4 v5:BA} {v6:Int} {v7:RW} {v8 v9 v10 v11 v12 v13:BA} {v14:Int} {v15:RW} {v16:Int} {v17:BA} {v18:Int} {v19 v20 v21:BA} {v22 v23 v24:Int} {v25:RW} (e1:(([[.str ⟨#[48]⟩],[.str ⟨#[48]⟩],[.str ⟨#[48]⟩],[.str ⟨#[48]⟩]]:RW).take 4)=v25) (h1:Fn E y1w [] (.c (.list v1))) (h2:Fn E B8 [.c (.list v1)] (.tup [.agg [.str v2,.str v3,.str v4,.str v5],.c (.i64 v6)])) (h3:Fn E y0d [] (.c (.list v7))) (h4:Fn E U6 [.c (.list v1),.c (.list v7),.c (.str ⟨#[53]⟩),.c (.str ⟨#[49,48]⟩),.c (.str ⟨#[52,49,47,52,48]⟩)] (.tup [.agg [.str v8,.str v9,.str v10,.str v11,.str v12,.str v13],.c (.i64 v14)])) (h5:Fn E B2 [.c (.list v1),.agg [.str v2,.str v3,.str v4,.str v5]] (.tup [.c (.list v15),.c (.i64 v16)])) (h6:Fn E z3c [.agg [.str v2,.str v3,.str v4,.str v5],.c (.str ⟨#[53]⟩),.c (.str ⟨#[48]⟩)] (.tup [.c (.str v17),.c (.i64 v18)])) (h7:Fn E A5 [.c (.list v7),.c (.str ⟨#[49,49,47,50]⟩)] (.tup [.agg [.str v19,.str v20,.str v21],.c (.i64 v22)])) (h8:Fn E F7 [.c (.list v1)] (.tup [.c (.i64 v23),.c (.i64 v24)])) (h9:v6=0) (h10:v14=0) (h11:v16=0) (h12:v18=0) (h13:v22=0) (h14:v24=0) (h15:((v2 == (⟨#[53]⟩:BA)) && ((v3 == (⟨#[49,47,49,48]⟩:BA)) && ((v4 == (⟨#[48]⟩:BA)) && ((v5 == (⟨#[48]⟩:BA)) && true))))=true) (h16:((v8 == (⟨#[49,49,47,50]⟩:BA)) && ((v9 == (⟨#[49]⟩:BA)) && ((v10 == (⟨#[48]⟩:BA)) && ((v11 == (⟨#[49,54,52]⟩:BA)) && ((v12 == (⟨#[55,47,52]⟩:BA)) && ((v13 == (⟨#[48]⟩:BA)) && true))))))=true) (h17:Fn E M5 [.c (.list v15),.c (.list v25)] (.c (.bool true))) (h18:v17=(⟨#[49,49,47,50]⟩:BA)) (h19:v20=(⟨#[49,54,48]⟩:BA)) (h20:v23=0) :Fn E A8 [] (.c (.bool true)):=by
 subst e1
 exact fnMk [.v (.c (.list v1)),.v (.tup [.agg [.str v2,.str v3,.str v4,.str v5],.c (.i64 v6)]),.v (.c (.list v1)),.v (.c (.list v7)),.v (.tup [.agg [.str v8,.str v9,.str v10,.str v11,.str v12,.str v13],.c (.i64 v14)]),.v (.c (.list v1)),.v (.tup [.c (.list v15),.c (.i64 v16)]),.v (.tup [.c (.str v17),.c (.i64 v18)]),.v (.c (.list v7)),.v (.tup [.agg [.str v19,.str v20,.str v21],.c (.i64 v22)]),.v (.c (.list v1)),.v (.tup [.c (.i64 v23),.c (.i64 v24)]),.t true,.t true,.t true,.t true,.t true,.t true,.t true,.t true,.v (.c (.bool true)),.t true,.t true,.t true] (by kernel_rfl) (by kernel_rfl) (aC h1 (aC h2 (aC h1 (aC h3 (aC h4 (aC h1 (aC h5 (aC h6 (aC h3 (aC h7 (aC h1 (aC h8 (aC (beT h9) (aC (beT h10) (aC (beT h11) (aC (beT h12) (aC (beT h13) (aC (beT h14) (aC (id h15) (aC (id h16) (aC h17 (aC (seT h18) (aC (seT h19) (aO (beT h20))))))))))))))))))))))))) (by kernel_rfl)
theorem x8r {v1:RW} (e1:(([[.str ⟨#[97]⟩,.str ⟨#[48]⟩,.str ⟨#[48]⟩,.str ⟨#[53]⟩],[.str ⟨#[98]⟩,.str ⟨#[49,48]⟩,.str ⟨#[48]⟩,.str ⟨#[54]⟩],[.str ⟨#[99]⟩,.str ⟨#[48]⟩,.str ⟨#[52]⟩,.str ⟨#[53]⟩],[.str ⟨#[100]⟩,.str ⟨#[49,48]⟩,.str ⟨#[52]⟩,.str ⟨#[54]⟩]]:RW).take 4)=v1) :Fn E y1w [] (.c (.list v1)):=by
 subst e1
 exact fnMk [] (by kernel_rfl) (by kernel_rfl) aN (by kernel_rfl)
theorem x7k {v1:RW} (e1:(([[.str ⟨#[52]⟩,.str ⟨#[49,48,48]⟩,.str ⟨#[49]⟩],[.str ⟨#[54]⟩,.str ⟨#[49,56,48]⟩,.str ⟨#[50]⟩]]:RW).take 2)=v1) :Fn E y0d [] (.c (.list v1)):=by
 subst e1
 exact fnMk [] (by kernel_rfl) (by kernel_rfl) aN (by kernel_rfl)
end Gev
namespace Gev
open Go Gb
variable {E:Env}
def sh4 (m:Mk):Bool:=decide (m.1.length≤70) && (decide (m.2.1.length≤40) && (decide (m.2.2.1.length≤40) && decide (m.2.2.2.length≤40)))
def sh3 (m:D3):Bool:=decide (m.1.length≤40) && (decide (m.2.1.length≤40) && decide (m.2.2.length≤40))
theorem fewS_loop0 {l:List Mk} {t:RW} (hl:l.length≤9223372036854775807):∀ d i:Nat,i+d=l.length →
    (l.drop i).all sh4=true∧Lp E 0 A6 0 (K6 (R4 l) t (i:Nat)) (.exit 0) (U5 (R4 l) t) ∨
    (l.drop i).all sh4=false∧Lp E 0 A6 0 (K6 (R4 l) t (i:Nat)) .ret z1t
 | 0,i,hi=>.inl ⟨by rw [List.drop_eq_nil_of_le (by omega)]; rfl,x1g (by rw [R4_len]; omega)⟩
 | d+1,i,hi=>by
  obtain ⟨m,hc⟩:=get_ex (l:=l) (i:=i) (by omega)
  have g:=R4_get hc
  rw [← Int.toNat_natCast i] at g
  rw [drop_get hc,List.all_cons]
  have hlt:(i:Int) < ((R4 l).length:Int):=by rw [R4_len]; omega
  by_cases h1:m.1.length≤70
  · by_cases h2:m.2.1.length≤40
    · by_cases h3:m.2.2.1.length≤40
      · by_cases h4:m.2.2.2.length≤40
        · have e:sh4 m=true:=by unfold sh4; rw [decide_eq_true h1,decide_eq_true h2,decide_eq_true h3,decide_eq_true h4]; rfl
          rw [e,Bool.true_and]
          have st:∀ {o s},Lp E 0 A6 0 (K6 (R4 l) t ((i+1:Nat):Int)) o s→Lp E 0 A6 0 (K6 (R4 l) t (i:Nat)) o s:=fun h=>x4u (wi (by omega)) hlt (by omega) g (by rw [B_size]; omega) (by rw [B_size]; omega) (by rw [B_size]; omega) (by rw [B_size]; omega) h
          rcases fewS_loop0 hl d (i+1) (by omega) with ⟨k1,k2⟩ | ⟨k1,k2⟩
          · exact .inl ⟨k1,st k2⟩
          · exact .inr ⟨k1,st k2⟩
        · have e:sh4 m=false:=by unfold sh4; rw [decide_eq_false h4]; simp
          rw [e]
          exact .inr ⟨rfl,x1f hlt (by omega) g (by rw [B_size]; omega) (by rw [B_size]; omega) (by rw [B_size]; omega) (by rw [B_size]; omega)⟩
      · have e:sh4 m=false:=by unfold sh4; rw [decide_eq_false h3]; simp
        rw [e]
        exact .inr ⟨rfl,x1e hlt (by omega) g (by rw [B_size]; omega) (by rw [B_size]; omega) (by rw [B_size]; omega)⟩
    · have e:sh4 m=false:=by unfold sh4; rw [decide_eq_false h2]; simp
      rw [e]
      exact .inr ⟨rfl,x1d hlt (by omega) g (by rw [B_size]; omega) (by rw [B_size]; omega)⟩
  · have e:sh4 m=false:=by unfold sh4; rw [decide_eq_false h1]; simp
    rw [e]
    exact .inr ⟨rfl,x1c hlt (by omega) g (by rw [B_size]; omega)⟩
theorem fewS_loop1 {l:RW} {t:List D3} (hl:t.length≤9223372036854775807):∀ d i:Nat,i+d=t.length →
    (t.drop i).all sh3=true∧Lp E 0 A6 1 (N6 l (R3 t) (i:Nat)) (.exit 2) (z0i l (R3 t)) ∨
    (t.drop i).all sh3=false∧Lp E 0 A6 1 (N6 l (R3 t) (i:Nat)) .ret z2t
 | 0,i,hi=>.inl ⟨by rw [List.drop_eq_nil_of_le (by omega)]; rfl,x1k (by rw [R3_len]; omega)⟩
 | d+1,i,hi=>by
  obtain ⟨m,hc⟩:=get_ex (l:=t) (i:=i) (by omega)
  have g:=R3_get hc
  rw [← Int.toNat_natCast i] at g
  rw [drop_get hc,List.all_cons]
  have hlt:(i:Int) < ((R3 t).length:Int):=by rw [R3_len]; omega
  by_cases h1:m.1.length≤40
  · by_cases h2:m.2.1.length≤40
    · by_cases h3:m.2.2.length≤40
      · have e:sh3 m=true:=by unfold sh3; rw [decide_eq_true h1,decide_eq_true h2,decide_eq_true h3]; rfl
        rw [e,Bool.true_and]
        have st:∀ {o s},Lp E 0 A6 1 (N6 l (R3 t) ((i+1:Nat):Int)) o s→Lp E 0 A6 1 (N6 l (R3 t) (i:Nat)) o s:=fun h=>x4v (wi (by omega)) hlt (by omega) g (by rw [B_size]; omega) (by rw [B_size]; omega) (by rw [B_size]; omega) h
        rcases fewS_loop1 hl d (i+1) (by omega) with ⟨k1,k2⟩ | ⟨k1,k2⟩
        · exact .inl ⟨k1,st k2⟩
        · exact .inr ⟨k1,st k2⟩
      · have e:sh3 m=false:=by unfold sh3; rw [decide_eq_false h3]; simp
        rw [e]
        exact .inr ⟨rfl,x1j hlt (by omega) g (by rw [B_size]; omega) (by rw [B_size]; omega) (by rw [B_size]; omega)⟩
    · have e:sh3 m=false:=by unfold sh3; rw [decide_eq_false h2]; simp
      rw [e]
      exact .inr ⟨rfl,x1i hlt (by omega) g (by rw [B_size]; omega) (by rw [B_size]; omega)⟩
  · have e:sh3 m=false:=by unfold sh3; rw [decide_eq_false h1]; simp
    rw [e]
    exact .inr ⟨rfl,x1h hlt (by omega) g (by rw [B_size]; omega)⟩
def fewS (l:List Mk) (t:List D3):Bool:=l.all sh4 && (t.all sh3 && (decide (l.length≤17) && decide (t.length≤33)))
theorem r53_Few {l:List Mk} {t:List D3} (hl:l.length≤9223372036854775807) (ht:t.length≤9223372036854775807):Fn E A6 [.c (.list (R4 l)),.c (.list (R3 t))] (.c (.bool (fewS l t))):=by
 have h0:=fewS_loop0 (E:=E) (t:=R3 t) hl l.length 0 (by omega)
 have h1:=fewS_loop1 (E:=E) (l:=R4 l) ht t.length 0 (by omega)
 rw [List.drop_zero] at h0 h1
 unfold fewS
 rcases h0 with ⟨a1,a2⟩ | ⟨a1,a2⟩
 · rw [a1,Bool.true_and]
   rcases h1 with ⟨b1,b2⟩ | ⟨b1,b2⟩
   · rw [b1,Bool.true_and]
     by_cases c1:l.length≤17
     · rw [decide_eq_true c1,Bool.true_and]
       by_cases c2:t.length≤33
       · rw [decide_eq_true c2]; exact k1a a2 b2 (by rw [R4_len]; omega) (by rw [R3_len]; omega)
       · rw [decide_eq_false c2]; exact k1b a2 b2 (by rw [R4_len]; omega) (by rw [R3_len]; omega)
     · rw [decide_eq_false c1,Bool.false_and]; exact k1c a2 b2 (by rw [R4_len]; omega)
   · rw [b1,Bool.false_and]; exact k0z a2 b2
 · rw [a1,Bool.false_and]; exact k0y a2
theorem fewS_short {l:List Mk} {t:List D3} (h:fewS l t=true):(∀ m∈l,m.1.length≤70∧m.2.1.length≤40∧m.2.2.1.length≤40∧m.2.2.2.length≤40)∧(∀ m∈t,m.1.length≤40∧m.2.1.length≤40∧m.2.2.length≤40)∧l.length≤17∧t.length≤33:=by
 unfold fewS at h
 simp only [Bool.and_eq_true,decide_eq_true_eq,List.all_eq_true] at h
 obtain ⟨h1,h2,h3,h4⟩:=h
 refine ⟨fun m hm=>?_,fun m hm=>?_,h3,h4⟩
 · have:=h1 m hm
   unfold sh4 at this
   simpa using this
 · have:=h2 m hm
   unfold sh3 at this
   simpa using this
theorem fewS_Short {l:List Mk} {t:List D3} (h:fewS l t=true):Short l∧ShortD t:=by
 obtain ⟨h1,h2,h3,h4⟩:=fewS_short h
 exact ⟨⟨by omega,fun m hm=>by have:=h1 m hm; omega⟩,by omega,fun m hm=>by have:=h2 m hm; omega⟩
theorem R4_take (l:List Mk):(R4 l).take l.length=R4 l:=List.take_of_length_le (by rw [R4_len]; omega)
theorem b_self (l:List UInt8):(B l == B l)=true:=by rw [B_beq]; simp
theorem and4 (a b c d:List UInt8):((B a == B a) && ((B b == B b) && ((B c == B c) && ((B d == B d) && true))))=true:=by rw [b_self,b_self,b_self,b_self]; rfl
end Gev
namespace Gev
open Go Gb
variable {E:Env}
theorem equal_loop {xs:List Rat} (hl:xs.length < 9223372036854775807):∀ d i:Nat,i+d=xs.length→Lp E 0 M5 0 (z0u (Q1 xs) (Q1 xs) (xs.length:Nat) (i:Nat)) (.exit 0) z1x
 | 0,i,hi=>y0p (by omega)
 | d+1,i,hi=>by
  obtain ⟨c,hc⟩:=get_ex (l:=xs) (i:=i) (by omega)
  have g:=Q1_get hc
  rw [← Int.toNat_natCast i] at g
  exact y2f (wi (by omega)) (by omega) (by omega) g g rfl (equal_loop hl d (i+1) (by omega))
theorem equal_same {xs:List Rat} (hl:xs.length < 9223372036854775807):Fn E M5 [.c (.list (Q1 xs)),.c (.list (Q1 xs))] (.c (.bool true)):=by
 have h:=equal_loop (E:=E) hl xs.length 0 (by omega)
 rw [← Q1_len xs] at h
 exact y9q rfl h
end Gev
namespace Gev
open Go Gb
variable {E:Env}
attribute [local irreducible] Sz
end Gev
namespace Gev
open Go Gb
variable {E:Env}
attribute [local irreducible] Sz
theorem ok1_all3 (a b c:Rat):[decQ a,decQ b,decQ c].all ok1=true:=by
 rw [List.all_eq_true]
 intro x hx
 simp at hx
 rcases hx with rfl | rfl | rfl <;> exact ok1_dec _
theorem diffA_Tm {ms:List QM} (hn:ms.length≤16) (a b c:Rat):diffA (Tm ms) (decQ a) (decQ b) (decQ c)=(0,(pts ms).map (off3 a b c)):=by
 unfold diffA
 rw [Tm_ok,ok1_all3,Bool.true_and,if_pos rfl,Tm_len,if_neg (by omega),nums3_Tm,rdv_dec,rdv_dec,rdv_dec]
theorem fitA_no {l:List Mk} (h:startS l≠0∨fit3 (nums3 l)=none):∃ c:Int,c≠0∧fitA l=.tup [.agg [.str ⟨#[]⟩,.str ⟨#[]⟩,.str ⟨#[]⟩,.str ⟨#[]⟩],.c (.i64 c)]:=by
 unfold fitA
 by_cases h0:startS l=0
 · rw [if_pos h0,h.resolve_left (fun h=>h h0)]; exact ⟨18,by decide,rfl⟩
 · rw [if_neg h0]; exact ⟨_,h0,rfl⟩
theorem fitA_yes {l:List Mk} {a b c:Rat} (h0:startS l=0) (h:fit3 (nums3 l)=some (a,b,c)):fitA l=.tup [.agg [.str (B (decQ a)),.str (B (decQ b)),.str (B (decQ c)),.str (B (decQ (sq3 a b c (nums3 l))))],.c (.i64 0)]:=by
 unfold fitA
 rw [if_pos h0,h]; rfl
end Gev
namespace Gev
open Go Gb
variable {E:Env}
attribute [local irreducible] Sz
end Gev
namespace Gev
open Go Gb
variable {E:Env}
attribute [local irreducible] Sz
def rM (u:Rat) (m:QM):QM:=(m.1,raise u m.2)
theorem pts_rM (u:Rat) (ms:List QM):pts (ms.map (rM u))=(pts ms).map (raise u):=by
 unfold pts; rw [List.map_map,List.map_map]; rfl
theorem okN_Tm (ms:List QM):(Tm ms).all okN=ms.all fun m=>decide (m.1.length≤64):=by
 unfold Tm
 rw [List.all_map]
 congr 1
 funext m
 show okN (m.1,decQ (px m.2),decQ (py m.2),decQ (pz m.2))=_
 unfold okN
 rw [okM_dec]; rfl
theorem startS_rM {u:Rat} {ms:List QM} (h:startS (Tm ms)=0):startS (Tm (ms.map (rM u)))=0:=by
 unfold startS at h ⊢
 rw [okN_Tm,Tm_len] at h ⊢
 rw [List.all_map,List.length_map]
 exact h
theorem set_cut {α:Type} {f:α→α} {l:List α} {i:Nat} {m:α} (h:l[i]?=some m):((l.take i).map f++l.drop i).set i (f m)=(l.take (i+1)).map f++l.drop (i+1):=by
 have hi:i < l.length:=(List.getElem?_eq_some_iff.1 h).1
 have hlen:((l.take i).map f).length=i:=by rw [List.length_map,List.length_take]; omega
 rw [drop_get h,take_get h,List.map_append,List.set_append_right _ _ (by omega),hlen,Nat.sub_self,List.append_assoc]
 rfl
theorem get_cut {α:Type} {f:α→α} {l:List α} {i:Nat} {m:α} (h:l[i]?=some m):((l.take i).map f++l.drop i)[i]?=some m:=by
 have hi:i < l.length:=(List.getElem?_eq_some_iff.1 h).1
 have hlen:((l.take i).map f).length=i:=by rw [List.length_map,List.length_take]; omega
 rw [List.getElem?_append_right (by omega),hlen,Nat.sub_self,drop_get h]; rfl
theorem Q4_set (l:List QM) (i:Nat) (m:QM):(Q4 l).set i [.str (B m.1),.str (B (decQ (px m.2))),.str (B (decQ (py m.2))),.str (B (decQ (pz m.2)))]=Q4 (l.set i m):=by
 unfold Q4; rw [List.map_set]
theorem Rais_loop {ms:List QM} {u:Rat} {w1:RW} {c0 c1 c2 c3:BA} (hI:In3 (pts ms)) (hn:ms.length≤16) (hu:Sz u 40):∀ d i:Nat,i+d=ms.length →
    Lp E 4 H4 0 (Y6 ms.length (ms.length:Nat) (i:Nat) (q0 u) (q1 u) (q2 u) w1 c0 c1 c2 c3 (Q4 ((ms.take i).map (rM u)++ms.drop i))) (.exit 0) (z0k ms.length (q0 u) (q1 u) (q2 u) w1 c0 c1 c2 c3 (Q4 (ms.map (rM u))))
 | 0,i,hi=>by
  rw [List.take_of_length_le (by omega),List.drop_eq_nil_of_le (by omega),List.append_nil]
  exact z8t (by omega)
 | d+1,i,hi=>by
  have hL:=Lim_val
  obtain ⟨m,hm⟩:=get_ex (l:=ms) (i:=i) (by omega)
  have g:=Q4_get (get_cut (f:=rM u) hm)
  rw [← Int.toNat_natCast i] at g
  have hq:m.2∈pts ms:=by unfold pts; exact List.mem_map.2 ⟨m,List.mem_of_getElem? hm,rfl⟩
  have zz:=(hI _ hq).2.2
  have hf:=r3_From (E:=E) (l:=decQ (pz m.2)) (by have:=zz.len; omega)
  rw [rd_decQ] at hf
  have ha:=r3_Add (E:=E) zz hu (by omega)
  have ht:=r3_To (E:=E) (zz.add hu) (by omega)
  have e:=Q4_set ((ms.take i).map (rM u)++ms.drop i) i (rM u m)
  rw [set_cut hm] at e
  refine y0m (v14:=((i+1:Nat):Int)) ?_ (wi (by omega)) (by omega) (by omega) (by simpa using g) hf ha ht (Rais_loop hI hn hu d (i+1) (by omega))
  rw [Int.toNat_natCast]
  exact e
theorem Short_rM {u:Rat} {ms:List QM} (h:fewS (Tm ms) []=true) (hu:Sz u 40):Short (Tm (ms.map (rM u))):=by
 obtain ⟨h1,_,h3,_⟩:=fewS_short h
 rw [Tm_len] at h3
 refine ⟨by rw [Tm_len,List.length_map]; omega,fun m hm=>?_⟩
 unfold Tm at hm
 rw [List.map_map] at hm
 obtain ⟨q,hq,rfl⟩:=List.mem_map.1 hm
 have k:=h1 (q.1,decQ (px q.2),decQ (py q.2),decQ (pz q.2)) (List.mem_map.2 ⟨q,hq,rfl⟩)
 have z:Sz (pz q.2) 40:=Sz.of_len k.2.2.2
 have zl:=(z.add hu).len
 show q.1.length≤4000∧(decQ (px q.2)).length≤4000∧(decQ (py q.2)).length≤4000∧(decQ (pz q.2+u)).length≤4000
 have k1:q.1.length≤70:=k.1
 have k2:(decQ (px q.2)).length≤40:=k.2.1
 have k3:(decQ (py q.2)).length≤40:=k.2.2.1
 omega
theorem law_SurveyRaised (hlib:Lib E) (hcs:Cs E) (haw:Fn E A8 [] (.c (.bool true))) (l:List Mk) (x:List UInt8) (hl:l.length≤9223372036854775807) (hx:x.length≤Lim):Fn E H4 [.c (.list (R4 l)),.c (.str (B x))] (.c (.bool true)):=by
 have hf:=r53_Few (E:=E) (l:=l) (t:=[]) hl (by decide)
 have hfr:=r3_From (E:=E) hx
 cases hb:fewS l [] with
 | false=>rw [hb] at hf; exact y4q haw hfr hf
 | true =>
  rw [hb] at hf
  have hm:=(fewS_Short hb).1
  by_cases h1:x.length≤40
  · have n1:¬ ((B x).size:Int) > 40:=by rw [B_size]; omega
    cases hr:rd x with
    | none=>rw [hr] at hfr; exact y4p haw hfr hf n1
    | some u =>
     have ho:ok1 x=true:=by unfold ok1; rw [hr]; rfl
     obtain ⟨u',rfl⟩:=ok1_dec' ho
     rw [rd_decQ] at hr
     cases hr
     rw [rd_decQ] at hfr
     have zu:Sz u 40:=Sz.of_len h1
     have hc:=hcs.mark l hm.1
     have k1:=sur_Fit hlib hm
     by_cases hs:startS l=0∧fit3 (nums3 l)≠none
     · obtain ⟨hs,hfn⟩:=hs
       obtain ⟨abc,hfi⟩:=Option.ne_none_iff_exists'.1 hfn
       obtain ⟨a,b,c⟩:=abc
       rw [fitA_yes hs hfi] at k1
       obtain ⟨ms,rfl,_,hn⟩:=startS_zero hs
       have hI:=Tm_in hm
       have hnp:(pts ms).length≤16:=by rw [pts_len]; exact hn
       rw [nums3_Tm] at k1 hfi
       obtain ⟨za,zb,zc⟩:=Sz_fit3 hI hnp hfi
       have hL:=Lim_val
       have hrs:=Short_rM hb zu
       have k2:=sur_Fit hlib hrs
       rw [fitA_yes (startS_rM hs) (a:=a+u) (b:=b) (c:=c) (by rw [nums3_Tm,pts_rM,raise_fit,hfi]; rfl),nums3_Tm,pts_rM,raise_sq] at k2
       have L0:=Rais_loop (E:=E) (w1:=R4 (Tm ms)) (c0:=B (decQ a)) (c1:=B (decQ b)) (c2:=B (decQ c)) (c3:=B (decQ (sq3 a b c (pts ms)))) hI hn zu ms.length 0 (by omega)
       rw [List.take_zero,List.map_nil,List.nil_append,List.drop_zero,← Tm_R4,← Tm_R4] at L0
       rw [Tm_len] at hc
       have f2:=r3_From (E:=E) (l:=decQ a) (by have:=za.len; omega)
       rw [rd_decQ] at f2
       have ad:=r3_Add (E:=E) za zu (by omega)
       have tq:=r3_To (E:=E) (za.add zu) (by omega)
       have tk:(R4 (Tm (ms.map (rM u)))).take ms.length=R4 (Tm (ms.map (rM u))):=List.take_of_length_le (by rw [R4_len,Tm_len,List.length_map]; omega)
       have tk0:(R4 (Tm ms)).take ms.length=R4 (Tm ms):=List.take_of_length_le (by rw [R4_len,Tm_len]; omega)
       exact y4o tk0 tk haw hfr hf n1 hc k1 rfl hc L0 k2 f2 rfl ad tq (and4 _ _ _ _)
     · have hno:startS l≠0∨fit3 (nums3 l)=none:=by
        by_cases h0:startS l=0
        · exact .inr (Classical.not_not.1 fun h=>hs ⟨h0,h⟩)
        · exact .inl h0
       obtain ⟨c,hc0,e1⟩:=fitA_no hno
       rw [e1] at k1
       exact y4n (R4_take _) haw hfr hf n1 hc k1 hc0 rfl
  · exact y4m haw hfr hf (by rw [B_size]; omega)
end Gev
namespace Gev
open Go Gb
variable {E:Env}
attribute [local irreducible] Sz
def fl (a b c:Rat) (q:P3):P3:=(px q,py q,a+(b*px q+c*py q))
end Gev
namespace Gev
open Go Gb
end Gev
namespace Gev
open Go Gb
variable {E:Env}
attribute [local irreducible] Sz
end Gev
namespace Gev
open Go Gb Go.Proofs
variable {E:Env}
attribute [local irreducible] Sz
theorem txn {l:List UInt8} {q:Rat} (hd:q.den=1) (hn:q.num=(dval l:Nat)) (h:natB l=true):decQ q=l:=by
 rw [decQ_int hd,hn,decZ_nat]; exact ((natB_iff.1 h).eq_dec).symm
theorem txf {a b:List UInt8} {q:Rat} (hn:q.num=(dval a:Nat)) (hd:q.den=dval b) (h1:q.den≠1) (ha:natB a=true) (hb:natB b=true):decQ q=a++47::b:=by
 rw [decQ_frac h1,hn,hd,decZ_nat,← (natB_iff.1 ha).eq_dec,← (natB_iff.1 hb).eq_dec]
theorem d0:decQ 0=[48]:=decQ_zero
theorem d1:decQ 1=[49]:=txn (by kernel_rfl) (by kernel_rfl) (by decide)
theorem d2:decQ 2=[50]:=txn (by kernel_rfl) (by kernel_rfl) (by decide)
theorem d4:decQ 4=[52]:=txn (by kernel_rfl) (by kernel_rfl) (by decide)
theorem d5:decQ 5=[53]:=txn (by kernel_rfl) (by kernel_rfl) (by decide)
theorem d6:decQ 6=[54]:=txn (by kernel_rfl) (by kernel_rfl) (by decide)
theorem d10:decQ 10=[49,48]:=txn (by kernel_rfl) (by kernel_rfl) (by decide)
theorem d100:decQ 100=[49,48,48]:=txn (by kernel_rfl) (by kernel_rfl) (by decide)
theorem d160:decQ 160=[49,54,48]:=txn (by kernel_rfl) (by kernel_rfl) (by decide)
theorem d164:decQ 164=[49,54,52]:=txn (by kernel_rfl) (by kernel_rfl) (by decide)
theorem d180:decQ 180=[49,56,48]:=txn (by kernel_rfl) (by kernel_rfl) (by decide)
theorem d1_10:decQ (mkRat 1 10)=[49,47,49,48]:=txf (a:=[49]) (b:=[49,48]) (by kernel_rfl) (by kernel_rfl) (by decide) (by decide) (by decide)
theorem d11_2:decQ (mkRat 11 2)=[49,49,47,50]:=txf (a:=[49,49]) (b:=[50]) (by kernel_rfl) (by kernel_rfl) (by decide) (by decide) (by decide)
theorem d7_4:decQ (mkRat 7 4)=[55,47,52]:=txf (a:=[55]) (b:=[52]) (by kernel_rfl) (by kernel_rfl) (by decide) (by decide) (by decide)
def four:List QM:=[([97],0,0,5),([98],10,0,6),([99],0,4,5),([100],10,4,6)]
theorem Q4_four:Q4 four=[[.str ⟨#[97]⟩,.str ⟨#[48]⟩,.str ⟨#[48]⟩,.str ⟨#[53]⟩],[.str ⟨#[98]⟩,.str ⟨#[49,48]⟩,.str ⟨#[48]⟩,.str ⟨#[54]⟩],[.str ⟨#[99]⟩,.str ⟨#[48]⟩,.str ⟨#[52]⟩,.str ⟨#[53]⟩],[.str ⟨#[100]⟩,.str ⟨#[49,48]⟩,.str ⟨#[52]⟩,.str ⟨#[54]⟩]]:=by
 show ([[.str (B [97]),.str (B (decQ 0)),.str (B (decQ 0)),.str (B (decQ 5))],[.str (B [98]),.str (B (decQ 10)),.str (B (decQ 0)),.str (B (decQ 6))],[.str (B [99]),.str (B (decQ 0)),.str (B (decQ 4)),.str (B (decQ 5))],[.str (B [100]),.str (B (decQ 10)),.str (B (decQ 4)),.str (B (decQ 6))]]:RW)=_
 rw [d0,d4,d5,d6,d10]; rfl
theorem four_ok:Fn E y1w [] (.c (.list (R4 (Tm four)))):=by
 rw [Tm_R4,Q4_four]
 exact x8r rfl
theorem fit_four:fit3 (pts four)=some (5,mkRat 1 10,0):=by kernel_rfl
theorem sq_four:sq3 5 (mkRat 1 10) 0 (pts four)=0:=by kernel_rfl
end Gev
namespace Gev
open Go Gb Go.Proofs
variable {E:Env}
attribute [local irreducible] Sz
theorem Tm_four:Tm four=[([97],[48],[48],[53]),([98],[49,48],[48],[54]),([99],[48],[52],[53]),([100],[49,48],[52],[54])]:=by
 show ([([97],decQ 0,decQ 0,decQ 5),([98],decQ 10,decQ 0,decQ 6),([99],decQ 0,decQ 4,decQ 5),([100],decQ 10,decQ 4,decQ 6)]:List Mk)=_
 rw [d0,d4,d5,d6,d10]
theorem short_four:Short (Tm four):=by
 rw [Tm_four]
 refine ⟨by decide,fun m hm=>?_⟩
 simp only [List.mem_cons,List.not_mem_nil,or_false] at hm
 rcases hm with rfl | rfl | rfl | rfl <;> decide
theorem start_four:startS (Tm four)=0:=by
 unfold startS
 rw [okN_Tm,Tm_len,if_pos (by decide),if_neg (by decide),if_neg (by decide)]
theorem fit_ok4 (hlib:Lib E):Fn E B8 [.c (.list (R4 (Tm four)))] (.tup [.agg [.str (B [53]),.str (B [49,47,49,48]),.str (B [48]),.str (B [48])],.c (.i64 0)]):=by
 have h:=sur_Fit hlib short_four
 rw [fitA_yes start_four (by rw [nums3_Tm]; exact fit_four),nums3_Tm,sq_four,d5,d1_10,d0] at h
 exact h
theorem diff_ok4 (hlib:Lib E) {s:BA}:Fn E B2 [.c (.list (R4 (Tm four))),.agg [.str (B [53]),.str (B [49,47,49,48]),.str (B [48]),.str s]] (.tup [.c (.list (Q1 [0,0,0,0])),.c (.i64 0)]):=by
 have h:=sur_Differences hlib (s:=s) short_four (a:=decQ 5) (b:=decQ (mkRat 1 10)) (c:=decQ 0) (by rw [d5]; decide) (by rw [d1_10]; decide) (by rw [d0]; decide)
 rw [diffA_Tm (by decide),show (pts four).map (off3 5 (mkRat 1 10) 0)=[0,0,0,0] by kernel_rfl,d5,d1_10,d0] at h
 exact h
theorem at_ok4 (hlib:Lib E) {s:BA}:Fn E z3c [.agg [.str (B [53]),.str (B [49,47,49,48]),.str (B [48]),.str s],.c (.str (B [53])),.c (.str (B [48]))] (.tup [.c (.str (B [49,49,47,50])),.c (.i64 0)]):=by
 have h:=sur_At hlib (s:=s) (a:=decQ 5) (b:=decQ (mkRat 1 10)) (c:=decQ 0) (x:=decQ 5) (y:=decQ 0) (by rw [d5]; decide) (by rw [d1_10]; decide) (by rw [d0]; decide) (by rw [d5]; decide) (by rw [d0]; decide)
 have e:atA (decQ 5) (decQ (mkRat 1 10)) (decQ 0) (decQ 5) (decQ 0)=(0,[49,49,47,50]):=by
  unfold atA
  rw [if_pos (by simp [ok1_dec]),rdv_dec,rdv_dec,rdv_dec,show (5:Rat)+(mkRat 1 10*5+0*0)=mkRat 11 2 by kernel_rfl,d11_2]
 rw [e,d5,d1_10,d0] at h
 exact h
end Gev
namespace Gev
open Go Gb Go.Proofs
variable {E:Env}
attribute [local irreducible] Sz
def two:List P3:=[(4,100,1),(6,180,2)]
theorem Td_two:Td two=[([52],[49,48,48],[49]),([54],[49,56,48],[50])]:=by
 show ([(decQ 4,decQ 100,decQ 1),(decQ 6,decQ 180,decQ 2)]:List D3)=_
 rw [d4,d100,d1,d6,d180,d2]
theorem short_two:ShortD (Td two):=by
 rw [Td_two]
 refine ⟨by decide,fun m hm=>?_⟩
 simp only [List.mem_cons,List.not_mem_nil,or_false] at hm
 rcases hm with rfl | rfl <;> decide
theorem two_ok:Fn E y0d [] (.c (.list (R3 (Td two)))):=by
 rw [Td_two]
 exact x7k rfl
theorem okD_two:(Td two).all okD=true:=by
 rw [List.all_eq_true]
 intro m hm
 unfold Td at hm
 obtain ⟨q,_,rfl⟩:=List.mem_map.1 hm
 show [decQ (px q),decQ (py q),decQ (pz q)].all ok1=true
 simp [ok1_dec]
theorem look_two:lookA (Td two) (decQ (mkRat 11 2))=(0,some (160,mkRat 7 4)):=by
 unfold lookA
 rw [okD_two,ok1_dec,Bool.true_and,if_pos rfl,Td_len,if_neg (by decide),if_neg (by decide),numsD_Td,rdv_dec]
 kernel_rfl
theorem look_ok4 (hlib:Lib E):Fn E A5 [.c (.list (R3 (Td two))),.c (.str (B [49,49,47,50]))] (.tup [.agg [.str (B [49,49,47,50]),.str (B [49,54,48]),.str (B [55,47,52])],.c (.i64 0)]):=by
 have h:=sur_Lookup hlib short_two (d:=decQ (mkRat 11 2)) (by rw [d11_2]; decide)
 rw [look_two] at h
 have e:Dc (decQ (mkRat 11 2)) (0,some (160,mkRat 7 4))=.tup [.agg [.str (B (decQ (mkRat 11 2))),.str (B (decQ 160)),.str (B (decQ (mkRat 7 4)))],.c (.i64 0)]:=rfl
 rw [e,d11_2,d160,d7_4] at h
 exact h
theorem worst_ok4 (hlib:Lib E) (hcs:Cs E):Fn E F7 [.c (.list (R4 (Tm four)))] (.tup [.c (.i64 0),.c (.i64 0)]):=by
 have h:=sur_Worst hlib hcs short_four
 have e:worstA (Tm four)=(0,0):=by
  unfold worstA
  rw [if_pos start_four,nums3_Tm,fit_four]
  show (if (Tm four).length < 4 then ((9:Int),(0:Int)) else worstP (pts four))=(0,0)
  rw [Tm_len,if_neg (by decide)]
  kernel_rfl
 rw [e] at h
 exact h
end Gev
namespace Gev
open Go Gb Go.Proofs
variable {E:Env}
attribute [local irreducible] Sz
theorem d41_40:decQ (mkRat 41 40)=[52,49,47,52,48]:=txf (a:=[52,49]) (b:=[52,48]) (by kernel_rfl) (by kernel_rfl) (by decide) (by decide) (by decide)
theorem surv_four:survA (Tm four) (Td two) (decQ 5) (decQ 10) (decQ (mkRat 41 40))=.tup [.agg [.str (B [49,49,47,50]),.str (B [49]),.str (B [48]),.str (B [49,54,52]),.str (B [55,47,52]),.str (B [48])],.c (.i64 0)]:=by
 unfold survA
 rw [if_pos (ok1_all3 _ _ _),rdv_dec,rdv_dec,rdv_dec,if_pos (by decide),if_pos start_four,nums3_Tm,fit_four]
 have e:draftS 5 (mkRat 1 10) 0 5=mkRat 11 2:=by kernel_rfl
 show (match lookA (Td two) (decQ (draftS 5 (mkRat 1 10) 0 5)) with
  | (e,none)=>errS e
  | (_,some (x,y))=>AV.tup [.agg [.str (B (decQ (draftS 5 (mkRat 1 10) 0 5))),.str (B (decQ (mkRat 1 10*10))),.str (B (decQ 0)),.str (B (decQ (x*mkRat 41 40))),.str (B (decQ y)),.str (B (decQ (sq3 5 (mkRat 1 10) 0 (pts four))))],.c (.i64 0)])=_
 rw [e,look_two,sq_four]
 show AV.tup [.agg [.str (B (decQ (mkRat 11 2))),.str (B (decQ (mkRat 1 10*10))),.str (B (decQ 0)),.str (B (decQ (160*mkRat 41 40))),.str (B (decQ (mkRat 7 4))),.str (B (decQ 0))],.c (.i64 0)]=_
 rw [show mkRat 1 10*10=(1:Rat) by kernel_rfl,show (160:Rat)*mkRat 41 40=164 by kernel_rfl,d11_2,d1,d0,d164,d7_4]
theorem awake_ok (hlib:Lib E) (hcs:Cs E):Fn E A8 [] (.c (.bool true)):=by
 have hs:=sur_Survey hlib short_four short_two (m:=decQ 5) (n:=decQ 10) (r:=decQ (mkRat 41 40)) (by rw [d5]; decide) (by rw [d10]; decide) (by rw [d41_40]; decide)
 rw [surv_four,d5,d10,d41_40] at hs
 have he:=equal_same (E:=E) (xs:=[0,0,0,0]) (by decide)
 have e0:Q1 [0,0,0,0]=[[.str ⟨#[48]⟩],[.str ⟨#[48]⟩],[.str ⟨#[48]⟩],[.str ⟨#[48]⟩]]:=by
  show ([[.str (B (decQ 0))],[.str (B (decQ 0))],[.str (B (decQ 0))],[.str (B (decQ 0))]]:RW)=_
  rw [d0]; rfl
 exact x7l e0.symm four_ok (fit_ok4 hlib) two_ok hs (diff_ok4 hlib) (at_ok4 hlib) (look_ok4 hlib) (worst_ok4 hlib hcs) rfl rfl rfl rfl rfl rfl rfl rfl he rfl rfl rfl
end Gev
namespace Gev
open Go Gb Go.Proofs
theorem cs0:Cs E0:=cs_ok
theorem awake0:Fn E0 A8 [] (.c (.bool true)):=awake_ok lib0 cs0
end Gev
namespace Gev
open Go Gb Go.Proofs Go.ChangeShapes Go.WideShapes Go.ChangeAt Go.RowKit
open YtgkchlchkdecfaaGreatDoor (Rows.uptoBulk Rows.uptoBulkAll Rows.uptoSmall Rows.OpenSpec.upto)
variable {H:Type} {enc:TypeId × Value→H}
def ArgsAt (enc:TypeId × Value→H) (fn:Func) (W:World) (args:Array Value) (ds:List (DataW H)) (us:List AV):Prop :=
 (∃ p,DataW.TrodAll enc Tryz.checked.prog W 0 (fun _=>true) true fn.params.toList args.toList ds p)∧args.toList.length=us.length∧∀ (i:Nat) v a,args.toList[i]?=some v→us[i]?=some a→RepA DD ⟨⟨fun _=>none,fun _=>False⟩,[],W⟩ v a
set_option maxRecDepth 100000 in
theorem law_upto (f:FuncId) (fn:Func) (s:ChangeSpec) (os:Os) (started:os.Started) (F:Stop.Interp) (hfn:Tryz.checked.prog.funcs[f]?=some fn) (noInit:Tryz.checked.prog.inits.idxOf? f=none) (hres:fn.resultTypes=#[4]) (hv:s.vars=[])
    (hs:∀ ds:List (DataW H),ds.length=fn.params.size→s.fn H ds={ results:=[.lit (.bool true)],args:=ds }) (hp:fn.params.toList.all (plainT Tryz.prog 10)=true) (hr:(fn.params.toList.all fun t=>Tryz.prog.readableRec t && decide (t < Tryz.prog.types.size))=true)
    (witness:∃ (w:World) (tape:Tape) (i:Input),w.os=os∧(w.forCall tape i).Shaped Tryz.checked.prog∧i.vars=[]∧Input.okWide Tryz.checked.prog (w.forCall tape i) .any w.heap.size f i ∧
     (Rows.OpenSpec.upto s).preRow enc Tryz.checked.prog fn [] false laidL (w.forCall tape i).memory i.args∧Assume.holds {} Tryz.checked.prog (lone (Frame.enter Tryz.checked.prog f i.args .normal) [] (w.forCall tape i)))
    (law:∀ W args ds us,ArgsAt enc fn W args ds us→AvsOf Tryz.prog fn.params.toList us→Rows.uptoBulkAll ds≤1048576→Fn E0 f us (.c (.bool true))) :
    ReturnsInHanded {} Tryz.checked os f .any ((Rows.OpenSpec.upto s).preRow enc Tryz.checked.prog fn [] false laidL) (((Rows.OpenSpec.upto s).at F).post enc Tryz.checked.prog fn false true false false):=by
 refine returnsInHanded_of_row (C:=Tryz.checked) (s:=Rows.OpenSpec.upto s) own0 started noInit hfn witness fun W base args ds gs before hval hW _ hcond _ hL hsh _=>?_
 show Calls Tryz.checked.prog f args W fun e W'=>∃ v,e=.returned v∧s.post enc Tryz.checked.prog fn false true false false W args v W'
 have hW':=hW
 obtain ⟨p,q,hA,hV,rfl,_,_⟩:=hW
 have hV:DataW.TrodVars enc Tryz.checked.prog W (fun _=>true) s.vars gs q:=hV
 rw [hv] at hV
 obtain ⟨rfl,rfl⟩:=trodVars_none hV
 have hsm:=hcond _ rfl
 rw [List.append_nil] at hsm
 have hsm:=of_decide_eq_true hsm
 have hT:=told_of hL hsh
 have hlt:∀ y∈p,y.block < W.heap.size:=fun y hy=>hW'.lt y (List.mem_append_left _ hy)
 obtain ⟨us,u1,u2,u3⟩:=targs_rep none_own hp (fun j t v h1 h2=>hval j t v (by rw [← Array.getElem?_toList]; exact h1) (by rw [← Array.getElem?_toList]; exact h2)) hA
 have hdl:ds.length=fn.params.size:=by
  have:∀ {ts:List TypeId} {vs:List Value} {ds:List (DataW H)} {ps:List MemPlace},DataW.TrodAll enc Tryz.checked.prog W 0 (fun _=>true) true ts vs ds ps→ds.length=ts.length:=by
   intro ts
   induction ts with
   | nil=>intro vs ds ps h; cases vs <;> cases ds <;> simp_all [DataW.TrodAll]
   | cons t ts ih =>
    intro vs ds ps h
    cases vs with
    | nil=>cases ds <;> simp [DataW.TrodAll] at h
    | cons v vs=>cases ds with
     | nil=>simp [DataW.TrodAll] at h
     | cons d ds=>obtain ⟨_,_,_,h2,_⟩:=h; simp [ih h2]
  rw [this hA]; simp
 refine Calls.mono ((law W args ds us ⟨⟨p,hA⟩,u2,u3⟩ u1 hsm).calls W (fun _=>False) args hT (told_size hT) (fun _ h=>h.elim) (by rw [← u2]; simp) fun i v a h1 h2=>u3 i v a (by rw [Array.getElem?_toList]; exact h1) h2) ?_
 rintro e W' ⟨v,rfl,_,k1,k2⟩
 have hb:Below W.heap.size W W':=⟨k1.os,k1.tape,k1.output,k1.size,fun b hb=>k1.heap b hb id⟩
 have hvv:v=.bool true:=by cases k2 with | c k2=>cases k2; rfl
 subst hvv
 refine ⟨_,rfl,ds,[],p++[],[],p,[],hW',?_,?_,?_,hb.frame _,fun h=>by cases h⟩
 · rw [List.append_nil,hs ds hdl,hres]; exact trodAll_mk1 (shut_bool (by kernel_rfl) true)
 · rw [List.append_nil,hs ds hdl]; exact trodAll_below laidOut0 hb hr hlt hA
 · rw [List.append_nil,hs ds hdl,hv]; rfl
theorem upto_witness {f:FuncId} {fn:Func} {s:ChangeSpec} (os:Os) (args:Array Value)
    (hsh:((World.doorLaid Tryz.prog 400 os).forCall (fun _ _=>0) ⟨#[],args,[]⟩).Shaped Tryz.checked.prog)
    (hok:Input.okWideB Tryz.checked.prog ((World.doorLaid Tryz.prog 400 os).forCall (fun _ _=>0) ⟨#[],args,[]⟩) f ⟨#[],args,[]⟩=true)
    (hrow:(Rows.OpenSpec.upto s).preRow enc Tryz.checked.prog fn [] false laidL ((World.doorLaid Tryz.prog 400 os).forCall (fun _ _=>0) ⟨#[],args,[]⟩).memory args) :
    ∃ (w:World) (tape:Tape) (i:Input),w.os=os∧(w.forCall tape i).Shaped Tryz.checked.prog∧i.vars=[]∧Input.okWide Tryz.checked.prog (w.forCall tape i) .any w.heap.size f i ∧
     (Rows.OpenSpec.upto s).preRow enc Tryz.checked.prog fn [] false laidL (w.forCall tape i).memory i.args∧Assume.holds {} Tryz.checked.prog (lone (Frame.enter Tryz.checked.prog f i.args .normal) [] (w.forCall tape i)) :=
 ⟨World.doorLaid Tryz.prog 400 os,fun _ _=>0,⟨#[],args,[]⟩,rfl,hsh,(Input.okWide_of_okWideB (base:=0) hok).1,(Input.okWide_of_okWideB hok).2,hrow,by
  simp only [Assume.holds]
  simp⟩
theorem text_bulk {P:Program} {w:World} {t:TypeId} (hs:P.underlying t=some .string) {v:Value} {d:DataW H} {base:Nat} {sp:Nat→Bool} {hd:Bool} {ps:List MemPlace} (h:DataW.Trod enc P w base sp hd t v d ps) {p:List UInt8} {Γ:Ctx} (hr:RepA DD Γ v (.c (.str (B p)))):p.length≤Rows.uptoBulk d:=by
 obtain ⟨fuel,h⟩:=h
 have hv:=RepA.str_inv hr
 subst hv
 obtain ⟨s0,a0,x0,_⟩:=DataW.trod_string hs h
 have a0:[Value.string (B p)]=[Value.string s0]:=a0
 simp at a0
 subst a0
 have x0:d=.lit (.string (B p).data.toList):=congrArg Prod.fst x0
 rw [x0]
 simp only [Rows.uptoBulk]
 have:(B p).data.toList.length=p.length:=by rw [Array.length_toList]; exact B_size p
 omega
end Gev
