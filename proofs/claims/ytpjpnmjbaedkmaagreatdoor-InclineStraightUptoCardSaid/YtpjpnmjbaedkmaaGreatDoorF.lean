/- A part of the proof: see the last text of this claim. -/
import Derived.Test.YtpjpnmjbaedkmaaGreatDoorE
import Derived.Laws.ResultCell
import Derived.Laws.Rows
import GoSem.ClaimChange
import Derived.WideShapes
import Derived.ChangeArms
import Derived.Test.YtpjpnmjbaedkmaaGreatDoorRows
import Derived.Lib.LaidTab
import Derived.ProofKit
import Derived.LaidMore
import Derived.Stop.Joined
import Derived.SizedLaws
import Derived.OpenShut
import Derived.HandedShaped
set_option linter.unusedSectionVars false
set_option linter.unusedVariables false
set_option linter.unusedSimpArgs false
namespace Go.Proofs
open Go.RowKit Go.Shelf Go.Sort Gev Gb
attribute [local go_sem] Oper.semAt_some
variable {E : Env}
def loT : Option (Rat × Rat) → ByteArray
 | none => ⟨#[]⟩
 | some (l, _) => B (decQ l)
def hiT : Option (Rat × Rat) → ByteArray
 | none => ⟨#[]⟩
 | some (_, h) => B (decQ h)
structure SprI (w : World) (bx : Nat) (w0 : World) (pre : List Rat) (W : World) : Prop where
 sz : OSz (pre.foldl lohi none)
 box : W.heap[bx]? = some (.cells #[.string (loT (pre.foldl lohi none)), .string (hiT (pre.foldl lohi none))] 35 (0, 0))
 kept : Kept (fun b => b = bx ∨ w0.heap.size ≤ b) w0 W
theorem SprI.abide (w : World) {bx : Nat} {w0 : World} (hb : bx < w0.heap.size) : Abide w0.heap.size (SprI w bx w0) := fun s A B h hA hk =>
 ⟨h.sz, (hk.heap bx (by omega) (by omega)).trans h.box, h.kept.trans hk fun b hb => .inl (.inr hb)⟩
theorem set_lo {W : World} {b : Nat} {x y : Value} {t : TypeId} (v : Value) (h : W.heap[b]? = some (.cells #[x, y] t (0, 0))) : (W.setCell ⟨b, 0, none⟩ v).heap[b]? = some (.cells #[v, y] t (0, 0)) := by
 simp [World.setCell, Array.getElem?_modify, h]
theorem set_hi {W : World} {b : Nat} {x y : Value} {t : TypeId} (v : Value) (h : W.heap[b]? = some (.cells #[x, y] t (0, 0))) : (W.setCell ⟨b, 1, none⟩ v).heap[b]? = some (.cells #[x, v] t (0, 0)) := by
 simp [World.setCell, Array.getElem?_modify, h]
theorem box4 {W : World} {b : Nat} {x y : Value} {t : TypeId} (h : W.heap[b]? = some (.cells #[x, y] t (0, 0))) : W.cell? ⟨b, 0, none⟩ = some x ∧ W.cell? ⟨b, 1, none⟩ = some y ∧ W.frozen? ⟨b, 0, none⟩ = false ∧ W.frozen? ⟨b, 1, none⟩ = false :=
 ⟨by simp [World.cell?, h], by simp [World.cell?, h], by simp [World.frozen?, h], by simp [World.frozen?, h]⟩
theorem calls_int2 {f : Nat} {a b : ByteArray} {n : Int} (h : Gev.Fn E f [.c (.str a), .c (.str b)] (.c (.i64 n))) (w : World) (hg : E.Gd w) (hB : E.B0 ≤ w.heap.size) :
    Calls Tryz.prog f #[.string a, .string b] w fun e w' => e = .returned (.int .i64 n) ∧ Kept (fun _ => False) w w' := by
 refine Calls.mono (h.calls w (fun _ => False) #[_, _] hg hB (fun _ h => h.elim) rfl fun i v x h1 h2 => ?_) ?_
 · match i, h1, h2 with
   | 0, h1, h2 => cases h1; cases h2; exact .c (.str _)
   | 1, h1, h2 => cases h1; cases h2; exact .c (.str _)
 · rintro e w' ⟨v, rfl, _, k2, k3⟩
   cases k3 with | c k3 => cases k3; exact ⟨rfl, k2⟩
theorem in_heap {W : World} {b : Nat} {o : Obj} (h : W.heap[b]? = some o) : b < W.heap.size := (Array.getElem?_eq_some_iff.1 h).1
theorem not_empty {l : List UInt8} (h : l ≠ []) : (B l).toList.isEmpty = false := by
 rw [toList_eq, B_list]
 cases l with
 | nil => exact absurd rfl h
 | cons => rfl
theorem u35 : ∃ d, Tryz.prog.underlying 35 = some d ∧ (match d with | .struct _ | .array _ _ => true | _ => false) = true := by
 have h : (match Tryz.prog.underlying 35 with | some (.struct _) => true | _ => false) = true := by kernel_rfl
 cases hu : Tryz.prog.underlying 35 with
 | none => rw [hu] at h; cases h
 | some d => rw [hu] at h; cases d <;> first | exact ⟨_, rfl, rfl⟩ | cases h
theorem kept_set (W : World) (b i : Nat) (v : Value) : Kept (fun x => x = b) W (W.setCell ⟨b, i, none⟩ v) :=
 ⟨fun k _ hk => by simp [World.setCell, Array.getElem?_modify]; intro e; exact absurd e.symm hk, by simp [World.setCell], rfl, rfl, rfl⟩
set_option maxRecDepth 100000 in
set_option maxHeartbeats 4000000 in
theorem spread_raw (hlib : Lib E) {qs : List (Rat × Rat)} (hq : In qs) (hlen : qs.length ≤ 1000) (a : Addr) (cap : Nat) (hcap : qs.length ≤ cap) (w : World) (hG : E.Gd w) (hB : E.B0 ≤ w.heap.size) (ha : a.block < w.heap.size) (hr : RowQ a qs w)
    (x1 x2 : ByteArray) (c : Int) (hx1 : x1 = loT (spreadI qs)) (hx2 : x2 = hiT (spreadI qs)) (hc : c = if (spreadI qs).isSome then 0 else 18)
    (hst : ∀ w', Kept (fun _ => False) w w' → Calls Tryz.prog 39 #[.slice (some a) qs.length cap] w' fun e w2 => e = .returned (.int .i64 0) ∧ Kept (fun _ => False) w' w2) :
    Calls Tryz.prog 17 #[.slice (some a) qs.length cap] w fun e w' => e = .returned (.tuple #[.agg #[.string x1, .string x2], .int .i64 c]) ∧ Kept (fun _ => False) w w' := by
 have hx : RowKit.Hid (x1 = loT (spreadI qs) ∧ x2 = hiT (spreadI qs) ∧ c = if (spreadI qs).isSome then 0 else 18) := Go.Lib.hid ⟨hx1, hx2, hc⟩
 clear hx1 hx2 hc
 refine (callsIn_wide (n := 3)).1 ?_
 have h1 : 1 ≤ 3 := by omega
 refine callsIn_of_wp_marks Tryz.func17 rfl trivial ?_ rfl
 simp only [Tryz.ntmps17, List.size_toArray, List.length_cons, List.length_nil, Nat.reduceAdd, Nat.reduceSub, Array.replicate_succ, Array.replicate_zero, List.push_toArray, List.append_toArray, List.nil_append, List.cons_append]
 have ka : Kept (fun _ => False) w (w.alloc (.cells #[.string ⟨#[]⟩, .string ⟨#[]⟩] 35)) := Kept.alloc _ _ _
 gi_wp2_with (first
  | (refine ⟨trivial, ?_⟩; gi_at_call 39; refine (callsIn_wide.2 (hst _ ka)).mono ?_; rintro e w1 ⟨rfl, k1⟩)
  | (refine ⟨trivial, ?_⟩; gi_at_call 59; refine (callsIn_wide.2 (slopes_raw _ _ _ _)).mono ?_; rintro e w2 ⟨rfl, hw2⟩))
 rw [← hw2]
 have kb : Kept (fun _ => False) (w1.alloc (.cells #[.string ⟨#[]⟩, .string ⟨#[]⟩] 35)) w2 := by rw [hw2]; exact Kept.alloc _ _ _
 have kc := (Kept.alloc (fun _ => False) w1 (.cells #[.string ⟨#[]⟩, .string ⟨#[]⟩] 35)).trans kb (fun _ h => False.elim h)
 have k2 := (ka.trans k1 (fun _ h => False.elim h)).trans kc (fun _ h => False.elim h)
 have hs1 : w.heap.size < w1.heap.size := Nat.lt_of_lt_of_le (by simp) k1.size
 have hbx : w1.heap.size < w2.heap.size := Nat.lt_of_lt_of_le (by simp) kb.size
 have hbox : w2.heap[w1.heap.size]? = some (.cells #[.string ⟨#[]⟩, .string ⟨#[]⟩] 35 (0, 0)) := (kb.heap _ (by simp) id).trans (World.alloc_heap_new w1 _)
 have hres : w2.heap[w.heap.size]? = some (.cells #[.string ⟨#[]⟩, .string ⟨#[]⟩] 35 (0, 0)) := (kc.heap _ hs1 id).trans ((k1.heap _ (by simp) id).trans (World.alloc_heap_new w _))
 have hcp : w2.cell? ⟨w1.heap.size + 1, 0, none⟩ = some (.slice (some a) qs.length cap) := by
  have := World.alloc_heap_new (w1.alloc (.cells #[.string ⟨#[]⟩, .string ⟨#[]⟩] 35)) (.cells #[.slice (some a) qs.length cap] 22)
  rw [← hw2, World.size_alloc] at this
  simp [World.cell?, this]
 have hG2 : E.Gd w2 := E.hs w _ (fun b hb => k2.heap b (by omega) id) k2.size hG
 have hr2 : RowQ a qs w2 := fun j q hj => ⟨k2.cell (hr j q hj).1 id, k2.cell (hr j q hj).2 id⟩
 clear hw2 kb
 refine range_gives (n := 3) (gf := 98) (lb := #[.pointer (some ⟨w1.heap.size + 1, 0, none⟩)]) rfl (enters_of Tryz.func98 (by kernel_rfl) rfl) (bx := w1.heap.size) hbx (slopes_gives hlib 2 (by omega) hq hlen hG2 (by omega) hbx hcp (by omega) (by omega) hr2 hcap) (fun _ => rfl)
  (SprI w w1.heap.size w2) (SprI.abide w hbx) ⟨OSz.none, hbox, Kept.refl _ _⟩
  (fun x => { tmps := #[.slice (some a) qs.length cap, undef, .pointer (some ⟨w.heap.size, 0, none⟩), .int .i64 0, .int .i64 0, .pointer (some ⟨w1.heap.size, 0, none⟩), .string (B (decQ x)), .slice (some a) qs.length cap, .int .i64 0, .int .i64 0, .bool false, undef, undef, .slice (some a) qs.length cap, .func (.func 98) #[] #[.pointer (some ⟨w1.heap.size + 1, 0, none⟩)], .string (B (decQ x)), undef, undef, undef, undef, undef, undef, undef, undef, undef, undef, undef, undef, undef, undef, undef, undef, undef, undef, undef, undef, undef, undef, undef, undef, undef, undef, undef, undef, undef], defers := [] }) ?assign ?body ?done
 case assign =>
  intro l x W K hK
  gi_wp2
  exact hK
 case body =>
  rintro l pre x W zx ⟨i1, i2, i3⟩ hWs
  have hfold : (pre ++ [x]).foldl lohi none = lohi (pre.foldl lohi none) x := by rw [List.foldl_append]; rfl
  have fin : ∀ (W' : World), OSz (lohi (pre.foldl lohi none) x) → W'.heap[w1.heap.size]? = some (.cells #[.string (loT (lohi (pre.foldl lohi none) x)), .string (hiT (lohi (pre.foldl lohi none) x))] 35 (0, 0)) → Kept (fun b => b = w1.heap.size) W W' → SprI w w1.heap.size w2 (pre ++ [x]) W' ∧ Kept (fun b => b = w1.heap.size) W W' := fun W' f1 f2 f3 =>
   ⟨⟨by rw [hfold]; exact f1, by rw [hfold]; exact f2, i3.trans f3 fun b hb => .inl (.inl hb)⟩, f3⟩
  clear hfold
  generalize pre.foldl lohi none = o at i1 i2 fin
  have c0 : W.cell? ⟨w1.heap.size, 0, none⟩ = some (.string (loT o)) := by simp [World.cell?, i2]
  have c1 : W.cell? ⟨w1.heap.size, 1, none⟩ = some (.string (hiT o)) := by simp [World.cell?, i2]
  have cf0 : W.frozen? ⟨w1.heap.size, 0, none⟩ = false := by simp [World.frozen?, i2]
  have cf1 : W.frozen? ⟨w1.heap.size, 1, none⟩ = false := by simp [World.frozen?, i2]
  cases o with
  | none =>
   simp only [loT, hiT] at c0 c1
   gi_wp2
   refine ⟨trivial, ?_⟩
   gi_wp2
   refine ⟨trivial, ?_⟩
   gi_wp2
   exact fin _ (i1.step zx) (set_hi _ (set_lo _ i2)) ((kept_set _ _ _ _).trans (kept_set _ _ _ _) fun b h => .inl h)
  | some lh =>
   obtain ⟨lo, hi⟩ := lh
   obtain ⟨zl, zh⟩ := i1 lo hi rfl
   have hl := Lim_val
   have ok : ∀ {w' : World}, Kept (fun b => b = w1.heap.size) W w' → E.Gd w' ∧ E.B0 ≤ w'.heap.size := fun {w'} h => by
    have h3 := i3.trans h fun b hb => .inl (.inl hb)
    exact ⟨E.hs w2 _ (fun b hb => h3.heap b (by omega) (by omega)) h3.size hG2, by have := h3.size; omega⟩
   have f1 : ∀ w', Kept (fun b => b = w1.heap.size) W w' → Calls Tryz.prog 60 #[.string (B (decQ x)), .string (B (decQ lo))] w' fun e w2 => e = .returned (.int .i64 (cmpQ x lo)) ∧ Kept (fun _ => False) w' w2 := fun w' h => calls_int2 (inc_compare hlib zx zl (by omega)) w' (ok h).1 (ok h).2
   have f2 : ∀ w', Kept (fun b => b = w1.heap.size) W w' → Calls Tryz.prog 60 #[.string (B (decQ x)), .string (B (decQ hi))] w' fun e w2 => e = .returned (.int .i64 (cmpQ x hi)) ∧ Kept (fun _ => False) w' w2 := fun w' h => calls_int2 (inc_compare hlib zx zh (by omega)) w' (ok h).1 (ok h).2
   have l1 : cmpQ x lo < 0 ↔ x < lo := cmpQ_lt
   have l2 : 0 < cmpQ x hi ↔ hi < x := cmpQ_gt
   have fin2 := fin
   clear fin ok
   simp only [lohi, loT, hiT] at c0 c1 i2 fin2
   have nl := not_empty (decQ_ne lo)
   have nh := not_empty (decQ_ne hi)
   generalize cmpQ x lo = d1 at f1 l1
   generalize cmpQ x hi = d2 at f2 l2
   have st := i1.step zx
   simp only [lohi] at st
   by_cases hlt : x < lo
   · rw [if_pos hlt] at fin2 st
     have hd := l1.2 hlt
     by_cases hgt : hi < x
     · rw [if_pos hgt] at fin2 st
       have hd2 := l2.2 hgt
       clear hlt hgt l1 l2 zl zh i1
       generalize B (decQ lo) = tl at *
       generalize B (decQ hi) = th at *
       generalize B (decQ x) = tx at *
       gi_wp2_with (first
        | (refine ⟨trivial, ?_⟩; gi_at_call 60; refine (CallsIn.inRound l (callsIn_wide.2 (f1 W (Kept.refl _ _)))).mono ?_; rintro e w6 ⟨rfl, k6⟩; clear f1; have i6 := (k6.heap _ (in_heap i2) id).trans i2; obtain ⟨c60, c61, c6f, c6g⟩ := box4 i6)
        | (refine ⟨trivial, ?_⟩; gi_at_call 60; refine (CallsIn.inRound l (callsIn_wide.2 (f2 (w6.setCell ⟨w1.heap.size, 0, none⟩ (.string tx)) ((k6.mono fun _ h => False.elim h).trans (kept_set w6 w1.heap.size 0 (.string tx)) fun b h => .inl h)))).mono ?_; rintro e w7 ⟨rfl, k7⟩; have i7 := (k7.heap _ (in_heap (set_lo (.string tx) i6)) id).trans (set_lo (.string tx) i6); obtain ⟨c70, c71, c7f, c7g⟩ := box4 i7))
       exact fin2 _ st (set_hi _ i7) ((((k6.mono fun _ h => False.elim h).trans (kept_set _ _ _ _) fun b h => .inl h).trans (k7.mono fun _ h => False.elim h) fun b h => .inl h).trans (kept_set _ _ _ _) fun b h => .inl h)
     · rw [if_neg hgt] at fin2 st
       have hd2 : ¬ 0 < d2 := fun e => hgt (l2.1 e)
       clear hlt hgt l1 l2 zl zh i1
       generalize B (decQ lo) = tl at *
       generalize B (decQ hi) = th at *
       generalize B (decQ x) = tx at *
       gi_wp2_with (first
        | (refine ⟨trivial, ?_⟩; gi_at_call 60; refine (CallsIn.inRound l (callsIn_wide.2 (f1 W (Kept.refl _ _)))).mono ?_; rintro e w6 ⟨rfl, k6⟩; clear f1; have i6 := (k6.heap _ (in_heap i2) id).trans i2; obtain ⟨c60, c61, c6f, c6g⟩ := box4 i6)
        | (refine ⟨trivial, ?_⟩; gi_at_call 60; refine (CallsIn.inRound l (callsIn_wide.2 (f2 (w6.setCell ⟨w1.heap.size, 0, none⟩ (.string tx)) ((k6.mono fun _ h => False.elim h).trans (kept_set w6 w1.heap.size 0 (.string tx)) fun b h => .inl h)))).mono ?_; rintro e w7 ⟨rfl, k7⟩; have i7 := (k7.heap _ (in_heap (set_lo (.string tx) i6)) id).trans (set_lo (.string tx) i6); obtain ⟨c70, c71, c7f, c7g⟩ := box4 i7))
       exact fin2 _ st i7 (((k6.mono fun _ h => False.elim h).trans (kept_set _ _ _ _) fun b h => .inl h).trans (k7.mono fun _ h => False.elim h) fun b h => .inl h)
   · rw [if_neg hlt] at fin2 st
     have hd : ¬ d1 < 0 := fun e => hlt (l1.1 e)
     by_cases hgt : hi < x
     · rw [if_pos hgt] at fin2 st
       have hd2 := l2.2 hgt
       clear hlt hgt l1 l2 zl zh i1
       generalize B (decQ lo) = tl at *
       generalize B (decQ hi) = th at *
       generalize B (decQ x) = tx at *
       gi_wp2_with (first
        | (refine ⟨trivial, ?_⟩; gi_at_call 60; refine (CallsIn.inRound l (callsIn_wide.2 (f1 W (Kept.refl _ _)))).mono ?_; rintro e w6 ⟨rfl, k6⟩; clear f1; have i6 := (k6.heap _ (in_heap i2) id).trans i2; obtain ⟨c60, c61, c6f, c6g⟩ := box4 i6)
        | (refine ⟨trivial, ?_⟩; gi_at_call 60; refine (CallsIn.inRound l (callsIn_wide.2 (f2 w6 (k6.mono fun _ h => False.elim h)))).mono ?_; rintro e w7 ⟨rfl, k7⟩; have i7 := (k7.heap _ (in_heap i6) id).trans i6; obtain ⟨c70, c71, c7f, c7g⟩ := box4 i7))
       exact fin2 _ st (set_hi _ i7) (((k6.mono fun _ h => False.elim h).trans (k7.mono fun _ h => False.elim h) fun b h => .inl h).trans (kept_set _ _ _ _) fun b h => .inl h)
     · rw [if_neg hgt] at fin2 st
       have hd2 : ¬ 0 < d2 := fun e => hgt (l2.1 e)
       clear hlt hgt l1 l2 zl zh i1
       generalize B (decQ lo) = tl at *
       generalize B (decQ hi) = th at *
       generalize B (decQ x) = tx at *
       gi_wp2_with (first
        | (refine ⟨trivial, ?_⟩; gi_at_call 60; refine (CallsIn.inRound l (callsIn_wide.2 (f1 W (Kept.refl _ _)))).mono ?_; rintro e w6 ⟨rfl, k6⟩; clear f1; have i6 := (k6.heap _ (in_heap i2) id).trans i2; obtain ⟨c60, c61, c6f, c6g⟩ := box4 i6)
        | (refine ⟨trivial, ?_⟩; gi_at_call 60; refine (CallsIn.inRound l (callsIn_wide.2 (f2 w6 (k6.mono fun _ h => False.elim h)))).mono ?_; rintro e w7 ⟨rfl, k7⟩; have i7 := (k7.heap _ (in_heap i6) id).trans i6; obtain ⟨c70, c71, c7f, c7g⟩ := box4 i7))
       exact fin2 _ st i7 ((k6.mono fun _ h => False.elim h).trans (k7.mono fun _ h => False.elim h) fun b h => .inl h)
 case done =>
  rintro W ⟨i1, i2, i3⟩ hWs hD
  obtain ⟨hx1, hx2, hc⟩ := hx.out
  clear hx
  have hres' := (i3.heap w.heap.size (by omega) (by omega)).trans hres
  change OSz (spreadI qs) at i1
  change W.heap[w1.heap.size]? = some (.cells #[.string (loT (spreadI qs)), .string (hiT (spreadI qs))] 35 (0, 0)) at i2
  obtain ⟨c0, c1, cf0, cf1⟩ := box4 i2
  obtain ⟨r0, r1, rf0, rf1⟩ := box4 hres'
  have kW : Kept (fun _ => False) w W := ⟨fun b hb _ => (i3.heap b (by omega) (by omega)).trans (k2.heap b hb id), by have := k2.size; omega, i3.os.trans k2.os, i3.tape.trans k2.tape, i3.output.trans k2.output⟩
  have hne : w.heap.size ≠ w2.heap.size := by omega
  obtain ⟨d, hu, hdd⟩ := u35
  have fin : ∀ (X Y : ByteArray) (W' : World) (tmps : Array Value), W' = (W.setCell ⟨w.heap.size, 0, none⟩ (.string X)).setCell ⟨w.heap.size, 1, none⟩ (.string Y) → tmps.getD 2 undef = .pointer (some ⟨w.heap.size, 0, none⟩) →
      LeavesInM Fence.wide 3 Tryz.prog Tryz.f17 tmps (fun e w' => e = .returned (.tuple #[.agg #[.string X, .string Y], tmps.getD 3 undef]) ∧ Kept (fun _ => False) w w') [{ target := .collected w2.heap.size, args := #[] }] .returning W' := by
   intro X Y W' tmps hW' ht
   have kp : Kept (fun b => b = w.heap.size) W W' := by rw [hW']; exact (kept_set _ _ _ _).trans (kept_set _ _ _ _) fun b h => .inl h
   have hb : W'.heap[w.heap.size]? = some (.cells #[.string X, .string Y] 35 (0, 0)) := by rw [hW']; exact set_hi _ (set_lo _ hres')
   have hD' := (kp.heap _ (in_heap hD) (Ne.symm hne)).trans hD
   have kq : Kept (fun b => b = w2.heap.size) W' (W'.putObj w2.heap.size (.deferred none)) := kept_put _ rfl
   have hb' := (kq.heap _ (in_heap hb) hne).trans hb
   refine ⟨by simp, .inl ⟨_, _, rfl, run_takeDeferred hD', ?_⟩⟩
   refine ⟨_, ?_, rfl, (kW.trans kp fun b h => .inr (Nat.le_of_eq h.symm)).trans kq fun b h => .inr (by omega)⟩
   rw [results_cell_tmp rfl, ht]
   simp only [asAddr, Sem.run_pure, Result.andThen_ok]
   rw [run_loadVar_row (P := Tryz.prog) _ w.heap.size 35 35 _ (0, 0) d hb' hu (by cases d <;> first | rfl | cases hdd) (by kernel_rfl)]
   rfl
  clear hu hdd hne
  cases ho : spreadI qs with
  | none =>
   rw [ho] at c0 c1 i2 hx1 hx2 hc
   simp only [loT, hiT] at c0 c1 i2 hx1 hx2
   have hc : c = 18 := hc
   clear ho
   subst hx1 hx2 hc
   gi_wp2
   exact fin _ _ _ _ rfl rfl
  | some lh =>
   obtain ⟨lo, hi⟩ := lh
   rw [ho] at c0 c1 i2 hx1 hx2 hc
   simp only [loT, hiT] at c0 c1 i2 hx1 hx2
   have hc : c = 0 := hc
   have nl := not_empty (decQ_ne lo)
   clear ho
   rw [← hx1] at c0 i2 nl
   rw [← hx2] at c1 i2
   clear hx1 hx2
   subst hc
   gi_wp2
   exact fin _ _ _ _ rfl rfl
end Go.Proofs
namespace Gev
open Go
inductive TyD (P : Program) : TypeId → List DV → Prop
 | int {t : TypeId} {k : IntKind} (n : Int) (h : P.underlying t = some (.int k)) (hw : (Lit.int k n).wf = true) : TyD P t [.int k n]
 | bool {t : TypeId} (b : Bool) (h : P.underlying t = some .bool) : TyD P t [.bool b]
 | str {t : TypeId} (s : ByteArray) (h : P.underlying t = some .string) : TyD P t [.str s]
 | slice {t e : TypeId} (xs : List (List DV)) (h : P.underlying t = some (.slice e)) (hx : ∀ x ∈ xs, TyD P e x) (hl : xs.length ≤ maxLen) : TyD P t [.list xs]
 | struct {t : TypeId} {fs : Array Field} (ds : List DV) (h : P.underlying t = some (.struct fs)) (hl : ds.length = P.cellsOf t) (hp : ∀ f ∈ fs.toList, TyD P f.type ((ds.drop f.offset).take (P.cellsOf f.type))) : TyD P t ds
def contig (P : Program) : Nat → List Field → Option Nat
 | o, [] => some o
 | o, f :: fs => if f.offset = o then contig P (o + P.cellsOf f.type) fs else none
def plainT (P : Program) : Nat → TypeId → Bool
 | 0, _ => false
 | k + 1, t => match P.underlying t with
  | some .bool => true
  | some (.int _) => true
  | some .string => true
  | some (.slice e) => decide (0 < P.cellsOf e) && plainT P k e
  | some (.struct fs) => decide (contig P 0 fs.toList = some (P.cellsOf t)) && fs.toList.all fun f => plainT P k f.type
  | _ => false
theorem tmapM_get {α β : Type} {f : α → Option β} : ∀ {l : List α} {r : List β}, l.mapM f = some r → r.length = l.length ∧ ∀ (i : Nat) x, l[i]? = some x → ∃ y, r[i]? = some y ∧ f x = some y
 | [], r, h => by simp at h; subst h; exact ⟨rfl, fun i x h => by simp at h⟩
 | a :: l, r, h => by
  simp only [List.mapM_cons, Option.bind_eq_bind, Option.bind_eq_some_iff, Option.pure_def, Option.some.injEq] at h
  obtain ⟨b, hb, bs, hbs, rfl⟩ := h
  obtain ⟨h1, h2⟩ := tmapM_get hbs
  refine ⟨by simp [h1], fun i x hx => ?_⟩
  cases i with
  | zero => simp at hx; subst hx; exact ⟨b, rfl, hb⟩
  | succ i => exact h2 i x (by simpa using hx)
theorem tchoose_list {α : Type} {p : Nat → α → Prop} : ∀ n, (∀ i, i < n → ∃ x, p i x) → ∃ xs : List α, xs.length = n ∧ ∀ (i : Nat) x, xs[i]? = some x → p i x
 | 0, _ => ⟨[], rfl, fun i x h => by simp at h⟩
 | n + 1, h => by
  obtain ⟨xs, h1, h2⟩ := tchoose_list n fun i hi => h i (by omega)
  obtain ⟨x, hx⟩ := h n (by omega)
  refine ⟨xs ++ [x], by simp [h1], fun i y hy => ?_⟩
  by_cases hi : i < n
  · exact h2 i y (by rwa [List.getElem?_append_left (by omega)] at hy)
  · have hlt := (List.getElem?_eq_some_iff.1 hy).1
    simp [h1] at hlt
    have e : i = n := by omega
    subst e
    rw [List.getElem?_append_right (by omega), h1, Nat.sub_self] at hy
    cases hy; exact hx
theorem tcells_get {w : World} {base : Nat} {a : Addr} {n : Nat} {cs : List Value} (h : w.cells? base a n = some cs) : cs.length = n ∧ ∀ (j : Nat) v, cs[j]? = some v → w.cell? (a.add j) = some v := by
 unfold World.cells? at h
 split at h
 · obtain ⟨h1, h2⟩ := tmapM_get h
   rw [List.length_range] at h1
   refine ⟨h1, fun j v hj => ?_⟩
   have hlt := (List.getElem?_eq_some_iff.1 hj).1
   obtain ⟨y, hy, e⟩ := h2 j j (by rw [List.getElem?_range (by omega)])
   rw [hj] at hy; cases hy; exact e
 · cases h
section
variable {P : Program} {w : World} {own : Nat → Prop}
def TReps (w : World) (own : Nat → Prop) (cs : List Value) (ds : List DV) : Prop := ds.length = cs.length ∧ ∀ (j : Nat) v e, cs[j]? = some v → ds[j]? = some e → RepD w own v e
theorem treps_one {v : Value} {d : DV} (h : RepD w own v d) : TReps w own [v] [d] := ⟨rfl, fun j v e h1 h2 => by
 cases j with
 | zero => cases h1; cases h2; exact h
 | succ j => simp at h1⟩
theorem treps_append {cs cs' : List Value} {ds ds' : List DV} (h : TReps w own cs ds) (k : TReps w own cs' ds') : TReps w own (cs ++ cs') (ds ++ ds') := by
 refine ⟨by simp [h.1, k.1], fun j v e h1 h2 => ?_⟩
 by_cases hj : j < cs.length
 · rw [List.getElem?_append_left hj] at h1
   rw [List.getElem?_append_left (by rw [h.1]; exact hj)] at h2
   exact h.2 j v e h1 h2
 · rw [List.getElem?_append_right (by omega)] at h1
   rw [List.getElem?_append_right (by rw [h.1]; omega), h.1] at h2
   exact k.2 _ v e h1 h2
theorem tfields_rep {cs : List Value} : ∀ (fs : List Field) (o n : Nat), contig P o fs = some n → n = cs.length →
    (∀ f ∈ fs, ∃ ds, TyD P f.type ds ∧ TReps w own ((cs.drop f.offset).take (P.cellsOf f.type)) ds) →
    ∃ ds, TReps w own (cs.drop o) ds ∧ o ≤ n ∧ ∀ f ∈ fs, o ≤ f.offset ∧ TyD P f.type ((ds.drop (f.offset - o)).take (P.cellsOf f.type))
 | [], o, n, h, hn, _ => by
  cases h
  subst hn
  exact ⟨[], by rw [List.drop_length]; exact ⟨rfl, fun j v e h _ => by simp at h⟩, Nat.le_refl _, fun f h => by cases h⟩
 | f :: fs, o, n, h, hn, hf => by
  unfold contig at h
  split at h
  · rename_i ho
    obtain ⟨ds, h1, hle, h2⟩ := tfields_rep fs _ n h hn fun g hg => hf g (by simp [hg])
    obtain ⟨d0, t0, r0⟩ := hf f (by simp)
    have hl0 : d0.length = P.cellsOf f.type := by rw [r0.1, List.length_take, List.length_drop]; omega
    refine ⟨d0 ++ ds, ?_, by omega, fun g hg => ?_⟩
    · have e : cs.drop o = (cs.drop o).take (P.cellsOf f.type) ++ cs.drop (o + P.cellsOf f.type) := by
       rw [← List.drop_drop, List.take_append_drop]
      rw [e]
      exact treps_append (ho ▸ r0) h1
    · rcases List.mem_cons.1 hg with rfl | hg
      · refine ⟨by omega, ?_⟩
        rw [ho, Nat.sub_self, List.drop_zero, List.take_left' hl0]; exact t0
      · obtain ⟨hle2, ht⟩ := h2 g hg
        refine ⟨by omega, ?_⟩
        have e : g.offset - o = d0.length + (g.offset - (o + P.cellsOf f.type)) := by omega
        rw [e, List.drop_append]
        rwa [List.drop_eq_nil_of_le (by omega), List.nil_append, Nat.add_sub_cancel_left]
  · cases h
theorem trod_rep {H : Type} {enc : TypeId × Value → H} {base : Nat} {sp : Nat → Bool} {held : Bool} (hown : ∀ b, b < w.heap.size → ¬ own b) : ∀ (k fuel : Nat) (t : TypeId) (cs : List Value) (x : DataW H × List MemPlace), plainT P k t = true → DataW.trod enc P w base sp held fuel t cs = some x → ∃ ds, TyD P t ds ∧ TReps w own cs ds
 | 0, fuel, t, cs, x, hp, _ => by simp [plainT] at hp
 | k + 1, fuel, t, cs, x, hp, h => by
  unfold plainT at hp
  cases hu : P.underlying t with
  | none => rw [hu] at hp; cases hp
  | some u =>
   rw [hu] at hp
   cases u with
   | bool =>
    obtain ⟨b, rfl, _⟩ := DataW.trod_bool hu h
    exact ⟨_, .bool b hu, treps_one (.bool b)⟩
   | int q =>
    obtain ⟨n, rfl, _, hw⟩ := DataW.trod_int hu h
    exact ⟨_, .int n hu hw, treps_one (.int q n)⟩
   | string =>
    obtain ⟨s, rfl, _, _⟩ := DataW.trod_string hu h
    exact ⟨_, .str s hu, treps_one (.str s)⟩
   | slice e =>
    simp only [Bool.and_eq_true, decide_eq_true_eq] at hp
    rcases DataW.trod_slice hu h with ⟨rfl, _⟩ | ⟨a, len, cap, elems, rest, n, _, rfl, _, _, hlc, hcm, hel, hall, _⟩
    · exact ⟨_, .slice [] hu (fun _ h => by cases h) (Nat.zero_le _), treps_one (.list none 0 [] 0 (fun _ _ => .nilIface) (Nat.le_refl _) (fun h => absurd rfl h) (fun _ h => by cases h) (fun _ _ _ _ _ h => by cases h) (fun _ _ _ _ h => by simp at h))⟩
    · have hch : ∀ i, i < len → ∃ ds, TyD P e ds ∧ ds.length = P.cellsOf e ∧ ∀ (j : Nat) d, ds[j]? = some d → ∃ v, w.cell? (a.add (i * P.cellsOf e + j)) = some v ∧ RepD w own v d := by
       intro i hi
       have h1 := hall i hi
       rw [List.getElem?_eq_getElem (by omega)] at h1
       obtain ⟨cs', hcs, ht⟩ := Option.bind_eq_some_iff.1 h1
       obtain ⟨hcl, hcg⟩ := tcells_get hcs
       obtain ⟨ds, h2, h3⟩ := trod_rep hown k n e cs' _ hp.2 ht
       refine ⟨ds, h2, h3.1.trans hcl, fun j d hj => ?_⟩
       have hjl := (List.getElem?_eq_some_iff.1 hj).1
       rw [h3.1] at hjl
       have e1 := List.getElem?_eq_getElem hjl
       refine ⟨cs'[j], ?_, h3.2 j _ d e1 hj⟩
       rw [← add_add]; exact hcg j _ e1
      obtain ⟨xs, hxl, hxs⟩ := tchoose_list len hch
      have hblk : xs ≠ [] → a.block < w.heap.size := fun hne => by
       have hpos : 0 < xs.length := List.length_pos_iff.2 hne
       have hx0 := hxs 0 xs[0] (List.getElem?_eq_getElem hpos)
       obtain ⟨_, hl0, hc0⟩ := hx0
       obtain ⟨v, hv, _⟩ := hc0 0 _ (List.getElem?_eq_getElem (by omega))
       have := cell_lt hv
       rwa [add_block] at this
      refine ⟨_, .slice xs hu (fun x hx => ?_) (by rw [hxl]; omega), treps_one ?_⟩
      · obtain ⟨i, hi⟩ := List.getElem?_of_mem hx
        exact (hxs i x hi).1
      · rw [← hxl]
        refine .list (some a) cap xs (P.cellsOf e) (fun i j => (w.cell? (a.add (i * P.cellsOf e + j))).getD .nilIface) (by omega) (fun hne => ⟨a, rfl, hblk hne, hown _ (hblk hne)⟩) (fun x hx => ?_) (fun a' i x j d ha' hi hj => ?_) (fun i x j d hi hj => ?_)
        · obtain ⟨i, hi⟩ := List.getElem?_of_mem hx
          exact (hxs i x hi).2.1
        · cases ha'
          obtain ⟨v, hv, _⟩ := (hxs i x hi).2.2 j d hj
          rw [hv]; rfl
        · obtain ⟨v, hv, hr⟩ := (hxs i x hi).2.2 j d hj
          rw [hv]; exact hr
   | struct fs =>
    simp only [Bool.and_eq_true, decide_eq_true_eq, List.all_eq_true] at hp
    obtain ⟨xs, n, _, _, hcl, hxl, hall⟩ := DataW.trod_struct hu h
    obtain ⟨ds, h1, _, h2⟩ := tfields_rep (P := P) (w := w) (own := own) (cs := cs) fs.toList 0 (P.cellsOf t) hp.1 hcl.symm (fun f hf => by
     obtain ⟨i, hi⟩ := List.getElem?_of_mem hf
     rw [Array.getElem?_toList] at hi
     have h3 := hall i f hi
     have hil := (Array.getElem?_eq_some_iff.1 hi).1
     rw [List.getElem?_eq_getElem (by omega)] at h3
     exact trod_rep hown k n f.type _ _ (hp.2 f hf) h3)
    rw [List.drop_zero] at h1
    exact ⟨ds, .struct ds hu (h1.1.trans hcl) (fun f hf => by have := (h2 f hf).2; rwa [Nat.sub_zero] at this), h1⟩
   | _ => cases hp
end
end Gev
namespace Gev
open Go Go.Proofs
def Told (w : World) : Prop := Go.Lib.TabIs Tryz.prog w "internal/strconv.uint64pow10" .u64 Go.Lib.pow10Tab ∧ ∃ m, w.cell? ⟨1, 0, none⟩ = some (.int .i64 m)
theorem gTab : Tryz.prog.globalNamed "internal/strconv.uint64pow10" = some 0 := by kernel_rfl
theorem told_stable : Stable 2 Told := by
 rintro w w' hb _ ⟨h1, m, h2⟩
 refine ⟨?_, m, ?_⟩
 · unfold Go.Lib.TabIs World.var? at h1 ⊢
   rw [gTab] at h1 ⊢
   simp only [Option.bind_some] at h1 ⊢
   rw [hb 0 (by omega)]; exact h1
 · unfold World.cell? at h2 ⊢
   rw [hb 1 (by omega)]; exact h2
noncomputable def E0 : Env := ⟨2, Told, told_stable⟩
theorem laid0 : Laid E0 := ⟨fun _ h => h.1, fun _ h => h.2⟩
theorem lib0 : Lib E0 := lib_all laid0
theorem told_size {w : World} (h : Told w) : 2 ≤ w.heap.size := by
 obtain ⟨_, m, h2⟩ := h
 have := cell_lt h2
 exact this
inductive AvOf (P : Program) : TypeId → AV → Prop
 | agg {t : TypeId} {fs : Array Field} {ds : List DV} (h : P.underlying t = some (.struct fs)) (hd : TyD P t ds) : AvOf P t (.agg ds)
 | one {t : TypeId} {d : DV} (hd : TyD P t [d]) : AvOf P t (.c d)
def AvsOf (P : Program) : List TypeId → List AV → Prop
 | [], [] => True
 | t :: ts, a :: us => AvOf P t a ∧ AvsOf P ts us
 | _, _ => False
theorem targ_rep {P : Program} {w : World} {own : Nat → Prop} {H : Type} {enc : TypeId × Value → H} {base b0 : Nat} {sp : Nat → Bool} {held : Bool} (hown : ∀ b, b < w.heap.size → ¬ own b) {k : Nat} {t : TypeId} {v : Value} {d : DataW H} {ps : List MemPlace} (hp : plainT P k t = true) (hv : Value.okWide P w .any b0 t v)
    (h : DataW.Trod enc P w base sp held t v d ps) : ∃ a, AvOf P t a ∧ RepA DD ⟨⟨fun _ => none, own⟩, [], w⟩ v a := by
 obtain ⟨fuel, h⟩ := h
 obtain ⟨ds, h1, h2⟩ := trod_rep hown k fuel t _ _ hp h
 have hmine : ∀ {b}, (Ctx.mk ⟨fun _ => none, own⟩ [] w).own b → own b := fun h => h.elim id fun h => (no_mine h).elim
 have one : ∀ e, ds = [e] → v.cells.toList = [v] → ∃ a, AvOf P t a ∧ RepA DD ⟨⟨fun _ => none, own⟩, [], w⟩ v a := fun e he hc => by
  subst he
  rw [hc] at h2
  exact ⟨.c e, .one h1, .c ((h2.2 0 v e rfl rfl).mono (Kept.refl _ _) fun b _ hb => hmine hb)⟩
 cases h1 with
 | int n hu hw =>
  obtain ⟨n, hc, _⟩ := DataW.trod_int hu h
  refine one _ rfl ?_
  cases v <;> simp_all [Value.cells, Value.okWide, Cell.okWide, Cell.ok]
 | bool b hu =>
  obtain ⟨n, hc, _⟩ := DataW.trod_bool hu h
  refine one _ rfl ?_
  cases v <;> simp_all [Value.cells, Value.okWide, Cell.okWide, Cell.ok]
 | str s hu =>
  obtain ⟨s, rfl⟩ := Go.WideShapes.okWide_string hu hv
  exact one _ rfl rfl
 | slice xs hu hx hl =>
  obtain ⟨a, l, c, rfl⟩ := Go.WideShapes.okWide_slice hu hv
  exact one _ rfl rfl
 | struct ds hu hl hp' =>
  obtain ⟨cs, rfl, hsz⟩ := Go.WideShapes.okWide_struct hu hv
  refine ⟨.agg ds, .agg hu (.struct ds hu hl hp'), .agg cs ds ?_ fun j u d hj hd => ?_⟩
  · have := h2.1; simpa [Value.cells] using this.symm
  · exact (h2.2 j u d (by simpa [Value.cells] using hj) hd).mono (Kept.refl _ _) fun b _ hb => hmine hb
theorem targs_rep {P : Program} {w : World} {own : Nat → Prop} {H : Type} {enc : TypeId × Value → H} {base b0 : Nat} {sp : Nat → Bool} {held : Bool} (hown : ∀ b, b < w.heap.size → ¬ own b) {k : Nat} : ∀ {ts : List TypeId} {vs : List Value} {ds : List (DataW H)} {ps : List MemPlace}, ts.all (plainT P k) = true → (∀ (j : Nat) t v, ts[j]? = some t → vs[j]? = some v → Value.okWide P w .any b0 t v) →
    DataW.TrodAll enc P w base sp held ts vs ds ps → ∃ us, AvsOf P ts us ∧ vs.length = us.length ∧ ∀ (i : Nat) v a, vs[i]? = some v → us[i]? = some a → RepA DD ⟨⟨fun _ => none, own⟩, [], w⟩ v a
 | [], [], [], ps, _, _, _ => ⟨[], trivial, rfl, fun i v a h => by simp at h⟩
 | t :: ts, v :: vs, d :: ds, ps, hp, hv, h => by
  rw [List.all_cons, Bool.and_eq_true] at hp
  obtain ⟨p, q, h1, h2, _⟩ := h
  obtain ⟨a, a1, a2⟩ := targ_rep hown hp.1 (hv 0 t v rfl rfl) h1
  obtain ⟨us, b1, b2, b3⟩ := targs_rep hown hp.2 (fun j t v h1 h2 => hv (j + 1) t v h1 h2) h2
  refine ⟨a :: us, ⟨a1, b1⟩, by simp [b2], fun i v a h1 h2 => ?_⟩
  cases i with
  | zero => cases h1; cases h2; exact a2
  | succ i => exact b3 i v a h1 h2
 | [], _ :: _, _, _, _, _, h => by simp [DataW.TrodAll] at h
 | [], [], _ :: _, _, _, _, h => by simp [DataW.TrodAll] at h
 | _ :: _, [], _, _, _, _, h => by simp [DataW.TrodAll] at h
 | _ :: _, _ :: _, [], _, _, _, h => by simp [DataW.TrodAll] at h
theorem trodAll_below {H : Type} {enc : TypeId × Value → H} {P : Program} (hl : laidOutB P = true) {W W' : World} (hb : Go.RowKit.Below W.heap.size W W') : ∀ {ts : List TypeId} {vs : List Value} {ds : List (DataW H)} {ps : List MemPlace}, (ts.all fun t => P.readableRec t && decide (t < P.types.size)) = true → (∀ x ∈ ps, x.block < W.heap.size) →
    DataW.TrodAll enc P W 0 (fun _ => true) true ts vs ds ps → DataW.TrodAll enc P W' 0 (fun b => decide (b < W.heap.size)) true ts vs ds ps
 | [], [], [], ps, _, _, h => h
 | t :: ts, v :: vs, d :: ds, ps, hp, hlt, h => by
  rw [List.all_cons, Bool.and_eq_true, Bool.and_eq_true, decide_eq_true_eq] at hp
  obtain ⟨p, q, h1, h2, rfl⟩ := h
  exact ⟨p, q, Go.RowKit.Below.trod hl hp.1.1 hp.1.2 h1 hb (fun x hx => hlt x (by simp [hx])), trodAll_below hl hb hp.2 (fun x hx => hlt x (by simp [hx])) h2, rfl⟩
 | [], _ :: _, _, _, _, _, h => by simp [DataW.TrodAll] at h
 | [], [], _ :: _, _, _, _, h => by simp [DataW.TrodAll] at h
 | _ :: _, [], _, _, _, _, h => by simp [DataW.TrodAll] at h
 | _ :: _, _ :: _, [], _, _, _, h => by simp [DataW.TrodAll] at h
end Gev
namespace Gev
open Go Go.Proofs Go.ChangeShapes Go.WideShapes Go.ChangeAt Go.RowKit
variable {H : Type} {enc : TypeId × Value → H}
theorem returns_told {C : Checked} {os : Os} {f : FuncId} {fn : Func} {s : ChangeSpec} {conds : List PathCond} {apart fresh handsOn again : Bool} {X : World → Prop} (hX : ∀ (w w' : World), w.heap = w'.heap → X w → X w')
    (own : ownKnob C.prog.godebug = none) (started : os.Started) (noInit : C.prog.inits.idxOf? f = none) (hfn : C.prog.funcs[f]? = some fn)
    (witness : ∃ (w : World) (tape : Tape) (i : Input), w.os = os ∧ (w.forCall tape i).Shaped C.prog ∧ i.vars = [] ∧ Input.okWide C.prog (w.forCall tape i) .any w.heap.size f i ∧
     ((s.pre enc C.prog fn conds apart (w.forCall tape i).memory i.args ∧ X (w.forCall tape i).memory) ∧ sizedMet enc C.prog fn (OpenSpec.ofChange s) apart (w.forCall tape i).memory i.args) ∧ Assume.holds {} C.prog (lone (Frame.enter C.prog f i.args .normal) [] (w.forCall tape i)))
    (contract : ∀ (W : World) (base : Nat) (args : Array Value) (ds gs : List (DataW H)) (before : List MemPlace),
     (∀ (j : Nat) t v, fn.params[j]? = some t → args[j]? = some v → Value.okWide C.prog W .any base t v) →
     DataW.Whole enc C.prog fn.params.toList s.vars apart W args.toList ds gs before → X W → W.ShapedOpen C.prog →
     Calls C.prog f args W fun e W' => ∃ v, e = .returned v ∧ s.post enc C.prog fn apart fresh handsOn again W args v W') :
    ReturnsInHanded {} C os f .any (fun w args => (s.pre enc C.prog fn conds apart w args ∧ X w) ∧ sizedMet enc C.prog fn (OpenSpec.ofChange s) apart w args) (s.post enc C.prog fn apart fresh handsOn again) := by
 refine returnsInHanded_of_calls own started noInit witness ?_
 intro w tape i _ hsh _ hok hpre _
 obtain ⟨_, _, _, fn', hfn', _, _, _, _, hval⟩ := hok
 obtain rfl : fn' = fn := Option.some.inj (hfn'.symm.trans hfn)
 obtain ⟨⟨⟨ds, gs, before, hw, _⟩, hx⟩, _⟩ := hpre
 have hw' := DataW.Whole.of_heap (w' := w.forCall tape i) (by rfl) hw
 refine (contract (w.forCall tape i) w.heap.size i.args ds gs before hval hw' (hX _ _ (by rfl) hx) hsh).mono fun e W' ⟨v, he, hp⟩ => ?_
 subst he
 exact ChangeSpec.post_blind hp
abbrev laidL : List (String × DataW Unit) := [("math/bits.deBruijn32tab", YtpjpnmjbaedkmaaGreatDoor.Rows.laid_math_bits_deBruijn32tab), ("math/bits.deBruijn64tab", YtpjpnmjbaedkmaaGreatDoor.Rows.laid_math_bits_deBruijn64tab), ("internal/strconv.uint64pow10", YtpjpnmjbaedkmaaGreatDoor.Rows.laid_internal_strconv_uint64pow10), ("strconv.ErrRange", YtpjpnmjbaedkmaaGreatDoor.Rows.laid_strconv_ErrRange), ("strconv.ErrSyntax", YtpjpnmjbaedkmaaGreatDoor.Rows.laid_strconv_ErrSyntax)]
abbrev laidK : List LaidKind := [.data, .data, .data, .sentinel, .sentinel]
theorem own0 : ownKnob Tryz.prog.godebug = none := by kernel_rfl
theorem laidOut0 : laidOutB Tryz.prog = true := by kernel_rfl
theorem door_met (os : Os) (args : Array Value) : laidMetH Tryz.prog laidL ((World.doorLaid Tryz.prog 400 os).forCall (fun _ _ => 0) ⟨#[], args, []⟩).memory :=
 laidMetH_of_parts3 (fuel := 8) (laidMet_of_run' 8 (by kernel_rfl) (by kernel_rfl)) (by kernel_rfl) (by kernel_rfl)
theorem laid_tail {P : Program} {x : String × DataW Unit} {r : List (String × DataW Unit)} {w : World} (h : laidMet P (x :: r) w) : laidMet P r w := by
 obtain ⟨ps, hv, hnd, hrows⟩ := h
 obtain ⟨n, d⟩ := x
 obtain ⟨g, t, cs, fuel, p, q, _, _, _, _, hq, rfl⟩ := hv
 exact ⟨q, hq, List.Nodup.sublist (List.sublist_append_right _ _) hnd, fun b off hm => hrows b off (List.mem_append_right _ hm)⟩
theorem told_of {W : World} (h : laidMetH Tryz.prog laidL W) (hs : W.ShapedOpen Tryz.prog) : Told W := by
 refine ⟨?_, Tryz.laysM145.s1_3 W hs⟩
 rw [MakeChecks.laidMetH_plain _ _ _ (by kernel_rfl)] at h
 exact Go.Lib.tabIs_of_head (g := 0) gTab (t := 174) (e := 121) (n := 20) (by kernel_rfl) (by kernel_rfl) (by kernel_rfl) (by kernel_rfl) (by kernel_rfl) (laid_tail (laid_tail h) : laidMet Tryz.prog (("internal/strconv.uint64pow10", Go.Lib.tabData .u64 Go.Lib.pow10Tab) :: _) W)
theorem none_own {W : World} : ∀ b, b < W.heap.size → ¬ (fun _ : Nat => False) b := fun _ _ h => h
set_option maxRecDepth 100000 in
theorem law_lifted (f : FuncId) (fn : Func) (s : ChangeSpec) (os : Os) (started : os.Started) (hfn : Tryz.checked.prog.funcs[f]? = some fn) (noInit : Tryz.checked.prog.inits.idxOf? f = none) (hres : fn.resultTypes = #[4]) (hv : s.vars = [])
    (hs : ∀ ds : List (DataW H), ds.length = fn.params.size → s.fn H ds = { results := [.lit (.bool true)], args := ds }) (hp : fn.params.toList.all (plainT Tryz.prog 10) = true) (hr : (fn.params.toList.all fun t => Tryz.prog.readableRec t && decide (t < Tryz.prog.types.size)) = true)
    (witness : ∃ (w : World) (tape : Tape) (i : Input), w.os = os ∧ (w.forCall tape i).Shaped Tryz.checked.prog ∧ i.vars = [] ∧ Input.okWide Tryz.checked.prog (w.forCall tape i) .any w.heap.size f i ∧
     ((s.pre enc Tryz.checked.prog fn [] false (w.forCall tape i).memory i.args ∧ laidMetH Tryz.prog laidL (w.forCall tape i).memory) ∧ sizedMet enc Tryz.checked.prog fn (OpenSpec.ofChange s) false (w.forCall tape i).memory i.args) ∧ Assume.holds {} Tryz.checked.prog (lone (Frame.enter Tryz.checked.prog f i.args .normal) [] (w.forCall tape i)))
    (law : ∀ us, AvsOf Tryz.prog fn.params.toList us → Fn E0 f us (.c (.bool true))) :
    ReturnsInHanded {} Tryz.checked os f .any (fun w args => (s.pre enc Tryz.checked.prog fn [] false w args ∧ laidMetH Tryz.prog laidL w) ∧ sizedMet enc Tryz.checked.prog fn (OpenSpec.ofChange s) false w args) (s.post enc Tryz.checked.prog fn false true false false) := by
 refine returns_told (fun _ _ hh h => h.of_heap hh) own0 started noInit hfn witness fun W base args ds gs before hval hW hL hsh => ?_
 have hW' := hW
 obtain ⟨p, q, hA, hV, rfl, _, _⟩ := hW
 rw [hv] at hV
 obtain ⟨rfl, rfl⟩ := trodVars_none hV
 have hT := told_of hL hsh
 have hlt : ∀ y ∈ p, y.block < W.heap.size := fun y hy => hW'.lt y (List.mem_append_left _ hy)
 obtain ⟨us, u1, u2, u3⟩ := targs_rep none_own hp (fun j t v h1 h2 => hval j t v (by rw [← Array.getElem?_toList]; exact h1) (by rw [← Array.getElem?_toList]; exact h2)) hA
 have hdl : ds.length = fn.params.size := by
  have : ∀ {ts : List TypeId} {vs : List Value} {ds : List (DataW H)} {ps : List MemPlace}, DataW.TrodAll enc Tryz.checked.prog W 0 (fun _ => true) true ts vs ds ps → ds.length = ts.length := by
   intro ts
   induction ts with
   | nil => intro vs ds ps h; cases vs <;> cases ds <;> simp_all [DataW.TrodAll]
   | cons t ts ih =>
    intro vs ds ps h
    cases vs with
    | nil => cases ds <;> simp [DataW.TrodAll] at h
    | cons v vs => cases ds with
     | nil => simp [DataW.TrodAll] at h
     | cons d ds => obtain ⟨_, _, _, h2, _⟩ := h; simp [ih h2]
  rw [this hA]; simp
 refine Calls.mono ((law us u1).calls W (fun _ => False) args hT (told_size hT) (fun _ h => h.elim) (by rw [← u2]; simp) fun i v a h1 h2 => u3 i v a (by rw [Array.getElem?_toList]; exact h1) h2) ?_
 rintro e W' ⟨v, rfl, _, k1, k2⟩
 have hb : Below W.heap.size W W' := ⟨k1.os, k1.tape, k1.output, k1.size, fun b hb => k1.heap b hb id⟩
 have hvv : v = .bool true := by cases k2 with | c k2 => cases k2; rfl
 subst hvv
 refine ⟨_, rfl, ds, [], p ++ [], [], p, [], hW', ?_, ?_, ?_, hb.frame _, fun h => by cases h⟩
 · rw [List.append_nil, hs ds hdl, hres]; exact trodAll_mk1 (shut_bool (by kernel_rfl) true)
 · rw [List.append_nil, hs ds hdl]; exact trodAll_below laidOut0 hb hr hlt hA
 · rw [List.append_nil, hs ds hdl, hv]; rfl
end Gev
