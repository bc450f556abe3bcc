/- A part of the proof: see the last text of this claim. -/
import Derived.Test.YtgkchlchkdecfaaGreatDoorD
import Derived.Shelf.Strings.Builder1
import Derived.Shelf.Strings.Builder2
import Derived.Shelf.Small.Wraps
import Derived.Shelf.Strings.BuilderF
import Derived.Shelf.Strings.BuilderK
import Derived.Shelf.Strconv.Itoa0
import Derived.Shelf.Strconv.Itoa1
import Derived.Shelf.LaysM
import Derived.Shelf.Strconv.Itoa2
import Derived.Shelf.Strconv.Itoa3
import Derived.Shelf.Strconv.Itoa4
import Derived.Shelf.Strconv.ParseIntEmpty
import Derived.Shelf.Strconv.Clone
import Derived.Shelf.Strconv.SyntaxError
import Derived.Shelf.LaysC
import Derived.Shelf.Strconv.ToError
import Derived.Shelf.Strconv.Lower
import Derived.Shelf.Strconv.ParseUint10
import Derived.Shelf.Strconv.ParseUint10Empty
import Derived.Shelf.Strconv.ParseUint10Any
import Derived.Shelf.Strconv.ParseInt10
import Derived.Shelf.Strconv.RangeError
import Derived.Shelf.Strconv.ToErrorRange
import Derived.Shelf.Strconv.ParseUintEmpty
import Derived.Shelf.Strconv.ParseUint10b64
import Derived.Shelf.Strconv.ParseUint10b32
import Derived.Shelf.Strconv.ParseUint10b16
import Derived.Shelf.Strconv.ParseUint10b8
import Derived.Shelf.Strconv.ParseUint10At
import Derived.Shelf.Strconv.ParseInt10At64
import Derived.Shelf.Strconv.ParseInt10At32
import Derived.Shelf.Strconv.ParseInt10At16
import Derived.Shelf.Strconv.ParseInt10At8
import Derived.Shelf.Strconv.ParseInt10All
import Derived.Shelf.Strconv.ParseIntPublic10
import Derived.Ground.MpProg
import Derived.Shelf.Pu.ParseUintPublic10
import Derived.Shelf.Strings.Search1
import Derived.Shelf.Strings.Search2
import Derived.Shelf.Strings.Cut
import Derived.Shelf.Strings.Shaped
import Derived.Shelf.Strings.Prefix
import Derived.Shelf.Bits.Mul64
import Derived.Shelf.Strings.Repeat
import Derived.Test.YtgkchlchkdecfaaGreatDoorProg
import Derived.Lib.Walk
import Derived.Lib.ItoaMem
import Derived.WalkKit
import Derived.BigCall
import Derived.BigGuard
import Derived.RangeFuncNested
import Derived.RangeFuncBound
import Derived.RangeFuncCalls
import Derived.RangeFuncLeaves
import Derived.Shelf.Abstract
import Derived.Shelf.RegionOpen
import Derived.OwnWalkIn
import Derived.TacticsInMore
import Derived.LoopNIn
import Derived.LoopIn
import Derived.RangeFuncFrom
import Derived.RangeFuncBox
import Derived.MapKept
import Derived.RangeFuncRecord
import Derived.Deep.RegionWith
import Derived.RegionTactic
import Derived.ChangeAlike
import Derived.Shelf.SlicesE.Clone
import Derived.Shelf.RegionOpenPlain
import Derived.Deep.LoopGhost
import Derived.Deep.RegionLaw
import Derived.Lib.SliceRun
import Derived.Deep.MidRow
import GoSem.ClaimChange
import Derived.WideShapes
import Derived.ChangeArms
import Derived.Test.YtgkchlchkdecfaaGreatDoorRows
import Derived.Lib.LaidTab
import Derived.ProofKit
import Derived.LaidMore
import Derived.Stop.Joined
import Derived.SizedLaws
import Derived.OpenShut
import Derived.HandedShaped
set_option linter.unusedSectionVars false
set_option linter.unusedVariables false
set_option linter.unusedSimpArgs false
namespace Gev
open Go Gb
variable {E:Env}
attribute [local irreducible] Sz
theorem sur_determinant (hlib:Lib E) {a b c d e f g h i:Rat} {K:Nat} (ha:Sz a K) (hb:Sz b K) (hc:Sz c K) (hd:Sz d K) (he:Sz e K) (hf:Sz f K) (hg:Sz g K) (hh:Sz h K) (hi:Sz i K) (hK:K≤10000000) :
    Fn E D7 [.agg [.str (B (decQ a)),.str (B (decQ b)),.str (B (decQ c)),.str (B (decQ d)),.str (B (decQ e)),.str (B (decQ f)),.str (B (decQ g)),.str (B (decQ h)),.str (B (decQ i))]] (Sq (det3 a b c d e f g h i)):=by
 have hl:=Lim_val
 have s0:=(he.mul hi).sub (hf.mul hh)
 have s1:=(hf.mul hg).sub (hd.mul hi)
 have s2:=(hd.mul hh).sub (he.mul hg)
 have u0:=ha.mul s0
 have u1:=hb.mul s1
 have u2:=hc.mul s2
 have a0:=sur_add hlib Sz.zero u0 (by omega)
 rw [Rat.zero_add] at a0
 have a1:=sur_add hlib u0 u1 (by omega)
 have a2:=sur_add hlib (u0.add u1) u2 (by omega)
 have l3:Lp E 1 D7 0 (I9 (B (decQ (det3 a b c d e f g h i))) 3 (B (decQ a)) (B (decQ b)) (B (decQ c)) (B (decQ d)) (B (decQ e)) (B (decQ f)) (B (decQ g)) (B (decQ h)) (B (decQ i))) (.exit 0) (z0p (B (decQ a)) (B (decQ b)) (B (decQ c)) (B (decQ d)) (B (decQ e)) (B (decQ f)) (B (decQ g)) (B (decQ h)) (B (decQ i)) (B (decQ (det3 a b c d e f g h i)))):=z9a
 have l2:=y0u (sur_mul hlib hd hh (by omega)) (sur_mul hlib he hg (by omega)) (sur_sub hlib (hd.mul hh) (he.mul hg) (by omega)) (sur_mul hlib hc s2 (by omega)) a2 l3
 have l1:=y0t (sur_mul hlib hf hg (by omega)) (sur_mul hlib hd hi (by omega)) (sur_sub hlib (hf.mul hg) (hd.mul hi) (by omega)) (sur_mul hlib hb s1 (by omega)) a1 l2
 have l0:=y0s (sur_mul hlib he hi (by omega)) (sur_mul hlib hf hh (by omega)) (sur_sub hlib (he.mul hi) (hf.mul hh) (by omega)) (sur_mul hlib ha s0 (by omega)) a0 l1
 rw [← b_zero] at l0
 exact y5s l0
theorem Sz_det3 {a b c d e f g h i:Rat} {K:Nat} (ha:Sz a K) (hb:Sz b K) (hc:Sz c K) (hd:Sz d K) (he:Sz e K) (hf:Sz f K) (hg:Sz g K) (hh:Sz h K) (hi:Sz i K):Sz (det3 a b c d e f g h i) (15*K+5) :=
 (((ha.mul ((he.mul hi).sub (hf.mul hh))).add (hb.mul ((hf.mul hg).sub (hd.mul hi)))).add (hc.mul ((hd.mul hh).sub (he.mul hg)))).mono (by omega)
theorem sur_at (hlib:Lib E) {a b c x y:Rat} {s:BA} {K L:Nat} (ha:Sz a K) (hb:Sz b K) (hc:Sz c K) (hx:Sz x L) (hy:Sz y L) (hK:K≤10000000) (hL:L≤10000000):Fn E z6w [.agg [.str (B (decQ a)),.str (B (decQ b)),.str (B (decQ c)),.str s],Sq x,Sq y] (Sq (a+(b*x+c*y))):=by
 have hl:=Lim_val
 exact k1o (sur_mul hlib hb hx (by omega)) (sur_mul hlib hc hy (by omega)) (sur_add hlib (hb.mul hx) (hc.mul hy) (by omega)) (sur_add hlib ha ((hb.mul hx).add (hc.mul hy)) (by omega))
theorem Sz_off3 {a b c:Rat} {q:P3} {K:Nat} (ha:Sz a K) (hb:Sz b K) (hc:Sz c K) (hq:Sz (px q) 4000∧Sz (py q) 4000∧Sz (pz q) 4000):Sz (off3 a b c q) (3*K+12003) :=
 (hq.2.2.sub (ha.add ((hb.mul hq.1).add (hc.mul hq.2.1)))).mono (by omega)
theorem sur_difference (hlib:Lib E) {a b c:Rat} {n s:BA} {q:P3} {K:Nat} (ha:Sz a K) (hb:Sz b K) (hc:Sz c K) (hq:Sz (px q) 4000∧Sz (py q) 4000∧Sz (pz q) 4000) (hK:K≤10000000) :
    Fn E z2n [.agg [.str n,.str (B (decQ (px q))),.str (B (decQ (py q))),.str (B (decQ (pz q)))],.agg [.str (B (decQ a)),.str (B (decQ b)),.str (B (decQ c)),.str s]] (Sq (off3 a b c q)):=by
 have hl:=Lim_val
 exact y7l (sur_at hlib ha hb hc hq.1 hq.2.1 hK (by omega)) (sur_sub hlib hq.2.2 (ha.add ((hb.mul hq.1).add (hc.mul hq.2.1))) (by omega))
abbrev pl (a b c:Rat) (s:BA):Ob:=.cells [.c (.str (B (decQ a))),.c (.str (B (decQ b))),.c (.str (B (decQ c))),.c (.str s)]
theorem sum_more_loop (hlib:Lib E) {ms:List QM} {a b c:Rat} {s:BA} {K:Nat} (hI:In3 (pts ms)) (hn:ms.length≤16) (ha:Sz a K) (hb:Sz b K) (hc':Sz c K) (hK:K≤7000000):∀ d i:Nat,i+d=ms.length →
    Lp E 1 A0 0 (z5e (B (decQ (qsum (fun q=>off3 a b c q*off3 a b c q) ((pts ms).take i)))) (Q4 ms) (ms.length:Nat) (i:Nat) (B (decQ a)) (B (decQ b)) (B (decQ c)) s) (.exit 0) (z5w (B (decQ a)) (B (decQ b)) (B (decQ c)) s (B (decQ (sq3 a b c (pts ms)))))
 | 0,i,hi=>by
  rw [List.take_of_length_le (by rw [pts_len]; omega)]
  exact y7t (by omega)
 | d+1,i,hi=>by
  have hl:=Lim_val
  obtain ⟨m,hc⟩:=get_ex (l:=ms) (i:=i) (by omega)
  have hp:=get_pts hc
  have hm:=hI m.2 (List.mem_of_getElem? hp)
  have hz:∀ q∈pts ms,Sz (off3 a b c q*off3 a b c q) (3*K+12003+(3*K+12003)):=fun q h=>(Sz_off3 ha hb hc' (hI q h)).mul (Sz_off3 ha hb hc' (hI q h))
  have hac:=acc_step hlib (g:=fun q=>off3 a b c q*off3 a b c q) (by rw [pts_len]; omega) hp hz (by omega)
  have f4:=x7a (sur_difference hlib (n:=B m.1) (s:=s) ha hb hc' hm (by omega))
  have zo:=Sz_off3 ha hb hc' hm
  have f4':∀ w:RW,Rn E G8 [.agg [.str (B m.1),.str (B (decQ (px m.2))),.str (B (decQ (py m.2))),.str (B (decQ (pz m.2)))],.ptr 0 0] [some (pl a b c s),some (.cells [.c (.str (B m.1)),.c (.str (B (decQ (px m.2)))),.c (.str (B (decQ (py m.2)))),.c (.str (B (decQ (pz m.2))))]),some (.vec C9 w),none,none] (Sq (off3 a b c m.2)) [some (pl a b c s),some (.cells [.c (.str (B m.1)),.c (.str (B (decQ (px m.2)))),.c (.str (B (decQ (py m.2)))),.c (.str (B (decQ (pz m.2))))]),some (.vec C9 w),none,none]:=fun w =>
   f4.sub [0] (by decide) rfl (objs:=[some (pl a b c s),some (.cells [.c (.str (B m.1)),.c (.str (B (decQ (px m.2)))),.c (.str (B (decQ (py m.2)))),.c (.str (B (decQ (pz m.2))))]),some (.vec C9 w),none,none]) (by intro i hi; match i,hi with | 0,_=>rfl) (by simp [Ob.plain]) rfl rfl
  have e0:∀ x5 x13,Lp E 2 A0 1 (X6 x5 2 (Q4 ms) (ms.length:Nat) x13 2 2 (B (decQ a)) (B (decQ b)) (B (decQ c)) s (B m.1) (B (decQ (px m.2))) (B (decQ (py m.2))) (B (decQ (pz m.2))) [[.str (B (decQ (off3 a b c m.2)))],[.str (B (decQ (off3 a b c m.2)))]]) (.exit 2) (z1n x5 (Q4 ms) (ms.length:Nat) x13 (B (decQ a)) (B (decQ b)) (B (decQ c)) s (B m.1) (B (decQ (px m.2))) (B (decQ (py m.2))) (B (decQ (pz m.2))) 2 [[.str (B (decQ (off3 a b c m.2)))],[.str (B (decQ (off3 a b c m.2)))]]):=fun _ _=>y8b (by decide)
  have r1:∀ x5 x13,Lp E 2 A0 1 (X6 x5 1 (Q4 ms) (ms.length:Nat) x13 2 1 (B (decQ a)) (B (decQ b)) (B (decQ c)) s (B m.1) (B (decQ (px m.2))) (B (decQ (py m.2))) (B (decQ (pz m.2))) [[.str (B (decQ (off3 a b c m.2)))]]) (.exit 2) (z1n x5 (Q4 ms) (ms.length:Nat) x13 (B (decQ a)) (B (decQ b)) (B (decQ c)) s (B m.1) (B (decQ (px m.2))) (B (decQ (py m.2))) (B (decQ (pz m.2))) 2 [[.str (B (decQ (off3 a b c m.2)))],[.str (B (decQ (off3 a b c m.2)))]]):=fun x5 x13=>x2n rfl rfl (by decide) (f4' _) (by decide) (e0 x5 x13)
  have r0:∀ x5 x13,Lp E 2 A0 1 (X6 x5 0 (Q4 ms) (ms.length:Nat) x13 2 0 (B (decQ a)) (B (decQ b)) (B (decQ c)) s (B m.1) (B (decQ (px m.2))) (B (decQ (py m.2))) (B (decQ (pz m.2))) []) (.exit 2) (z1n x5 (Q4 ms) (ms.length:Nat) x13 (B (decQ a)) (B (decQ b)) (B (decQ c)) s (B m.1) (B (decQ (px m.2))) (B (decQ (py m.2))) (B (decQ (pz m.2))) 2 [[.str (B (decQ (off3 a b c m.2)))],[.str (B (decQ (off3 a b c m.2)))]]):=fun x5 x13=>x2m rfl rfl (by decide) (f4' _) (by decide) (r1 x5 x13)
  exact x1z (v10:=((i+1:Nat):Int)) rfl (wi (by omega)) (by omega) (by omega) (by rw [Int.toNat_natCast]; exact Q4_get hc) (r0 _ _) (sur_product2 hlib zo zo (by omega)) hac (sum_more_loop hlib hI hn ha hb hc' hK d (i+1) (by omega))
theorem sum_more (hlib:Lib E) {ms:List QM} {a b c:Rat} {s:BA} {K:Nat} (hI:In3 (pts ms)) (hn:ms.length≤16) (ha:Sz a K) (hb:Sz b K) (hc:Sz c K) (hK:K≤7000000) :
    Rn E A0 [.c (.list (Q4 ms)),.frow [.fn G8 [.ptr 0 0],.fn G8 [.ptr 0 0]]] [some (pl a b c s)] (Sq (sq3 a b c (pts ms))) [some (pl a b c s)]:=by
 have h:=sum_more_loop hlib (s:=s) hI hn ha hb hc hK ms.length 0 (by omega)
 rw [List.take_zero,← Q4_len ms] at h
 have e:qsum (fun q=>off3 a b c q*off3 a b c q) ([]:List P3)=0:=rfl
 rw [e,← b_zero] at h
 exact z4k h
def Fit4 (a b c:Rat) (qs:List P3):AV:=.agg [.str (B (decQ a)),.str (B (decQ b)),.str (B (decQ c)),.str (B (decQ (sq3 a b c qs)))]
def noFit:AV:=.agg [.str ⟨#[]⟩,.str ⟨#[]⟩,.str ⟨#[]⟩,.str ⟨#[]⟩]
def fitRes (qs:List P3):Option (Rat × Rat × Rat)→AV
 | none=>.tup [noFit,.c (.i64 18)]
 | some (a,b,c)=>.tup [Fit4 a b c qs,.c (.i64 0)]
section
variable {x0:RW} {x9 p0 p1 p2 p3 m0 m1 m2 m3 m4 m5 m6 m7 m8 z0 z1 z2 o0 o1 o2:BA} {x80:Int}
theorem fit_in0:Lp E 16 B9 1 (F1 x0 x9 0 x80 0 p0 p1 p2 p3 m0 m1 m2 m3 m4 m5 m6 m7 m8 z0 z1 z2 o0 o1 o2 m0 m1 m2 m3 m4 m5 m6 m7 m8) (.exit 2) (O6 x0 x9 0 x80 p0 p1 p2 p3 m0 m1 m2 m3 m4 m5 m6 m7 m8 z0 z1 z2 o0 o1 o2 z0 m1 m2 z1 m4 m5 z2 m7 m8) :=
 x3n (by decide) (x3q (by decide) (x3t (by decide) (z6s (by decide))))
theorem fit_in1:Lp E 16 B9 1 (F1 x0 x9 1 x80 0 p0 p1 p2 p3 m0 m1 m2 m3 m4 m5 m6 m7 m8 z0 z1 z2 o0 o1 o2 m0 m1 m2 m3 m4 m5 m6 m7 m8) (.exit 2) (O6 x0 x9 1 x80 p0 p1 p2 p3 m0 m1 m2 m3 m4 m5 m6 m7 m8 z0 z1 z2 o0 o1 o2 m0 z0 m2 m3 z1 m5 m6 z2 m8) :=
 x3o (by decide) (x3r (by decide) (x3u (by decide) (z6s (by decide))))
theorem fit_in2:Lp E 16 B9 1 (F1 x0 x9 2 x80 0 p0 p1 p2 p3 m0 m1 m2 m3 m4 m5 m6 m7 m8 z0 z1 z2 o0 o1 o2 m0 m1 m2 m3 m4 m5 m6 m7 m8) (.exit 2) (O6 x0 x9 2 x80 p0 p1 p2 p3 m0 m1 m2 m3 m4 m5 m6 m7 m8 z0 z1 z2 o0 o1 o2 m0 m1 z0 m3 m4 z1 m6 m7 z2) :=
 x3p (by decide) (x3s (by decide) (x3v (by decide) (z6s (by decide))))
end
theorem Sz_sums {qs:List P3} (hI:In3 qs) (hn:qs.length≤16):Sz (nS qs) 130000∧Sz (xS qs) 130000∧Sz (yS qs) 130000∧Sz (zS qs) 130000∧Sz (xxS qs) 130000∧Sz (xyS qs) 130000∧Sz (yyS qs) 130000∧Sz (xzS qs) 130000∧Sz (yzS qs) 130000 :=
 ⟨(Sz_len hn).mono (by omega),Sz16 hn (K:=4000) (fun q h=>(hI q h).1) (by omega),Sz16 hn (K:=4000) (fun q h=>(hI q h).2.1) (by omega),Sz16 hn (K:=4000) (fun q h=>(hI q h).2.2) (by omega),
  Sz16 hn (fun q h=>(hI q h).1.mul (hI q h).1) (by omega),Sz16 hn (fun q h=>(hI q h).1.mul (hI q h).2.1) (by omega),Sz16 hn (fun q h=>(hI q h).2.1.mul (hI q h).2.1) (by omega),Sz16 hn (fun q h=>(hI q h).1.mul (hI q h).2.2) (by omega),Sz16 hn (fun q h=>(hI q h).2.1.mul (hI q h).2.2) (by omega)⟩
theorem Sz_dets {qs:List P3} (hI:In3 qs) (hn:qs.length≤16):Sz (dD qs) 1950005∧Sz (dA qs) 1950005∧Sz (dB qs) 1950005∧Sz (dC qs) 1950005:=by
 obtain ⟨n,x,y,z,xx,xy,yy,xz,yz⟩:=Sz_sums hI hn
 exact ⟨Sz_det3 n x y x xx xy y xy yy,Sz_det3 z x y xz xx xy yz xy yy,Sz_det3 n z y x xz xy y yz yy,Sz_det3 n x z x xx xz y xy yz⟩
theorem Sz_fit3 {qs:List P3} (hI:In3 qs) (hn:qs.length≤16) {a b c:Rat} (h:fit3 qs=some (a,b,c)):Sz a 3900010∧Sz b 3900010∧Sz c 3900010:=by
 obtain ⟨d,x,y,z⟩:=Sz_dets hI hn
 unfold fit3 at h
 split at h
 · cases h
 · cases h
   exact ⟨x.div d,y.div d,z.div d⟩
theorem sur_fit (hlib:Lib E) {ms:List QM} (hI:In3 (pts ms)) (hn:ms.length≤16):Fn E B9 [.c (.list (Q4 ms))] (fitRes (pts ms) (fit3 (pts ms))):=by
 have hl:=Lim_val
 have hn':(pts ms).length≤16:=by rw [pts_len]; exact hn
 obtain ⟨n,x,y,z,xx,xy,yy,xz,yz⟩:=Sz_sums hI hn'
 obtain ⟨sD,sA,sB,sC⟩:=Sz_dets hI hn'
 have k1:Fn E z3m [.c (.i64 ((Q4 ms).length:Int))] (Sq (nS (pts ms))):=by
  rw [Q4_len]
  have:=sur_number hlib (n:=ms.length) (by omega)
  unfold nS
  rw [pts_len]
  exact this
 have k2:=sum_x hlib hI hn
 have k3:=sum_y hlib hI hn
 have k4:=sum_xx hlib hI hn
 have k5:=sum_xy hlib hI hn
 have k6:=sum_yy hlib hI hn
 have k7:=sum_z hlib hI hn
 have k8:=sum_xz hlib hI hn
 have k9:=sum_yz hlib hI hn
 have kd:=sur_determinant hlib n x y x xx xy y xy yy (by omega)
 have ks:=sur_sign hlib sD (by omega)
 unfold fit3
 by_cases hD:dD (pts ms)=0
 · rw [if_pos hD]
   exact k0c k1 k2 k3 k4 k5 k6 k7 k8 k9 kd ks (cmpQ_ne.2 hD)
 · rw [if_neg hD]
   have dA':=sur_determinant hlib z x y xz xx xy yz xy yy (by omega)
   have dB':=sur_determinant hlib n z y x xz xy y yz yy (by omega)
   have dC':=sur_determinant hlib n x z x xx xz y xy yz (by omega)
   have vA:=sur_div hlib sA sD (by omega) hD
   have vB:=sur_div hlib sB sD (by omega) hD
   have vC:=sur_div hlib sC sD (by omega) hD
   have more:=sum_more hlib (s:=⟨#[]⟩) hI hn (sA.div sD) (sB.div sD) (sC.div sD) (by omega)
   have hlp:=x3k (x0:=Q4 ms) (c0_0:=⟨#[]⟩) (c0_1:=⟨#[]⟩) (c0_2:=⟨#[]⟩) (c0_3:=⟨#[]⟩) (c14_0:=⟨#[]⟩) (c14_1:=⟨#[]⟩) (c14_2:=⟨#[]⟩) (by decide) fit_in0 dA' vA (x3l (by decide) fit_in1 dB' vB (x3m (by decide) fit_in2 dC' vC (y9y (by decide))))
   exact k0d k1 k2 k3 k4 k5 k6 k7 k8 k9 kd ks (fun h=>hD (cmpQ_ne.1 h)) hlp (more.sub [15] (by decide) rfl (by intro i hi; match i,hi with | 0,_=>rfl) (by simp [Ob.plain]) rfl rfl)
end Gev
namespace Gev
open Go Gb
variable {E:Env}
attribute [local irreducible] Sz
noncomputable def okM (m:Mk):Bool:=[m.2.1,m.2.2.1,m.2.2.2].all ok1
noncomputable def rdv (p:List UInt8):Rat:=(rd p).getD 0
noncomputable def numM (m:Mk):P3:=(rdv m.2.1,rdv m.2.2.1,rdv m.2.2.2)
noncomputable def nums3 (l:List Mk):List P3:=l.map numM
noncomputable def okN (m:Mk):Bool:=okM m && decide (m.1.length≤64)
noncomputable def startS (l:List Mk):Int:=if l.all okN then (if l.length < 3 then 9 else if 16 < l.length then 8 else 0) else 1
def Short (l:List Mk):Prop:=l.length < 1000∧∀ m∈l,m.1.length≤4000∧m.2.1.length≤4000∧m.2.2.1.length≤4000∧m.2.2.2.length≤4000
noncomputable def fitA (l:List Mk):AV:=if startS l=0 then fitRes (nums3 l) (fit3 (nums3 l)) else .tup [noFit,.c (.i64 (startS l))]
theorem ok1_dec' {l:List UInt8} (h:ok1 l=true):∃ q,l=decQ q:=by
 obtain ⟨x,hx⟩:=Option.isSome_iff_exists.1 h
 exact ⟨x,rd_some hx⟩
theorem rdv_dec (q:Rat):rdv (decQ q)=q:=by unfold rdv; rw [rd_decQ]; rfl
theorem okM_dec (n:List UInt8) (q:P3):okM (n,decQ (px q),decQ (py q),decQ (pz q))=true:=by
 show [decQ (px q),decQ (py q),decQ (pz q)].all ok1=true
 simp [ok1_dec]
theorem Tm_of:∀ {l:List Mk},l.all okM=true→∃ ms,l=Tm ms
 | [],_=>⟨[],rfl⟩
 | m::l,h=>by
  rw [List.all_cons,Bool.and_eq_true] at h
  obtain ⟨ms,rfl⟩:=Tm_of h.2
  obtain ⟨n,x,y,z⟩:=m
  have h1:=h.1
  unfold okM at h1
  simp only [List.all_cons,List.all_nil,Bool.and_true,Bool.and_eq_true] at h1
  obtain ⟨a,rfl⟩:=ok1_dec' h1.1
  obtain ⟨b,rfl⟩:=ok1_dec' h1.2.1
  obtain ⟨c,rfl⟩:=ok1_dec' h1.2.2
  exact ⟨(n,a,b,c)::ms,rfl⟩
theorem nums3_Tm (ms:List QM):nums3 (Tm ms)=pts ms:=by
 unfold nums3 Tm pts
 rw [List.map_map]
 refine List.map_congr_left fun m _=>?_
 show (rdv (decQ (px m.2)),rdv (decQ (py m.2)),rdv (decQ (pz m.2)))=m.2
 rw [rdv_dec,rdv_dec,rdv_dec]; rfl
theorem Tm_ok (ms:List QM):(Tm ms).all okM=true:=by
 unfold Tm
 rw [List.all_eq_true]
 intro m hm
 obtain ⟨q,_,rfl⟩:=List.mem_map.1 hm
 exact okM_dec q.1 q.2
theorem Tm_in {ms:List QM} (h:Short (Tm ms)):In3 (pts ms):=fun q hq=>by
 unfold pts at hq
 obtain ⟨m,hm,rfl⟩:=List.mem_map.1 hq
 have:=h.2 (m.1,decQ (px m.2),decQ (py m.2),decQ (pz m.2)) (List.mem_map.2 ⟨m,hm,rfl⟩)
 exact ⟨Sz.of_len this.2.1,Sz.of_len this.2.2.1,Sz.of_len this.2.2.2⟩
theorem sur_valid3 (hlib:Lib E) {x y z:List UInt8} (hx:x.length≤Lim) (hy:y.length≤Lim) (hz:z.length≤Lim):Fn E D0 [.c (.list [[.str (B x)],[.str (B y)],[.str (B z)]])] (.c (.bool ([x,y,z].all ok1))) :=
 sur_valid hlib (l:=[x,y,z]) (by simp) (by simp [hx,hy,hz])
theorem Short.lim {l:List Mk} (h:Short l) {m:Mk} (hm:m∈l):m.2.1.length≤Lim∧m.2.2.1.length≤Lim∧m.2.2.2.length≤Lim:=by
 have:=h.2 m hm
 have:=Lim_val
 omega
theorem Fit_loop (hlib:Lib E) {l:List Mk} (hf:Short l) {p0 p1 p2 p3:BA}:∀ d i:Nat,i+d=l.length →
    (l.drop i).all okN=true∧Lp E 1 B8 0 (N1 (R4 l) (R4 l) (l.length:Nat) (i:Nat) p0 p1 p2 p3) (.exit 0) (Y0 (R4 l) p0 p1 p2 p3) ∨
    (l.drop i).all okN=false∧Lp E 1 B8 0 (N1 (R4 l) (R4 l) (l.length:Nat) (i:Nat) p0 p1 p2 p3) .ret z3s
 | 0,i,hi=>.inl ⟨by rw [List.drop_eq_nil_of_le (by omega)]; rfl,y9t (by omega)⟩
 | d+1,i,hi=>by
  have hl:=hf.1
  obtain ⟨m,hc⟩:=get_ex (l:=l) (i:=i) (by omega)
  have g:=R4_get hc
  rw [← Int.toNat_natCast i] at g
  have hm:=hf.lim (List.mem_of_getElem? hc)
  have v:=sur_valid3 hlib hm.1 hm.2.1 hm.2.2
  rw [drop_get hc,List.all_cons]
  cases h1:okM m with
  | false =>
   rw [show [m.2.1,m.2.2.1,m.2.2.2].all ok1=false from h1] at v
   exact .inr ⟨by unfold okN; rw [h1]; rfl,y9s rfl (by omega) (by omega) g v⟩
  | true =>
   rw [show [m.2.1,m.2.2.1,m.2.2.2].all ok1=true from h1] at v
   by_cases h2:m.1.length≤64
   · have e:okN m=true:=by unfold okN; rw [h1,decide_eq_true h2]; rfl
     rw [e,Bool.true_and]
     have st:∀ {o s},Lp E 1 B8 0 (N1 (R4 l) (R4 l) (l.length:Nat) ((i+1:Nat):Int) p0 p1 p2 p3) o s→Lp E 1 B8 0 (N1 (R4 l) (R4 l) (l.length:Nat) (i:Nat) p0 p1 p2 p3) o s:=fun h=>x3i rfl (wi (by omega)) (by omega) (by omega) g v (by rw [B_size]; omega) h
     rcases Fit_loop hlib hf d (i+1) (by omega) with ⟨k1,k2⟩ | ⟨k1,k2⟩
     · exact .inl ⟨k1,st k2⟩
     · exact .inr ⟨k1,st k2⟩
   · have e:okN m=false:=by unfold okN; rw [decide_eq_false h2,Bool.and_false]
     rw [e]
     exact .inr ⟨rfl,y9r rfl (by omega) (by omega) g v (by rw [B_size]; omega)⟩
theorem all_okN {l:List Mk} (h:l.all okN=true):l.all okM=true:=by
 rw [List.all_eq_true] at h ⊢
 intro m hm
 have:=h m hm
 unfold okN at this
 rw [Bool.and_eq_true] at this
 exact this.1
theorem startS_zero {l:List Mk} (h:startS l=0):∃ ms,l=Tm ms∧3≤ms.length∧ms.length≤16:=by
 unfold startS at h
 split at h
 · rename_i ho
   obtain ⟨ms,rfl⟩:=Tm_of (all_okN ho)
   rw [Tm_len] at h
   split at h
   · cases h
   · split at h
     · cases h
     · exact ⟨ms,rfl,by omega,by omega⟩
 · cases h
theorem fitRes_form (qs:List P3) (o:Option (Rat × Rat × Rat)):∃ (a b c d:List UInt8) (e:Int),fitRes qs o=.tup [.agg [.str (B a),.str (B b),.str (B c),.str (B d)],.c (.i64 e)]:=by
 cases o with
 | none=>exact ⟨[],[],[],[],18,rfl⟩
 | some p=>exact ⟨_,_,_,_,0,rfl⟩
theorem sur_Fit (hlib:Lib E) {l:List Mk} (hf:Short l):Fn E B8 [.c (.list (R4 l))] (fitA l):=by
 have h:=Fit_loop hlib hf (p0:=⟨#[]⟩) (p1:=⟨#[]⟩) (p2:=⟨#[]⟩) (p3:=⟨#[]⟩) l.length 0 (by omega)
 rw [List.drop_zero,← R4_len l] at h
 unfold fitA
 rcases h with ⟨h1,h2⟩ | ⟨h1,h2⟩
 · have hs:startS l=if l.length < 3 then 9 else if 16 < l.length then 8 else 0:=by unfold startS; rw [h1]; rfl
   by_cases c1:l.length < 3
   · rw [hs,if_pos c1,if_neg (by decide)]
     exact x9x h2 (by rw [R4_len]; omega)
   · by_cases c2:16 < l.length
     · rw [hs,if_neg c1,if_pos c2,if_neg (by decide)]
       exact x9y h2 (by rw [R4_len]; omega) (by rw [R4_len]; omega)
     · have hs0:startS l=0:=by rw [hs,if_neg c1,if_neg c2]
       rw [if_pos hs0]
       obtain ⟨ms,rfl⟩:=Tm_of (all_okN h1)
       rw [nums3_Tm]
       rw [Tm_len] at c1 c2
       have k:=sur_fit hlib (Tm_in hf) (ms:=ms) (by omega)
       obtain ⟨a,b,c,d,e,he⟩:=fitRes_form (pts ms) (fit3 (pts ms))
       rw [he] at k ⊢
       rw [← Tm_R4] at k
       exact x9z h2 (by rw [R4_len,Tm_len]; omega) (by rw [R4_len,Tm_len]; omega) k
 · have hs:startS l=1:=by unfold startS; rw [h1]; rfl
   rw [hs,if_neg (by decide)]
   exact x9w h2
def Lc (r:Int × List Rat):AV:=.tup [.c (.list (Q1 r.2)),.c (.i64 r.1)]
def Tc (r:Int × List UInt8):AV:=.tup [.c (.str (B r.2)),.c (.i64 r.1)]
noncomputable def diffA (l:List Mk) (a b c:List UInt8):Int × List Rat:=if l.all okM && [a,b,c].all ok1 then (if 16 < l.length then (8,[]) else (0,(nums3 l).map (off3 (rdv a) (rdv b) (rdv c)))) else (1,[])
theorem Diff_loop (hlib:Lib E) {l:List Mk} (hf:Short l) {p0 p1 p2 p3:BA}:∀ d i:Nat,i+d=l.length →
    (l.drop i).all okM=true∧Lp E 1 B2 0 (G3 (R4 l) (R4 l) (l.length:Nat) (i:Nat) p0 p1 p2 p3) (.exit 0) (J2 (R4 l) p0 p1 p2 p3) ∨
    (l.drop i).all okM=false∧Lp E 1 B2 0 (G3 (R4 l) (R4 l) (l.length:Nat) (i:Nat) p0 p1 p2 p3) .ret (z0m p0 p1 p2 p3)
 | 0,i,hi=>.inl ⟨by rw [List.drop_eq_nil_of_le (by omega)]; rfl,z8y (by omega)⟩
 | d+1,i,hi=>by
  have hl:=hf.1
  obtain ⟨m,hc⟩:=get_ex (l:=l) (i:=i) (by omega)
  have g:=R4_get hc
  rw [← Int.toNat_natCast i] at g
  have hm:=hf.lim (List.mem_of_getElem? hc)
  have v:=sur_valid3 hlib hm.1 hm.2.1 hm.2.2
  rw [drop_get hc,List.all_cons]
  cases h1:okM m with
  | false =>
   rw [show [m.2.1,m.2.2.1,m.2.2.2].all ok1=false from h1] at v
   exact .inr ⟨rfl,z8x rfl (by omega) (by omega) g v⟩
  | true =>
   rw [show [m.2.1,m.2.2.1,m.2.2.2].all ok1=true from h1] at v
   rw [Bool.true_and]
   have st:∀ {o s},Lp E 1 B2 0 (G3 (R4 l) (R4 l) (l.length:Nat) ((i+1:Nat):Int) p0 p1 p2 p3) o s→Lp E 1 B2 0 (G3 (R4 l) (R4 l) (l.length:Nat) (i:Nat) p0 p1 p2 p3) o s:=fun h=>y0q rfl (wi (by omega)) (by omega) (by omega) g v h
   rcases Diff_loop hlib hf d (i+1) (by omega) with ⟨k1,k2⟩ | ⟨k1,k2⟩
   · exact .inl ⟨k1,st k2⟩
   · exact .inr ⟨k1,st k2⟩
theorem Diff_out (hlib:Lib E) {ms:List QM} {a b c:Rat} {s:BA} {K:Nat} {w:RW} (hI:In3 (pts ms)) (hn:ms.length≤16) (ha:Sz a K) (hb:Sz b K) (hc':Sz c K) (hK:K≤8000000):∀ d i:Nat,i+d=ms.length →
    Lp E 2 B2 1 (Y8 i (Q4 ms) (ms.length:Nat) (i:Nat) (B (decQ a)) (B (decQ b)) (B (decQ c)) s w (Q1 (((pts ms).take i).map (off3 a b c)))) (.exit 2) (z0n (B (decQ a)) (B (decQ b)) (B (decQ c)) s w ms.length (Q1 ((pts ms).map (off3 a b c))))
 | 0,i,hi=>by
  have:i=ms.length:=by omega
  subst this
  rw [List.take_of_length_le (by rw [pts_len]; omega)]
  exact z8z (by omega)
 | d+1,i,hi=>by
  obtain ⟨m,hc⟩:=get_ex (l:=ms) (i:=i) (by omega)
  have hp:=get_pts hc
  have hm:=hI m.2 (List.mem_of_getElem? hp)
  refine y0r (v7:=i+1) (v8:=((i+1:Nat):Int)) ?_ rfl (wi (by omega)) (by omega) (by omega) (by rw [Int.toNat_natCast]; exact Q4_get hc) (sur_difference hlib ha hb hc' hm (by omega)) (by omega) (Diff_out hlib hI hn ha hb hc' hK d (i+1) (by omega))
  rw [take_get hp,List.map_append,List.take_of_length_le (by rw [Q1_len,List.length_map,List.length_take]; omega)]
  unfold Q1
  rw [List.map_append]; rfl
theorem sur_Differences (hlib:Lib E) {l:List Mk} {a b c:List UInt8} {s:BA} (hf:Short l) (ha:a.length≤8000000) (hb:b.length≤8000000) (hc:c.length≤8000000):Fn E B2 [.c (.list (R4 l)),.agg [.str (B a),.str (B b),.str (B c),.str s]] (Lc (diffA l a b c)):=by
 have hl:=Lim_val
 have h:=Diff_loop hlib hf (p0:=B a) (p1:=B b) (p2:=B c) (p3:=s) l.length 0 (by omega)
 rw [List.drop_zero,← R4_len l] at h
 have v:=sur_valid3 hlib (x:=a) (y:=b) (z:=c) (by omega) (by omega) (by omega)
 unfold diffA
 rcases h with ⟨h1,h2⟩ | ⟨h1,h2⟩
 · rw [h1,Bool.true_and]
   cases hv:[a,b,c].all ok1 with
   | false =>
    rw [hv] at v
    exact y5p rfl h2 v
   | true =>
    rw [hv] at v
    rw [if_pos rfl]
    by_cases h16:16 < l.length
    · rw [if_pos h16]; exact y5n rfl h2 v (by rw [R4_len]; omega)
    · rw [if_neg h16]
      obtain ⟨ms,rfl⟩:=Tm_of h1
      simp only [List.all_cons,List.all_nil,Bool.and_true,Bool.and_eq_true] at hv
      obtain ⟨a,rfl⟩:=ok1_dec' hv.1
      obtain ⟨b,rfl⟩:=ok1_dec' hv.2.1
      obtain ⟨c,rfl⟩:=ok1_dec' hv.2.2
      rw [nums3_Tm,rdv_dec,rdv_dec,rdv_dec]
      rw [Tm_len] at h16
      have hlp:=Diff_out hlib (s:=s) (w:=[[.str (B (decQ a))],[.str (B (decQ b))],[.str (B (decQ c))]]) (Tm_in hf) (by omega) (Sz.of_len ha) (Sz.of_len hb) (Sz.of_len hc) (by omega) ms.length 0 (by omega)
      rw [show ((ms.length:Nat):Int)=((R4 (Tm ms)).length:Int) by rw [R4_len,Tm_len],← Tm_R4] at hlp
      refine y5o (v3:=ms.length) rfl ?_ h2 v (by rw [R4_len,Tm_len]; omega) hlp
      exact List.take_of_length_le (by rw [Q1_len,List.length_map,pts_len]; omega)
 · rw [h1]; exact y5m h2
noncomputable def atA (a b c x y:List UInt8):Int × List UInt8:=if [a,b,c,x,y].all ok1 then (0,decQ (rdv a+(rdv b*rdv x+rdv c*rdv y))) else (1,[])
theorem sur_At (hlib:Lib E) {a b c x y:List UInt8} {s:BA} (ha:a.length≤9000000) (hb:b.length≤9000000) (hc:c.length≤9000000) (hx:x.length≤9000000) (hy:y.length≤9000000):Fn E z3c [.agg [.str (B a),.str (B b),.str (B c),.str s],.c (.str (B x)),.c (.str (B y))] (Tc (atA a b c x y)):=by
 have hl:=Lim_val
 have v:=sur_valid hlib (l:=[a,b,c,x,y]) (by simp) (by intro z hz; simp at hz; rcases hz with rfl | rfl | rfl | rfl | rfl <;> omega)
 unfold atA
 cases hv:[a,b,c,x,y].all ok1 with
 | false=>rw [hv] at v; exact k1n rfl v
 | true =>
  rw [hv] at v
  rw [if_pos rfl]
  simp only [List.all_cons,List.all_nil,Bool.and_true,Bool.and_eq_true] at hv
  obtain ⟨a,rfl⟩:=ok1_dec' hv.1
  obtain ⟨b,rfl⟩:=ok1_dec' hv.2.1
  obtain ⟨c,rfl⟩:=ok1_dec' hv.2.2.1
  obtain ⟨x,rfl⟩:=ok1_dec' hv.2.2.2.1
  obtain ⟨y,rfl⟩:=ok1_dec' hv.2.2.2.2
  rw [rdv_dec,rdv_dec,rdv_dec,rdv_dec,rdv_dec]
  exact k1m rfl v (sur_at hlib (Sz.of_len ha) (Sz.of_len hb) (Sz.of_len hc) (Sz.of_len hx) (Sz.of_len hy) (by omega) (by omega))
end Gev
namespace Gev
open Go Gb
variable {E:Env}
attribute [local irreducible] Sz
abbrev D3:=List UInt8 × List UInt8 × List UInt8
def R3 (l:List D3):RW:=l.map fun m=>[.str (B m.1),.str (B m.2.1),.str (B m.2.2)]
def Td (ts:List P3):List D3:=ts.map fun q=>(decQ (px q),decQ (py q),decQ (pz q))
def Q3 (ts:List P3):RW:=ts.map fun q=>[.str (B (decQ (px q))),.str (B (decQ (py q))),.str (B (decQ (pz q)))]
theorem Td_R3 (ts:List P3):R3 (Td ts)=Q3 ts:=by unfold R3 Td Q3; rw [List.map_map]; rfl
theorem R3_len (l:List D3):(R3 l).length=l.length:=by simp [R3]
theorem Q3_len (ts:List P3):(Q3 ts).length=ts.length:=by simp [Q3]
theorem Td_len (ts:List P3):(Td ts).length=ts.length:=by simp [Td]
theorem R3_get {l:List D3} {i:Nat} {x} (h:l[i]?=some x):(R3 l)[i]?=some [.str (B x.1),.str (B x.2.1),.str (B x.2.2)]:=by simp [R3,h]
theorem Q3_get {l:List P3} {i:Nat} {x} (h:l[i]?=some x):(Q3 l)[i]?=some [.str (B (decQ (px x))),.str (B (decQ (py x))),.str (B (decQ (pz x)))]:=by simp [Q3,h]
noncomputable def okD (m:D3):Bool:=[m.1,m.2.1,m.2.2].all ok1
noncomputable def numD (m:D3):P3:=(rdv m.1,rdv m.2.1,rdv m.2.2)
noncomputable def numsD (l:List D3):List P3:=l.map numD
theorem Td_of:∀ {l:List D3},l.all okD=true→∃ ts,l=Td ts
 | [],_=>⟨[],rfl⟩
 | m::l,h=>by
  rw [List.all_cons,Bool.and_eq_true] at h
  obtain ⟨ts,rfl⟩:=Td_of h.2
  obtain ⟨x,y,z⟩:=m
  have h1:=h.1
  unfold okD at h1
  simp only [List.all_cons,List.all_nil,Bool.and_true,Bool.and_eq_true] at h1
  obtain ⟨a,rfl⟩:=ok1_dec' h1.1
  obtain ⟨b,rfl⟩:=ok1_dec' h1.2.1
  obtain ⟨c,rfl⟩:=ok1_dec' h1.2.2
  exact ⟨(a,b,c)::ts,rfl⟩
theorem numsD_Td (ts:List P3):numsD (Td ts)=ts:=by
 unfold numsD Td
 rw [List.map_map]
 conv=>rhs; rw [← List.map_id ts]
 refine List.map_congr_left fun q _=>?_
 show (rdv (decQ (px q)),rdv (decQ (py q)),rdv (decQ (pz q)))=q
 rw [rdv_dec,rdv_dec,rdv_dec]; rfl
def ShortD (l:List D3):Prop:=l.length < 1000∧∀ m∈l,m.1.length≤4000∧m.2.1.length≤4000∧m.2.2.length≤4000
theorem Td_in {ts:List P3} (h:ShortD (Td ts)):In3 ts:=fun q hq=>by
 have:=h.2 (decQ (px q),decQ (py q),decQ (pz q)) (List.mem_map.2 ⟨q,hq,rfl⟩)
 exact ⟨Sz.of_len this.1,Sz.of_len this.2.1,Sz.of_len this.2.2⟩
theorem ShortD.lim {l:List D3} (h:ShortD l) {m:D3} (hm:m∈l):m.1.length≤Lim∧m.2.1.length≤Lim∧m.2.2.length≤Lim:=by
 have:=h.2 m hm
 have:=Lim_val
 omega
noncomputable def ordB:List P3→Bool
 | a::b::r=>decide (px a < px b) && decide (py a≤py b) && ordB (b::r)
 | _=>true
noncomputable def findT (d:Rat):List P3→Option (P3 × P3)
 | a::b::r=>if d≤px b then some (a,b) else findT d (b::r)
 | _=>none
def lineT (d:Rat) (a b:P3) (x y:Rat):Rat:=x+(d - px a) / (px b - px a)*(y - x)
def lookR (d:Rat) (a b:P3):Rat × Rat:=(lineT d a b (py a) (py b),lineT d a b (pz a) (pz b))
noncomputable def lookP (ts:List P3) (d:Rat):Int × Option (Rat × Rat) :=
 if ordB ts then (if d < px (ts.headD (0,0,0)) then (2,none) else match findT d ts with | none=>(2,none) | some (a,b)=>(0,some (lookR d a b))) else (5,none)
noncomputable def lookA (t:List D3) (d:List UInt8):Int × Option (Rat × Rat) :=
 if t.all okD && ok1 d then (if t.length < 2 then (9,none) else if 32 < t.length then (8,none) else lookP (numsD t) (rdv d)) else (1,none)
noncomputable def Dc (d:List UInt8):Int × Option (Rat × Rat)→AV
 | (e,none)=>.tup [.agg [.str ⟨#[]⟩,.str ⟨#[]⟩,.str ⟨#[]⟩],.c (.i64 e)]
 | (e,some (x,y))=>.tup [.agg [.str (B d),.str (B (decQ x)),.str (B (decQ y))],.c (.i64 e)]
theorem Look_valid (hlib:Lib E) {l:List D3} (hf:ShortD l) {p0 p1 p2 x1:BA}:∀ d i:Nat,i+d=l.length →
    (l.drop i).all okD=true∧Lp E 1 A5 0 (G6 (R3 l) x1 (R3 l) (l.length:Nat) (i:Nat) p0 p1 p2) (.exit 0) (F3 (R3 l) x1 p0 p1 p2) ∨
    (l.drop i).all okD=false∧Lp E 1 A5 0 (G6 (R3 l) x1 (R3 l) (l.length:Nat) (i:Nat) p0 p1 p2) .ret z3k
 | 0,i,hi=>.inl ⟨by rw [List.drop_eq_nil_of_le (by omega)]; rfl,y3i (by omega)⟩
 | d+1,i,hi=>by
  have hl:=hf.1
  obtain ⟨m,hc⟩:=get_ex (l:=l) (i:=i) (by omega)
  have g:=R3_get hc
  rw [← Int.toNat_natCast i] at g
  have hm:=hf.lim (List.mem_of_getElem? hc)
  have v:=sur_valid3 hlib hm.1 hm.2.1 hm.2.2
  rw [drop_get hc,List.all_cons]
  cases h1:okD m with
  | false =>
   rw [show [m.1,m.2.1,m.2.2].all ok1=false from h1] at v
   exact .inr ⟨rfl,y3h rfl (by omega) (by omega) g v⟩
  | true =>
   rw [show [m.1,m.2.1,m.2.2].all ok1=true from h1] at v
   rw [Bool.true_and]
   have st:∀ {o s},Lp E 1 A5 0 (G6 (R3 l) x1 (R3 l) (l.length:Nat) ((i+1:Nat):Int) p0 p1 p2) o s→Lp E 1 A5 0 (G6 (R3 l) x1 (R3 l) (l.length:Nat) (i:Nat) p0 p1 p2) o s:=fun h=>y7i rfl (wi (by omega)) (by omega) (by omega) g v h
   rcases Look_valid hlib hf d (i+1) (by omega) with ⟨k1,k2⟩ | ⟨k1,k2⟩
   · exact .inl ⟨k1,st k2⟩
   · exact .inr ⟨k1,st k2⟩
theorem cmp_ge {a b:Rat}:cmpQ a b≥0↔¬ a < b:=by
 rw [← cmpQ_lt]; omega
theorem Look_order (hlib:Lib E) {ts:List P3} (hI:In3 ts) (hn:ts.length≤32) {p0 p1 p2 x1:BA} {w:RW}:∀ d i:Nat,i+d=ts.length→1≤i →
    ordB (ts.drop (i - 1))=true∧Lp E 2 A5 1 (I4 (Q3 ts) x1 (i:Nat) p0 p1 p2 w) (.exit 2) (O1 (Q3 ts) x1 p0 p1 p2 w) ∨
    ordB (ts.drop (i - 1))=false∧Lp E 2 A5 1 (I4 (Q3 ts) x1 (i:Nat) p0 p1 p2 w) .ret (z1u w)
 | 0,i,hi,h1=>by
  obtain ⟨a,ha⟩:=get_ex (l:=ts) (i:=i - 1) (by omega)
  refine .inl ⟨?_,y3l (by rw [Q3_len]; omega)⟩
  rw [drop_get ha,List.drop_eq_nil_of_le (by omega)]; rfl
 | d+1,i,hi,h1=>by
  have hl:=Lim_val
  obtain ⟨a,ha⟩:=get_ex (l:=ts) (i:=i - 1) (by omega)
  obtain ⟨b,hb⟩:=get_ex (l:=ts) (i:=i) (by omega)
  have za:=hI a (List.mem_of_getElem? ha)
  have zb:=hI b (List.mem_of_getElem? hb)
  have ga:=Q3_get ha
  have gb:=Q3_get hb
  rw [← Int.toNat_natCast (i - 1)] at ga
  rw [← Int.toNat_natCast i] at gb
  have c1:=sur_compare hlib za.1 zb.1 (by omega)
  have c2:=sur_compare hlib za.2.1 zb.2.1 (by omega)
  have hd:ts.drop (i - 1)=a::b::ts.drop (i+1):=by rw [drop_get ha,show i - 1+1=i by omega,drop_get hb]
  have hd':ts.drop (i+1 - 1)=b::ts.drop (i+1):=by rw [show i+1 - 1=i by omega,drop_get hb]
  have hlt:(i:Int) < ((Q3 ts).length:Int):=by rw [Q3_len]; omega
  have e1:IntKind.i64.wrap ((i:Int) - 1)=((i - 1:Nat):Int):=wi (by omega)
  rw [hd]
  show (decide (px a < px b) && decide (py a≤py b) && ordB (b::ts.drop (i+1)))=true∧_∨(decide (px a < px b) && decide (py a≤py b) && ordB (b::ts.drop (i+1)))=false∧_
  by_cases h2:px a < px b
  · rw [decide_eq_true h2,Bool.true_and]
    by_cases h3:py a≤py b
    · rw [decide_eq_true h3,Bool.true_and]
      have st:∀ {o s},Lp E 2 A5 1 (I4 (Q3 ts) x1 ((i+1:Nat):Int) p0 p1 p2 w) o s→Lp E 2 A5 1 (I4 (Q3 ts) x1 (i:Nat) p0 p1 p2 w) o s:=fun h =>
       y7j e1 (wi (by omega)) hlt (by omega) ga (by omega) gb c1 (fun h=>cmp_ge.1 h h2) c2 (fun h=>Rat.not_lt.2 h3 (cmpQ_gt.1 h)) h
      have ih:=Look_order hlib hI hn (p0:=p0) (p1:=p1) (p2:=p2) (x1:=x1) (w:=w) d (i+1) (by omega) (by omega)
      rw [hd'] at ih
      rcases ih with ⟨k1,k2⟩ | ⟨k1,k2⟩
      · exact .inl ⟨k1,st k2⟩
      · exact .inr ⟨k1,st k2⟩
    · rw [decide_eq_false h3,Bool.false_and]
      exact .inr ⟨rfl,y3k e1 hlt (by omega) ga (by omega) gb c1 (fun h=>cmp_ge.1 h h2) c2 (cmpQ_gt.2 (Rat.not_le.1 h3))⟩
  · rw [decide_eq_false h2,Bool.false_and,Bool.false_and]
    exact .inr ⟨rfl,y3j e1 hlt (by omega) ga (by omega) gb c1 (cmp_ge.2 h2)⟩
end Gev
namespace Gev
open Go Gb
variable {E:Env}
attribute [local irreducible] Sz
def lastT:P3→List P3→P3
 | a,[]=>a
 | _,b::r=>lastT b r
theorem lastT_get:∀ (a:P3) (r:List P3),(a::r)[r.length]?=some (lastT a r)
 | a,[]=>rfl
 | a,b::r=>lastT_get b r
theorem ord_tail {a b:P3} {r:List P3} (h:ordB (a::b::r)=true):px a < px b∧py a≤py b∧ordB (b::r)=true:=by
 have h:(decide (px a < px b) && decide (py a≤py b) && ordB (b::r))=true:=h
 simp only [Bool.and_eq_true,decide_eq_true_eq] at h
 exact ⟨h.1.1,h.1.2,h.2⟩
theorem ord_last:∀ {a:P3} {r:List P3},ordB (a::r)=true→px a≤px (lastT a r)
 | a,[],_=>Rat.le_refl
 | a,b::r,h=>by
  obtain ⟨h1,_,h3⟩:=ord_tail h
  exact Rat.le_trans (Rat.le_of_lt h1) (ord_last h3)
theorem findT_none {d:Rat}:∀ {a b:P3} {r:List P3},ordB (a::b::r)=true→(findT d (a::b::r)=none↔px (lastT b r) < d)
 | a,b,[],h=>by
  show (if d≤px b then some (a,b) else none)=none↔px b < d
  by_cases c:d≤px b
  · rw [if_pos c]; exact ⟨fun h=>(by cases h),fun h=>absurd c (Rat.not_le.2 h)⟩
  · rw [if_neg c]; exact ⟨fun _=>Rat.not_le.1 c,fun _=>rfl⟩
 | a,b,c::r,h=>by
  obtain ⟨_,_,h3⟩:=ord_tail h
  show (if d≤px b then some (a,b) else findT d (b::c::r))=none↔px (lastT c r) < d
  by_cases k:d≤px b
  · rw [if_pos k]
    have:=ord_last h3
    exact ⟨fun h=>(by cases h),fun h=>absurd (Rat.le_trans k this) (Rat.not_le.2 h)⟩
  · rw [if_neg k]; exact findT_none h3
theorem findT_in {d:Rat}:∀ {ts:List P3} {a b:P3},ordB ts=true→findT d ts=some (a,b)→px a < px b∧py a≤py b∧a∈ts∧b∈ts∧d≤px b
 | [],a,b,_,h=>by cases h
 | [x],a,b,_,h=>by cases h
 | x::y::r,a,b,ho,h=>by
  obtain ⟨h1,h2,h3⟩:=ord_tail ho
  have h:(if d≤px y then some (x,y) else findT d (y::r))=some (a,b):=h
  by_cases k:d≤px y
  · rw [if_pos k] at h
    cases h
    exact ⟨h1,h2,by simp,by simp,k⟩
  · rw [if_neg k] at h
    obtain ⟨k1,k2,k3,k4,k5⟩:=findT_in h3 h
    exact ⟨k1,k2,List.mem_cons_of_mem _ k3,List.mem_cons_of_mem _ k4,k5⟩
theorem Look_find (hlib:Lib E) {ts:List P3} {q:Rat} {L:Nat} (hI:In3 ts) (hn:ts.length≤32) (hq:Sz q L) (hL:L≤30000000) {p0 p1 p2:BA} {w:RW}:∀ n i:Nat,i+n=ts.length→1≤i→∀ a b,findT q (ts.drop (i - 1))=some (a,b) →
    ∃ k:Nat,1≤k∧ts[k - 1]?=some a∧ts[k]?=some b∧Lp E 2 A5 2 (z2w (Q3 ts) (B (decQ q)) (i:Nat) p0 p1 p2 w) (.exit 4) (z3l (Q3 ts) (B (decQ q)) p0 p1 p2 w (k:Nat))
 | 0,i,hi,h1,a,b,h=>by
  obtain ⟨x,hx⟩:=get_ex (l:=ts) (i:=i - 1) (by omega)
  rw [drop_get hx,List.drop_eq_nil_of_le (by omega)] at h
  cases h
 | n+1,i,hi,h1,a,b,h=>by
  have hl:=Lim_val
  obtain ⟨x,hx⟩:=get_ex (l:=ts) (i:=i - 1) (by omega)
  obtain ⟨y,hy⟩:=get_ex (l:=ts) (i:=i) (by omega)
  have zy:=hI y (List.mem_of_getElem? hy)
  have gy:=Q3_get hy
  rw [← Int.toNat_natCast i] at gy
  have c:=sur_compare hlib hq zy.1 (by omega)
  have hd:ts.drop (i - 1)=x::y::ts.drop (i+1):=by rw [drop_get hx,show i - 1+1=i by omega,drop_get hy]
  rw [hd] at h
  have h:(if q≤px y then some (x,y) else findT q (y::ts.drop (i+1)))=some (a,b):=h
  by_cases k:q≤px y
  · rw [if_pos k] at h
    cases h
    exact ⟨i,h1,hx,hy,y3m (by omega) gy c (fun h=>Rat.not_lt.2 k (cmpQ_gt.1 h))⟩
  · rw [if_neg k] at h
    obtain ⟨j,j1,j2,j3,j4⟩:=Look_find hlib hI hn hq hL (p0:=p0) (p1:=p1) (p2:=p2) (w:=w) n (i+1) (by omega) (by omega) a b (by rw [show i+1 - 1=i by omega,drop_get hy]; exact h)
    exact ⟨j,j1,j2,j3,y7k (v5:=((i+1:Nat):Int)) (wi (by omega)) (by omega) gy c (cmpQ_gt.2 (Rat.not_le.1 k)) j4⟩
theorem sur_lineT (hlib:Lib E) {d x y:Rat} {a b:P3} {L:Nat} (hd:Sz d L) (hL:L≤30000000) (ha:Sz (px a) 4000) (hb:Sz (px b) 4000) (hx:Sz x 4000) (hy:Sz y 4000):Sz (lineT d a b x y) (L+40000)∧Rn E z3x [Sq x,Sq y,.ptr 0 0] [some (.cells [Sq ((d - px a) / (px b - px a))])] (Sq (lineT d a b x y)) [some (.cells [Sq ((d - px a) / (px b - px a))])]:=by
 have hl:=Lim_val
 have p:=(hd.sub ha).div (hb.sub ha)
 have s:=hy.sub hx
 exact ⟨(hx.add (p.mul s)).mono (by omega),x1r (sur_sub hlib hy hx (by omega)) (sur_mul hlib p s (by omega)) (sur_add hlib hx (p.mul s) (by omega))⟩
theorem sur_Lookup (hlib:Lib E) {t:List D3} {d:List UInt8} (hf:ShortD t) (hd:d.length≤30000000):Fn E A5 [.c (.list (R3 t)),.c (.str (B d))] (Dc d (lookA t d)):=by
 have hl:=Lim_val
 have h:=Look_valid hlib hf (p0:=⟨#[]⟩) (p1:=⟨#[]⟩) (p2:=⟨#[]⟩) (x1:=B d) t.length 0 (by omega)
 rw [List.drop_zero,← R3_len t] at h
 have v:=sur_valid hlib (l:=[d]) (by simp) (by intro x hx; simp at hx; subst hx; omega)
 rw [show [d].all ok1=ok1 d by simp] at v
 unfold lookA
 rcases h with ⟨h1,h2⟩ | ⟨h1,h2⟩
 · rw [h1,Bool.true_and]
   cases hv:ok1 d with
   | false=>rw [hv] at v; exact x5g rfl h2 v
   | true =>
    rw [hv] at v
    rw [if_pos rfl]
    by_cases c1:t.length < 2
    · rw [if_pos c1]; exact x5a rfl h2 v (by rw [R3_len]; omega)
    · by_cases c2:32 < t.length
      · rw [if_neg c1,if_pos c2]; exact x5b rfl h2 v (by rw [R3_len]; omega) (by rw [R3_len]; omega)
      · rw [if_neg c1,if_neg c2]
        obtain ⟨ts,rfl⟩:=Td_of h1
        obtain ⟨q,rfl⟩:=ok1_dec' hv
        have hI:=Td_in hf
        have zq:=Sz.of_len hd
        rw [numsD_Td,rdv_dec]
        rw [Td_len] at c1 c2
        have k3:¬ ((R3 (Td ts)).length:Int) < 2:=by rw [R3_len,Td_len]; omega
        have k4:¬ ((R3 (Td ts)).length:Int) > 32:=by rw [R3_len,Td_len]; omega
        have ho:=Look_order hlib hI (by omega) (p0:=⟨#[]⟩) (p1:=⟨#[]⟩) (p2:=⟨#[]⟩) (x1:=B (decQ q)) (w:=[[.str (B (decQ q))]]) (ts.length - 1) 1 (by omega) (by omega)
        rw [Nat.sub_self,List.drop_zero,← Td_R3] at ho
        unfold lookP
        rcases ho with ⟨o1,o2⟩ | ⟨o1,o2⟩
        · rw [o1,if_pos rfl]
          match ts,c1,hI,o1 with
          | [],c1,_,_=>exact absurd (show ([]:List P3).length < 2 by decide) c1
          | [x],c1,_,_=>exact absurd (show [x].length < 2 by simp) c1
          | a::b::r,_,hI,o1 =>
           have za:=hI a (by simp)
           have g0:(R3 (Td (a::b::r)))[0]?=some [.str (B (decQ (px a))),.str (B (decQ (py a))),.str (B (decQ (pz a)))]:=rfl
           have n0:=sur_compare hlib zq za.1 (by omega)
           show Fn E _ _ (Dc _ (if q < px a then _ else _))
           by_cases c3:q < px a
           · rw [if_pos c3]
             exact x5d rfl h2 v k3 k4 o2 g0 n0 (cmpQ_lt.2 c3)
           · rw [if_neg c3]
             have hlst:(a::b::r)[r.length+1]?=some (lastT b r):=lastT_get b r
             have zl:=hI _ (List.mem_of_getElem? hlst)
             have gl:=Q3_get hlst
             rw [← Td_R3,← Int.toNat_natCast (r.length+1)] at gl
             have n1:=sur_compare hlib zq zl.1 (by omega)
             have e2:IntKind.i64.wrap (((R3 (Td (a::b::r))).length:Int) - 1)=((r.length+1:Nat):Int):=wi (by rw [R3_len,Td_len]; simp only [List.length_cons] at *; omega)
             have c3':¬ cmpQ q (px a) < 0:=fun h=>c3 (cmpQ_lt.1 h)
             cases hfd:findT q (a::b::r) with
             | none =>
              have hgt:=(findT_none o1).1 hfd
              exact x5e rfl e2 h2 v k3 k4 o2 g0 n0 c3' (by omega) gl n1 (cmpQ_gt.2 hgt)
             | some ab =>
              obtain ⟨x,y⟩:=ab
              have hle:¬ cmpQ q (px (lastT b r)) > 0:=fun h=>by
               have:=(findT_none o1).2 (cmpQ_gt.1 h)
               rw [hfd] at this
               cases this
              obtain ⟨f1,_,f3,f4,_⟩:=findT_in o1 hfd
              have zx:=hI x f3
              have zy:=hI y f4
              obtain ⟨k,j1,j2,j3,j4⟩:=Look_find hlib hI (by omega) zq (by omega) (p0:=⟨#[]⟩) (p1:=⟨#[]⟩) (p2:=⟨#[]⟩) (w:=[[.str (B (decQ q))]]) ((a::b::r).length - 1) 1 (by simp only [List.length_cons]; omega) (by omega) x y (by rw [Nat.sub_self,List.drop_zero]; exact hfd)
              rw [← Td_R3] at j4
              have gx:=Q3_get j2
              have gy:=Q3_get j3
              have hkl:=(List.getElem?_eq_some_iff.1 j3).1
              rw [← Td_R3,← Int.toNat_natCast (k - 1)] at gx
              rw [← Td_R3,← Int.toNat_natCast k] at gy
              have hne:px y - px x≠0:=fun h=>by
               have:px y=px x:=by grind
               rw [this] at f1
               exact Rat.lt_irrefl f1
              have l1:=(sur_lineT hlib zq (by omega) zx.1 zy.1 zx.2.1 zy.2.1).2
              have l2:=(sur_lineT hlib zq (by omega) zx.1 zy.1 zx.2.2 zy.2.2).2
              have dv:=sur_div hlib (zq.sub zx.1) (zy.1.sub zx.1) (by omega) hne
              exact x5f rfl e2 (wi (by omega)) h2 v k3 k4 o2 g0 n0 c3' (by omega) gl n1 hle j4 (by omega) gx (by omega) gy (sur_sub hlib zq zx.1 (by omega)) (sur_sub hlib zy.1 zx.1 (by omega)) dv
               (l1.sub [4] (by decide) rfl (by intro i hi; match i,hi with | 0,_=>rfl) (by simp [Ob.plain]) rfl rfl) (l2.sub [4] (by decide) rfl (by intro i hi; match i,hi with | 0,_=>rfl) (by simp [Ob.plain]) rfl rfl)
        · rw [o1]
          exact x5c rfl h2 v k3 k4 o2
 · rw [h1]; exact x4z h2
end Gev
namespace Gev
open Go Gb
variable {E:Env}
attribute [local irreducible] Sz
theorem lookP_form {ts:List P3} {d:Rat}:(∃ e:Int,e≠0∧lookP ts d=(e,none))∨∃ a b,ordB ts=true∧findT d ts=some (a,b)∧lookP ts d=(0,some (lookR d a b))∧¬ d < px (ts.headD (0,0,0)):=by
 unfold lookP
 cases ho:ordB ts with
 | false=>exact .inl ⟨5,by decide,rfl⟩
 | true =>
  rw [if_pos rfl]
  by_cases c:d < px (ts.headD (0,0,0))
  · rw [if_pos c]; exact .inl ⟨2,by decide,rfl⟩
  · rw [if_neg c]
    cases hf:findT d ts with
    | none=>exact .inl ⟨2,by decide,rfl⟩
    | some ab=>exact .inr ⟨ab.1,ab.2,rfl,rfl,rfl,c⟩
theorem lookA_form {t:List D3} {d:List UInt8}:(∃ e:Int,e≠0∧lookA t d=(e,none))∨∃ ts q a b,t=Td ts∧d=decQ q∧2≤ts.length∧ts.length≤32∧ordB ts=true∧findT q ts=some (a,b)∧lookA t d=(0,some (lookR q a b))∧¬ q < px (ts.headD (0,0,0)):=by
 unfold lookA
 by_cases h:(t.all okD && ok1 d)=true
 · rw [if_pos h]
   rw [Bool.and_eq_true] at h
   obtain ⟨ts,rfl⟩:=Td_of h.1
   obtain ⟨q,rfl⟩:=ok1_dec' h.2
   rw [Td_len]
   by_cases c1:ts.length < 2
   · rw [if_pos c1]; exact .inl ⟨9,by decide,rfl⟩
   · rw [if_neg c1]
     by_cases c2:32 < ts.length
     · rw [if_pos c2]; exact .inl ⟨8,by decide,rfl⟩
     · rw [if_neg c2,numsD_Td,rdv_dec]
       rcases lookP_form (ts:=ts) (d:=q) with ⟨e,h1,h2⟩ | ⟨a,b,h1,h2,h3,h4⟩
       · exact .inl ⟨e,h1,h2⟩
       · exact .inr ⟨ts,q,a,b,rfl,rfl,by omega,by omega,h1,h2,h3,h4⟩
 · rw [if_neg h]; exact .inl ⟨1,by decide,rfl⟩
theorem Sz_lineT {d x y:Rat} {a b:P3} {L:Nat} (hd:Sz d L) (ha:Sz (px a) 4000) (hb:Sz (px b) 4000) (hx:Sz x 4000) (hy:Sz y 4000):Sz (lineT d a b x y) (L+40000) :=
 (hx.add (((hd.sub ha).div (hb.sub ha)).mul (hy.sub hx))).mono (by omega)
theorem Sz_look {ts:List P3} {q:Rat} {a b:P3} {L:Nat} (hI:In3 ts) (hq:Sz q L) (ho:ordB ts=true) (hf:findT q ts=some (a,b)):Sz (lookR q a b).1 (L+40000)∧Sz (lookR q a b).2 (L+40000):=by
 obtain ⟨_,_,f3,f4,_⟩:=findT_in ho hf
 have zx:=hI a f3
 have zy:=hI b f4
 exact ⟨Sz_lineT hq zx.1 zy.1 zx.2.1 zy.2.1,Sz_lineT hq zx.1 zy.1 zx.2.2 zy.2.2⟩
def errS (e:Int):AV:=.tup [.agg [.str ⟨#[]⟩,.str ⟨#[]⟩,.str ⟨#[]⟩,.str ⟨#[]⟩,.str ⟨#[]⟩,.str ⟨#[]⟩],.c (.i64 e)]
def draftS (a b c m:Rat):Rat:=a+(b*m+c*0)
noncomputable def survF (t:List D3) (qs:List P3) (m n r:Rat):Option (Rat × Rat × Rat)→AV
 | none=>errS 18
 | some (a,b,c)=>match lookA t (decQ (draftS a b c m)) with
  | (e,none)=>errS e
  | (_,some (x,y))=>.tup [.agg [.str (B (decQ (draftS a b c m))),.str (B (decQ (b*n))),.str (B (decQ c)),.str (B (decQ (x*r))),.str (B (decQ y)),.str (B (decQ (sq3 a b c qs)))],.c (.i64 0)]
noncomputable def survA (l:List Mk) (t:List D3) (m n r:List UInt8):AV :=
 if [m,n,r].all ok1 then (if 0 < rdv n∧0 < rdv r then (if startS l=0 then survF t (nums3 l) (rdv m) (rdv n) (rdv r) (fit3 (nums3 l)) else errS (startS l)) else errS 2) else errS 1
theorem cmp_le' {a:Rat}:cmpQ a 0≤0↔¬ 0 < a:=by
 rw [← cmpQ_gt]; omega
theorem sur_Survey (hlib:Lib E) {l:List Mk} {t:List D3} {m n r:List UInt8} (hf:Short l) (ht:ShortD t) (hm:m.length≤4000) (hn:n.length≤4000) (hr:r.length≤4000):Fn E U6 [.c (.list (R4 l)),.c (.list (R3 t)),.c (.str (B m)),.c (.str (B n)),.c (.str (B r))] (survA l t m n r):=by
 have hl:=Lim_val
 have v:=sur_valid3 hlib (x:=m) (y:=n) (z:=r) (by omega) (by omega) (by omega)
 unfold survA
 cases hv:[m,n,r].all ok1 with
 | false=>rw [hv] at v; exact x5l rfl v
 | true =>
  rw [hv] at v
  rw [if_pos rfl]
  simp only [List.all_cons,List.all_nil,Bool.and_true,Bool.and_eq_true] at hv
  obtain ⟨m,rfl⟩:=ok1_dec' hv.1
  obtain ⟨n,rfl⟩:=ok1_dec' hv.2.1
  obtain ⟨r,rfl⟩:=ok1_dec' hv.2.2
  rw [rdv_dec,rdv_dec,rdv_dec]
  have zm:=Sz.of_len hm
  have zn:=Sz.of_len hn
  have zr:=Sz.of_len hr
  have sn:=sur_sign hlib zn (by omega)
  have sr:=sur_sign hlib zr (by omega)
  by_cases c1:0 < n
  · by_cases c2:0 < r
    · rw [if_pos ⟨c1,c2⟩]
      have d1:¬ cmpQ n 0≤0:=fun h=>cmp_le'.1 h c1
      have d2:¬ cmpQ r 0≤0:=fun h=>cmp_le'.1 h c2
      have k:=sur_Fit hlib hf
      unfold fitA at k
      by_cases hs:startS l=0
      · rw [if_pos hs] at k ⊢
        obtain ⟨ms,rfl,_,hn16⟩:=startS_zero hs
        have hI:=Tm_in hf
        rw [nums3_Tm] at k ⊢
        cases hfit:fit3 (pts ms) with
        | none =>
         rw [hfit] at k
         exact y2j rfl v sn d1 sr d2 k (by decide)
        | some abc =>
         obtain ⟨a,b,c⟩:=abc
         rw [hfit] at k
         obtain ⟨za,zb,zc⟩:=Sz_fit3 hI (by rw [pts_len]; exact hn16) hfit
         have hat:=sur_at hlib (s:=B (decQ (sq3 a b c (pts ms)))) za zb zc (zm.mono (show 4000≤4001 by omega)) (Sz.zero.mono (show 1≤4001 by omega)) (by omega) (by omega)
         have zd:Sz (draftS a b c m) 11710000:=(za.add ((zb.mul zm).add (zc.mul Sz.zero))).mono (by omega)
         have hlk:=sur_Lookup hlib (d:=decQ (draftS a b c m)) ht (by have:=zd.len; omega)
         show Fn E _ _ (match lookA t (decQ (draftS a b c m)) with | (e,none)=>errS e | (_,some (x,y))=>_)
         rw [show Sq (0:Rat)=.c (.str (⟨#[48]⟩:BA)) by rw [b_zero]] at hat
         rcases lookA_form (t:=t) (d:=decQ (draftS a b c m)) with ⟨e,e1,e2⟩ | ⟨ts,q,x,y,rfl,eq,_,_,ho,hfd,e2,_⟩
         · rw [e2] at hlk ⊢
           exact x5j rfl v sn d1 sr d2 k rfl hat hlk e1
         · rw [e2] at hlk ⊢
           have eq:=decQ_inj eq
           subst eq
           obtain ⟨z1,z2⟩:=Sz_look (Td_in ht) zd ho hfd
           exact x5k rfl v sn d1 sr d2 k rfl hat hlk rfl (sur_mul hlib zb zn (by omega)) (sur_mul hlib z1 zr (by omega))
      · rw [if_neg hs] at k ⊢
        exact y2j rfl v sn d1 sr d2 k hs
    · rw [if_neg (fun h=>c2 h.2)]
      exact x5i rfl v sn (fun h=>cmp_le'.1 h c1) sr (cmp_le'.2 c2)
  · rw [if_neg (fun h=>c1 h.1)]
    exact x5h rfl v sn (cmp_le'.2 c1)
end Gev
namespace Gev
open Go Gb
variable {E:Env}
attribute [local irreducible] Sz
structure Cs (E:Env):Prop where
 mark:∀ l:List Mk,l.length < 1000→Rn E B3 [.c (.list (R4 l))] [] (.vec 0 l.length) [some (.vec A9 (R4 l))]
 table:∀ l:List D3,l.length < 1000→Rn E B7 [.c (.list (R3 l))] [] (.vec 0 l.length) [some (.vec B6 (R3 l))]
 cut:∀ (l:List Mk) (i:Nat),i < l.length→l.length < 1000→Rn E N7 [.vec 0 l.length,.c (.i64 (i:Nat)),.c (.i64 ((i+1:Nat):Int))] [some (.vec A9 (R4 l))] (.vec 0 (l.length - 1)) [some (.vec A9 (R4 (l.eraseIdx i)++[[.str ⟨#[]⟩,.str ⟨#[]⟩,.str ⟨#[]⟩,.str ⟨#[]⟩]]))]
noncomputable def wstep (qs:List P3) (i:Nat) (s:Option (Nat × Rat)):Option (Nat × Rat) :=
 match fit3 (qs.eraseIdx i) with
 | none=>s
 | some (a,b,c)=>match s with
  | none=>some (i,sq3 a b c (qs.eraseIdx i))
  | some (k,q)=>if sq3 a b c (qs.eraseIdx i) < q then some (i,sq3 a b c (qs.eraseIdx i)) else some (k,q)
noncomputable def wloop (qs:List P3):Nat→Option (Nat × Rat)
 | 0=>none
 | n+1=>wstep qs n (wloop qs n)
noncomputable def worstP (qs:List P3):Int × Int:=match wloop qs qs.length with | none=>(18,0) | some (k,_)=>(0,(k:Int))
noncomputable def worstA (l:List Mk):Int × Int:=if startS l=0 then (match fit3 (nums3 l) with | none=>(18,0) | some _=>if l.length < 4 then (9,0) else worstP (nums3 l)) else (startS l,0)
def Wc (r:Int × Int):AV:=.tup [.c (.i64 r.2),.c (.i64 r.1)]
theorem Sz_sq3 {qs:List P3} {a b c:Rat} {K:Nat} (hI:In3 qs) (hn:qs.length≤16) (ha:Sz a K) (hb:Sz b K) (hc:Sz c K):Sz (sq3 a b c qs) (1+16*(3*K+12003+(3*K+12003)+1)) :=
 Sz16 hn (fun q h=>(Sz_off3 ha hb hc (hI q h)).mul (Sz_off3 ha hb hc (hI q h))) (Nat.le_refl _)
theorem map_erase {α β:Type} (f:α→β):∀ (l:List α) (i:Nat),(l.map f).eraseIdx i=(l.eraseIdx i).map f
 | [],_=>rfl
 | _::_,0=>rfl
 | a::l,i+1=>by rw [List.map_cons,List.eraseIdx_cons_succ,List.eraseIdx_cons_succ,List.map_cons,map_erase f l i]
theorem pts_erase (ms:List QM) (i:Nat):pts (ms.eraseIdx i)=(pts ms).eraseIdx i:=by unfold pts; rw [map_erase]
theorem In3_erase {qs:List P3} (h:In3 qs) (i:Nat):In3 (qs.eraseIdx i):=fun q hq=>h q (List.mem_of_mem_eraseIdx hq)
theorem Tm_erase (ms:List QM) (i:Nat):(Tm ms).eraseIdx i=Tm (ms.eraseIdx i):=by unfold Tm; rw [map_erase]
def bestI:Option (Nat × Rat)→Int
 | none=>-1
 | some (k,_)=>(k:Int)
def bestT:Option (Nat × Rat)→List UInt8
 | none=>[]
 | some (_,q)=>decQ q
def OSz (o:Option (Nat × Rat)):Prop:=∀ k q,o=some (k,q)→Sz q 375000000
theorem wstep_Sz {qs:List P3} {i:Nat} {s:Option (Nat × Rat)} (hI:In3 qs) (hn:qs.length≤16) (hs:OSz s):OSz (wstep qs i s):=by
 intro k q h
 unfold wstep at h
 have hn':(qs.eraseIdx i).length≤16:=Nat.le_trans (List.length_eraseIdx_le _ _) hn
 cases hf:fit3 (qs.eraseIdx i) with
 | none=>rw [hf] at h; exact hs k q h
 | some abc =>
  obtain ⟨a,b,c⟩:=abc
  rw [hf] at h
  obtain ⟨za,zb,zc⟩:=Sz_fit3 (In3_erase hI i) hn' hf
  have z:Sz (sq3 a b c (qs.eraseIdx i)) 375000000:=(Sz_sq3 (In3_erase hI i) hn' za zb zc).mono (by omega)
  cases s with
  | none=>cases h; exact z
  | some p =>
   obtain ⟨k0,q0⟩:=p
   have h:(if sq3 a b c (qs.eraseIdx i) < q0 then some (i,sq3 a b c (qs.eraseIdx i)) else some (k0,q0))=some (k,q):=h
   split at h
   · cases h; exact z
   · cases h; exact hs _ _ rfl
theorem Worst_loop (hlib:Lib E) (hcs:Cs E) {ms:List QM} (hI:In3 (pts ms)) (hn:ms.length≤16) {p0 p1 p2 p3:BA}:∀ (d i:Nat) (s:Option (Nat × Rat)),i+d=ms.length→OSz s→s=wloop (pts ms) i →
    Lp E 1 F7 0 (J4 (Q4 ms) (bestI s) (B (bestT s)) (ms.length:Nat) (i:Nat) p0 p1 p2 p3) (.exit 0) (z0o p0 p1 p2 p3 (bestI (wloop (pts ms) ms.length)))
 | 0,i,s,hi,hs,e=>by
  have:i=ms.length:=by omega
  subst this
  rw [← e]
  exact y5r (by omega)
 | d+1,i,s,hi,hs,e=>by
  have hl:=Lim_val
  have hnp:(pts ms).length≤16:=by rw [pts_len]; exact hn
  have hlen:(ms.eraseIdx i).length=ms.length - 1:=by rw [List.length_eraseIdx_of_lt (by omega)]
  have hIe:In3 (pts (ms.eraseIdx i)):=by rw [pts_erase]; exact In3_erase hI i
  have k1:=hcs.mark (Tm ms) (by rw [Tm_len]; omega)
  rw [Tm_R4,Tm_len] at k1
  have k2:=hcs.cut (Tm ms) i (by rw [Tm_len]; omega) (by rw [Tm_len]; omega)
  rw [Tm_erase,Tm_R4,Tm_R4,Tm_len] at k2
  have k3:=sur_fit hlib (ms:=ms.eraseIdx i) hIe (by omega)
  have k2':=k2.at (objs:=[some (.cells [.c (.str p0),.c (.str p1),.c (.str p2),.c (.str p3)]),some (.vec A9 (Q4 ms)),none]) (l:=1) rfl rfl rfl rfl rfl
  have e1:IntKind.i64.wrap ((i:Int)+1)=((i+1:Nat):Int):=wi (by omega)
  have e2:(Q4 (ms.eraseIdx i)++([[.str ⟨#[]⟩,.str ⟨#[]⟩,.str ⟨#[]⟩,.str ⟨#[]⟩]]:RW)).take (ms.length - 1)=Q4 (ms.eraseIdx i):=by
   rw [List.take_append_of_le_length (by rw [Q4_len]; omega),List.take_of_length_le (by rw [Q4_len]; omega)]
  have hi':(i:Int) < (ms.length:Nat):=by omega
  have ew:wloop (pts ms) (i+1)=wstep (pts ms) i s:=by rw [e]; rfl
  have ih:=fun s' (h1:OSz s') (h2:s'=wloop (pts ms) (i+1))=>Worst_loop hlib hcs hI hn (p0:=p0) (p1:=p1) (p2:=p2) (p3:=p3) d (i+1) s' (by omega) h1 h2
  have hsz:=wstep_Sz (i:=i) hI hnp hs
  have ih:=ih (wstep (pts ms) i s) hsz ew.symm
  unfold wstep at ih
  rw [← pts_erase] at ih
  cases hf:fit3 (pts (ms.eraseIdx i)) with
  | none =>
   rw [hf] at k3 ih
   exact y9x e1 e2 hi' k1 k2' k3 (by decide) ih
  | some abc =>
   obtain ⟨a,b,c⟩:=abc
   rw [hf] at k3 ih
   obtain ⟨za,zb,zc⟩:=Sz_fit3 hIe (by rw [pts_len]; omega) hf
   have z:Sz (sq3 a b c (pts (ms.eraseIdx i))) 375000000:=(Sz_sq3 hIe (by rw [pts_len]; omega) za zb zc).mono (by omega)
   cases s with
   | none=>exact y9u e1 e2 hi' k1 k2' k3 rfl (by decide) ih
   | some p =>
    obtain ⟨k0,q0⟩:=p
    have z0:=hs k0 q0 rfl
    have cm:=sur_compare hlib z z0 (by omega)
    have ih:Lp E 1 F7 0 (J4 (Q4 ms) (bestI (if sq3 a b c (pts (ms.eraseIdx i)) < q0 then some (i,sq3 a b c (pts (ms.eraseIdx i))) else some (k0,q0))) (B (bestT (if sq3 a b c (pts (ms.eraseIdx i)) < q0 then some (i,sq3 a b c (pts (ms.eraseIdx i))) else some (k0,q0)))) (ms.length:Nat) ((i+1:Nat):Int) p0 p1 p2 p3) (.exit 0) _:=ih
    have hk:¬ bestI (some (k0,q0)) < 0:=by show ¬ (k0:Int) < 0; omega
    by_cases hc:sq3 a b c (pts (ms.eraseIdx i)) < q0
    · rw [if_pos hc] at ih
      exact y9v e1 e2 hi' k1 k2' k3 rfl hk cm (cmpQ_lt.2 hc) ih
    · rw [if_neg hc] at ih
      exact y9w e1 e2 hi' k1 k2' k3 rfl hk cm (fun h=>hc (cmpQ_lt.1 h)) ih
theorem sur_Worst (hlib:Lib E) (hcs:Cs E) {l:List Mk} (hf:Short l):Fn E F7 [.c (.list (R4 l))] (Wc (worstA l)):=by
 have k:=sur_Fit hlib hf
 unfold fitA at k
 unfold worstA
 by_cases hs:startS l=0
 · rw [if_pos hs] at k ⊢
   obtain ⟨ms,rfl,h3,h16⟩:=startS_zero hs
   have hI:=Tm_in hf
   rw [nums3_Tm] at k ⊢
   cases hfit:fit3 (pts ms) with
   | none =>
    rw [hfit] at k
    show Fn E _ _ (Wc (18,0))
    exact y5q k (show ¬ (18:Int)=0 by decide)
   | some abc =>
    obtain ⟨a,b,c⟩:=abc
    rw [hfit] at k
    show Fn E _ _ (Wc (if (Tm ms).length < 4 then (9,0) else worstP (pts ms)))
    rw [Tm_len]
    by_cases h4:ms.length < 4
    · rw [if_pos h4]; exact x6x k rfl (by rw [R4_len,Tm_len]; omega)
    · rw [if_neg h4]
      have hlp:=Worst_loop hlib hcs hI h16 (p0:=B (decQ a)) (p1:=B (decQ b)) (p2:=B (decQ c)) (p3:=B (decQ (sq3 a b c (pts ms)))) ms.length 0 none (by omega) (fun _ _ h=>by cases h) rfl
      rw [← Q4_len ms,← Tm_R4] at hlp
      rw [R4_len,Tm_len] at hlp
      unfold worstP
      rw [pts_len]
      cases hw:wloop (pts ms) ms.length with
      | none =>
       rw [hw] at hlp
       exact x6y k rfl (by rw [R4_len,Tm_len]; omega) (by rw [R4_len,Tm_len]; exact hlp) (by decide)
      | some p =>
       obtain ⟨k0,q0⟩:=p
       rw [hw] at hlp
       exact x6z k rfl (by rw [R4_len,Tm_len]; omega) (by rw [R4_len,Tm_len]; exact hlp) (by show ¬ (k0:Int) < 0; omega)
 · rw [if_neg hs] at k ⊢
   exact y5q k hs
end Gev
namespace Gev
open Go Gb
variable {E:Env}
attribute [local irreducible] Sz
abbrev q0 (q:Rat):Bool:=decide (q.num < 0)
abbrev q1 (q:Rat):RW:=Wr (words q.num.natAbs)
abbrev q2 (q:Rat):RW:=Wr (words q.den)
theorem read46_loop {l:List (List UInt8)} (hn:l.length≤1000) (hb:∀ x∈l,x.length≤Lim):∀ (d i:Nat) (w:RW),i+d=l.length →
    (l.drop i).all ok1=true∧(∃ n w',Lp E 0 O8 0 (V6 (R1 l) i (i:Nat) w) (.exit 0) (z6m n w')) ∨
    (l.drop i).all ok1=false∧Lp E 0 O8 0 (V6 (R1 l) i (i:Nat) w) .ret z6l
 | 0,i,w,hi=>.inl ⟨by rw [List.drop_eq_nil_of_le (by omega)]; rfl,_,_,y9j (by rw [R1_len]; omega)⟩
 | d+1,i,w,hi=>by
  obtain ⟨c,hc⟩:=get_ex (l:=l) (i:=i) (by omega)
  have g:=R1_get hc
  rw [← Int.toNat_natCast i] at g
  have hf:=r3_From (E:=E) (hb c (List.mem_of_getElem? hc))
  rw [drop_get hc,List.all_cons]
  cases ho:ok1 c with
  | false =>
   rw [show (rd c).isSome=false from ho] at hf
   exact .inr ⟨rfl,y9i (by rw [R1_len]; omega) (by omega) g hf⟩
  | true =>
   rw [show (rd c).isSome=true from ho] at hf
   rw [Bool.true_and]
   have st:∀ {w' o s},Lp E 0 O8 0 (V6 (R1 l) (i+1) ((i+1:Nat):Int) ((w.take i)++[Qr ((rd c).getD 0)])) o s→w'=()→Lp E 0 O8 0 (V6 (R1 l) i (i:Nat) w) o s:=fun h _=>x3h (v8:=((i+1:Nat):Int)) rfl rfl (wi (by omega)) (by rw [R1_len]; omega) (by omega) g hf (by omega) h
   rcases read46_loop hn hb d (i+1) ((w.take i)++[Qr ((rd c).getD 0)]) (by omega) with ⟨k1,n,w',k2⟩ | ⟨k1,k2⟩
   · exact .inl ⟨k1,n,w',st (w':=()) k2 rfl⟩
   · exact .inr ⟨k1,st (w':=()) k2 rfl⟩
theorem r53_valid {l:List (List UInt8)} (hn:l.length≤1000) (hb:∀ x∈l,x.length≤Lim):Fn E F5 [.c (.list (R1 l))] (.c (.bool (l.all ok1))):=by
 have h:=read46_loop (E:=E) hn hb l.length 0 [] (by omega)
 rw [List.drop_zero] at h
 rcases h with ⟨h1,n,w,h2⟩ | ⟨h1,h2⟩
 · rw [h1]; exact y8e (x9t rfl h2)
 · rw [h1]; exact y8e (x9s h2)
theorem r53_text {l:List UInt8} (hl:l.length≤Lim):Fn E C1 [.c (.str (B l))] (.agg (Qr (rdv l))):=k1k (r47_Num hl)
theorem r53_num {q:Rat} {K:Nat} (h:Sz q K) (hK:K≤100000000):Fn E C1 [Sq q] (.agg (Qr q)):=by
 have:=r53_text (E:=E) (l:=decQ q) (by have:=h.len; have:=Lim_val; omega)
 rw [rdv_dec] at this
 exact this
theorem r53_valid3 {x y z:List UInt8} (hx:x.length≤Lim) (hy:y.length≤Lim) (hz:z.length≤Lim):Fn E F5 [.c (.list [[.str (B x)],[.str (B y)],[.str (B z)]])] (.c (.bool ([x,y,z].all ok1))) :=
 r53_valid (l:=[x,y,z]) (by simp) (by simp [hx,hy,hz])
theorem named_loop {l:List Mk} (hf:Short l):∀ d i:Nat,i+d=l.length →
    (l.drop i).all okN=true∧Lp E 0 H2 0 (N9 (R4 l) (i:Nat)) (.exit 0) z5o ∨
    (l.drop i).all okN=false∧Lp E 0 H2 0 (N9 (R4 l) (i:Nat)) .ret z2u
 | 0,i,hi=>.inl ⟨by rw [List.drop_eq_nil_of_le (by omega)]; rfl,y7g (by rw [R4_len]; omega)⟩
 | d+1,i,hi=>by
  have hl:=hf.1
  obtain ⟨m,hc⟩:=get_ex (l:=l) (i:=i) (by omega)
  have g:=R4_get hc
  rw [← Int.toNat_natCast i] at g
  have hm:=hf.lim (List.mem_of_getElem? hc)
  have v:=r53_valid3 (E:=E) hm.1 hm.2.1 hm.2.2
  have hlt:(i:Int) < ((R4 l).length:Int):=by rw [R4_len]; omega
  rw [drop_get hc,List.all_cons]
  by_cases h2:m.1.length≤64
  · cases h1:okM m with
    | false =>
     rw [show [m.2.1,m.2.2.1,m.2.2.2].all ok1=false from h1] at v
     exact .inr ⟨by unfold okN; rw [h1]; rfl,y7f rfl hlt (by omega) g (by rw [B_size]; omega) v⟩
    | true =>
     rw [show [m.2.1,m.2.2.1,m.2.2.2].all ok1=true from h1] at v
     have e:okN m=true:=by unfold okN; rw [h1,decide_eq_true h2]; rfl
     rw [e,Bool.true_and]
     have st:∀ {o s},Lp E 0 H2 0 (N9 (R4 l) ((i+1:Nat):Int)) o s→Lp E 0 H2 0 (N9 (R4 l) (i:Nat)) o s:=fun h=>x1p rfl (wi (by omega)) hlt (by omega) g (by rw [B_size]; omega) v h
     rcases named_loop hf d (i+1) (by omega) with ⟨k1,k2⟩ | ⟨k1,k2⟩
     · exact .inl ⟨k1,st k2⟩
     · exact .inr ⟨k1,st k2⟩
  · have e:okN m=false:=by unfold okN; rw [decide_eq_false h2,Bool.and_false]
    rw [e]
    exact .inr ⟨rfl,y7e hlt (by omega) g (by rw [B_size]; omega)⟩
theorem r53_named {l:List Mk} (hf:Short l):Fn E H2 [.c (.list (R4 l))] (.c (.bool (l.all okN))):=by
 have h:=named_loop (E:=E) hf l.length 0 (by omega)
 rw [List.drop_zero] at h
 rcases h with ⟨h1,h2⟩ | ⟨h1,h2⟩
 · rw [h1]; exact x8p h2
 · rw [h1]; exact x8o h2
theorem r3_zero:Fn E J0 [.c (.i64 0)] (.agg (Qr 0)):=r3_Int (z:=0) (by decide)
theorem r3_one:Fn E J0 [.c (.i64 1)] (.agg (Qr 1)):=r3_Int (z:=1) (by decide)
theorem r3_minus:Fn E J0 [.c (.i64 (-1))] (.agg (Qr (-1))):=r3_Int (z:=-1) (by decide)
def vq (q:P3):Nat→Rat
 | 0=>1
 | 1=>px q
 | 2=>py q
 | _=>pz q
def gS (a b:Nat) (q:P3):Rat:=vq q a*vq q b
theorem vq_Sz {q:P3} (h:Sz (px q) 4000∧Sz (py q) 4000∧Sz (pz q) 4000):∀ a,Sz (vq q a) 4000
 | 0=>Sz.one.mono (by omega)
 | 1=>h.1
 | 2=>h.2.1
 | _+3=>h.2.2
theorem vq_get (q:P3):∀ a,a < 4→([Qr 1,Qr (px q),Qr (py q),Qr (pz q)]:RW)[a]?=some (Qr (vq q a))
 | 0,_=>rfl
 | 1,_=>rfl
 | 2,_=>rfl
 | 3,_=>rfl
 | n+4,h=>by omega
theorem r53_sum_loop {ms:List QM} (hI:In3 (pts ms)) (hn:ms.length≤17) {a b:Nat} (ha:a < 4) (hb:b < 4):∀ d i:Nat,i+d=ms.length →
    Lp E 2 z3b 0 (z7d (Q4 ms) (a:Nat) (b:Nat) (i:Nat) false (q0 (qsum (gS a b) ((pts ms).take i))) (q1 (qsum (gS a b) ((pts ms).take i))) (q2 (qsum (gS a b) ((pts ms).take i)))) (.exit 0) (z7e false (q0 (qsum (gS a b) (pts ms))) (q1 (qsum (gS a b) (pts ms))) (q2 (qsum (gS a b) (pts ms))))
 | 0,i,hi=>by
  rw [List.take_of_length_le (by rw [pts_len]; omega)]
  exact x1q (by rw [Q4_len]; omega)
 | d+1,i,hi=>by
  have hl:=Lim_val
  obtain ⟨m,hc⟩:=get_ex (l:=ms) (i:=i) (by omega)
  have hp:=get_pts hc
  have hm:=hI m.2 (List.mem_of_getElem? hp)
  have za:=vq_Sz hm a
  have zb:=vq_Sz hm b
  have z:Sz (qsum (gS a b) ((pts ms).take i)) (1+17*8001):=(Sz_qsum (K:=8000) fun q hq=>(vq_Sz (hI q (List.mem_of_mem_take hq)) a).mul (vq_Sz (hI q (List.mem_of_mem_take hq)) b)).mono (by
   have h1:((pts ms).take i).length≤17:=by rw [List.length_take,pts_len]; omega
   have:=Nat.mul_le_mul_right 8001 h1
   omega)
  have hadd:=r3_Add (E:=E) z (za.mul zb) (by omega)
  have e:qsum (gS a b) ((pts ms).take i)+vq m.2 a*vq m.2 b=qsum (gS a b) ((pts ms).take (i+1)):=by rw [take_get hp,qsum_snoc]; rfl
  rw [e] at hadd
  exact x4y (v29:=((i+1:Nat):Int)) (wi (by omega)) (by rw [Q4_len]; omega) r3_one (by omega) (by rw [Int.toNat_natCast]; exact Q4_get hc) (r53_num hm.1 (by omega)) (r53_num hm.2.1 (by omega)) (r53_num hm.2.2 (by omega)) ⟨by omega,by omega⟩ (by rw [Int.toNat_natCast]; exact vq_get m.2 a ha) ⟨by omega,by omega⟩ (by rw [Int.toNat_natCast]; exact vq_get m.2 b hb) (r3_Mul za zb (by omega)) hadd (r53_sum_loop hI hn ha hb d (i+1) (by omega))
theorem r53_sum {ms:List QM} (hI:In3 (pts ms)) (hn:ms.length≤17) {a b:Nat} (ha:a < 4) (hb:b < 4):Fn E z3b [.c (.list (Q4 ms)),.c (.i64 (a:Nat)),.c (.i64 (b:Nat))] (.agg (Qr (qsum (gS a b) (pts ms)))):=by
 have h:=r53_sum_loop (E:=E) hI hn ha hb ms.length 0 (by omega)
 rw [List.take_zero] at h
 exact k1l r3_zero h
end Gev
namespace Gev
open Go Gb
variable {E:Env}
attribute [local irreducible] Sz
abbrev row3 (f:Nat→Nat):RW:=[[.i64 ((f 0:Nat):Int)],[.i64 ((f 1:Nat):Int)],[.i64 ((f 2:Nat):Int)]]
theorem row3_get (f:Nat→Nat):∀ j,j < 3→(row3 f)[j]?=some [.i64 ((f j:Nat):Int)]
 | 0,_=>rfl
 | 1,_=>rfl
 | 2,_=>rfl
 | n+3,h=>by omega
def SS (ms:List QM) (r k:Nat):Rat:=qsum (gS r k) (pts ms)
theorem SS_Sz {ms:List QM} (hI:In3 (pts ms)) (hn:ms.length≤17) (r k:Nat):Sz (SS ms r k) 140000 :=
 (Sz_qsum (K:=8000) fun q hq=>(vq_Sz (hI q hq) r).mul (vq_Sz (hI q hq) k)).mono (by
  have h1:(pts ms).length≤17:=by rw [pts_len]; exact hn
  have:=Nat.mul_le_mul_right 8001 h1
  omega)
section
variable {ms:List QM} {c o:Nat→Nat} {f d0:Bool} {d1 d2 w3 w4 w5 w6 w7 w8 w9:RW}
theorem det_round (hI:In3 (pts ms)) (hn:ms.length≤17) (hc:∀ j,j < 3→c j < 4) (ho:∀ j,j < 3→o j < 3) {i:Nat} (hi:i < 6) (hw:w9[i]?=some [.list (row3 o)]) {j:Nat} (hj:j < 3) {s:Rat} {K:Nat} (hs:Sz s K) (hK:K≤100000000) {ot:Out} {st:St}
    (ih:Lp E 11 C4 1 (M3 (Q4 ms) 3 6 (i:Nat) ((j+1:Nat):Int) f (row3 c) d0 d1 d2 w3 w4 w5 w6 w7 w8 w9 (q0 (s*SS ms j (c (o j)))) (q1 (s*SS ms j (c (o j)))) (q2 (s*SS ms j (c (o j))))) ot st) :
    Lp E 11 C4 1 (M3 (Q4 ms) 3 6 (i:Nat) (j:Nat) f (row3 c) d0 d1 d2 w3 w4 w5 w6 w7 w8 w9 (q0 s) (q1 s) (q2 s)) ot st:=by
 have hl:=Lim_val
 have hoj:=ho j hj
 exact y1u (v10:=((j+1:Nat):Int)) (wi (by omega)) (by omega) ⟨by omega,by omega⟩ (by rw [Int.toNat_natCast]; exact hw) (by omega) (by rw [Int.toNat_natCast]; exact row3_get o j hj) ⟨by omega,by omega⟩ (by rw [Int.toNat_natCast]; exact row3_get c (o j) hoj) (r53_sum hI hn (by omega) (hc (o j) hoj)) (r3_Mul hs (SS_Sz hI hn j (c (o j))) (by omega)) ih
theorem det_in (hI:In3 (pts ms)) (hn:ms.length≤17) (hc:∀ j,j < 3→c j < 4) (ho:∀ j,j < 3→o j < 3) {i:Nat} (hi:i < 6) (hw:w9[i]?=some [.list (row3 o)]) {s:Rat} (hs:Sz s 1) :
    Lp E 11 C4 1 (M3 (Q4 ms) 3 6 (i:Nat) 0 f (row3 c) d0 d1 d2 w3 w4 w5 w6 w7 w8 w9 (q0 s) (q1 s) (q2 s)) (.exit 2)
     (P0 (Q4 ms) 3 6 (i:Nat) f (row3 c) d0 d1 d2 w3 w4 w5 w6 w7 w8 w9 (q0 (s*SS ms 0 (c (o 0))*SS ms 1 (c (o 1))*SS ms 2 (c (o 2)))) (q1 (s*SS ms 0 (c (o 0))*SS ms 1 (c (o 1))*SS ms 2 (c (o 2)))) (q2 (s*SS ms 0 (c (o 0))*SS ms 1 (c (o 1))*SS ms 2 (c (o 2))))):=by
 have z0:=hs.mul (SS_Sz hI hn 0 (c (o 0)))
 have z1:=z0.mul (SS_Sz hI hn 1 (c (o 1)))
 exact det_round hI hn hc ho hi hw (j:=0) (by omega) hs (by omega) (det_round hI hn hc ho hi hw (j:=1) (by omega) z0 (by omega) (det_round hI hn hc ho hi hw (j:=2) (by omega) z1 (by omega) (z9x (by decide))))
end
def ord6:Nat→Nat→Nat
 | 0,j=>j
 | 1,j=>(j+1) % 3
 | 2,j=>(j+2) % 3
 | 3,0=>0
 | 3,1=>2
 | 3,_=>1
 | 4,0=>1
 | 4,1=>0
 | 4,_=>2
 | _,j=>2 - j
theorem ord6_lt:∀ i j,j < 3→ord6 i j < 3
 | 0,j,h=>h
 | 1,j,_=>Nat.mod_lt _ (by decide)
 | 2,j,_=>Nat.mod_lt _ (by decide)
 | 3,0,_=>by decide
 | 3,1,_=>by decide
 | 3,_+2,_=>(show 1 < 3 by decide)
 | 4,0,_=>by decide
 | 4,1,_=>by decide
 | 4,_+2,_=>(show 2 < 3 by decide)
 | _+5,j,_=>(show 2 - j < 3 by omega)
abbrev rows6:RW:=[[.list (row3 (ord6 0))],[.list (row3 (ord6 1))],[.list (row3 (ord6 2))],[.list (row3 (ord6 3))],[.list (row3 (ord6 4))],[.list (row3 (ord6 5))]]
theorem rows6_get:∀ i,i < 6→rows6[i]?=some [.list (row3 (ord6 i))]
 | 0,_=>rfl
 | 1,_=>rfl
 | 2,_=>rfl
 | 3,_=>rfl
 | 4,_=>rfl
 | 5,_=>rfl
 | n+6,h=>by omega
def col3 (a b c:Nat):Nat→Nat
 | 0=>a
 | 1=>b
 | _=>c
def sg (i:Nat):Rat:=if i < 3 then 1 else -1
def tm (ms:List QM) (c:Nat→Nat) (i:Nat):Rat:=sg i*SS ms 0 (c (ord6 i 0))*SS ms 1 (c (ord6 i 1))*SS ms 2 (c (ord6 i 2))
def acc6 (ms:List QM) (c:Nat→Nat):Nat→Rat
 | 0=>0
 | n+1=>acc6 ms c n+tm ms c n
theorem sg_Sz (i:Nat):Sz (sg i) 1:=by
 unfold sg
 split
 · exact Sz.one
 · exact Sz.one.neg
theorem tm_Sz {ms:List QM} (hI:In3 (pts ms)) (hn:ms.length≤17) (c:Nat→Nat) (i:Nat):Sz (tm ms c i) 420001 :=
 (((sg_Sz i).mul (SS_Sz hI hn _ _)).mul (SS_Sz hI hn _ _)).mul (SS_Sz hI hn _ _) |>.mono (by omega)
theorem acc6_Sz {ms:List QM} (hI:In3 (pts ms)) (hn:ms.length≤17) (c:Nat→Nat):∀ i,i≤6→Sz (acc6 ms c i) (1+i*420002)
 | 0,_=>Sz.zero
 | i+1,h=>((acc6_Sz hI hn c i (by omega)).add (tm_Sz hI hn c i)).mono (by omega)
theorem det_loop {ms:List QM} (hI:In3 (pts ms)) (hn:ms.length≤17) {c:Nat→Nat} (hc:∀ j,j < 3→c j < 4) {f:Bool} {w3 w4 w5 w6 w7 w8:RW}:∀ d i:Nat,i+d=6 →
    Lp E 10 C4 0 (N8 (Q4 ms) 3 6 (i:Nat) f (row3 c) (q0 (acc6 ms c i)) (q1 (acc6 ms c i)) (q2 (acc6 ms c i)) w3 w4 w5 w6 w7 w8 rows6) (.exit 0) (z1d f (row3 c) w3 w4 w5 w6 w7 w8 rows6 (q0 (acc6 ms c 6)) (q1 (acc6 ms c 6)) (q2 (acc6 ms c 6)))
 | 0,i,hi=>by
  have:i=6:=by omega
  subst this
  exact z9w (by omega)
 | d+1,i,hi=>by
  have hl:=Lim_val
  have ih:=det_loop hI hn hc (f:=f) (w3:=w3) (w4:=w4) (w5:=w5) (w6:=w6) (w7:=w7) (w8:=w8) d (i+1) (by omega)
  have hin:=fun {d0:Bool} {d1 d2:RW}=>det_in (E:=E) (f:=f) (d0:=d0) (d1:=d1) (d2:=d2) (w3:=w3) (w4:=w4) (w5:=w5) (w6:=w6) (w7:=w7) (w8:=w8) hI hn hc (ord6_lt i) (show i < 6 by omega) (rows6_get i (by omega)) (sg_Sz i)
  have za:=acc6_Sz hI hn c i (by omega)
  have hz:1+i*420002≤3000000:=by have:i≤6:=by omega
                                 have:=Nat.mul_le_mul_right 420002 this
                                 omega
  have hadd:=r3_Add (E:=E) za (tm_Sz hI hn c i) (by omega)
  by_cases h3:i < 3
  · have e:sg i=1:=if_pos h3
    refine y1t (v10:=((i+1:Nat):Int)) (wi (by omega)) (by omega) r3_one (by omega) ?_ hadd ih
    have:=hin (d0:=q0 (acc6 ms c i)) (d1:=q1 (acc6 ms c i)) (d2:=q2 (acc6 ms c i))
    rw [e] at this
    have e':tm ms c i=1*SS ms 0 (c (ord6 i 0))*SS ms 1 (c (ord6 i 1))*SS ms 2 (c (ord6 i 2)):=by unfold tm; rw [e]
    rw [e']
    exact this
  · have e:sg i=-1:=if_neg h3
    refine y1s (v13:=((i+1:Nat):Int)) (wi (by omega)) (by omega) r3_one (by omega) r3_minus ?_ hadd ih
    have:=hin (d0:=q0 (acc6 ms c i)) (d1:=q1 (acc6 ms c i)) (d2:=q2 (acc6 ms c i))
    rw [e] at this
    have e':tm ms c i=-1*SS ms 0 (c (ord6 i 0))*SS ms 1 (c (ord6 i 1))*SS ms 2 (c (ord6 i 2)):=by unfold tm; rw [e]
    rw [e']
    exact this
theorem r53_determinant {ms:List QM} (hI:In3 (pts ms)) (hn:ms.length≤17) {a b c:Nat} (ha:a < 4) (hb:b < 4) (hc:c < 4):Fn E C4 [.c (.list (Q4 ms)),.c (.i64 (a:Nat)),.c (.i64 (b:Nat)),.c (.i64 (c:Nat))] (.agg (Qr (acc6 ms (col3 a b c) 6))):=by
 have hcc:∀ j,j < 3→col3 a b c j < 4:=fun j hj=>by
  match j,hj with
  | 0,_=>exact ha
  | 1,_=>exact hb
  | 2,_=>exact hc
 have h:=det_loop (E:=E) hI hn hcc (f:=false) (w3:=row3 (ord6 0)) (w4:=row3 (ord6 1)) (w5:=row3 (ord6 2)) (w6:=row3 (ord6 3)) (w7:=row3 (ord6 4)) (w8:=row3 (ord6 5)) 6 0 (by omega)
 exact y7d rfl rfl rfl rfl rfl rfl r3_zero h
theorem acc6_det (ms:List QM) (a b c:Nat):acc6 ms (col3 a b c) 6=det3 (SS ms 0 a) (SS ms 0 b) (SS ms 0 c) (SS ms 1 a) (SS ms 1 b) (SS ms 1 c) (SS ms 2 a) (SS ms 2 b) (SS ms 2 c):=by
 show (((((0+1*SS ms 0 a*SS ms 1 b*SS ms 2 c)+1*SS ms 0 b*SS ms 1 c*SS ms 2 a)+1*SS ms 0 c*SS ms 1 a*SS ms 2 b)+-1*SS ms 0 a*SS ms 1 c*SS ms 2 b)+-1*SS ms 0 b*SS ms 1 a*SS ms 2 c)+-1*SS ms 0 c*SS ms 1 b*SS ms 2 a=_
 unfold det3
 generalize SS ms 0 a=a0; generalize SS ms 0 b=b0; generalize SS ms 0 c=c0
 generalize SS ms 1 a=a1; generalize SS ms 1 b=b1; generalize SS ms 1 c=c1
 generalize SS ms 2 a=a2; generalize SS ms 2 b=b2; generalize SS ms 2 c=c2
 grind
end Gev
namespace Gev
open Go Gb
variable {E:Env}
attribute [local irreducible] Sz
theorem SS_00 (ms:List QM):SS ms 0 0=nS (pts ms):=by
 unfold SS nS
 induction pts ms with
 | nil=>rfl
 | cons q qs ih =>
  rw [qsum_cons,ih,List.length_cons]
  show 1*1+((qs.length:Int):Rat)=(((qs.length+1:Nat):Int):Rat)
  rw [show ((qs.length+1:Nat):Int)=(qs.length:Int)+1 from rfl,Rat.intCast_add,Rat.mul_one,Rat.add_comm]; rfl
theorem SS_0 (ms:List QM) (k:Nat):SS ms 0 k=qsum (fun q=>vq q k) (pts ms):=qsum_congr fun q _=>Rat.one_mul _
theorem SS_k0 (ms:List QM) (k:Nat):SS ms k 0=qsum (fun q=>vq q k) (pts ms):=qsum_congr fun q _=>Rat.mul_one _
theorem SS_21 (ms:List QM):SS ms 2 1=xyS (pts ms):=qsum_congr fun q _=>Rat.mul_comm _ _
theorem det_D (ms:List QM):acc6 ms (col3 0 1 2) 6=dD (pts ms):=by rw [acc6_det,SS_00,SS_0 ms 1,SS_0 ms 2,SS_k0 ms 1,SS_k0 ms 2,SS_21]; rfl
theorem det_A (ms:List QM):acc6 ms (col3 3 1 2) 6=dA (pts ms):=by rw [acc6_det,SS_0 ms 3,SS_0 ms 1,SS_0 ms 2,SS_21]; rfl
theorem det_B (ms:List QM):acc6 ms (col3 0 3 2) 6=dB (pts ms):=by rw [acc6_det,SS_00,SS_0 ms 3,SS_0 ms 2,SS_k0 ms 1,SS_k0 ms 2]; rfl
theorem det_C (ms:List QM):acc6 ms (col3 0 1 3) 6=dC (pts ms):=by rw [acc6_det,SS_00,SS_0 ms 1,SS_0 ms 3,SS_k0 ms 1,SS_k0 ms 2,SS_21]; rfl
def Pl (a b c:Rat):AV:=.agg [.bool (q0 a),.list (q1 a),.list (q2 a),.bool (q0 b),.list (q1 b),.list (q2 b),.bool (q0 c),.list (q1 c),.list (q2 c)]
def noPl:AV:=.agg [.bool false,.list [],.list [],.bool false,.list [],.list [],.bool false,.list [],.list []]
def fitQ:Option (Rat × Rat × Rat)→AV
 | none=>.tup [noPl,.c (.bool false)]
 | some (a,b,c)=>.tup [Pl a b c,.c (.bool true)]
theorem r53_fit {ms:List QM} (hI:In3 (pts ms)) (hn:ms.length≤16):Fn E z2c [.c (.list (Q4 ms))] (fitQ (fit3 (pts ms))):=by
 have hl:=Lim_val
 obtain ⟨sD,sA,sB,sC⟩:=Sz_dets hI (by rw [pts_len]; exact hn)
 have kD:=r53_determinant (E:=E) (a:=0) (b:=1) (c:=2) hI (by omega) (by omega) (by omega) (by omega)
 have kA:=r53_determinant (E:=E) (a:=3) (b:=1) (c:=2) hI (by omega) (by omega) (by omega) (by omega)
 have kB:=r53_determinant (E:=E) (a:=0) (b:=3) (c:=2) hI (by omega) (by omega) (by omega) (by omega)
 have kC:=r53_determinant (E:=E) (a:=0) (b:=1) (c:=3) hI (by omega) (by omega) (by omega) (by omega)
 rw [det_D] at kD
 rw [det_A] at kA
 rw [det_B] at kB
 rw [det_C] at kC
 have sg:=r3_Sign (E:=E) (dD (pts ms))
 have hz:cmpI (dD (pts ms)).num 0=0↔dD (pts ms)=0:=by rw [cmpI_zero,Rat.num_eq_zero]
 unfold fit3
 by_cases hD:dD (pts ms)=0
 · rw [if_pos hD]; exact k1i kD sg (hz.2 hD)
 · rw [if_neg hD]
   exact k1j kD sg (fun h=>hD (hz.1 h)) kA (r3_Div sA sD (by omega) hD) kB (r3_Div sB sD (by omega) hD) kC (r3_Div sC sD (by omega) hD)
theorem r53_difference {a b c:Rat} {n:BA} {q:P3} {K:Nat} (ha:Sz a K) (hb:Sz b K) (hc:Sz c K) (hq:Sz (px q) 4000∧Sz (py q) 4000∧Sz (pz q) 4000) (hK:K≤100000000) :
    Fn E z3h [.agg [.str n,.str (B (decQ (px q))),.str (B (decQ (py q))),.str (B (decQ (pz q)))],Pl a b c] (.agg (Qr (off3 a b c q))):=by
 have hl:=Lim_val
 have z1:=hb.mul hq.1
 have z2:=hc.mul hq.2.1
 exact y9p (r53_num hq.1 (by omega)) (r3_Mul hb hq.1 (by omega)) (r53_num hq.2.1 (by omega)) (r3_Mul hc hq.2.1 (by omega)) (r3_Add z1 z2 (by omega)) (r3_Add ha (z1.add z2) (by omega)) (r53_num hq.2.2 (by omega)) (r3_Sub hq.2.2 (ha.add (z1.add z2)) (by omega))
theorem squares3_loop {ms:List QM} {a b c:Rat} {K:Nat} (hI:In3 (pts ms)) (hn:ms.length≤16) (ha:Sz a K) (hb:Sz b K) (hc':Sz c K) (hK:K≤7000000):∀ d i:Nat,i+d=ms.length →
    Lp E 3 M6 0 (z2v (Q4 ms) (i:Nat) (q0 a) (q1 a) (q2 a) (q0 b) (q1 b) (q2 b) (q0 c) (q1 c) (q2 c) false (q0 (sq3 a b c ((pts ms).take i))) (q1 (sq3 a b c ((pts ms).take i))) (q2 (sq3 a b c ((pts ms).take i)))) (.exit 0)
     (z3j (q0 a) (q1 a) (q2 a) (q0 b) (q1 b) (q2 b) (q0 c) (q1 c) (q2 c) false (q0 (sq3 a b c (pts ms))) (q1 (sq3 a b c (pts ms))) (q2 (sq3 a b c (pts ms))))
 | 0,i,hi=>by
  rw [List.take_of_length_le (by rw [pts_len]; omega)]
  exact y3g (by rw [Q4_len]; omega)
 | d+1,i,hi=>by
  have hl:=Lim_val
  obtain ⟨m,hc⟩:=get_ex (l:=ms) (i:=i) (by omega)
  have hp:=get_pts hc
  have hm:=hI m.2 (List.mem_of_getElem? hp)
  have zo:=Sz_off3 ha hb hc' hm
  have hIt:In3 ((pts ms).take i):=fun q hq=>hI q (List.mem_of_mem_take hq)
  have z:=Sz_sq3 hIt (by rw [List.length_take,pts_len]; omega) ha hb hc'
  have hadd:=r3_Add (E:=E) z (zo.mul zo) (by omega)
  have e:sq3 a b c ((pts ms).take i)+off3 a b c m.2*off3 a b c m.2=sq3 a b c ((pts ms).take (i+1)):=by unfold sq3; rw [take_get hp,qsum_snoc]
  rw [e] at hadd
  exact y7h (v14:=((i+1:Nat):Int)) (wi (by omega)) (by rw [Q4_len]; omega) (by omega) (by rw [Int.toNat_natCast]; exact Q4_get hc) (r53_difference ha hb hc' hm (by omega)) (r3_Mul zo zo (by omega)) hadd (squares3_loop hI hn ha hb hc' hK d (i+1) (by omega))
theorem r53_squares {ms:List QM} {a b c:Rat} {K:Nat} (hI:In3 (pts ms)) (hn:ms.length≤16) (ha:Sz a K) (hb:Sz b K) (hc:Sz c K) (hK:K≤7000000):Fn E M6 [.c (.list (Q4 ms)),Pl a b c] (.agg (Qr (sq3 a b c (pts ms)))):=by
 have h:=squares3_loop (E:=E) hI hn ha hb hc hK ms.length 0 (by omega)
 rw [List.take_zero] at h
 exact x4x r3_zero h
theorem r53_Fit {l:List Mk} (hf:Short l):Fn E P8 [.c (.list (R4 l))] (fitA l):=by
 have hl:=Lim_val
 have hnm:=r53_named (E:=E) hf
 unfold fitA
 cases h1:l.all okN with
 | false =>
  rw [h1] at hnm
  have hs:startS l=1:=by unfold startS; rw [h1]; rfl
  rw [hs,if_neg (by decide)]
  exact k1h hnm
 | true =>
  rw [h1] at hnm
  have hs:startS l=if l.length < 3 then 9 else if 16 < l.length then 8 else 0:=by unfold startS; rw [h1]; rfl
  by_cases c1:l.length < 3
  · rw [hs,if_pos c1,if_neg (by decide)]
    exact k1d hnm (by rw [R4_len]; omega)
  · by_cases c2:16 < l.length
    · rw [hs,if_neg c1,if_pos c2,if_neg (by decide)]
      exact k1e hnm (by rw [R4_len]; omega) (by rw [R4_len]; omega)
    · have hs0:startS l=0:=by rw [hs,if_neg c1,if_neg c2]
      rw [if_pos hs0]
      obtain ⟨ms,rfl⟩:=Tm_of (all_okN h1)
      have hI:=Tm_in hf
      rw [nums3_Tm]
      rw [Tm_len] at c1 c2
      have k:=r53_fit (E:=E) hI (ms:=ms) (by omega)
      have k1:¬ ((R4 (Tm ms)).length:Int) < 3:=by rw [R4_len,Tm_len]; omega
      have k2:¬ ((R4 (Tm ms)).length:Int) > 16:=by rw [R4_len,Tm_len]; omega
      rw [← Tm_R4] at k
      cases hfit:fit3 (pts ms) with
      | none=>rw [hfit] at k; exact k1g hnm k1 k2 k
      | some abc =>
       obtain ⟨a,b,c⟩:=abc
       rw [hfit] at k
       obtain ⟨za,zb,zc⟩:=Sz_fit3 hI (by rw [pts_len]; omega) hfit
       have sq:=r53_squares (E:=E) hI (by omega) za zb zc (by omega)
       have zs:=Sz_sq3 hI (by rw [pts_len]; omega) za zb zc
       rw [← Tm_R4] at sq
       exact k1f hnm k1 k2 k (r3_To za (by omega)) (r3_To zb (by omega)) (r3_To zc (by omega)) sq (r3_To zs (by omega))
end Gev
namespace Gev
open Go Gb
variable {E:Env}
attribute [local irreducible] Sz
theorem r53_read {a b c:List UInt8} {s:BA} (ha:a.length≤Lim) (hb:b.length≤Lim) (hc:c.length≤Lim):Fn E z0x [.agg [.str (B a),.str (B b),.str (B c),.str s]] (if [a,b,c].all ok1 then .tup [Pl (rdv a) (rdv b) (rdv c),.c (.bool true)] else .tup [noPl,.c (.bool false)]):=by
 have v:=r53_valid3 (E:=E) ha hb hc
 cases hv:[a,b,c].all ok1 with
 | false=>rw [hv] at v; exact x9v rfl v
 | true=>rw [hv] at v; exact x9u rfl v (r53_text ha) (r53_text hb) (r53_text hc)
theorem rDiff_loop {l:List Mk} (hf:Short l) {p0 p1 p2 p3:BA} {b0 b3 b6:Bool} {b1 b2 b4 b5 b7 b8:RW}:∀ (d i:Nat) (t:Bool),i+d=l.length →
    Lp E 2 D4 0 (K0 (R4 l) t (i:Nat) p0 p1 p2 p3 b0 b1 b2 b3 b4 b5 b6 b7 b8) (.exit 0) (K1 (R4 l) p0 p1 p2 p3 b0 b1 b2 b3 b4 b5 b6 b7 b8 (t && (l.drop i).all okM))
 | 0,i,t,hi=>by
  rw [List.drop_eq_nil_of_le (by omega),List.all_nil,Bool.and_true]
  exact z9u (by rw [R4_len]; omega)
 | d+1,i,t,hi=>by
  have hl:=hf.1
  obtain ⟨m,hc⟩:=get_ex (l:=l) (i:=i) (by omega)
  have g:=R4_get hc
  rw [← Int.toNat_natCast i] at g
  have hm:=hf.lim (List.mem_of_getElem? hc)
  have v:=r53_valid3 (E:=E) hm.1 hm.2.1 hm.2.2
  have hlt:(i:Int) < ((R4 l).length:Int):=by rw [R4_len]; omega
  rw [drop_get hc,List.all_cons]
  cases t with
  | false=>exact y1q (v1:=((i+1:Nat):Int)) (wi (by omega)) hlt (rDiff_loop hf d (i+1) false (by omega))
  | true =>
   rw [Bool.true_and]
   exact y1p (v7:=((i+1:Nat):Int)) rfl (wi (by omega)) hlt (by omega) g v (rDiff_loop hf d (i+1) (okM m) (by omega))
theorem rDiff_out {ms:List QM} {a b c:Rat} {s0 s1 s2 s3:BA} {K:Nat} (hI:In3 (pts ms)) (hn:ms.length≤16) (ha:Sz a K) (hb:Sz b K) (hc':Sz c K) (hK:K≤8000000):∀ d i:Nat,i+d=ms.length →
    Lp E 2 D4 1 (z0h (Q4 ms) i (i:Nat) s0 s1 s2 s3 (q0 a) (q1 a) (q2 a) (q0 b) (q1 b) (q2 b) (q0 c) (q1 c) (q2 c) (Q1 (((pts ms).take i).map (off3 a b c)))) (.exit 2) (z1c s0 s1 s2 s3 (q0 a) (q1 a) (q2 a) (q0 b) (q1 b) (q2 b) (q0 c) (q1 c) (q2 c) ms.length (Q1 ((pts ms).map (off3 a b c))))
 | 0,i,hi=>by
  have:i=ms.length:=by omega
  subst this
  rw [List.take_of_length_le (by rw [pts_len]; omega)]
  exact z9v (by rw [Q4_len]; omega)
 | d+1,i,hi=>by
  have hl:=Lim_val
  obtain ⟨m,hc⟩:=get_ex (l:=ms) (i:=i) (by omega)
  have hp:=get_pts hc
  have hm:=hI m.2 (List.mem_of_getElem? hp)
  refine y1r (v10:=i+1) (v11:=((i+1:Nat):Int)) ?_ rfl (wi (by omega)) (by rw [Q4_len]; omega) (by omega) (by rw [Int.toNat_natCast]; exact Q4_get hc) (r53_difference ha hb hc' hm (by omega)) (r3_To (Sz_off3 ha hb hc' hm) (by omega)) (by omega) (rDiff_out hI hn ha hb hc' hK d (i+1) (by omega))
  rw [take_get hp,List.map_append,List.take_of_length_le (by rw [Q1_len,List.length_map,List.length_take]; omega)]
  unfold Q1
  rw [List.map_append]; rfl
theorem r53_Differences {l:List Mk} {a b c:List UInt8} {s:BA} (hf:Short l) (ha:a.length≤8000000) (hb:b.length≤8000000) (hc:c.length≤8000000):Fn E D4 [.c (.list (R4 l)),.agg [.str (B a),.str (B b),.str (B c),.str s]] (Lc (diffA l a b c)):=by
 have hl:=Lim_val
 have hr:=r53_read (E:=E) (s:=s) (a:=a) (b:=b) (c:=c) (by omega) (by omega) (by omega)
 unfold diffA
 cases hv:[a,b,c].all ok1 with
 | false =>
  rw [hv] at hr
  rw [Bool.and_false]
  have h:=rDiff_loop (E:=E) hf (p0:=B a) (p1:=B b) (p2:=B c) (p3:=s) (b0:=false) (b1:=[]) (b2:=[]) (b3:=false) (b4:=[]) (b5:=[]) (b6:=false) (b7:=[]) (b8:=[]) l.length 0 false (by omega)
  exact z7x hr h
 | true =>
  rw [hv] at hr
  rw [Bool.and_true]
  have h:=rDiff_loop (E:=E) hf (p0:=B a) (p1:=B b) (p2:=B c) (p3:=s) (b0:=q0 (rdv a)) (b1:=q1 (rdv a)) (b2:=q2 (rdv a)) (b3:=q0 (rdv b)) (b4:=q1 (rdv b)) (b5:=q2 (rdv b)) (b6:=q0 (rdv c)) (b7:=q1 (rdv c)) (b8:=q2 (rdv c)) l.length 0 true (by omega)
  rw [Bool.true_and,List.drop_zero] at h
  cases h1:l.all okM with
  | false=>rw [h1] at h; exact z7x hr h
  | true =>
   rw [h1] at h
   rw [if_pos rfl]
   by_cases h16:16 < l.length
   · rw [if_pos h16]; exact y7a hr h (by rw [R4_len]; omega)
   · rw [if_neg h16]
     obtain ⟨ms,rfl⟩:=Tm_of h1
     simp only [List.all_cons,List.all_nil,Bool.and_true,Bool.and_eq_true] at hv
     obtain ⟨a,rfl⟩:=ok1_dec' hv.1
     obtain ⟨b,rfl⟩:=ok1_dec' hv.2.1
     obtain ⟨c,rfl⟩:=ok1_dec' hv.2.2
     rw [nums3_Tm]
     rw [rdv_dec,rdv_dec,rdv_dec] at hr h ⊢
     rw [Tm_len] at h16
     have hlp:=rDiff_out (E:=E) (s0:=B (decQ a)) (s1:=B (decQ b)) (s2:=B (decQ c)) (s3:=s) (Tm_in hf) (by omega) (Sz.of_len ha) (Sz.of_len hb) (Sz.of_len hc) (by omega) ms.length 0 (by omega)
     rw [← Tm_R4] at hlp
     refine y7b (v12:=ms.length) ?_ hr h (by rw [R4_len,Tm_len]; omega) hlp
     exact List.take_of_length_le (by rw [Q1_len,List.length_map,pts_len]; omega)
theorem r53_At {a b c x y:List UInt8} {s:BA} (ha:a.length≤9000000) (hb:b.length≤9000000) (hc:c.length≤9000000) (hx:x.length≤9000000) (hy:y.length≤9000000):Fn E z6p [.agg [.str (B a),.str (B b),.str (B c),.str s],.c (.str (B x)),.c (.str (B y))] (Tc (atA a b c x y)):=by
 have hl:=Lim_val
 have hr:=r53_read (E:=E) (s:=s) (a:=a) (b:=b) (c:=c) (by omega) (by omega) (by omega)
 have v:=r53_valid (E:=E) (l:=[x,y]) (by simp) (by intro z hz; simp at hz; rcases hz with rfl | rfl <;> omega)
 have e:[a,b,c,x,y].all ok1=([a,b,c].all ok1 && [x,y].all ok1):=by simp [Bool.and_assoc]
 unfold atA
 rw [e]
 cases hv:[a,b,c].all ok1 with
 | false =>
  rw [hv] at hr
  exact k1x hr
 | true =>
  rw [hv] at hr
  cases hw:[x,y].all ok1 with
  | false=>rw [hw] at v; exact k1w rfl hr v
  | true =>
   rw [hw] at v
   simp only [List.all_cons,List.all_nil,Bool.and_true,Bool.and_eq_true] at hv hw
   obtain ⟨a,rfl⟩:=ok1_dec' hv.1
   obtain ⟨b,rfl⟩:=ok1_dec' hv.2.1
   obtain ⟨c,rfl⟩:=ok1_dec' hv.2.2
   obtain ⟨x,rfl⟩:=ok1_dec' hw.1
   obtain ⟨y,rfl⟩:=ok1_dec' hw.2
   rw [rdv_dec,rdv_dec,rdv_dec] at hr
   rw [rdv_dec,rdv_dec,rdv_dec,rdv_dec,rdv_dec]
   have za:=Sz.of_len ha
   have zb:=Sz.of_len hb
   have zc:=Sz.of_len hc
   have zx:=Sz.of_len hx
   have zy:=Sz.of_len hy
   exact k1v rfl hr v (r53_num zx (by omega)) (r3_Mul zb zx (by omega)) (r53_num zy (by omega)) (r3_Mul zc zy (by omega)) (r3_Add (zb.mul zx) (zc.mul zy) (by omega)) (r3_Add za ((zb.mul zx).add (zc.mul zy)) (by omega)) (r3_To (za.add ((zb.mul zx).add (zc.mul zy))) (by omega))
end Gev
namespace Gev
open Go Gb
variable {E:Env}
attribute [local irreducible] Sz
noncomputable def findR (d:Rat):List P3→Option (P3 × P3)
 | a::b::r=>if ¬ d < px a∧¬ px b < d then some (a,b) else findR d (b::r)
 | _=>none
theorem findR_lt {d:Rat}:∀ {a:P3} {r:List P3},ordB (a::r)=true→d < px a→findR d (a::r)=none
 | _,[],_,_=>rfl
 | a,b::r,h,hd=>by
  obtain ⟨h1,_,h3⟩:=ord_tail h
  show (if ¬ d < px a∧¬ px b < d then some (a,b) else findR d (b::r))=none
  rw [if_neg (fun k=>k.1 hd)]
  exact findR_lt h3 (Std.lt_trans hd h1)
theorem findR_ge {d:Rat}:∀ {a b:P3} {r:List P3},ordB (a::b::r)=true→¬ d < px a→findR d (a::b::r)=findT d (a::b::r)
 | a,b,[],h,hd=>by
  show (if ¬ d < px a∧¬ px b < d then some (a,b) else none)=(if d≤px b then some (a,b) else none)
  by_cases c:d≤px b
  · rw [if_pos c,if_pos ⟨hd,Rat.not_lt.2 c⟩]
  · rw [if_neg c,if_neg (fun k=>k.2 (Rat.not_le.1 c))]
 | a,b,c::r,h,hd=>by
  obtain ⟨_,_,h3⟩:=ord_tail h
  show (if ¬ d < px a∧¬ px b < d then some (a,b) else findR d (b::c::r))=(if d≤px b then some (a,b) else findT d (b::c::r))
  by_cases k:d≤px b
  · rw [if_pos k,if_pos ⟨hd,Rat.not_lt.2 k⟩]
  · rw [if_neg k,if_neg (fun q=>q.2 (Rat.not_le.1 k))]
    exact findR_ge h3 (fun q=>k (Rat.le_of_lt q))
theorem r53_between {d x y:Rat} {a b:P3} {L:Nat} (hd:Sz d L) (hL:L≤30000000) (ha:Sz (px a) 4000) (hb:Sz (px b) 4000) (hx:Sz x 4000) (hy:Sz y 4000) (hne:px b - px a≠0):Fn E z6g [.agg (Qr d),.agg (Qr (px a)),.agg (Qr (px b)),Sq x,Sq y] (Sq (lineT d a b x y)):=by
 have hl:=Lim_val
 have s1:=hd.sub ha
 have s2:=hb.sub ha
 have p:=s1.div s2
 have s:=hy.sub hx
 exact x4w (r3_Sub hd ha (by omega)) (r3_Sub hb ha (by omega)) (r3_Div s1 s2 (by omega) hne) (r53_num hx (by omega)) (r53_num hy (by omega)) (r3_Sub hy hx (by omega)) (r3_Mul p s (by omega)) (r3_Add hx (p.mul s) (by omega)) (r3_To (hx.add (p.mul s)) (by omega))
theorem rLook_valid {l:List D3} (hf:ShortD l) {x1 p0 p1 p2:BA} {w:RW}:∀ (d i:Nat) (t:Bool),i+d=l.length →
    Lp E 2 B1 0 (K8 (R3 l) x1 t (i:Nat) p0 p1 p2 w) (.exit 0) (G9 (R3 l) x1 p0 p1 p2 w (t && (l.drop i).all okD))
 | 0,i,t,hi=>by
  rw [List.drop_eq_nil_of_le (by omega),List.all_nil,Bool.and_true]
  exact y5f (by rw [R3_len]; omega)
 | d+1,i,t,hi=>by
  have hl:=hf.1
  obtain ⟨m,hc⟩:=get_ex (l:=l) (i:=i) (by omega)
  have g:=R3_get hc
  rw [← Int.toNat_natCast i] at g
  have hm:=hf.lim (List.mem_of_getElem? hc)
  have v:=r53_valid3 (E:=E) hm.1 hm.2.1 hm.2.2
  have hlt:(i:Int) < ((R3 l).length:Int):=by rw [R3_len]; omega
  rw [drop_get hc,List.all_cons]
  cases t with
  | false=>exact y9l (v1:=((i+1:Nat):Int)) (wi (by omega)) hlt (rLook_valid hf d (i+1) false (by omega))
  | true =>
   rw [Bool.true_and]
   exact y9k (v6:=((i+1:Nat):Int)) rfl (wi (by omega)) hlt (by omega) g v (rLook_valid hf d (i+1) (okD m) (by omega))
theorem rLook_order {ts:List P3} (hI:In3 ts) (hn:ts.length≤32) {p0 p1 p2 x1:BA} {w:RW}:∀ d i:Nat,i+d=ts.length→1≤i →
    ordB (ts.drop (i - 1))=true∧Lp E 2 B1 1 (K9 (Q3 ts) x1 (i:Nat) p0 p1 p2 w) (.exit 2) (z0l (Q3 ts) x1 p0 p1 p2 w) ∨
    ordB (ts.drop (i - 1))=false∧Lp E 2 B1 1 (K9 (Q3 ts) x1 (i:Nat) p0 p1 p2 w) .ret (z2j w)
 | 0,i,hi,h1=>by
  obtain ⟨a,ha⟩:=get_ex (l:=ts) (i:=i - 1) (by omega)
  refine .inl ⟨?_,y5i (by rw [Q3_len]; omega)⟩
  rw [drop_get ha,List.drop_eq_nil_of_le (by omega)]; rfl
 | d+1,i,hi,h1=>by
  have hl:=Lim_val
  obtain ⟨a,ha⟩:=get_ex (l:=ts) (i:=i - 1) (by omega)
  obtain ⟨b,hb⟩:=get_ex (l:=ts) (i:=i) (by omega)
  have za:=hI a (List.mem_of_getElem? ha)
  have zb:=hI b (List.mem_of_getElem? hb)
  have ga:=Q3_get ha
  have gb:=Q3_get hb
  rw [← Int.toNat_natCast (i - 1)] at ga
  rw [← Int.toNat_natCast i] at gb
  have c1:=r3_Less (E:=E) za.1 zb.1 (by omega)
  have c2:=r3_Less (E:=E) zb.2.1 za.2.1 (by omega)
  have n1:=r53_num (E:=E) za.1 (by omega)
  have n2:=r53_num (E:=E) zb.1 (by omega)
  have n3:=r53_num (E:=E) zb.2.1 (by omega)
  have n4:=r53_num (E:=E) za.2.1 (by omega)
  have hd:ts.drop (i - 1)=a::b::ts.drop (i+1):=by rw [drop_get ha,show i - 1+1=i by omega,drop_get hb]
  have hd':ts.drop (i+1 - 1)=b::ts.drop (i+1):=by rw [show i+1 - 1=i by omega,drop_get hb]
  have hlt:(i:Int) < ((Q3 ts).length:Int):=by rw [Q3_len]; omega
  have e1:IntKind.i64.wrap ((i:Int) - 1)=((i - 1:Nat):Int):=wi (by omega)
  rw [hd]
  show (decide (px a < px b) && decide (py a≤py b) && ordB (b::ts.drop (i+1)))=true∧_∨(decide (px a < px b) && decide (py a≤py b) && ordB (b::ts.drop (i+1)))=false∧_
  by_cases h2:px a < px b
  · rw [decide_eq_true h2] at c1 ⊢
    rw [Bool.true_and]
    by_cases h3:py a≤py b
    · rw [decide_eq_false (Rat.not_lt.2 h3)] at c2
      rw [decide_eq_true h3,Bool.true_and]
      have st:∀ {o s},Lp E 2 B1 1 (K9 (Q3 ts) x1 ((i+1:Nat):Int) p0 p1 p2 w) o s→Lp E 2 B1 1 (K9 (Q3 ts) x1 (i:Nat) p0 p1 p2 w) o s:=fun h =>
       y9m e1 (wi (by omega)) hlt (by omega) ga n1 (by omega) gb n2 c1 n3 n4 c2 h
      have ih:=rLook_order hI hn (p0:=p0) (p1:=p1) (p2:=p2) (x1:=x1) (w:=w) d (i+1) (by omega) (by omega)
      rw [hd'] at ih
      rcases ih with ⟨k1,k2⟩ | ⟨k1,k2⟩
      · exact .inl ⟨k1,st k2⟩
      · exact .inr ⟨k1,st k2⟩
    · rw [decide_eq_true (Rat.not_le.1 h3)] at c2
      rw [decide_eq_false h3,Bool.false_and]
      exact .inr ⟨rfl,y5g e1 hlt (by omega) ga n1 (by omega) gb n2 c1 n3 n4 c2⟩
  · rw [decide_eq_false h2] at c1 ⊢
    rw [Bool.false_and,Bool.false_and]
    exact .inr ⟨rfl,y5h e1 hlt (by omega) ga n1 (by omega) gb n2 c1⟩
theorem rLook_find {ts:List P3} {q:Rat} {L:Nat} (hI:In3 ts) (hn:ts.length≤32) (hq:Sz q L) (hL:L≤30000000) {w:RW}:∀ n i:Nat,i+n=ts.length→1≤i→ordB (ts.drop (i - 1))=true →
    (∃ a b,findR q (ts.drop (i - 1))=some (a,b)∧Lp E 3 B1 2 (I5 (Q3 ts) (B (decQ q)) (i:Nat) ⟨#[]⟩ ⟨#[]⟩ ⟨#[]⟩ w (q0 q) (q1 q) (q2 q)) .ret (z4d (B (decQ q)) w (q0 q) (q1 q) (q2 q) (B (decQ (lookR q a b).1)) (B (decQ (lookR q a b).2)))) ∨
    (findR q (ts.drop (i - 1))=none∧Lp E 3 B1 2 (I5 (Q3 ts) (B (decQ q)) (i:Nat) ⟨#[]⟩ ⟨#[]⟩ ⟨#[]⟩ w (q0 q) (q1 q) (q2 q)) (.exit 4) (z4e ⟨#[]⟩ ⟨#[]⟩ ⟨#[]⟩ w (q0 q) (q1 q) (q2 q)))
 | 0,i,hi,h1,_=>by
  obtain ⟨x,hx⟩:=get_ex (l:=ts) (i:=i - 1) (by omega)
  rw [drop_get hx,List.drop_eq_nil_of_le (by omega)]
  exact .inr ⟨rfl,y5k (by rw [Q3_len]; omega)⟩
 | n+1,i,hi,h1,ho=>by
  have hl:=Lim_val
  obtain ⟨a,ha⟩:=get_ex (l:=ts) (i:=i - 1) (by omega)
  obtain ⟨b,hb⟩:=get_ex (l:=ts) (i:=i) (by omega)
  have za:=hI a (List.mem_of_getElem? ha)
  have zb:=hI b (List.mem_of_getElem? hb)
  have ga:=Q3_get ha
  have gb:=Q3_get hb
  rw [← Int.toNat_natCast (i - 1)] at ga
  rw [← Int.toNat_natCast i] at gb
  have c1:=r3_Less (E:=E) hq za.1 (by omega)
  have c2:=r3_Less (E:=E) zb.1 hq (by omega)
  have n1:=r53_num (E:=E) za.1 (by omega)
  have n2:=r53_num (E:=E) zb.1 (by omega)
  have hd:ts.drop (i - 1)=a::b::ts.drop (i+1):=by rw [drop_get ha,show i - 1+1=i by omega,drop_get hb]
  have hd':ts.drop (i+1 - 1)=b::ts.drop (i+1):=by rw [show i+1 - 1=i by omega,drop_get hb]
  have hlt:(i:Int) < ((Q3 ts).length:Int):=by rw [Q3_len]; omega
  have e1:IntKind.i64.wrap ((i:Int) - 1)=((i - 1:Nat):Int):=wi (by omega)
  rw [hd] at ho ⊢
  obtain ⟨o1,_,o3⟩:=ord_tail ho
  have ih:=rLook_find hI hn hq hL (w:=w) n (i+1) (by omega) (by omega) (by rw [hd']; exact o3)
  rw [hd'] at ih
  have hne:px b - px a≠0:=fun h=>by
   have:px b=px a:=by grind
   rw [this] at o1
   exact Rat.lt_irrefl o1
  by_cases k1:q < px a
  · rw [decide_eq_true k1] at c1
    have e:findR q (a::b::ts.drop (i+1))=findR q (b::ts.drop (i+1)):=if_neg (fun k=>k.1 k1)
    rw [e]
    have st:∀ {o s},Lp E 3 B1 2 (I5 (Q3 ts) (B (decQ q)) ((i+1:Nat):Int) ⟨#[]⟩ ⟨#[]⟩ ⟨#[]⟩ w (q0 q) (q1 q) (q2 q)) o s→Lp E 3 B1 2 (I5 (Q3 ts) (B (decQ q)) (i:Nat) ⟨#[]⟩ ⟨#[]⟩ ⟨#[]⟩ w (q0 q) (q1 q) (q2 q)) o s:=fun h=>y9n e1 (wi (by omega)) hlt (by omega) ga (by omega) gb n1 c1 h
    rcases ih with ⟨x,y,k2,k3⟩ | ⟨k2,k3⟩
    · exact .inl ⟨x,y,k2,st k3⟩
    · exact .inr ⟨k2,st k3⟩
  · rw [decide_eq_false k1] at c1
    by_cases k4:px b < q
    · rw [decide_eq_true k4] at c2
      have e:findR q (a::b::ts.drop (i+1))=findR q (b::ts.drop (i+1)):=if_neg (fun k=>k.2 k4)
      rw [e]
      have st:∀ {o s},Lp E 3 B1 2 (I5 (Q3 ts) (B (decQ q)) ((i+1:Nat):Int) ⟨#[]⟩ ⟨#[]⟩ ⟨#[]⟩ w (q0 q) (q1 q) (q2 q)) o s→Lp E 3 B1 2 (I5 (Q3 ts) (B (decQ q)) (i:Nat) ⟨#[]⟩ ⟨#[]⟩ ⟨#[]⟩ w (q0 q) (q1 q) (q2 q)) o s:=fun h=>y9o e1 (wi (by omega)) hlt (by omega) ga (by omega) gb n1 c1 n2 c2 h
      rcases ih with ⟨x,y,k2,k3⟩ | ⟨k2,k3⟩
      · exact .inl ⟨x,y,k2,st k3⟩
      · exact .inr ⟨k2,st k3⟩
    · rw [decide_eq_false k4] at c2
      have e:findR q (a::b::ts.drop (i+1))=some (a,b):=if_pos ⟨k1,k4⟩
      exact .inl ⟨a,b,e,y5j e1 hlt (by omega) ga (by omega) gb n1 c1 n2 c2 (r53_between hq hL za.1 zb.1 za.2.1 zb.2.1 hne) (r53_between hq hL za.1 zb.1 za.2.2 zb.2.2 hne)⟩
theorem lookP_findR {ts:List P3} {d:Rat} (h2:2≤ts.length) (ho:ordB ts=true):lookP ts d=match findR d ts with | none=>(2,none) | some (a,b)=>(0,some (lookR d a b)):=by
 match ts,h2,ho with
 | a::b::r,_,ho =>
  unfold lookP
  rw [ho,if_pos rfl]
  show (if d < px a then (2,none) else _)=_
  by_cases c:d < px a
  · rw [if_pos c,findR_lt ho c]
  · rw [if_neg c,findR_ge ho c]
    first | done | (cases findT d (a::b::r) <;> rfl)
theorem r53_Lookup {t:List D3} {d:List UInt8} (hf:ShortD t) (hd:d.length≤30000000):Fn E B1 [.c (.list (R3 t)),.c (.str (B d))] (Dc d (lookA t d)):=by
 have hl:=Lim_val
 have v:=r53_valid (E:=E) (l:=[d]) (by simp) (by intro x hx; simp at hx; subst hx; omega)
 rw [show [d].all ok1=ok1 d by simp] at v
 have h:=rLook_valid (E:=E) hf (x1:=B d) (p0:=⟨#[]⟩) (p1:=⟨#[]⟩) (p2:=⟨#[]⟩) (w:=[[.str (B d)]]) t.length 0 (ok1 d) (by omega)
 rw [List.drop_zero,Bool.and_comm] at h
 unfold lookA
 cases hv:(t.all okD && ok1 d) with
 | false=>rw [hv] at h; exact x6r rfl v h
 | true =>
  rw [hv] at h
  rw [if_pos rfl]
  rw [Bool.and_eq_true] at hv
  by_cases c1:t.length < 2
  · rw [if_pos c1]; exact x6m rfl v h (by rw [R3_len]; omega)
  · by_cases c2:32 < t.length
    · rw [if_neg c1,if_pos c2]; exact x6n rfl v h (by rw [R3_len]; omega) (by rw [R3_len]; omega)
    · rw [if_neg c1,if_neg c2]
      obtain ⟨ts,rfl⟩:=Td_of hv.1
      obtain ⟨q,rfl⟩:=ok1_dec' hv.2
      have hI:=Td_in hf
      have zq:=Sz.of_len hd
      rw [numsD_Td,rdv_dec]
      rw [Td_len] at c1 c2
      have k3:¬ ((R3 (Td ts)).length:Int) < 2:=by rw [R3_len,Td_len]; omega
      have k4:¬ ((R3 (Td ts)).length:Int) > 32:=by rw [R3_len,Td_len]; omega
      have hor:=rLook_order (E:=E) hI (by omega) (p0:=⟨#[]⟩) (p1:=⟨#[]⟩) (p2:=⟨#[]⟩) (x1:=B (decQ q)) (w:=[[.str (B (decQ q))]]) (ts.length - 1) 1 (by omega) (by omega)
      rw [Nat.sub_self,List.drop_zero,← Td_R3] at hor
      have nq:=r53_num (E:=E) zq (by omega)
      rcases hor with ⟨o1,o2⟩ | ⟨o1,o2⟩
      · have hfd:=rLook_find (E:=E) hI (by omega) zq (by omega) (w:=[[.str (B (decQ q))]]) (ts.length - 1) 1 (by omega) (by omega) (by rw [Nat.sub_self,List.drop_zero]; exact o1)
        rw [Nat.sub_self,List.drop_zero,← Td_R3] at hfd
        rw [lookP_findR (by omega) o1]
        rcases hfd with ⟨a,b,f1,f2⟩ | ⟨f1,f2⟩
        · rw [f1]; exact x6p rfl v h k3 k4 o2 nq f2
        · rw [f1]; exact x6q rfl v h k3 k4 o2 nq f2
      · have e:lookP ts q=(5,none):=by unfold lookP; rw [o1]; rfl
        rw [e]
        exact x6o rfl v h k3 k4 o2
end Gev
namespace Gev
open Go Gb
variable {E:Env}
attribute [local irreducible] Sz
theorem sgn_le {a:Rat}:cmpI a.num 0≤0↔¬ 0 < a:=by
 have h:0 < a↔0 < a.num:=by
  rw [Rat.lt_iff,show (0:Rat).num=0 from rfl,show (0:Rat).den=1 from rfl]; omega
 rw [h,← cmpI_gt]; omega
theorem r53_Survey {l:List Mk} {t:List D3} {m n r:List UInt8} (hf:Short l) (ht:ShortD t) (hm:m.length≤4000) (hn:n.length≤4000) (hr:r.length≤4000):Fn E z0d [.c (.list (R4 l)),.c (.list (R3 t)),.c (.str (B m)),.c (.str (B n)),.c (.str (B r))] (survA l t m n r):=by
 have hl:=Lim_val
 have v:=r53_valid3 (E:=E) (x:=m) (y:=n) (z:=r) (by omega) (by omega) (by omega)
 unfold survA
 cases hv:[m,n,r].all ok1 with
 | false=>rw [hv] at v; exact x6w rfl v
 | true =>
  rw [hv] at v
  rw [if_pos rfl]
  simp only [List.all_cons,List.all_nil,Bool.and_true,Bool.and_eq_true] at hv
  obtain ⟨m,rfl⟩:=ok1_dec' hv.1
  obtain ⟨n,rfl⟩:=ok1_dec' hv.2.1
  obtain ⟨r,rfl⟩:=ok1_dec' hv.2.2
  rw [rdv_dec,rdv_dec,rdv_dec]
  have zm:=Sz.of_len hm
  have zn:=Sz.of_len hn
  have zr:=Sz.of_len hr
  have qn:=r53_num (E:=E) zn (by omega)
  have qr:=r53_num (E:=E) zr (by omega)
  have sn:=r3_Sign (E:=E) n
  have sr:=r3_Sign (E:=E) r
  by_cases c1:0 < n
  · by_cases c2:0 < r
    · rw [if_pos ⟨c1,c2⟩]
      have d1:¬ cmpI n.num 0≤0:=fun h=>sgn_le.1 h c1
      have d2:¬ cmpI r.num 0≤0:=fun h=>sgn_le.1 h c2
      have k:=r53_Fit (E:=E) hf
      unfold fitA at k
      by_cases hs:startS l=0
      · rw [if_pos hs] at k ⊢
        obtain ⟨ms,rfl,_,hn16⟩:=startS_zero hs
        have hI:=Tm_in hf
        rw [nums3_Tm] at k ⊢
        cases hfit:fit3 (pts ms) with
        | none =>
         rw [hfit] at k
         exact y5l rfl v qn sn d1 qr sr d2 k (by decide)
        | some abc =>
         obtain ⟨a,b,c⟩:=abc
         rw [hfit] at k
         obtain ⟨za,zb,zc⟩:=Sz_fit3 hI (by rw [pts_len]; exact hn16) hfit
         have hat:=r53_At (E:=E) (a:=decQ a) (b:=decQ b) (c:=decQ c) (x:=decQ m) (y:=decQ 0) (s:=B (decQ (sq3 a b c (pts ms)))) (by have:=za.len; omega) (by have:=zb.len; omega) (by have:=zc.len; omega) (by omega) (by rw [decQ_zero]; decide)
         have eat:atA (decQ a) (decQ b) (decQ c) (decQ m) (decQ 0)=(0,decQ (draftS a b c m)):=by
          unfold atA
          rw [show [decQ a,decQ b,decQ c,decQ m,decQ 0].all ok1=true by simp [ok1_dec],if_pos rfl,rdv_dec,rdv_dec,rdv_dec,rdv_dec,rdv_dec]; rfl
         rw [eat,← b_zero] at hat
         have zd:Sz (draftS a b c m) 11710000:=(za.add ((zb.mul zm).add (zc.mul Sz.zero))).mono (by omega)
         have hlk:=r53_Lookup (E:=E) (d:=decQ (draftS a b c m)) ht (by have:=zd.len; omega)
         show Fn E _ _ (match lookA t (decQ (draftS a b c m)) with | (e,none)=>errS e | (_,some (x,y))=>_)
         rcases lookA_form (t:=t) (d:=decQ (draftS a b c m)) with ⟨e,e1,e2⟩ | ⟨ts,q,x,y,rfl,eq,_,_,ho,hfd,e2,_⟩
         · rw [e2] at hlk ⊢
           exact x6u rfl v qn sn d1 qr sr d2 k rfl hat hlk e1
         · rw [e2] at hlk ⊢
           have eq:=decQ_inj eq
           subst eq
           obtain ⟨z1,z2⟩:=Sz_look (Td_in ht) zd ho hfd
           exact x6v rfl v qn sn d1 qr sr d2 k rfl hat hlk rfl (r53_num zb (by omega)) (r3_Mul zb zn (by omega)) (r3_To (zb.mul zn) (by omega)) (r53_num z1 (by omega)) (r3_Mul z1 zr (by omega)) (r3_To (z1.mul zr) (by omega))
      · rw [if_neg hs] at k ⊢
        exact y5l rfl v qn sn d1 qr sr d2 k hs
    · rw [if_neg (fun h=>c2 h.2)]
      exact x6t rfl v qn sn (fun h=>sgn_le.1 h c1) qr sr (sgn_le.2 c2)
  · rw [if_neg (fun h=>c1 h.1)]
    exact x6s rfl v qn sn (sgn_le.2 c1)
def bestQ:Option (Nat × Rat)→Rat
 | none=>0
 | some (_,q)=>q
theorem rWorst_loop {ms:List QM} (hI:In3 (pts ms)) (hn:ms.length≤16) {p0 p1 p2 p3:BA}:∀ (d i:Nat) (s:Option (Nat × Rat)),i+d=ms.length→OSz s→s=wloop (pts ms) i →
    Lp E 2 H1 0 (M2 (Q4 ms) (bestI s) (i:Nat) p0 p1 p2 p3 (q0 (bestQ s)) (q1 (bestQ s)) (q2 (bestQ s))) (.exit 0) (z1h p0 p1 p2 p3 (bestI (wloop (pts ms) ms.length)) (q0 (bestQ (wloop (pts ms) ms.length))) (q1 (bestQ (wloop (pts ms) ms.length))) (q2 (bestQ (wloop (pts ms) ms.length))))
 | 0,i,s,hi,hs,e=>by
  have:i=ms.length:=by omega
  subst this
  rw [← e]
  exact y7c (by rw [Q4_len]; omega)
 | d+1,i,s,hi,hs,e=>by
  have hl:=Lim_val
  have hnp:(pts ms).length≤16:=by rw [pts_len]; exact hn
  have hlen:(ms.eraseIdx i).length=ms.length - 1:=by rw [List.length_eraseIdx_of_lt (by omega)]
  have hIe:In3 (pts (ms.eraseIdx i)):=by rw [pts_erase]; exact In3_erase hI i
  have hrow:∀ x∈Q4 ms,x.length=4:=fun x hx=>by
   unfold Q4 at hx
   obtain ⟨m,_,rfl⟩:=List.mem_map.1 hx
   rfl
  have e1:List.drop 0 ((Q4 ms).take (Int.toNat ((i:Nat):Int)))=(Q4 ms).take i:=by rw [List.drop_zero,Int.toNat_natCast]
  have e2:(([]:RW).take 0)++(Q4 ms).take i=(Q4 ms).take i:=by simp
  have e3:0+((Q4 ms).take i).length=i:=by rw [List.length_take,Q4_len]; omega
  have e4:IntKind.i64.wrap ((i:Int)+1)=((i+1:Nat):Int):=wi (by omega)
  have e5:List.drop (Int.toNat ((i+1:Nat):Int)) ((Q4 ms).take (Int.toNat ((Q4 ms).length:Int)))=(Q4 ms).drop (i+1):=by rw [Int.toNat_natCast,Int.toNat_natCast,List.take_length]
  have e6:(((Q4 ms).take i).take i)++(Q4 ms).drop (i+1)=Q4 (ms.eraseIdx i):=by
   rw [List.take_take,Nat.min_self]
   unfold Q4
   rw [← map_erase,List.eraseIdx_eq_take_drop_succ]
  have e7:i+((Q4 ms).drop (i+1)).length=ms.length - 1:=by rw [List.length_drop,Q4_len]; omega
  have e8:(Q4 (ms.eraseIdx i)).take (ms.length - 1)=Q4 (ms.eraseIdx i):=List.take_of_length_le (by rw [Q4_len]; omega)
  have h2:0≤(0:Int)∧(0:Int)≤((i:Nat):Int)∧((i:Nat):Int)≤(Q4 ms).length∧∀ x∈Q4 ms,x.length=4:=⟨by omega,by omega,by rw [Q4_len]; omega,hrow⟩
  have h3:∀ y∈(Q4 ms).take i,y.length=4:=fun y hy=>hrow y (List.mem_of_mem_take hy)
  have h4:(0+((Q4 ms).take i).length)*64≤140737488355328∧0+((Q4 ms).take i).length≤140737488355328:=by rw [e3]; omega
  have h5:0≤((i+1:Nat):Int)∧((i+1:Nat):Int)≤((Q4 ms).length:Int)∧((Q4 ms).length:Int)≤(Q4 ms).length∧∀ x∈Q4 ms,x.length=4:=⟨by omega,by rw [Q4_len]; omega,by omega,hrow⟩
  have h6:∀ y∈(Q4 ms).drop (i+1),y.length=4:=fun y hy=>hrow y (List.mem_of_mem_drop hy)
  have h7:(i+((Q4 ms).drop (i+1)).length)*64≤140737488355328∧i+((Q4 ms).drop (i+1)).length≤140737488355328:=by rw [e7]; omega
  have hlt:(i:Int) < ((Q4 ms).length:Int):=by rw [Q4_len]; omega
  have k3:=r53_fit (E:=E) (ms:=ms.eraseIdx i) hIe (by omega)
  have ew:wloop (pts ms) (i+1)=wstep (pts ms) i s:=by rw [e]; rfl
  have hsz:=wstep_Sz (i:=i) hI hnp hs
  have ih:=rWorst_loop hI hn (p0:=p0) (p1:=p1) (p2:=p2) (p3:=p3) d (i+1) (wstep (pts ms) i s) (by omega) hsz ew.symm
  unfold wstep at ih
  rw [← pts_erase] at ih
  cases hf:fit3 (pts (ms.eraseIdx i)) with
  | none =>
   rw [hf] at k3 ih
   exact x1o e1 e2 e3 e4 e5 e6 e7 e8 hlt h2 h3 h4 h5 h6 h7 k3 ih
  | some abc =>
   obtain ⟨a,b,c⟩:=abc
   rw [hf] at k3 ih
   obtain ⟨za,zb,zc⟩:=Sz_fit3 hIe (by rw [pts_len]; omega) hf
   have z:Sz (sq3 a b c (pts (ms.eraseIdx i))) 375000000:=(Sz_sq3 hIe (by rw [pts_len]; omega) za zb zc).mono (by omega)
   have sq:=r53_squares (E:=E) hIe (by omega) za zb zc (by omega)
   cases s with
   | none=>exact x1l e1 e2 e3 e4 e5 e6 e7 e8 hlt h2 h3 h4 h5 h6 h7 k3 sq (by decide) ih
   | some p =>
    obtain ⟨k0,w0⟩:=p
    have z0:=hs k0 w0 rfl
    have cm:=r3_Less (E:=E) z z0 (by omega)
    have ih:Lp E 2 H1 0 (M2 (Q4 ms) (bestI (if sq3 a b c (pts (ms.eraseIdx i)) < w0 then some (i,sq3 a b c (pts (ms.eraseIdx i))) else some (k0,w0))) ((i+1:Nat):Int) p0 p1 p2 p3 (q0 (bestQ (if sq3 a b c (pts (ms.eraseIdx i)) < w0 then some (i,sq3 a b c (pts (ms.eraseIdx i))) else some (k0,w0)))) (q1 (bestQ (if sq3 a b c (pts (ms.eraseIdx i)) < w0 then some (i,sq3 a b c (pts (ms.eraseIdx i))) else some (k0,w0)))) (q2 (bestQ (if sq3 a b c (pts (ms.eraseIdx i)) < w0 then some (i,sq3 a b c (pts (ms.eraseIdx i))) else some (k0,w0))))) (.exit 0) _:=ih
    have hk:¬ bestI (some (k0,w0)) < 0:=by show ¬ (k0:Int) < 0; omega
    by_cases hc:sq3 a b c (pts (ms.eraseIdx i)) < w0
    · rw [decide_eq_true hc] at cm
      rw [if_pos hc] at ih
      exact x1m e1 e2 e3 e4 e5 e6 e7 e8 hlt h2 h3 h4 h5 h6 h7 k3 sq hk cm ih
    · rw [decide_eq_false hc] at cm
      rw [if_neg hc] at ih
      exact x1n e1 e2 e3 e4 e5 e6 e7 e8 hlt h2 h3 h4 h5 h6 h7 k3 sq hk cm ih
theorem r53_Worst {l:List Mk} (hf:Short l):Fn E H1 [.c (.list (R4 l))] (Wc (worstA l)):=by
 have k:=r53_Fit (E:=E) hf
 unfold fitA at k
 unfold worstA
 by_cases hs:startS l=0
 · rw [if_pos hs] at k ⊢
   obtain ⟨ms,rfl,h3,h16⟩:=startS_zero hs
   have hI:=Tm_in hf
   rw [nums3_Tm] at k ⊢
   cases hfit:fit3 (pts ms) with
   | none =>
    rw [hfit] at k
    show Fn E _ _ (Wc (18,0))
    exact y8d k (show ¬ (18:Int)=0 by decide)
   | some abc =>
    obtain ⟨a,b,c⟩:=abc
    rw [hfit] at k
    show Fn E _ _ (Wc (if (Tm ms).length < 4 then (9,0) else worstP (pts ms)))
    rw [Tm_len]
    by_cases h4:ms.length < 4
    · rw [if_pos h4]; exact x8l k rfl (by rw [R4_len,Tm_len]; omega)
    · rw [if_neg h4]
      have hlp:=rWorst_loop (E:=E) hI h16 (p0:=B (decQ a)) (p1:=B (decQ b)) (p2:=B (decQ c)) (p3:=B (decQ (sq3 a b c (pts ms)))) ms.length 0 none (by omega) (fun _ _ h=>by cases h) rfl
      rw [← Tm_R4] at hlp
      have hne:¬ ((R4 (Tm ms)).length:Int)=3:=by rw [R4_len,Tm_len]; omega
      unfold worstP
      rw [pts_len]
      cases hw:wloop (pts ms) ms.length with
      | none =>
       rw [hw] at hlp
       exact x8m k rfl hne r3_zero hlp (by decide)
      | some p =>
       obtain ⟨k0,w0⟩:=p
       rw [hw] at hlp
       exact x8n k rfl hne r3_zero hlp (by show ¬ (k0:Int) < 0; omega)
 · rw [if_neg hs] at k ⊢
   exact y8d k hs
end Gev
namespace Go.Proofs
open Go.Shelf
def Tryz.lays169_ren:Go.Shelf.Ren:=⟨fun | 169=>197 | n=>n,fun | 70=>219 | 9=>9 | 0=>0 | 72=>221 | 37=>123 | 127=>243 | 3=>3 | 5=>5 | n=>n,fun | n=>n⟩
theorem Tryz.lays169:Go.Proofs.Lays.n169 Tryz.prog Tryz.lays169_ren:={
 mixed:=by kernel_rfl
 f169:=Tryz.func197.trans (congrArg some (by kernel_rfl))
 t0:=Tryz.underlying0
 a0:=Tryz.isAgg0
 z0:=Tryz.sizeOf0
 v0:=Tryz.zeroValue0
 t3:=Tryz.underlying3
 a3:=Tryz.isAgg3
 z3:=Tryz.sizeOf3
 v3:=Tryz.zeroValue3
 t9:=Tryz.underlying9
 a9:=Tryz.isAgg9
 z9:=Tryz.sizeOf9
 v9:=Tryz.zeroValue9
 t37:=Tryz.underlying123
 a37:=Tryz.isAgg123
 z37:=Tryz.sizeOf123
 v37:=Tryz.zeroValue123
 t70:=Tryz.underlying219
 a70:=Tryz.isAgg219
 z70:=Tryz.sizeOf219
 v70:=Tryz.zeroValue219
 t72:=Tryz.underlying221
 a72:=Tryz.isAgg221
 z72:=Tryz.sizeOf221
 v72:=Tryz.zeroValue221
 t127:=Tryz.underlying243
 a127:=Tryz.isAgg243
 z127:=Tryz.sizeOf243
 v127:=Tryz.zeroValue243 }
theorem Tryz.Builder_Extra_169:Builder.Extra Tryz.prog Tryz.lays169_ren:={
 sizeBuilder:=by kernel_rfl
 liesBuilder:=by kernel_rfl
 t5:=Tryz.underlying5
 a5:=Tryz.isAgg5
 z5:=Tryz.sizeOf5
 v5:=Tryz.zeroValue5
 infoByte:=by kernel_rfl
 cellsByte:=by kernel_rfl
 sizeByte:=by kernel_rfl
 neB5:=by decide }
def Tryz.lays103_ren:Go.Shelf.Ren:=⟨fun | 103=>147 | 210=>169 | 206=>191 | n=>n,fun | 9=>9 | 4=>4 | 24=>180 | 3=>3 | n=>n,fun | n=>n⟩
theorem Tryz.lays103:Go.Proofs.Lays.n103 Tryz.prog Tryz.lays103_ren:={
 mixed:=by kernel_rfl
 f103:=Tryz.func147.trans (congrArg some (by kernel_rfl))
 f206:=Tryz.func191.trans (congrArg some (by kernel_rfl))
 f210:=Tryz.func169.trans (congrArg some (by kernel_rfl))
 t3:=Tryz.underlying3
 a3:=Tryz.isAgg3
 z3:=Tryz.sizeOf3
 v3:=Tryz.zeroValue3
 t4:=Tryz.underlying4
 a4:=Tryz.isAgg4
 z4:=Tryz.sizeOf4
 v4:=Tryz.zeroValue4
 t9:=Tryz.underlying9
 a9:=Tryz.isAgg9
 z9:=Tryz.sizeOf9
 v9:=Tryz.zeroValue9
 t24:=Tryz.underlying180
 a24:=Tryz.isAgg180
 z24:=Tryz.sizeOf180
 v24:=Tryz.zeroValue180 }
open Go.RowKit in
theorem Tryz.strings_CutPrefix (s p:ByteArray) (w:World) :
    Calls Tryz.prog 147 #[.string s,.string p] w fun e w'=>e=.returned (.tuple #[.string ⟨(Lib.trimPrefix s.data.toList p.data.toList).toArray⟩,.bool (Lib.hasPrefix s.data.toList p.data.toList)])∧w'=w:=Any.strings_CutPrefix Tryz.lays103 s p w
open Go.RowKit in
theorem Tryz.Builder_String_any_k (B b:Nat) (l:List UInt8) (w:World) (h:Lib.IsBuilderF 221 5 B b (Lib.byteCells l) w) (hBw:B≤w.heap.size) :
    Calls Tryz.prog 197 #[.pointer (some ⟨b,0,none⟩)] w fun e w'=>e=.returned (.string ⟨l.toArray⟩)∧(Lib.IsBuilderF 221 5 B b (Lib.byteCells l) w'∧Below B w w'∧Lib.OthersKept 5 (some b) w w'):=Any.Builder_String_any_k Tryz.lays169 Tryz.Builder_Extra_169 B b l w h hBw
def Tryz.lays283_ren:Go.Shelf.Ren:=⟨fun | 283=>151 | n=>n,fun | 3=>3 | 9=>9 | 4=>4 | n=>n,fun | n=>n⟩
theorem Tryz.lays283:Go.Proofs.Lays.n283 Tryz.prog Tryz.lays283_ren:={
 mixed:=by kernel_rfl
 f283:=Tryz.func151.trans (congrArg some (by kernel_rfl))
 t3:=Tryz.underlying3
 a3:=Tryz.isAgg3
 z3:=Tryz.sizeOf3
 v3:=Tryz.zeroValue3
 t4:=Tryz.underlying4
 a4:=Tryz.isAgg4
 z4:=Tryz.sizeOf4
 v4:=Tryz.zeroValue4
 t9:=Tryz.underlying9
 a9:=Tryz.isAgg9
 z9:=Tryz.sizeOf9
 v9:=Tryz.zeroValue9 }
open Go.Lib in
theorem Tryz.internal_strconv_small (i:Nat) (h:i < 100) (w:World) :
    Calls Tryz.prog 151 #[.int .i64 i] w fun e w'=>e=.returned (.string ⟨(Lib.decDigits i).toArray⟩)∧w'=w:=Any.internal_strconv_small Tryz.lays283 i h w
def Tryz.laysM284_ren:Go.Shelf.Ren:=⟨fun | 284=>152 | 129=>176 | 317=>175 | 318=>177 | n=>n,fun | 53=>126 | 3=>3 | 212=>202 | 0=>0 | 4=>4 | 46=>195 | 5=>5 | 9=>9 | n=>n,fun | 17=>1 | n=>n⟩
theorem Tryz.laysM284:Go.Proofs.LaysM.n284 Tryz.prog Tryz.laysM284_ren:={
 mixed:=by kernel_rfl
 f129:=Tryz.func176.trans (congrArg some (by kernel_rfl))
 f284:=Tryz.func152.trans (congrArg some (by kernel_rfl))
 f317:=Tryz.func175.trans (congrArg some (by kernel_rfl))
 f318:=Tryz.func177.trans (congrArg some (by kernel_rfl))
 t0:=Tryz.underlying0
 a0:=Tryz.isAgg0
 z0:=Tryz.sizeOf0
 v0:=Tryz.zeroValue0
 t3:=Tryz.underlying3
 a3:=Tryz.isAgg3
 z3:=Tryz.sizeOf3
 v3:=Tryz.zeroValue3
 t4:=Tryz.underlying4
 a4:=Tryz.isAgg4
 z4:=Tryz.sizeOf4
 v4:=Tryz.zeroValue4
 t5:=Tryz.underlying5
 a5:=Tryz.isAgg5
 z5:=Tryz.sizeOf5
 v5:=Tryz.zeroValue5
 t9:=Tryz.underlying9
 a9:=Tryz.isAgg9
 z9:=Tryz.sizeOf9
 v9:=Tryz.zeroValue9
 t46:=Tryz.underlying195
 a46:=Tryz.isAgg195
 z46:=Tryz.sizeOf195
 v46:=Tryz.zeroValue195
 t53:=Tryz.underlying126
 a53:=Tryz.isAgg126
 z53:=Tryz.sizeOf126
 v53:=Tryz.zeroValue126
 t212:=Tryz.underlying202
 a212:=Tryz.isAgg202
 z212:=Tryz.sizeOf202
 v212:=Tryz.zeroValue202
 g17:=by kernel_rfl
 i0:=by kernel_rfl
 i3:=by kernel_rfl
 i4:=by kernel_rfl
 i5:=by kernel_rfl
 i9:=by kernel_rfl
 i46:=by kernel_rfl
 i53:=by kernel_rfl
 i212:=by kernel_rfl
 m17:=by kernel_rfl }
open Go.Lib in
theorem Tryz.internal_strconv_numDigits (u:Nat) (h1:1≤u) (h2:u < 18446744073709551616) (w:World) (htab:Lib.TabIs Tryz.prog w "internal/strconv.uint64pow10" .u64 Lib.pow10Tab) :
    Calls Tryz.prog 152 #[.int .u64 u] w fun e w'=>e=.returned (.int .i64 (Lib.nDigits u))∧w'=w:=Any.internal_strconv_numDigits Tryz.laysM284 u h1 h2 w htab
def Tryz.lays285_ren:Go.Shelf.Ren:=⟨fun | 285=>153 | n=>n,fun | 37=>123 | 53=>126 | 3=>3 | 4=>4 | 51=>102 | 9=>9 | 5=>5 | 0=>0 | n=>n,fun | n=>n⟩
theorem Tryz.lays285:Go.Proofs.Lays.n285 Tryz.prog Tryz.lays285_ren:={
 mixed:=by kernel_rfl
 f285:=Tryz.func153.trans (congrArg some (by kernel_rfl))
 t0:=Tryz.underlying0
 a0:=Tryz.isAgg0
 z0:=Tryz.sizeOf0
 v0:=Tryz.zeroValue0
 t3:=Tryz.underlying3
 a3:=Tryz.isAgg3
 z3:=Tryz.sizeOf3
 v3:=Tryz.zeroValue3
 t4:=Tryz.underlying4
 a4:=Tryz.isAgg4
 z4:=Tryz.sizeOf4
 v4:=Tryz.zeroValue4
 t5:=Tryz.underlying5
 a5:=Tryz.isAgg5
 z5:=Tryz.sizeOf5
 v5:=Tryz.zeroValue5
 t9:=Tryz.underlying9
 a9:=Tryz.isAgg9
 z9:=Tryz.sizeOf9
 v9:=Tryz.zeroValue9
 t37:=Tryz.underlying123
 a37:=Tryz.isAgg123
 z37:=Tryz.sizeOf123
 v37:=Tryz.zeroValue123
 t51:=Tryz.underlying102
 a51:=Tryz.isAgg102
 z51:=Tryz.sizeOf102
 v51:=Tryz.zeroValue102
 t53:=Tryz.underlying126
 a53:=Tryz.isAgg126
 z53:=Tryz.sizeOf126
 v53:=Tryz.zeroValue126 }
open Go.RowKit Go.Sort Go.Lib in
theorem Tryz.internal_strconv_formatBase10 (blk off cap:Nat) (u:Nat) (d:Array UInt8) (w:World) (hH:Holds (fun (b:UInt8)=>Value.int .u8 (b.toNat:Int)) w blk off d) (hu:u < 10 ^ d.size) (hu64:u < 18446744073709551616) (hsz:d.size < 4611686018427387904) :
    Calls Tryz.prog 153 #[.slice (some ⟨blk,off,none⟩) d.size cap,.int .u64 u] w fun e w' =>
     e=.returned (.tuple #[])∧∃ (n v':Nat) (dk:Array UInt8),w'=(putRow (fun (b:UInt8)=>Value.int .u8 (b.toNat:Int)) w blk off dk).drewN n∧FmtInv d.size u 0 v' dk:=Any.internal_strconv_formatBase10 Tryz.lays285 blk off cap u d w hH hu hu64 hsz
def Tryz.laysM171_ren:Go.Shelf.Ren:=⟨fun | 171=>105 | 243=>122 | 246=>137 | 283=>151 | 284=>152 | 285=>153 | 286=>154 | 129=>176 | 317=>175 | 318=>177 | 319=>178 | 320=>179 | 337=>199 | 338=>200 | n=>n,fun | 3=>3 | 9=>9 | 2=>2 | 4=>4 | 171=>187 | 0=>0 | 53=>126 | 37=>123 | 5=>5 | 173=>190 | 212=>202 | 51=>102 | 20=>20 | 213=>203 | 46=>195 | 232=>244 | 233=>245 | n=>n,fun | 17=>1 | 18=>2 | 19=>3 | n=>n⟩
theorem Tryz.laysM171:Go.Proofs.LaysM.n171 Tryz.prog Tryz.laysM171_ren:={
 mixed:=by kernel_rfl
 f129:=Tryz.func176.trans (congrArg some (by kernel_rfl))
 f171:=Tryz.func105.trans (congrArg some (by kernel_rfl))
 f243:=Tryz.func122.trans (congrArg some (by kernel_rfl))
 f246:=Tryz.func137.trans (congrArg some (by kernel_rfl))
 f283:=Tryz.func151.trans (congrArg some (by kernel_rfl))
 f284:=Tryz.func152.trans (congrArg some (by kernel_rfl))
 f285:=Tryz.func153.trans (congrArg some (by kernel_rfl))
 f286:=Tryz.func154.trans (congrArg some (by kernel_rfl))
 f317:=Tryz.func175.trans (congrArg some (by kernel_rfl))
 f318:=Tryz.func177.trans (congrArg some (by kernel_rfl))
 f319:=Tryz.func178.trans (congrArg some (by kernel_rfl))
 f320:=Tryz.func179.trans (congrArg some (by kernel_rfl))
 f337:=Tryz.func199.trans (congrArg some (by kernel_rfl))
 f338:=Tryz.func200.trans (congrArg some (by kernel_rfl))
 t0:=Tryz.underlying0
 a0:=Tryz.isAgg0
 z0:=Tryz.sizeOf0
 v0:=Tryz.zeroValue0
 t2:=Tryz.underlying2
 a2:=Tryz.isAgg2
 z2:=Tryz.sizeOf2
 v2:=Tryz.zeroValue2
 t3:=Tryz.underlying3
 a3:=Tryz.isAgg3
 z3:=Tryz.sizeOf3
 v3:=Tryz.zeroValue3
 t4:=Tryz.underlying4
 a4:=Tryz.isAgg4
 z4:=Tryz.sizeOf4
 v4:=Tryz.zeroValue4
 t5:=Tryz.underlying5
 a5:=Tryz.isAgg5
 z5:=Tryz.sizeOf5
 v5:=Tryz.zeroValue5
 t9:=Tryz.underlying9
 a9:=Tryz.isAgg9
 z9:=Tryz.sizeOf9
 v9:=Tryz.zeroValue9
 t20:=Tryz.underlying20
 a20:=Tryz.isAgg20
 z20:=Tryz.sizeOf20
 v20:=Tryz.zeroValue20
 t37:=Tryz.underlying123
 a37:=Tryz.isAgg123
 z37:=Tryz.sizeOf123
 v37:=Tryz.zeroValue123
 t46:=Tryz.underlying195
 a46:=Tryz.isAgg195
 z46:=Tryz.sizeOf195
 v46:=Tryz.zeroValue195
 t51:=Tryz.underlying102
 a51:=Tryz.isAgg102
 z51:=Tryz.sizeOf102
 v51:=Tryz.zeroValue102
 t53:=Tryz.underlying126
 a53:=Tryz.isAgg126
 z53:=Tryz.sizeOf126
 v53:=Tryz.zeroValue126
 t171:=Tryz.underlying187
 a171:=Tryz.isAgg187
 z171:=Tryz.sizeOf187
 v171:=Tryz.zeroValue187
 t173:=Tryz.underlying190
 a173:=Tryz.isAgg190
 z173:=Tryz.sizeOf190
 v173:=Tryz.zeroValue190
 t212:=Tryz.underlying202
 a212:=Tryz.isAgg202
 z212:=Tryz.sizeOf202
 v212:=Tryz.zeroValue202
 t213:=Tryz.underlying203
 a213:=Tryz.isAgg203
 z213:=Tryz.sizeOf203
 t232:=Tryz.underlying244
 a232:=Tryz.isAgg244
 z232:=Tryz.sizeOf244
 v232:=Tryz.zeroValue244
 t233:=Tryz.underlying245
 a233:=Tryz.isAgg245
 z233:=Tryz.sizeOf245
 v233:=Tryz.zeroValue245
 g17:=by kernel_rfl
 g18:=by kernel_rfl
 g19:=by kernel_rfl
 i0:=by kernel_rfl
 i2:=by kernel_rfl
 i3:=by kernel_rfl
 i4:=by kernel_rfl
 i5:=by kernel_rfl
 i9:=by kernel_rfl
 i20:=by kernel_rfl
 i37:=by kernel_rfl
 i46:=by kernel_rfl
 i51:=by kernel_rfl
 i53:=by kernel_rfl
 i171:=by kernel_rfl
 i173:=by kernel_rfl
 i212:=by kernel_rfl
 i232:=by kernel_rfl
 i233:=by kernel_rfl
 m17:=by kernel_rfl
 m18:=by kernel_rfl
 m19:=by kernel_rfl }
open Go.RowKit Go.Sort Go.Lib in
theorem Tryz.strconv_Itoa (n:Int) (h0:-9223372036854775808≤n) (h1:n≤9223372036854775807) (w:World) (htab:Lib.TabIs Tryz.prog w "internal/strconv.uint64pow10" .u64 Lib.pow10Tab) :
    Calls Tryz.prog 105 #[.int .i64 n] w fun e w'=>e=.returned (.string ⟨(Lib.itoa n).toArray⟩)∧∃ k os,w'=grow (w.drewN k) os:=Any.strconv_Itoa Tryz.laysM171 n h0 h1 w htab
def Tryz.laysM173_ren:Go.Shelf.Ren:=⟨fun | 173=>205 | 246=>137 | 283=>151 | 284=>152 | 285=>153 | 286=>154 | 129=>176 | 317=>175 | 318=>177 | 319=>178 | 320=>179 | 337=>199 | 338=>200 | n=>n,fun | 2=>2 | 3=>3 | 9=>9 | 4=>4 | 171=>187 | 0=>0 | 53=>126 | 37=>123 | 5=>5 | 173=>190 | 212=>202 | 51=>102 | 20=>20 | 213=>203 | 46=>195 | 232=>244 | 233=>245 | n=>n,fun | 17=>1 | 18=>2 | 19=>3 | n=>n⟩
theorem Tryz.laysM173:Go.Proofs.LaysM.n173 Tryz.prog Tryz.laysM173_ren:={
 mixed:=by kernel_rfl
 f129:=Tryz.func176.trans (congrArg some (by kernel_rfl))
 f173:=Tryz.func205.trans (congrArg some (by kernel_rfl))
 f246:=Tryz.func137.trans (congrArg some (by kernel_rfl))
 f283:=Tryz.func151.trans (congrArg some (by kernel_rfl))
 f284:=Tryz.func152.trans (congrArg some (by kernel_rfl))
 f285:=Tryz.func153.trans (congrArg some (by kernel_rfl))
 f286:=Tryz.func154.trans (congrArg some (by kernel_rfl))
 f317:=Tryz.func175.trans (congrArg some (by kernel_rfl))
 f318:=Tryz.func177.trans (congrArg some (by kernel_rfl))
 f319:=Tryz.func178.trans (congrArg some (by kernel_rfl))
 f320:=Tryz.func179.trans (congrArg some (by kernel_rfl))
 f337:=Tryz.func199.trans (congrArg some (by kernel_rfl))
 f338:=Tryz.func200.trans (congrArg some (by kernel_rfl))
 t0:=Tryz.underlying0
 a0:=Tryz.isAgg0
 z0:=Tryz.sizeOf0
 v0:=Tryz.zeroValue0
 t2:=Tryz.underlying2
 a2:=Tryz.isAgg2
 z2:=Tryz.sizeOf2
 v2:=Tryz.zeroValue2
 t3:=Tryz.underlying3
 a3:=Tryz.isAgg3
 z3:=Tryz.sizeOf3
 v3:=Tryz.zeroValue3
 t4:=Tryz.underlying4
 a4:=Tryz.isAgg4
 z4:=Tryz.sizeOf4
 v4:=Tryz.zeroValue4
 t5:=Tryz.underlying5
 a5:=Tryz.isAgg5
 z5:=Tryz.sizeOf5
 v5:=Tryz.zeroValue5
 t9:=Tryz.underlying9
 a9:=Tryz.isAgg9
 z9:=Tryz.sizeOf9
 v9:=Tryz.zeroValue9
 t20:=Tryz.underlying20
 a20:=Tryz.isAgg20
 z20:=Tryz.sizeOf20
 v20:=Tryz.zeroValue20
 t37:=Tryz.underlying123
 a37:=Tryz.isAgg123
 z37:=Tryz.sizeOf123
 v37:=Tryz.zeroValue123
 t46:=Tryz.underlying195
 a46:=Tryz.isAgg195
 z46:=Tryz.sizeOf195
 v46:=Tryz.zeroValue195
 t51:=Tryz.underlying102
 a51:=Tryz.isAgg102
 z51:=Tryz.sizeOf102
 v51:=Tryz.zeroValue102
 t53:=Tryz.underlying126
 a53:=Tryz.isAgg126
 z53:=Tryz.sizeOf126
 v53:=Tryz.zeroValue126
 t171:=Tryz.underlying187
 a171:=Tryz.isAgg187
 z171:=Tryz.sizeOf187
 v171:=Tryz.zeroValue187
 t173:=Tryz.underlying190
 a173:=Tryz.isAgg190
 z173:=Tryz.sizeOf190
 v173:=Tryz.zeroValue190
 t212:=Tryz.underlying202
 a212:=Tryz.isAgg202
 z212:=Tryz.sizeOf202
 v212:=Tryz.zeroValue202
 t213:=Tryz.underlying203
 a213:=Tryz.isAgg203
 z213:=Tryz.sizeOf203
 t232:=Tryz.underlying244
 a232:=Tryz.isAgg244
 z232:=Tryz.sizeOf244
 v232:=Tryz.zeroValue244
 t233:=Tryz.underlying245
 a233:=Tryz.isAgg245
 z233:=Tryz.sizeOf245
 v233:=Tryz.zeroValue245
 g17:=by kernel_rfl
 g18:=by kernel_rfl
 g19:=by kernel_rfl
 i0:=by kernel_rfl
 i2:=by kernel_rfl
 i3:=by kernel_rfl
 i4:=by kernel_rfl
 i5:=by kernel_rfl
 i9:=by kernel_rfl
 i20:=by kernel_rfl
 i37:=by kernel_rfl
 i46:=by kernel_rfl
 i51:=by kernel_rfl
 i53:=by kernel_rfl
 i171:=by kernel_rfl
 i173:=by kernel_rfl
 i212:=by kernel_rfl
 i232:=by kernel_rfl
 i233:=by kernel_rfl
 m17:=by kernel_rfl
 m18:=by kernel_rfl
 m19:=by kernel_rfl }
open Go.RowKit Go.Sort Go.Lib in
theorem Tryz.strconv_FormatInt_10 (n:Int) (h0:-9223372036854775808≤n) (h1:n≤9223372036854775807) (w:World) (htab:Lib.TabIs Tryz.prog w "internal/strconv.uint64pow10" .u64 Lib.pow10Tab) :
    Calls Tryz.prog 205 #[.int .i64 n,.int .i64 10] w fun e w'=>e=.returned (.string ⟨(Lib.itoa n).toArray⟩)∧∃ k os,w'=grow (w.drewN k) os:=Any.strconv_FormatInt_10 Tryz.laysM173 n h0 h1 w htab
def Tryz.laysC174_ren:Go.Shelf.Ren:=⟨fun | 174=>204 | 247=>219 | 245=>209 | 287=>208 | 279=>223 | 280=>224 | 281=>225 | 282=>226 | 321=>221 | 322=>222 | 316=>231 | 171=>105 | 205=>232 | 243=>122 | 246=>137 | 283=>151 | 284=>152 | 285=>153 | 286=>154 | 129=>176 | 317=>175 | 318=>177 | 319=>178 | 320=>179 | 337=>199 | 338=>200 | n=>n,fun | 9=>9 | 3=>3 | 2=>2 | 75=>216 | 85=>234 | 4=>4 | 167=>249 | 5=>5 | 53=>126 | 175=>217 | 46=>195 | 168=>251 | 37=>123 | 0=>0 | 210=>261 | 21=>21 | 127=>243 | 145=>266 | 143=>264 | 171=>187 | 173=>190 | 212=>202 | 51=>102 | 20=>20 | 213=>203 | 232=>244 | 233=>245 | 80=>161 | n=>n,fun | 15=>4 | 16=>5 | 17=>1 | 18=>2 | 19=>3 | n=>n⟩
theorem Tryz.laysC174:Go.Proofs.LaysC.n174 Tryz.prog Tryz.laysC174_ren:={
 mixed:=by kernel_rfl
 f129:=Tryz.func176.trans (congrArg some (by kernel_rfl))
 f171:=Tryz.func105.trans (congrArg some (by kernel_rfl))
 f174:=Tryz.func204.trans (congrArg some (by kernel_rfl))
 f205:=Tryz.func232.trans (congrArg some (by kernel_rfl))
 f243:=Tryz.func122.trans (congrArg some (by kernel_rfl))
 f245:=Tryz.func209.trans (congrArg some (by kernel_rfl))
 f246:=Tryz.func137.trans (congrArg some (by kernel_rfl))
 f247:=Tryz.func219.trans (congrArg some (by kernel_rfl))
 f279:=Tryz.func223.trans (congrArg some (by kernel_rfl))
 f280:=Tryz.func224.trans (congrArg some (by kernel_rfl))
 f281:=Tryz.func225.trans (congrArg some (by kernel_rfl))
 f282:=Tryz.func226.trans (congrArg some (by kernel_rfl))
 f283:=Tryz.func151.trans (congrArg some (by kernel_rfl))
 f284:=Tryz.func152.trans (congrArg some (by kernel_rfl))
 f285:=Tryz.func153.trans (congrArg some (by kernel_rfl))
 f286:=Tryz.func154.trans (congrArg some (by kernel_rfl))
 f287:=Tryz.func208.trans (congrArg some (by kernel_rfl))
 f316:=Tryz.func231.trans (congrArg some (by kernel_rfl))
 f317:=Tryz.func175.trans (congrArg some (by kernel_rfl))
 f318:=Tryz.func177.trans (congrArg some (by kernel_rfl))
 f319:=Tryz.func178.trans (congrArg some (by kernel_rfl))
 f320:=Tryz.func179.trans (congrArg some (by kernel_rfl))
 f321:=Tryz.func221.trans (congrArg some (by kernel_rfl))
 f322:=Tryz.func222.trans (congrArg some (by kernel_rfl))
 f337:=Tryz.func199.trans (congrArg some (by kernel_rfl))
 f338:=Tryz.func200.trans (congrArg some (by kernel_rfl))
 t0:=Tryz.underlying0
 a0:=Tryz.isAgg0
 z0:=Tryz.sizeOf0
 v0:=Tryz.zeroValue0
 t2:=Tryz.underlying2
 a2:=Tryz.isAgg2
 z2:=Tryz.sizeOf2
 v2:=Tryz.zeroValue2
 t3:=Tryz.underlying3
 a3:=Tryz.isAgg3
 z3:=Tryz.sizeOf3
 v3:=Tryz.zeroValue3
 t4:=Tryz.underlying4
 a4:=Tryz.isAgg4
 z4:=Tryz.sizeOf4
 v4:=Tryz.zeroValue4
 t5:=Tryz.underlying5
 a5:=Tryz.isAgg5
 z5:=Tryz.sizeOf5
 v5:=Tryz.zeroValue5
 t9:=Tryz.underlying9
 a9:=Tryz.isAgg9
 z9:=Tryz.sizeOf9
 v9:=Tryz.zeroValue9
 t20:=Tryz.underlying20
 a20:=Tryz.isAgg20
 z20:=Tryz.sizeOf20
 v20:=Tryz.zeroValue20
 t21:=Tryz.underlying21
 a21:=Tryz.isAgg21
 z21:=Tryz.sizeOf21
 v21:=Tryz.zeroValue21
 t37:=Tryz.underlying123
 a37:=Tryz.isAgg123
 z37:=Tryz.sizeOf123
 v37:=Tryz.zeroValue123
 t46:=Tryz.underlying195
 a46:=Tryz.isAgg195
 z46:=Tryz.sizeOf195
 v46:=Tryz.zeroValue195
 t51:=Tryz.underlying102
 a51:=Tryz.isAgg102
 z51:=Tryz.sizeOf102
 v51:=Tryz.zeroValue102
 t53:=Tryz.underlying126
 a53:=Tryz.isAgg126
 z53:=Tryz.sizeOf126
 v53:=Tryz.zeroValue126
 t75:=Tryz.underlying216
 a75:=Tryz.isAgg216
 z75:=Tryz.sizeOf216
 v75:=Tryz.zeroValue216
 t85:=Tryz.underlying234
 a85:=Tryz.isAgg234
 z85:=Tryz.sizeOf234
 v85:=Tryz.zeroValue234
 t127:=Tryz.underlying243
 a127:=Tryz.isAgg243
 z127:=Tryz.sizeOf243
 v127:=Tryz.zeroValue243
 t143:=Tryz.underlying264
 a143:=Tryz.isAgg264
 z143:=Tryz.sizeOf264
 v143:=Tryz.zeroValue264
 t145:=Tryz.underlying266
 a145:=Tryz.isAgg266
 z145:=Tryz.sizeOf266
 v145:=Tryz.zeroValue266
 t167:=Tryz.underlying249
 a167:=Tryz.isAgg249
 z167:=Tryz.sizeOf249
 v167:=Tryz.zeroValue249
 t168:=Tryz.underlying251
 a168:=Tryz.isAgg251
 z168:=Tryz.sizeOf251
 v168:=Tryz.zeroValue251
 t171:=Tryz.underlying187
 a171:=Tryz.isAgg187
 z171:=Tryz.sizeOf187
 v171:=Tryz.zeroValue187
 t173:=Tryz.underlying190
 a173:=Tryz.isAgg190
 z173:=Tryz.sizeOf190
 v173:=Tryz.zeroValue190
 t175:=Tryz.underlying217
 a175:=Tryz.isAgg217
 z175:=Tryz.sizeOf217
 v175:=Tryz.zeroValue217
 t210:=Tryz.underlying261
 a210:=Tryz.isAgg261
 z210:=Tryz.sizeOf261
 v210:=Tryz.zeroValue261
 t212:=Tryz.underlying202
 a212:=Tryz.isAgg202
 z212:=Tryz.sizeOf202
 v212:=Tryz.zeroValue202
 t213:=Tryz.underlying203
 a213:=Tryz.isAgg203
 z213:=Tryz.sizeOf203
 t232:=Tryz.underlying244
 a232:=Tryz.isAgg244
 z232:=Tryz.sizeOf244
 v232:=Tryz.zeroValue244
 t233:=Tryz.underlying245
 a233:=Tryz.isAgg245
 z233:=Tryz.sizeOf245
 v233:=Tryz.zeroValue245
 g15:=by kernel_rfl
 g16:=by kernel_rfl
 g17:=by kernel_rfl
 g18:=by kernel_rfl
 g19:=by kernel_rfl
 t80:=Tryz.underlying161
 a80:=Tryz.isAgg161
 z80:=Tryz.sizeOf161
 v80:=Tryz.zeroValue161
 i0:=by kernel_rfl
 i2:=by kernel_rfl
 i3:=by kernel_rfl
 i4:=by kernel_rfl
 i5:=by kernel_rfl
 i9:=by kernel_rfl
 i20:=by kernel_rfl
 i21:=by kernel_rfl
 i37:=by kernel_rfl
 i46:=by kernel_rfl
 i51:=by kernel_rfl
 i53:=by kernel_rfl
 i75:=by kernel_rfl
 i80:=by kernel_rfl
 i85:=by kernel_rfl
 i127:=by kernel_rfl
 i143:=by kernel_rfl
 i145:=by kernel_rfl
 i167:=by kernel_rfl
 i168:=by kernel_rfl
 i171:=by kernel_rfl
 i173:=by kernel_rfl
 i175:=by kernel_rfl
 i210:=by kernel_rfl
 i212:=by kernel_rfl
 i232:=by kernel_rfl
 i233:=by kernel_rfl
 m15:=by kernel_rfl
 m16:=by kernel_rfl
 m17:=by kernel_rfl
 m18:=by kernel_rfl
 m19:=by kernel_rfl
 c0:=by kernel_rfl
 c2:=by kernel_rfl
 c3:=by kernel_rfl
 c4:=by kernel_rfl
 c5:=by kernel_rfl
 c9:=by kernel_rfl
 c20:=by kernel_rfl
 c21:=by kernel_rfl
 c37:=by kernel_rfl
 c46:=by kernel_rfl
 c51:=by kernel_rfl
 c53:=by kernel_rfl
 c75:=by kernel_rfl
 c80:=by kernel_rfl
 c85:=by kernel_rfl
 c127:=by kernel_rfl
 c143:=by kernel_rfl
 c145:=by kernel_rfl
 c167:=by kernel_rfl
 c168:=by kernel_rfl
 c171:=by kernel_rfl
 c173:=by kernel_rfl
 c175:=by kernel_rfl
 c210:=by kernel_rfl
 c212:=by kernel_rfl
 c213:=by kernel_rfl
 c232:=by kernel_rfl
 c233:=by kernel_rfl }
open Go.RowKit in
theorem Tryz.strconv_ParseInt_10_at64_ok (s:ByteArray) (hmax:s.size≤9223372036854775806) (v:Int) (h:Lib.parseIntB 64 s.data.toList=.ok v) (w:World) :
    Calls Tryz.prog 204 #[.string s,.int .i64 10,.int .i64 64] w fun e w'=>e=.returned (.tuple #[.int .i64 v,.nilIface])∧(w'=w∨∃ t,w'=Lib.bytesWorld w 5 t):=Any.strconv_ParseInt_10_at64_ok Tryz.laysC174 s hmax v h w
def Tryz.laysPu14_ren:Go.Shelf.Ren:=⟨fun | 14=>192 | 16=>208 | 17=>209 | 19=>221 | 20=>222 | 21=>223 | 22=>224 | 23=>225 | 24=>226 | 25=>231 | 27=>105 | 26=>232 | 28=>122 | 29=>137 | 30=>151 | 31=>152 | 32=>153 | 33=>154 | 35=>176 | 34=>175 | 36=>177 | 37=>178 | 38=>179 | 39=>199 | 40=>200 | n=>n,fun | 9=>9 | 3=>3 | 22=>126 | 24=>216 | 25=>217 | 4=>4 | 34=>249 | 5=>5 | 36=>195 | 37=>123 | 0=>0 | 39=>251 | 21=>21 | 44=>261 | 47=>243 | 50=>266 | 48=>264 | 2=>2 | 52=>187 | 55=>190 | 59=>202 | 60=>102 | 20=>20 | 61=>203 | 65=>244 | 66=>245 | 67=>161 | n=>n,fun | 0=>4 | 1=>5 | 2=>1 | 3=>2 | 4=>3 | n=>n⟩
theorem Tryz.laysPu14:Go.Proofs.LaysPu.n14 Tryz.prog Tryz.laysPu14_ren:={
 mixed:=by kernel_rfl
 f14:=Tryz.func192.trans (congrArg some (by kernel_rfl))
 f16:=Tryz.func208.trans (congrArg some (by kernel_rfl))
 f17:=Tryz.func209.trans (congrArg some (by kernel_rfl))
 f19:=Tryz.func221.trans (congrArg some (by kernel_rfl))
 f20:=Tryz.func222.trans (congrArg some (by kernel_rfl))
 f21:=Tryz.func223.trans (congrArg some (by kernel_rfl))
 f22:=Tryz.func224.trans (congrArg some (by kernel_rfl))
 f23:=Tryz.func225.trans (congrArg some (by kernel_rfl))
 f24:=Tryz.func226.trans (congrArg some (by kernel_rfl))
 f25:=Tryz.func231.trans (congrArg some (by kernel_rfl))
 f26:=Tryz.func232.trans (congrArg some (by kernel_rfl))
 f27:=Tryz.func105.trans (congrArg some (by kernel_rfl))
 f28:=Tryz.func122.trans (congrArg some (by kernel_rfl))
 f29:=Tryz.func137.trans (congrArg some (by kernel_rfl))
 f30:=Tryz.func151.trans (congrArg some (by kernel_rfl))
 f31:=Tryz.func152.trans (congrArg some (by kernel_rfl))
 f32:=Tryz.func153.trans (congrArg some (by kernel_rfl))
 f33:=Tryz.func154.trans (congrArg some (by kernel_rfl))
 f34:=Tryz.func175.trans (congrArg some (by kernel_rfl))
 f35:=Tryz.func176.trans (congrArg some (by kernel_rfl))
 f36:=Tryz.func177.trans (congrArg some (by kernel_rfl))
 f37:=Tryz.func178.trans (congrArg some (by kernel_rfl))
 f38:=Tryz.func179.trans (congrArg some (by kernel_rfl))
 f39:=Tryz.func199.trans (congrArg some (by kernel_rfl))
 f40:=Tryz.func200.trans (congrArg some (by kernel_rfl))
 t0:=Tryz.underlying0
 a0:=Tryz.isAgg0
 z0:=Tryz.sizeOf0
 v0:=Tryz.zeroValue0
 i0:=by kernel_rfl
 t2:=Tryz.underlying2
 a2:=Tryz.isAgg2
 z2:=Tryz.sizeOf2
 v2:=Tryz.zeroValue2
 i2:=by kernel_rfl
 t3:=Tryz.underlying3
 a3:=Tryz.isAgg3
 z3:=Tryz.sizeOf3
 v3:=Tryz.zeroValue3
 i3:=by kernel_rfl
 t4:=Tryz.underlying4
 a4:=Tryz.isAgg4
 z4:=Tryz.sizeOf4
 v4:=Tryz.zeroValue4
 i4:=by kernel_rfl
 t5:=Tryz.underlying5
 a5:=Tryz.isAgg5
 z5:=Tryz.sizeOf5
 v5:=Tryz.zeroValue5
 i5:=by kernel_rfl
 t9:=Tryz.underlying9
 a9:=Tryz.isAgg9
 z9:=Tryz.sizeOf9
 v9:=Tryz.zeroValue9
 i9:=by kernel_rfl
 t20:=Tryz.underlying20
 a20:=Tryz.isAgg20
 z20:=Tryz.sizeOf20
 v20:=Tryz.zeroValue20
 i20:=by kernel_rfl
 t21:=Tryz.underlying21
 a21:=Tryz.isAgg21
 z21:=Tryz.sizeOf21
 v21:=Tryz.zeroValue21
 i21:=by kernel_rfl
 t22:=Tryz.underlying126
 a22:=Tryz.isAgg126
 z22:=Tryz.sizeOf126
 v22:=Tryz.zeroValue126
 i22:=by kernel_rfl
 t24:=Tryz.underlying216
 a24:=Tryz.isAgg216
 z24:=Tryz.sizeOf216
 v24:=Tryz.zeroValue216
 i24:=by kernel_rfl
 t25:=Tryz.underlying217
 a25:=Tryz.isAgg217
 z25:=Tryz.sizeOf217
 v25:=Tryz.zeroValue217
 i25:=by kernel_rfl
 t34:=Tryz.underlying249
 a34:=Tryz.isAgg249
 z34:=Tryz.sizeOf249
 v34:=Tryz.zeroValue249
 i34:=by kernel_rfl
 c34:=by kernel_rfl
 t36:=Tryz.underlying195
 a36:=Tryz.isAgg195
 z36:=Tryz.sizeOf195
 v36:=Tryz.zeroValue195
 i36:=by kernel_rfl
 t37:=Tryz.underlying123
 a37:=Tryz.isAgg123
 z37:=Tryz.sizeOf123
 v37:=Tryz.zeroValue123
 i37:=by kernel_rfl
 t39:=Tryz.underlying251
 a39:=Tryz.isAgg251
 z39:=Tryz.sizeOf251
 v39:=Tryz.zeroValue251
 i39:=by kernel_rfl
 t44:=Tryz.underlying261
 a44:=Tryz.isAgg261
 z44:=Tryz.sizeOf261
 v44:=Tryz.zeroValue261
 i44:=by kernel_rfl
 t47:=Tryz.underlying243
 a47:=Tryz.isAgg243
 z47:=Tryz.sizeOf243
 v47:=Tryz.zeroValue243
 i47:=by kernel_rfl
 t48:=Tryz.underlying264
 a48:=Tryz.isAgg264
 z48:=Tryz.sizeOf264
 v48:=Tryz.zeroValue264
 i48:=by kernel_rfl
 t50:=Tryz.underlying266
 a50:=Tryz.isAgg266
 z50:=Tryz.sizeOf266
 v50:=Tryz.zeroValue266
 i50:=by kernel_rfl
 t52:=Tryz.underlying187
 a52:=Tryz.isAgg187
 z52:=Tryz.sizeOf187
 v52:=Tryz.zeroValue187
 i52:=by kernel_rfl
 t55:=Tryz.underlying190
 a55:=Tryz.isAgg190
 z55:=Tryz.sizeOf190
 v55:=Tryz.zeroValue190
 i55:=by kernel_rfl
 t59:=Tryz.underlying202
 a59:=Tryz.isAgg202
 z59:=Tryz.sizeOf202
 v59:=Tryz.zeroValue202
 i59:=by kernel_rfl
 t60:=Tryz.underlying102
 a60:=Tryz.isAgg102
 z60:=Tryz.sizeOf102
 v60:=Tryz.zeroValue102
 i60:=by kernel_rfl
 t61:=Tryz.underlying203
 a61:=Tryz.isAgg203
 z61:=Tryz.sizeOf203
 t65:=Tryz.underlying244
 a65:=Tryz.isAgg244
 z65:=Tryz.sizeOf244
 v65:=Tryz.zeroValue244
 i65:=by kernel_rfl
 t66:=Tryz.underlying245
 a66:=Tryz.isAgg245
 z66:=Tryz.sizeOf245
 v66:=Tryz.zeroValue245
 i66:=by kernel_rfl
 t67:=Tryz.underlying161
 a67:=Tryz.isAgg161
 z67:=Tryz.sizeOf161
 v67:=Tryz.zeroValue161
 i67:=by kernel_rfl
 g0:=by kernel_rfl
 m0:=by kernel_rfl
 g1:=by kernel_rfl
 m1:=by kernel_rfl
 g2:=by kernel_rfl
 m2:=by kernel_rfl
 g3:=by kernel_rfl
 m3:=by kernel_rfl
 g4:=by kernel_rfl
 m4:=by kernel_rfl }
open Go.RowKit in
theorem Tryz.strconv_ParseUint_10_at32_ok (s:ByteArray) (hmax:s.size≤9223372036854775806) (u:Nat) (h:Lib.parseUintB 32 s.data.toList=.ok u) (w:World) :
    Calls Tryz.prog 192 #[.string s,.int .i64 10,.int .i64 32] w fun e w'=>e=.returned (.tuple #[.int .u64 u,.nilIface])∧(w'=w∨w'=Lib.bytesWorld w 5 s):=Any.strconv_ParseUint_10_at32_ok Tryz.laysPu14 s hmax u h w
def Tryz.lays145_ren:Go.Shelf.Ren:=⟨fun | 145=>118 | 220=>133 | 219=>146 | 217=>165 | 225=>166 | 224=>167 | 267=>168 | 266=>189 | 314=>190 | n=>n,fun | 9=>9 | 4=>4 | 59=>96 | 3=>3 | 5=>5 | 46=>195 | 146=>212 | 51=>102 | n=>n,fun | 1=>0 | n=>n⟩
theorem Tryz.lays145:Go.Proofs.Lays.n145 Tryz.prog Tryz.lays145_ren:={
 mixed:=by kernel_rfl
 f145:=Tryz.func118.trans (congrArg some (by kernel_rfl))
 f217:=Tryz.func165.trans (congrArg some (by kernel_rfl))
 f219:=Tryz.func146.trans (congrArg some (by kernel_rfl))
 f220:=Tryz.func133.trans (congrArg some (by kernel_rfl))
 f224:=Tryz.func167.trans (congrArg some (by kernel_rfl))
 f225:=Tryz.func166.trans (congrArg some (by kernel_rfl))
 f266:=Tryz.func189.trans (congrArg some (by kernel_rfl))
 f267:=Tryz.func168.trans (congrArg some (by kernel_rfl))
 f314:=Tryz.func190.trans (congrArg some (by kernel_rfl))
 t3:=Tryz.underlying3
 a3:=Tryz.isAgg3
 z3:=Tryz.sizeOf3
 v3:=Tryz.zeroValue3
 t4:=Tryz.underlying4
 a4:=Tryz.isAgg4
 z4:=Tryz.sizeOf4
 v4:=Tryz.zeroValue4
 t5:=Tryz.underlying5
 a5:=Tryz.isAgg5
 z5:=Tryz.sizeOf5
 v5:=Tryz.zeroValue5
 t9:=Tryz.underlying9
 a9:=Tryz.isAgg9
 z9:=Tryz.sizeOf9
 v9:=Tryz.zeroValue9
 t46:=Tryz.underlying195
 a46:=Tryz.isAgg195
 z46:=Tryz.sizeOf195
 v46:=Tryz.zeroValue195
 t51:=Tryz.underlying102
 a51:=Tryz.isAgg102
 z51:=Tryz.sizeOf102
 v51:=Tryz.zeroValue102
 t59:=Tryz.underlying96
 a59:=Tryz.isAgg96
 z59:=Tryz.sizeOf96
 v59:=Tryz.zeroValue96
 t146:=Tryz.underlying212
 a146:=Tryz.isAgg212
 z146:=Tryz.sizeOf212
 v146:=Tryz.zeroValue212
 g1:=by kernel_rfl }
open Go.RowKit Go.Lib in
theorem Tryz.strings_Cut (s sep:ByteArray) (m:Int) (w:World) (hs:s.size < 4294967281) (hm:w.cell? ⟨0,0,none⟩=some (.int .i64 m)) :
    Calls Tryz.prog 118 #[.string s,.string sep] w fun e w'=>e=.returned (.tuple #[.string ⟨(Lib.cut s.data.toList sep.data.toList).1.toArray⟩,.string ⟨(Lib.cut s.data.toList sep.data.toList).2.1.toArray⟩,.bool (Lib.cut s.data.toList sep.data.toList).2.2])∧∃ n,w'=w.drewN n:=Any.strings_Cut Tryz.lays145 s sep m w hs hm
def Tryz.laysM145_ren:Go.Shelf.Ren:=⟨fun | 145=>118 | 220=>133 | 219=>146 | 217=>165 | 225=>166 | 224=>167 | 267=>168 | 266=>189 | 314=>190 | n=>n,fun | 9=>9 | 4=>4 | 59=>96 | 3=>3 | 5=>5 | 46=>195 | 146=>212 | 51=>102 | n=>n,fun | 1=>0 | n=>n⟩
theorem Tryz.laysM145:Go.Proofs.LaysM.n145 Tryz.prog Tryz.laysM145_ren:={
 mixed:=by kernel_rfl
 f145:=Tryz.func118.trans (congrArg some (by kernel_rfl))
 f217:=Tryz.func165.trans (congrArg some (by kernel_rfl))
 f219:=Tryz.func146.trans (congrArg some (by kernel_rfl))
 f220:=Tryz.func133.trans (congrArg some (by kernel_rfl))
 f224:=Tryz.func167.trans (congrArg some (by kernel_rfl))
 f225:=Tryz.func166.trans (congrArg some (by kernel_rfl))
 f266:=Tryz.func189.trans (congrArg some (by kernel_rfl))
 f267:=Tryz.func168.trans (congrArg some (by kernel_rfl))
 f314:=Tryz.func190.trans (congrArg some (by kernel_rfl))
 t3:=Tryz.underlying3
 a3:=Tryz.isAgg3
 z3:=Tryz.sizeOf3
 v3:=Tryz.zeroValue3
 t4:=Tryz.underlying4
 a4:=Tryz.isAgg4
 z4:=Tryz.sizeOf4
 v4:=Tryz.zeroValue4
 t5:=Tryz.underlying5
 a5:=Tryz.isAgg5
 z5:=Tryz.sizeOf5
 v5:=Tryz.zeroValue5
 t9:=Tryz.underlying9
 a9:=Tryz.isAgg9
 z9:=Tryz.sizeOf9
 v9:=Tryz.zeroValue9
 t46:=Tryz.underlying195
 a46:=Tryz.isAgg195
 z46:=Tryz.sizeOf195
 v46:=Tryz.zeroValue195
 t51:=Tryz.underlying102
 a51:=Tryz.isAgg102
 z51:=Tryz.sizeOf102
 v51:=Tryz.zeroValue102
 t59:=Tryz.underlying96
 a59:=Tryz.isAgg96
 z59:=Tryz.sizeOf96
 v59:=Tryz.zeroValue96
 t146:=Tryz.underlying212
 a146:=Tryz.isAgg212
 z146:=Tryz.sizeOf212
 v146:=Tryz.zeroValue212
 g1:=by kernel_rfl
 i3:=by kernel_rfl
 i4:=by kernel_rfl
 i5:=by kernel_rfl
 i9:=by kernel_rfl
 i46:=by kernel_rfl
 i51:=by kernel_rfl
 i59:=by kernel_rfl
 i146:=by kernel_rfl
 m1:=by kernel_rfl
 s1_3:=fun w h=>Go.Proofs.cell_of_shapedOpen_int (zero:=#[.int .i64 0]) (t:=3) h (of_decide_eq_true (by kernel_rfl)) (by kernel_rfl) rfl (by kernel_rfl) (by kernel_rfl) Tryz.underlying3 }
def Tryz.lays105_ren:Go.Shelf.Ren:=⟨fun | 105=>196 | 212=>213 | 99=>214 | 165=>215 | 166=>195 | 170=>216 | 169=>197 | 263=>228 | 264=>229 | 206=>191 | 240=>212 | 241=>230 | 276=>227 | 277=>233 | n=>n,fun | 9=>9 | 3=>3 | 4=>4 | 20=>20 | 0=>0 | 46=>195 | 109=>240 | 5=>5 | 72=>221 | 76=>226 | 51=>102 | 146=>212 | 53=>126 | 148=>257 | 70=>219 | 37=>123 | 75=>216 | 127=>243 | 164=>254 | 80=>161 | n=>n,fun | n=>n⟩
theorem Tryz.lays105:Go.Proofs.Lays.n105 Tryz.prog Tryz.lays105_ren:={
 mixed:=by kernel_rfl
 f99:=Tryz.func214.trans (congrArg some (by kernel_rfl))
 f105:=Tryz.func196.trans (congrArg some (by kernel_rfl))
 f165:=Tryz.func215.trans (congrArg some (by kernel_rfl))
 f166:=Tryz.func195.trans (congrArg some (by kernel_rfl))
 f169:=Tryz.func197.trans (congrArg some (by kernel_rfl))
 f170:=Tryz.func216.trans (congrArg some (by kernel_rfl))
 f206:=Tryz.func191.trans (congrArg some (by kernel_rfl))
 f212:=Tryz.func213.trans (congrArg some (by kernel_rfl))
 f240:=Tryz.func212.trans (congrArg some (by kernel_rfl))
 f241:=Tryz.func230.trans (congrArg some (by kernel_rfl))
 f263:=Tryz.func228.trans (congrArg some (by kernel_rfl))
 f264:=Tryz.func229.trans (congrArg some (by kernel_rfl))
 f276:=Tryz.func227.trans (congrArg some (by kernel_rfl))
 f277:=Tryz.func233.trans (congrArg some (by kernel_rfl))
 t0:=Tryz.underlying0
 a0:=Tryz.isAgg0
 z0:=Tryz.sizeOf0
 v0:=Tryz.zeroValue0
 t3:=Tryz.underlying3
 a3:=Tryz.isAgg3
 z3:=Tryz.sizeOf3
 v3:=Tryz.zeroValue3
 t4:=Tryz.underlying4
 a4:=Tryz.isAgg4
 z4:=Tryz.sizeOf4
 v4:=Tryz.zeroValue4
 t5:=Tryz.underlying5
 a5:=Tryz.isAgg5
 z5:=Tryz.sizeOf5
 v5:=Tryz.zeroValue5
 t9:=Tryz.underlying9
 a9:=Tryz.isAgg9
 z9:=Tryz.sizeOf9
 v9:=Tryz.zeroValue9
 t20:=Tryz.underlying20
 a20:=Tryz.isAgg20
 z20:=Tryz.sizeOf20
 v20:=Tryz.zeroValue20
 t37:=Tryz.underlying123
 a37:=Tryz.isAgg123
 z37:=Tryz.sizeOf123
 v37:=Tryz.zeroValue123
 t46:=Tryz.underlying195
 a46:=Tryz.isAgg195
 z46:=Tryz.sizeOf195
 v46:=Tryz.zeroValue195
 t51:=Tryz.underlying102
 a51:=Tryz.isAgg102
 z51:=Tryz.sizeOf102
 v51:=Tryz.zeroValue102
 t53:=Tryz.underlying126
 a53:=Tryz.isAgg126
 z53:=Tryz.sizeOf126
 v53:=Tryz.zeroValue126
 t70:=Tryz.underlying219
 a70:=Tryz.isAgg219
 z70:=Tryz.sizeOf219
 v70:=Tryz.zeroValue219
 t72:=Tryz.underlying221
 a72:=Tryz.isAgg221
 z72:=Tryz.sizeOf221
 v72:=Tryz.zeroValue221
 t75:=Tryz.underlying216
 a75:=Tryz.isAgg216
 z75:=Tryz.sizeOf216
 v75:=Tryz.zeroValue216
 t76:=Tryz.underlying226
 a76:=Tryz.isAgg226
 z76:=Tryz.sizeOf226
 v76:=Tryz.zeroValue226
 t109:=Tryz.underlying240
 a109:=Tryz.isAgg240
 z109:=Tryz.sizeOf240
 v109:=Tryz.zeroValue240
 t127:=Tryz.underlying243
 a127:=Tryz.isAgg243
 z127:=Tryz.sizeOf243
 v127:=Tryz.zeroValue243
 t146:=Tryz.underlying212
 a146:=Tryz.isAgg212
 z146:=Tryz.sizeOf212
 v146:=Tryz.zeroValue212
 t148:=Tryz.underlying257
 a148:=Tryz.isAgg257
 z148:=Tryz.sizeOf257
 v148:=Tryz.zeroValue257
 t164:=Tryz.underlying254
 a164:=Tryz.isAgg254
 z164:=Tryz.sizeOf254
 v164:=Tryz.zeroValue254 }
theorem Tryz.Builder_Extra_105:Builder.Extra Tryz.prog Tryz.lays105_ren:={
 sizeBuilder:=by kernel_rfl
 liesBuilder:=by kernel_rfl
 t5:=Tryz.underlying5
 a5:=Tryz.isAgg5
 z5:=Tryz.sizeOf5
 v5:=Tryz.zeroValue5
 infoByte:=by kernel_rfl
 cellsByte:=by kernel_rfl
 sizeByte:=by kernel_rfl
 neB5:=by decide }
open Go.RowKit Go.Lib in
theorem Tryz.strings_Repeat (s:ByteArray) (c:Nat) (w:World) (hc:c≤9223372036854775807) (hlen:s.size*c≤140737488355328) :
    Calls Tryz.prog 196 #[.string s,.int .i64 c] w fun e w'=>e=.returned (.string ⟨(Lib.repeatL s.data.toList c).toArray⟩)∧Below w.heap.size w w':=Any.strings_Repeat Tryz.lays105 Tryz.Builder_Extra_105 s c w hc hlen
end Go.Proofs
namespace Go.Proofs
open Go.Shelf Go.RowKit
theorem Tryz.WriteString_k (B b:Nat) (bs:List Value) (s:ByteArray) (w:World) (h:Lib.IsBuilderF 221 5 B b bs w) (hlen:bs.length+s.size≤140737488355328) (hBw:B≤w.heap.size) :
    Calls Tryz.prog 195 #[.pointer (some ⟨b,0,none⟩),.string s] w fun e w'=>e=.returned (.tuple #[.int .i64 s.size,.nilIface])∧(Lib.BuilderAtF 221 5 B b (.pointer (some ⟨b,0,none⟩)) (bs++Lib.strCells s) w'∧Below B w w'∧Lib.OthersKept 5 (some b) w w'):=Any.Builder_WriteString_k { Tryz.lays105 with } Tryz.Builder_Extra_105 B b bs s w h hlen hBw
end Go.Proofs
namespace Go.Proofs
open Go.Shelf Go.RowKit Go.Sort Go.Lib
set_option maxHeartbeats 6400000 in
set_option maxRecDepth 100000 in
theorem Tryz.internal_FormatUint (u:Nat) (h1:u < 18446744073709551616) (w:World)
    (htab:Lib.TabIs Tryz.prog w "internal/strconv.uint64pow10" .u64 Lib.pow10Tab) :
    Calls Tryz.prog 211 #[.int .u64 u,.int .i64 10] w fun e w'=>e=.returned (.string ⟨(Lib.decDigits u).toArray⟩)∧∃ k os,w'=grow (w.drewN k) os:=by
 by_cases hs:u < 100
 · go_enter Tryz.func211,Tryz.ntmps211
   go_wp2_with (go_at_call 151; refine (Tryz.internal_strconv_small u hs _).mono ?_; rintro e w' ⟨rfl,rfl⟩)
   go_ret
   exact ⟨rfl,0,#[],by simp [World.drewN_zero]⟩
 · have hu1:1≤u:=by omega
   have hnd20:Lib.nDigits u≤20:=by have:=Lib.numDigits_eq u hu1 h1; split at this <;> omega
   have hal:Tryz.prog.arrayLen 187=24:=by kernel_rfl
   have hsl1:∀ W,(Instr.sliceAt 187 (.pointer (some ⟨w.heap.size,0,none⟩)) none (some (.int .i64 (Lib.nDigits u:Int))) none).run Tryz.prog W=.ok (.slice (some ⟨w.heap.size,0,none⟩) (Lib.nDigits u) 24) W:=fun W=>by
    rw [run_sliceAt_array_h W 187 ⟨w.heap.size,0,none⟩ (by kernel_rfl) .i64 (Lib.nDigits u:Int) (by omega) (by rw [hal]; omega)]
    go_simp
   have hH0:Holds (fun (b:UInt8)=>Value.int .u8 (b.toNat:Int)) (w.alloc (.cells Lib.zeros24 187)) w.heap.size 0 (Array.replicate (Lib.nDigits u) 0):=fun j hj=>by
    have hj':j < Lib.nDigits u:=by simpa using hj
    refine ⟨?_,World.frozen?_alloc_new _ _ _ _⟩
    rw [World.cell?_alloc_new,Lib.zeros24_at _ (by omega),getElem!_pos _ j hj]
    simp
   have hfmt:=Tryz.internal_strconv_formatBase10 w.heap.size 0 24 u (Array.replicate (Lib.nDigits u) 0) (w.alloc (.cells Lib.zeros24 187)) hH0 (by rw [Array.size_replicate]; exact Lib.lt_pow_nDigits u) h1 (by rw [Array.size_replicate]; omega)
   rw [Array.size_replicate] at hfmt
   have HH0:=Lib.hid hH0
   clear hH0 hal
   go_enter Tryz.func211,Tryz.ntmps211
   go_wp2_with (go_at_call 152; refine (Tryz.internal_strconv_numDigits u hu1 h1 _ (Lib.tabIs_alloc htab _)).mono ?_; rintro e w' ⟨rfl,rfl⟩)
   go_at_call 153
   refine hfmt.mono ?_
   rintro e w' ⟨rfl,k,v',dk,rfl,hF⟩
   have hcv:(convert 123 9 (.slice (some ⟨w.heap.size,0,none⟩) (Lib.nDigits u) 24)).run Tryz.prog ((putRow (fun (b:UInt8)=>Value.int .u8 (b.toNat:Int)) (w.alloc (.cells Lib.zeros24 187)) w.heap.size 0 dk).drewN k)=.ok (.string ⟨(Lib.decDigits u).toArray⟩) ((putRow (fun (b:UInt8)=>Value.int .u8 (b.toNat:Int)) (w.alloc (.cells Lib.zeros24 187)) w.heap.size 0 dk).drewN k):=by
    have h:=run_convert_bytes_back (P:=Tryz.prog) ((putRow (fun (b:UInt8)=>Value.int .u8 (b.toNat:Int)) (w.alloc (.cells Lib.zeros24 187)) w.heap.size 0 dk).drewN k) 123 9 5 ⟨w.heap.size,0,none⟩ 24 (Lib.decDigits u) (by kernel_rfl) (by kernel_rfl) (by kernel_rfl) (fun j hj=>by
     rw [Lib.row_is_numeral hF j hj,Lib.add_plain,World.cell?_drewN]
     exact cell?_putRow (fun (b:UInt8)=>Value.int .u8 (b.toNat:Int)) _ w.heap.size 0 _ dk HH0.out (by rw [hF.size,Array.size_replicate]) j (by rw [hF.size]; rw [Lib.decDigits_length] at hj; exact hj))
    rw [Lib.decDigits_length] at h
    exact h
   go_wp2
   go_ret
   obtain ⟨os,eo⟩:=(by
    rw [alloc_eq_grow]
    obtain ⟨os',_,e⟩:=putRow_grow_new (fun (b:UInt8)=>Value.int .u8 (b.toNat:Int)) w #[.cells Lib.zeros24 187] w.heap.size 0 dk (Nat.le_refl _)
    exact ⟨os',by rw [e]; rfl⟩:∃ os,(putRow (fun (b:UInt8)=>Value.int .u8 (b.toNat:Int)) (w.alloc (.cells Lib.zeros24 187)) w.heap.size 0 dk).drewN k=grow (w.drewN k) os)
   exact ⟨rfl,k,os,eo⟩
set_option maxRecDepth 100000 in
theorem Tryz.strconv_FormatUint (u:Nat) (h1:u < 18446744073709551616) (w:World)
    (htab:Lib.TabIs Tryz.prog w "internal/strconv.uint64pow10" .u64 Lib.pow10Tab) :
    Calls Tryz.prog 194 #[.int .u64 u,.int .i64 10] w fun e w'=>e=.returned (.string ⟨(Lib.decDigits u).toArray⟩)∧∃ k os,w'=grow (w.drewN k) os:=by
 go_enter Tryz.func194,Tryz.ntmps194
 go_wp2_with (go_at_call 211; refine (Tryz.internal_FormatUint u h1 _ htab).mono ?_; rintro e w' ⟨rfl,k,os,rfl⟩)
 go_ret
 exact ⟨rfl,k,os,rfl⟩
end Go.Proofs
namespace Go.Proofs
open Go.RowKit Go.Shelf
attribute [local go_sem] Oper.semAt_some
def upto {α:Type} (f:Nat→α) (k:Nat):List α:=(List.range k).map f
theorem upto_succ {α:Type} (f:Nat→α) (k:Nat):upto f (k+1)=upto f k++[f k]:=by simp [upto,List.range_succ]
theorem upto_length {α:Type} (f:Nat→α) (k:Nat):(upto f k).length=k:=by simp [upto]
def down {len:Nat} (h:0 < len) (j:Nat):{ m:Nat // m < len }:=⟨len - 1 - j,by omega⟩
set_option maxRecDepth 100000 in
set_option maxHeartbeats 2000000 in
theorem back1_in (F:Fence) (n:Nat) (h7:F.fn 210) (hro:F.round=none) (hn:1≤n) (l Bs len cap:Nat) (h1:0 < len) (a:Addr) (z:Nat→Int) (hreach:len*4≤140737488351232) (Kp:World→World→Prop)
    (Bx:World→Prop) (hBx:∀ W,Bx W→W.cell? ⟨Bs,0,none⟩=some (.slice (some a) len cap)∧∀ j,j < len→W.cell? (a.add j)=some (.int .u32 (z j)))
    (hKp:∀ W W',Bx W→Kp W W'→Bx W') (J Jx:List { m:Nat // m < len }→World→Prop)
    (hY:∀ pre x W,J pre W→pre.length < len→YieldAt F (n - 1) Tryz.prog l #[.int .i64 (x.1:Nat),.int .u32 (z x.1)] W fun e W' =>
     (e=.returned (.bool true)∧J (pre++[x]) W'∧Kp W W')∨(e=.returned (.bool false)∧Jx (pre++[x]) W'))
    (W:World) (hW:Bx W) (h0:J [] W) :
    CallsIn F n Tryz.prog 210 #[.func (.yield l) #[] #[],.pointer (some ⟨Bs,0,none⟩)] W fun e W'=>(∃ v,e=.returned v) ∧
     ((∃ ys,ys=upto (down h1) len∧J ys W')∨(∃ pre,(∃ k,k≤len∧pre=upto (down h1) k)∧Jx pre W')):=by
 refine callsIn_of_wp Tryz.func210 rfl h7 ?_ hro
 simp only [Tryz.ntmps210,List.size_toArray,List.length_cons,List.length_nil,Nat.reduceAdd,Nat.reduceSub,Array.replicate_succ,Array.replicate_zero,List.push_toArray,List.append_toArray,List.nil_append,List.cons_append]
 have hs:=(hBx W hW).1
 gi_wp2
 gi_loopw [3] (fun i wr=>∃ k:Nat,k≤len∧i=.int .i64 ((len:Int) - 1 - k)∧J (upto (down h1) k) wr∧Bx wr)
  (fun i _=>(intOf i+1).toNat)
 case atStart=>exact ⟨0,Nat.zero_le _,by simp,h0,hW⟩
 case round =>
  obtain ⟨k,hk,rfl,hJs,hnx⟩:=hrel
  have hs':=(hBx _ hnx).1
  by_cases hlt:k < len
  · obtain ⟨m,hm⟩:∃ m:Nat,m+k+1=len:=⟨len - 1 - k,by omega⟩
    have hcx':=(hBx _ hnx).2 m (by omega)
    have hi:((len:Int) - 1 - k)=(m:Int):=by omega
    have hmk:len - 1 - k=m:=by omega
    have hml:m < len:=by omega
    rw [hi]
    clear hBx hi
    obtain ⟨fn,tmps,assign,body,hy,hR⟩:=hY _ ⟨m,hml⟩ wr hJs (by rw [upto_length]; exact hlt)
    dsimp only at hy
    have hmk:=Lib.hid hmk
    gi_wp2
    refine hR.mono ?_
    rintro e W3 (⟨rfl,hJ3,hk3⟩ | ⟨rfl,hJx3⟩)
    · -- THE ROUND GOES ON
      gi_wp2
      go_roundw
      case rel=>exact ⟨k+1,by omega,by simp; omega,by rw [upto_succ,show down h1 k=⟨m,hml⟩ from Subtype.ext hmk.out]; exact hJ3,hKp _ _ hnx hk3⟩
      case measure=>simp [intOf]
    · gi_wp2
      refine bodyPost_ret (results_none rfl _ _ _) rfl ?_
      exact ⟨⟨_,rfl⟩,.inr ⟨_,⟨k+1,by omega,by rw [upto_succ,show down h1 k=⟨m,hml⟩ from Subtype.ext hmk.out]⟩,hJx3⟩⟩
  · obtain rfl:k=len:=by omega
    have hi:((k:Int) - 1 - k)=-1:=by omega
    rw [hi]
    gi_wp2
    go_end0
    exact ⟨⟨_,rfl⟩,.inl ⟨_,rfl,hJs⟩⟩
set_option maxHeartbeats 1000000 in
theorem back_in (F:Fence) (n:Nat) (h5:F.fn 193) (hro:F.round=none) (a:Option Addr) (len cap:Nat) (w:World) :
    CallsIn F n Tryz.prog 193 #[.slice a len cap] w fun e w'=>e=.returned (.func (.func 210) #[] #[.pointer (some ⟨w.heap.size,0,none⟩)])∧w'=w.alloc (.cells #[.slice a len cap] 182):=by
 refine callsIn_of_wp Tryz.func193 rfl h5 ?_ hro
 simp only [Tryz.ntmps193,List.size_toArray,List.length_cons,List.length_nil,Nat.reduceAdd,Nat.reduceSub,Array.replicate_succ,Array.replicate_zero,List.push_toArray,List.append_toArray,List.nil_append,List.cons_append]
 gi_wp2
 go_ret
 exact ⟨rfl,rfl⟩
def Bx (Bs len cap:Nat) (a:Addr) (z:Nat→Int) (W:World):Prop:=W.cell? ⟨Bs,0,none⟩=some (.slice (some a) len cap)∧∀ j,j < len→W.cell? (a.add j)=some (.int .u32 (z j))
theorem add_blk (a:Addr) (n:Nat):(a.add n).block=a.block:=by unfold Addr.add; split <;> rfl
theorem Bx.below {Bs len cap:Nat} {a:Addr} {z:Nat→Int} {w W:World} (h:Bx Bs len cap a z w) (hB:Bs < w.heap.size) (ha:a.block < w.heap.size) (hb:Below w.heap.size w W):Bx Bs len cap a z W :=
 ⟨(hb.cell (p:=⟨Bs,0,none⟩) hB).trans h.1,fun j hj=>(hb.cell (p:=a.add j) (by rw [add_blk]; exact ha)).trans (h.2 j hj)⟩
theorem back_stops (F:Fence) (n:Nat) (h7:F.fn 210) (hro:F.round=none) (hn:1≤n) (Bs len cap:Nat) (h1:0 < len) (a:Addr) (z:Nat→Int) (hreach:len*4≤140737488351232) (w:World) (hB:Bs < w.heap.size) (ha:a.block < w.heap.size) (hbx:Bx Bs len cap a z w) :
    SeqStopsK F n Tryz.prog 210 #[.pointer (some ⟨Bs,0,none⟩)] (fun x:{ m:Nat // m < len }=>#[Value.int .i64 (x.1:Nat),Value.int .u32 (z x.1)]) (fun W W'=>Bx Bs len cap a z W→Bx Bs len cap a z W') (fun ys=>ys=upto (down h1) len) (fun _=>True) len w:=fun l J Jx W hW _ _ hY h0 =>
 (back1_in F n h7 hro hn l Bs len cap h1 a z hreach _ (Bx Bs len cap a z) (fun W h=>h) (fun W W' h hk=>hk h) J Jx hY W (hbx.below hB ha hW) h0).mono fun e W' ⟨he,h⟩=>⟨he,h.imp id fun ⟨pre,_,hj⟩=>⟨pre,trivial,hj⟩⟩
end Go.Proofs
namespace Go.Proofs
open Go.RowKit Go.Shelf Go.Sort
attribute [local go_sem] Oper.semAt_some
theorem decD:∀ u:Nat,Lib.decDigits u=Gb.dec u:=by
 intro u
 induction u using Nat.strongRecOn with
 | _ u ih =>
  unfold Lib.decDigits Gb.dec
  split
  · rfl
  · rw [ih (u / 10) (by omega)]
def piece (len:Nat) (z:Nat→Int) (m:Nat):List UInt8:=(if m+1 < len then List.replicate (9 - (Gb.dec (z m).toNat).length) 48 else [])++Gb.dec (z m).toNat
def txt (len:Nat) (z:Nat→Int) (pre:List { m:Nat // m < len }):List UInt8:=(pre.map fun x=>piece len z x.1).flatten
theorem txt_snoc {len:Nat} {z:Nat→Int} {pre:List { m:Nat // m < len }} {x:{ m:Nat // m < len }}:txt len z (pre++[x])=txt len z pre++piece len z x.1:=by simp [txt]
theorem tab_below {w W:World} {nm:String} {k:IntKind} {zs:List Int} (h:Lib.TabIs Tryz.prog w nm k zs) (hb:Below w.heap.size w W):Lib.TabIs Tryz.prog W nm k zs:=by
 unfold Lib.TabIs World.var? at *
 cases hg:Tryz.prog.globalNamed nm with
 | none=>rw [hg] at h; cases h
 | some g =>
  rw [hg] at h
  simp only [Option.bind_some] at h ⊢
  cases hh:w.heap[g]? with
  | none=>rw [hh] at h; cases h
  | some o=>rw [hb.block g (Array.getElem?_eq_some_iff.1 hh).1,hh]; rw [hh] at h; exact h
theorem row_kept {W W':World} {row:Option Nat} {b:Nat} {cs:Array Value} {T:TypeId} {fz:Nat × Nat} (h:W.heap[b]?=some (.cells cs T fz)) (hg:W.grownBy W' row) (hr:∀ r,row=some r→∃ o:Obj,W.heap[r]?=some o∧o.isCells=false):W'.heap[b]?=some (.cells cs T fz)∧some b≠row:=by
 have hne:some b≠row:=fun e=>by
  obtain ⟨o,ho,hc⟩:=hr b e.symm
  rw [h] at ho; cases ho; cases hc
 exact ⟨(hg.block b (Array.getElem?_eq_some_iff.1 h).1 hne).trans h,hne⟩
theorem isB_kept {W W':World} {row:Option Nat} {T e B b:Nat} {bs:List Value} (h:Lib.IsBuilderF T e B b bs W) (hg:W.grownBy W' row) (hr:∀ r,row=some r→∃ o:Obj,W.heap[r]?=some o∧o.isCells=false):Lib.IsBuilderF T e B b bs W':=by
 have at':∀ p,Lib.BuilderAtF T e B b p bs W→Lib.BuilderAtF T e B b p bs W':=by
  rintro p ⟨hB,v,hb,ho,hn⟩
  refine ⟨hB,v,(row_kept hb hg hr).1,ho.kept hg ?_,hn⟩
  rcases ho.2 with ⟨rfl,_⟩ | ⟨g,cap,cur,fz,rfl,_,hgg,_⟩
  · exact .inl rfl
  · exact .inr (row_kept hgg hg hr).2
 exact h.imp (at' _) (at' _)
theorem grown_of_below {W W':World} (h:Below W.heap.size W W'):W.grownBy W' none:=⟨h.os,h.tape,h.output,h.size,fun k hk _=>h.block k hk⟩
theorem isB_below {W W':World} {T e B b:Nat} {bs:List Value} (h:Lib.IsBuilderF T e B b bs W) (hb:Below W.heap.size W W'):Lib.IsBuilderF T e B b bs W':=isB_kept h (grown_of_below hb) (fun r e=>by cases e)
theorem below_grow (w:World) (k:Nat) (os:Array Obj):Below w.heap.size w (grow (w.drewN k) os) :=
 ⟨rfl,rfl,rfl,by simp [grow,World.drewN],fun b hb=>by
  show (w.heap++os)[b]?=_
  rw [Array.getElem?_append_left hb]⟩
theorem piece_len {len:Nat} {z:Nat→Int} {m:Nat} (h:0≤z m∧z m < 1000000000):(piece len z m).length≤9:=by
 have:(Gb.dec (z m).toNat).length≤9:=Gb.dec_length (by omega) (by omega)
 unfold piece
 split <;> simp <;> omega
theorem txt_len {len:Nat} {z:Nat→Int} (hz:∀ j,j < len→0≤z j∧z j < 1000000000):∀ pre:List { m:Nat // m < len },(txt len z pre).length≤pre.length*9
 | []=>Nat.le_refl _
 | x::pre=>by
  have h1:=txt_len hz pre
  have h2:=piece_len (len:=len) (hz x.1 x.2)
  have:txt len z (x::pre)=piece len z x.1++txt len z pre:=by simp [txt]
  rw [this,List.length_append,List.length_cons]; omega
theorem rep48 (n:Nat):Lib.repeatL [48] n=List.replicate n (48:UInt8):=by
 induction n with
 | zero=>rfl
 | succ n ih=>show 48::Lib.repeatL [48] n=_; rw [ih]; rfl
set_option maxRecDepth 100000 in
set_option maxHeartbeats 4000000 in
theorem text_raw (len cap:Nat) (hl:0 < len) (hreach:len*9≤140737488355328) (a:Addr) (z:Nat→Int) (hz:∀ j,j < len→0≤z j∧z j < 1000000000) (w:World) (ha:a.block < w.heap.size)
    (hc:∀ j,j < len→w.cell? (a.add j)=some (.int .u32 (z j))) (htab:Lib.TabIs Tryz.prog w "internal/strconv.uint64pow10" .u64 Lib.pow10Tab) :
    Calls Tryz.prog 171 #[.slice (some a) len cap] w fun e w'=>e=.returned (.string ⟨(txt len z (upto (down hl) len)).toArray⟩)∧Below w.heap.size w w':=by
 refine (callsIn_wide (n:=3)).1 ?_
 have h1:1≤3:=by omega
 refine callsIn_of_wp_marks Tryz.func171 rfl trivial ?_ rfl
 simp only [Tryz.ntmps171,List.size_toArray,List.length_cons,List.length_nil,Nat.reduceAdd,Nat.reduceSub,Array.replicate_succ,Array.replicate_zero,List.push_toArray,List.append_toArray,List.nil_append,List.cons_append]
 gi_wp2_with (refine ⟨trivial,?_⟩; gi_at_call 193; refine (back_in Fence.wide _ trivial rfl _ _ _ _).mono ?_; rintro e w' ⟨rfl,rfl⟩)
 obtain ⟨W0,hW0⟩:∃ W0,W0=((w.alloc (.cells #[.slice (some a) len cap] 182)).alloc (.cells #[.pointer none,.slice none 0 0] 221)).alloc (.cells #[.slice (some a) len cap] 182):=⟨_,rfl⟩
 rw [← hW0]
 have hsz:W0.heap.size=w.heap.size+1+1+1:=by rw [hW0]; simp
 have hbel:Below w.heap.size w W0:=by rw [hW0]; exact (((Below.refl _ w).alloc (Nat.le_refl _) _).alloc (by simp) _).alloc (by simp; omega) _
 have hb2:W0.heap[w.heap.size+1+1]?=some (.cells #[.slice (some a) len cap] 182 (0,0)):=by
  rw [hW0]; have:=World.alloc_heap_new ((w.alloc (.cells #[.slice (some a) len cap] 182)).alloc (.cells #[.pointer none,.slice none 0 0] 221)) (.cells #[.slice (some a) len cap] 182); rwa [World.size_alloc,World.size_alloc] at this
 have hbb:W0.heap[w.heap.size+1]?=some (.cells #[.pointer none,.slice none 0 0] 221 (0,0)):=by
  rw [hW0,Below.heap_alloc _ _ _ (by simp)]; have:=World.alloc_heap_new (w.alloc (.cells #[.slice (some a) len cap] 182)) (.cells #[.pointer none,.slice none 0 0] 221); rwa [World.size_alloc] at this
 have hb1:W0.heap[w.heap.size]?=some (.cells #[.slice (some a) len cap] 182 (0,0)):=by
  rw [hW0,Below.heap_alloc _ _ _ (by simp; omega),Below.heap_alloc _ _ _ (by simp)]; exact World.alloc_heap_new _ _
 have hbx:Bx (w.heap.size+1+1) len cap a z W0:=⟨by simp [World.cell?,hb2],fun j hj=>(hbel.cell (p:=a.add j) (by rw [add_blk]; exact ha)).trans (hc j hj)⟩
 have hbd:Lib.IsBuilderF 221 5 w.heap.size (w.heap.size+1) (Lib.byteCells (txt len z [])) W0:=Lib.IsBuilderF.of (.inl ⟨by omega,_,hbb,World.ownsRow_nil _ _ _ _,by simp [Value.ownBlock]⟩)
 clear hW0 hc
 refine wpIn_rangeFunc_ownF rfl (by omega) (gf:=210) (lb:=#[.pointer (some ⟨w.heap.size+1+1,0,none⟩)]) rfl trivial (enters_of Tryz.func210 (by kernel_rfl) rfl)
  (back_stops Fence.wide _ trivial rfl (by omega) (w.heap.size+1+1) len cap hl a z (by omega) W0 (by omega) (by omega) hbx) (fun h k x=>k (h x)) ?hKb (Below.refl _ _) (fun _=>rfl)
  (fun pre W=>Lib.IsBuilderF 221 5 w.heap.size (w.heap.size+1) (Lib.byteCells (txt len z pre)) W∧W.heap[w.heap.size]?=some (.cells #[.slice (some a) len cap] 182 (0,0))∧W.heap[w.heap.size+1+1]?=some (.cells #[.slice (some a) len cap] 182 (0,0))∧Below w.heap.size w W)
  (fun _ _ _=>False) ?hI ?hIx ⟨hbd,hb1,hb2,hbel⟩
  (fun x=>{ tmps:=#[.slice (some a) len cap,.pointer (some ⟨w.heap.size,0,none⟩),.string ⟨#[]⟩,.pointer (some ⟨w.heap.size+1,0,none⟩),.int .i64 (x.1:Nat),.int .u32 (z x.1),undef,.slice (some a) len cap,.int .i64 len,.bool false,.slice (some a) len cap,.func (.func 210) #[] #[.pointer (some ⟨w.heap.size+1+1,0,none⟩)],.int .i64 (x.1:Nat),.int .u32 (z x.1),undef,undef,undef,undef,undef,undef,undef,undef,undef,undef,undef,undef,undef,undef,undef,undef],defers:=[] }) ?assign ?body ?done ?stop
 case hKb =>
  intro W l o o' hlB ho hoc _ ⟨hx1,hx2⟩
  exact ⟨cell_kept hx1 (grownBy_putObj' _ l o') (fun r e=>by cases e; exact ⟨_,ho,hoc⟩),fun j hj=>cell_kept (hx2 j hj) (grownBy_putObj' _ l o') (fun r e=>by cases e; exact ⟨_,ho,hoc⟩)⟩
 case hI =>
  rintro s W W' row ⟨i1,i2,i3,i4⟩ hg hr
  have hr':∀ r,row=some r→∃ o:Obj,W.heap[r]?=some o∧o.isCells=false:=fun r e=>(hr r e).2
  exact ⟨isB_kept i1 hg hr',(row_kept i2 hg hr').1,(row_kept i3 hg hr').1,i4.grown hg i4.size (fun k e=>by have:=(hr k e).1; omega)⟩
 case hIx=>intro c s W W' row h; exact h.elim
 case assign =>
  intro l x W K hK
  gi_wp2
  exact hK
 case body =>
  rintro l pre ⟨m,hm⟩ W ⟨i1,i2,i3,i4⟩ hlt
  obtain ⟨u,hu⟩:∃ u:Nat,z m=u:=⟨(z m).toNat,by have:=hz m hm; omega⟩
  have hu9:u < 1000000000:=by have:=hz m hm; omega
  have hpl:=txt_len hz pre
  have htab':=tab_below htab i4
  dsimp only
  rw [hu]
  have hdl:(Lib.decDigits u).length≤9:=by rw [decD]; exact Gb.dec_length (by omega) (by omega)
  have hq:(Lib.byteCells (txt len z pre)).length+(ByteArray.mk (Lib.decDigits u).toArray).size≤140737488355328:=by
   rw [Lib.byteCells_length]
   show _+(Lib.decDigits u).toArray.size≤_
   simp only [List.size_toArray]; omega
  have hbc:∃ cs T,W.heap[w.heap.size+1]?=some (.cells cs T (0,0)):=by
   rcases i1 with ⟨_,v,h,_⟩ | ⟨_,v,h,_⟩
   · exact ⟨_,_,h⟩
   · exact ⟨_,_,h⟩
  have fin:∀ (W':World) (bs:List Value) (a':Act),Below w.heap.size W W'→Lib.OthersKept 5 (some (w.heap.size+1)) W W'→Lib.IsBuilderF 221 5 w.heap.size (w.heap.size+1) bs W'→bs=Lib.byteCells (txt len z (pre++[⟨m,hm⟩])) →
      ownPostK (fun W W'=>Bx (w.heap.size+1+1) len cap a z W→Bx (w.heap.size+1+1) len cap a z W') (fun pre W=>Lib.IsBuilderF 221 5 w.heap.size (w.heap.size+1) (Lib.byteCells (txt len z pre)) W∧W.heap[w.heap.size]?=some (.cells #[.slice (some a) len cap] 182 (0,0))∧W.heap[w.heap.size+1+1]?=some (.cells #[.slice (some a) len cap] 182 (0,0))∧Below w.heap.size w W) (fun _ _ _=>False) (pre++[⟨m,hm⟩]) W .normal a' W':=by
   rintro W' bs a' g1 g2 g3 rfl
   have e2:=g2 _ _ i2 (by simp) (by rintro c fz e; cases e)
   have e3:=g2 _ _ i3 (by simp) (by rintro c fz e; cases e)
   refine ⟨⟨g1.size,fun k o hk ho=>g2 k o hk (fun e=>?_) (fun c fz e=>by rw [e] at ho; cases ho)⟩,fun hx=>⟨by simp [World.cell?,e3],fun j hj=>(g1.cell (p:=a.add j) (by rw [add_blk]; exact ha)).trans (hx.2 j hj)⟩,g3,e2,e3,i4.trans g1⟩
   cases e
   obtain ⟨cs,T,h⟩:=hbc
   rw [h] at hk; cases hk; cases ho
  have step0:∀ {w1:World},Below W.heap.size W w1→Below w.heap.size W w1∧Lib.OthersKept 5 (some (w.heap.size+1)) W w1:=fun {w1} hb=>⟨hb.mono i4.size,fun k o hk _ _=>(hb.block k (Array.getElem?_eq_some_iff.1 hk).1).trans hk⟩
  have bytes:∀ (l1 l2:List UInt8),Lib.byteCells l1++Lib.strCells ⟨l2.toArray⟩=Lib.byteCells (l1++l2):=fun l1 l2=>by simp [Lib.byteCells,Lib.strCells]
  have hpc:piece len z m=(if m+1 < len then List.replicate (9 - (Gb.dec u).length) 48 else [])++Gb.dec u:=by unfold piece; rw [hu,Int.toNat_natCast]
  by_cases hlast:m+1 < len
  · obtain ⟨q,hqq⟩:∃ q:Nat,(9:Int) - ((Lib.decDigits u).length:Int)=q:=⟨9 - (Lib.decDigits u).length,by omega⟩
    have hr1:(ByteArray.mk #[48]).size*q≤140737488355328:=by show 1*q≤_; omega
    have hsc:Lib.strCells ⟨(Lib.repeatL [48] q).toArray⟩=Lib.byteCells (List.replicate q 48):=by rw [rep48]; simp [Lib.strCells,Lib.byteCells]
    have hr2:(Lib.byteCells (txt len z pre)).length+(ByteArray.mk (Lib.repeatL [48] q).toArray).size≤140737488355328:=by
     rw [Lib.byteCells_length]
     show _+(Lib.repeatL [48] q).toArray.size≤_
     rw [rep48,List.size_toArray,List.length_replicate]; omega
    have hr3:(Lib.byteCells (txt len z pre)++Lib.strCells ⟨(Lib.repeatL [48] q).toArray⟩).length+(ByteArray.mk (Lib.decDigits u).toArray).size≤140737488355328:=by
     rw [hsc,List.length_append,Lib.byteCells_length,Lib.byteCells_length,List.length_replicate]
     show _+(Lib.decDigits u).toArray.size≤_
     simp only [List.size_toArray]; omega
    have hsc:=Lib.hid hsc
    gi_wp2_with (first
     | (refine ⟨trivial,?_⟩; gi_at_call 194; refine (CallsIn.inRound l (callsIn_wide.2 (Tryz.strconv_FormatUint u (by omega) W htab'))).mono ?_; rintro e w1 ⟨rfl,k,os,hw1⟩; have hb:Below W.heap.size W w1:=(by rw [hw1]; exact below_grow _ _ _); clear hw1; have j1:=isB_below i1 hb; have j2:w1.cell? ⟨w.heap.size,0,none⟩=some (.slice (some a) len cap):=(by simp [World.cell?,hb.block _ (Array.getElem?_eq_some_iff.1 i2).1,i2]))
     | (refine ⟨trivial,?_⟩; gi_at_call 196; refine (CallsIn.inRound l (callsIn_wide.2 (Tryz.strings_Repeat ⟨#[48]⟩ q w1 (by omega) hr1))).mono ?_; rintro e w3 ⟨rfl,r1⟩; have j3:=isB_below j1 r1)
     | (refine ⟨trivial,?_⟩; gi_at_call 195; refine (CallsIn.inRound l (callsIn_wide.2 (Tryz.WriteString_k w.heap.size (w.heap.size+1) _ ⟨(Lib.repeatL [48] q).toArray⟩ w3 j3 hr2 (Nat.le_trans i4.size (Nat.le_trans hb.size r1.size))))).mono ?_; rintro e w4 ⟨rfl,k1,k2,k3⟩; clear j3)
     | (refine ⟨trivial,?_⟩; gi_at_call 195; refine (CallsIn.inRound l (callsIn_wide.2 (Tryz.WriteString_k w.heap.size (w.heap.size+1) _ ⟨(Lib.decDigits u).toArray⟩ w4 (.inr k1) hr3 (Nat.le_trans i4.size (Nat.le_trans hb.size (Nat.le_trans r1.size k2.size)))))).mono ?_; rintro e w5 ⟨rfl,n1,n2,n3⟩))
    obtain ⟨s1,s2⟩:=step0 hb
    have t1:Below w.heap.size W w3:=s1.trans (r1.mono (Nat.le_trans i4.size hb.size))
    have t2:Lib.OthersKept 5 (some (w.heap.size+1)) W w3:=s2.trans (fun k o hk _ _=>(r1.block k (Array.getElem?_eq_some_iff.1 hk).1).trans hk)
    exact fin w5 _ _ ((t1.trans k2).trans n2) ((t2.trans k3).trans n3) (.inr n1) (by
     rw [hsc.out,show Lib.byteCells (txt len z pre)++Lib.byteCells (List.replicate q 48)=Lib.byteCells (txt len z pre++List.replicate q 48) by simp [Lib.byteCells],bytes,txt_snoc,hpc,if_pos hlast,decD,show 9 - (Gb.dec u).length=q by rw [decD] at hqq; omega]
     rw [List.append_assoc])
  · gi_wp2_with (first
     | (refine ⟨trivial,?_⟩; gi_at_call 194; refine (CallsIn.inRound l (callsIn_wide.2 (Tryz.strconv_FormatUint u (by omega) W htab'))).mono ?_; rintro e w1 ⟨rfl,k,os,hw1⟩; have hb:Below W.heap.size W w1:=(by rw [hw1]; exact below_grow _ _ _); clear hw1; have j1:=isB_below i1 hb; have j2:w1.cell? ⟨w.heap.size,0,none⟩=some (.slice (some a) len cap):=(by simp [World.cell?,hb.block _ (Array.getElem?_eq_some_iff.1 i2).1,i2]))
     | (refine ⟨trivial,?_⟩; gi_at_call 195; refine (CallsIn.inRound l (callsIn_wide.2 (Tryz.WriteString_k w.heap.size (w.heap.size+1) _ _ _ j1 hq (Nat.le_trans i4.size hb.size)))).mono ?_; rintro e w2 ⟨rfl,k1,k2,k3⟩))
    obtain ⟨s1,s2⟩:=step0 hb
    exact fin w2 _ _ (s1.trans k2) (s2.trans k3) (.inr k1) (by rw [bytes,txt_snoc,hpc,if_neg hlast,decD]; rfl)
 case done =>
  rintro D ys W hD rfl ⟨i1,i2,i3,i4⟩ hK
  gi_wp2_with (refine ⟨trivial,?_⟩; gi_at_call 197; refine (callsIn_wide.2 (Tryz.Builder_String_any_k w.heap.size (w.heap.size+1) _ W i1 i4.size)).mono ?_; rintro e w' ⟨rfl,_,k2,k3⟩; have hK':=k3 D _ hK (by simp; omega) (by simp))
  refine ⟨by simp,.inl ⟨_,_,rfl,run_takeDeferred hK',?_⟩⟩
  exact ⟨_,results_tmp rfl _ _ _,rfl,(i4.trans k2).trans (belowK_b (w:=w) (Nat.le_refl _) _ D _ _ (by omega) hK' rfl rfl)⟩
 case stop =>
  rintro D c pre W _ _ h _
  exact h.elim
end Go.Proofs
namespace Gev
open Go Gb Go.Proofs
variable {E:Env}
theorem get_ex' {α:Type} {l:List α} {i:Nat} (h:i < l.length):∃ c,l[i]?=some c:=⟨l[i],List.getElem?_eq_getElem h⟩
theorem dec_pad {h w:Nat} (h0:0 < h) (hw:w < 1000000000):dec (w+1000000000*h)=dec h++(List.replicate (9 - (dec w).length) 48++dec w):=by
 have hl:(dec w).length≤9:=dec_length (by omega) (by omega)
 obtain ⟨t,et⟩:∃ t,t=9 - (dec w).length:=⟨_,rfl⟩
 rw [← et]
 have hz:∀ t,dval (List.replicate t 48)=0:=fun t=>by
  induction t with
  | zero=>rfl
  | succ t ih=>rw [List.replicate_succ,dval_cons,ih]; simp
 have hdz:Dg (List.replicate t 48):=fun c hc=>by rw [List.eq_of_mem_replicate hc]; decide
 have hN:IsNat (dec h++(List.replicate t 48++dec w)):=by
  refine ⟨by simp [dec_ne],(dec_dg h).append (hdz.append (dec_dg w)),fun _=>?_⟩
  rw [head_app (dec_ne h)]
  exact dec_head (by omega)
 have e:=hN.eq_dec
 rw [e]
 congr 1
 rw [dval_append,dval_append,hz,dval_dec,dval_dec,List.length_append,List.length_replicate,show t+(dec w).length=9 by omega]
 omega
theorem txt_words {n:Nat} (hl:0 < (words n).length):∀ k,1≤k→k≤(words n).length→∀ H:Nat,wv ((words n).drop ((words n).length - k))=H→txt (words n).length (fun j=>(words n).getD j 0) (upto (down hl) k)=dec H
 | 0,h,_,_,_=>by omega
 | k+1,_,hk,H,hH=>by
  rw [upto_succ,txt_snoc]
  obtain ⟨m,hm⟩:∃ m,m+k+1=(words n).length:=⟨(words n).length - k - 1,by omega⟩
  have em:(down hl k).1=m:=by show (words n).length - 1 - k=m; omega
  rw [em]
  rw [show (words n).length - (k+1)=m by omega,val_drop _ _ (by omega)] at hH
  have hb:=(words_wd n).getD m
  obtain ⟨x,ex⟩:∃ x:Nat,(words n).getD m 0=x:=⟨((words n).getD m 0).toNat,by omega⟩
  obtain ⟨h,eh,h1,h2⟩:=words_drop (n:=n) (i:=m) (by omega)
  rw [ex,eh] at hH
  unfold piece
  simp only
  rw [ex,Int.toNat_natCast]
  rcases Nat.eq_zero_or_pos k with rfl | hk0
  · have:=h2 (by omega)
    subst this
    rw [if_neg (by omega),List.nil_append,show upto (down hl) 0=[] from rfl,show txt (words n).length (fun j=>(words n).getD j 0) []=[] from rfl,List.nil_append,show H=x by omega]
  · have hp:=h1 (by omega)
    rw [txt_words hl k hk0 (by omega) h (by rw [show (words n).length - k=m+1 by omega]; exact eh),if_pos (by omega),show H=x+1000000000*h by omega,dec_pad hp (by omega)]
theorem text_zero:Fn E M4 [.c (.list [])] (.c (.str ⟨#[48]⟩)) :=
 fnMk [.t true] (by kernel_rfl) (by kernel_rfl) (aO (beT (a:=(0:Int)) (b:=0) rfl)) (by kernel_rfl)
theorem text_ok (htab:∀ w,E.Gd w→Lib.TabIs Tryz.prog w "internal/strconv.uint64pow10" .u64 Lib.pow10Tab) {n K:Nat} (h:n < 10 ^ K) (hK:K≤Lim+1):Fn E M4 [.c (.list (Wr (words n)))] (.c (.str (B (dec n)))):=by
 have hwl:=words_le h
 rw [Lim_val] at hK
 by_cases h0:n=0
 · subst h0
   rw [words_zero,dec_zero]
   exact text_zero
 · have hl:0 < (words n).length:=len_pos (fun e=>h0 (words_nil.1 e))
   refine ⟨enters_known (by kernel_rfl),.c _,fun w ext cargs hg hB hx hcl ha=>?_⟩
   obtain ⟨v,rfl⟩:∃ v,cargs=#[v]:=by
    match cargs,hcl with
    | ⟨[v]⟩,_=>exact ⟨v,rfl⟩
   have hc0:=ha 0 v _ rfl rfl
   cases hc0 with
   | c hr =>
    generalize hxs:Wr (words n)=xs at hr
    cases hr with
    | list A c xs sz u hc hA hx' hu hd =>
     subst hxs
     obtain ⟨a,rfl,hab,_⟩:=hA (by intro e; have h9:=congrArg List.length e; rw [Wr_len,List.length_nil] at h9; omega)
     have hsz:sz=1:=by
      obtain ⟨x,hx0⟩:=get_ex' (l:=words n) (i:=0) hl
      rw [← hx' _ (List.mem_of_getElem? (Wr_get hx0))]; rfl
     subst hsz
     rw [Wr_len]
     have hcell:∀ j,j < (words n).length→w.cell? (a.add j)=some (.int .u32 ((words n).getD j 0)):=by
      intro j hj
      have g:=Wr_getD hj
      have e1:=hu a j _ 0 _ rfl g rfl
      have e2:=hd j _ 0 _ g rfl
      rw [Nat.mul_one,Nat.add_zero] at e1
      rw [e1]
      generalize u j 0=q at e2
      cases e2; rfl
     have hz:∀ j,j < (words n).length→0≤(words n).getD j 0∧(words n).getD j 0 < 1000000000:=fun j _=>(words_wd n).getD j
     refine Calls.mono (text_raw (words n).length c hl (by omega) a (fun j=>(words n).getD j 0) hz w hab hcell (htab w hg)) ?_
     rintro e w' ⟨rfl,hb⟩
     have hk:=Kept.of_below hb
     refine ⟨_,rfl,E.hs w _ (fun b hb'=>hk.heap b (Nat.lt_of_lt_of_le hb' hB) id) hk.size hg,hk,?_⟩
     rw [txt_words hl (words n).length hl (Nat.le_refl _) n (by rw [Nat.sub_self,List.drop_zero,words_val])]
     exact .c (.str _)
end Gev
namespace Gev
open Go Gb Go.Proofs Go.Sort
variable {E:Env}
structure Laid (E:Env):Prop where
 tab:∀ w,E.Gd w→Go.Lib.TabIs Tryz.prog w "internal/strconv.uint64pow10" .u64 Go.Lib.pow10Tab
 max:∀ w,E.Gd w→∃ m,w.cell? ⟨0,0,none⟩=some (.int .i64 m)
theorem decZ_itoa (z:Int):Go.Lib.itoa z=decZ z:=by
 by_cases h:z < 0
 · obtain ⟨u,rfl⟩:∃ u:Nat,z=-(u:Int):=⟨z.natAbs,by omega⟩
   rw [Go.Lib.itoa_neg u (by omega),decZ_neg h,decD,Int.natAbs_neg,Int.natAbs_natCast]
 · obtain ⟨u,rfl⟩:∃ u:Nat,z=u:=⟨z.natAbs,by omega⟩
   rw [Go.Lib.itoa_nonneg,decZ_nat,decD]
theorem str_rep {Γ:Ctx} (l:List UInt8):RepA DD Γ (.string ⟨l.toArray⟩) (.c (.str (B l))):=.c (.str _)
theorem lib_itoa (L:Laid E) (z:Int) (hz:-9223372036854775808≤z∧z≤9223372036854775807):Fn E z8n [.c (.i64 z)] (.c (.str (B (decZ z)))) :=
 fn_of_calls (ds:=[.i64 z]) (vs:=[.int .i64 z]) E.hs (enters_known (by kernel_rfl)) (.c _) rfl fun w hg _=>by
  refine Calls.mono (Tryz.strconv_Itoa z hz.1 hz.2 w (L.tab w hg)) ?_
  rintro e w' ⟨rfl,k,os,rfl⟩
  exact ⟨_,rfl,Kept.of_below (below_grow _ _ _),fun ext=>by rw [decZ_itoa]; exact str_rep _⟩
theorem lib_formatInt (L:Laid E) (z:Int) (hz:-9223372036854775808≤z∧z≤9223372036854775807):Fn E z2m [.c (.i64 z),.c (.i64 10)] (.c (.str (B (decZ z)))) :=
 fn_of_calls (ds:=[.i64 z,.i64 10]) (vs:=[.int .i64 z,.int .i64 10]) E.hs (enters_known (by kernel_rfl)) (.c _) rfl fun w hg _=>by
  refine Calls.mono (Tryz.strconv_FormatInt_10 z hz.1 hz.2 w (L.tab w hg)) ?_
  rintro e w' ⟨rfl,k,os,rfl⟩
  exact ⟨_,rfl,Kept.of_below (below_grow _ _ _),fun ext=>by rw [decZ_itoa]; exact str_rep _⟩
theorem lib_cutPrefix (l p:List UInt8):Fn E P4 [.c (.str (B l)),.c (.str (B p))] (.tup [.c (.str (B (if p.isPrefixOf l then l.drop p.length else l))),.c (.bool (p.isPrefixOf l))]) :=
 fn_of_calls (ds:=[.str (B l),.str (B p)]) (vs:=[.string (B l),.string (B p)]) E.hs (enters_known (by kernel_rfl)) (AV.isData_ok rfl) rfl fun w hg _=>by
  refine Calls.mono (Tryz.strings_CutPrefix (B l) (B p) w) ?_
  rintro e w' ⟨rfl,rfl⟩
  refine ⟨_,rfl,Kept.refl _ _,fun ext=>?_⟩
  rw [B_list,B_list]
  refine .tup [_,_] _ rfl fun i v a h1 h2=>?_
  match i,h1,h2 with
  | 0,h1,h2=>cases h1; cases h2; exact str_rep _
  | 1,h1,h2=>cases h1; cases h2; exact .c (.bool _)
theorem lib_cut (L:Laid E) (s sep:List UInt8) (hs:s.length < 4000000000):Fn E O4 [.c (.str (B s)),.c (.str (B sep))] (.tup [.c (.str (B (Go.Lib.cut s sep).1)),.c (.str (B (Go.Lib.cut s sep).2.1)),.c (.bool (Go.Lib.cut s sep).2.2)]) :=
 fn_of_calls (ds:=[.str (B s),.str (B sep)]) (vs:=[.string (B s),.string (B sep)]) E.hs (enters_known (by kernel_rfl)) (AV.isData_ok rfl) rfl fun w hg _=>by
  obtain ⟨m,hm⟩:=L.max w hg
  refine Calls.mono (Tryz.strings_Cut (B s) (B sep) m w (by rw [B_size]; omega) hm) ?_
  rintro e w' ⟨rfl,n,rfl⟩
  refine ⟨_,rfl,Kept.of_drewN w n,fun ext=>?_⟩
  rw [B_list,B_list]
  refine .tup [_,_,_] _ rfl fun i v a h1 h2=>?_
  match i,h1,h2 with
  | 0,h1,h2=>cases h1; cases h2; exact str_rep _
  | 1,h1,h2=>cases h1; cases h2; exact str_rep _
  | 2,h1,h2=>cases h1; cases h2; exact .c (.bool _)
theorem index_cons (b:UInt8) (l:List UInt8):Go.Lib.index (b::l) [47]=if b=47 then 0 else if Go.Lib.index l [47]=-1 then -1 else Go.Lib.index l [47]+1:=by
 show (if [47].isPrefixOf (b::l) then 0 else if Go.Lib.index l [47] == -1 then -1 else Go.Lib.index l [47]+1)=_
 have:[47].isPrefixOf (b::l)=((47:UInt8) == b):=by show ((47:UInt8) == b && [].isPrefixOf l)=_; simp
 rw [this]
 by_cases hb:b=47
 · subst hb; simp
 · rw [beq_eq_false_iff_ne.2 (fun e=>hb e.symm),if_neg (by simp),if_neg hb]
   simp only [beq_iff_eq]
theorem index_no:∀ {p:List UInt8},(47:UInt8) ∉ p→Go.Lib.index p [47]=-1
 | [],_=>rfl
 | b::l,h=>by
  have h1:b≠47:=fun e=>h (by rw [e]; simp)
  have h2:=index_no (p:=l) (fun e=>h (by simp [e]))
  rw [index_cons,if_neg h1,if_pos h2]
theorem index_yes {q:List UInt8}:∀ {p:List UInt8},(47:UInt8) ∉ p→Go.Lib.index (p++47::q) [47]=p.length
 | [],_=>by rw [List.nil_append,index_cons,if_pos rfl]; rfl
 | b::l,h=>by
  have h1:b≠47:=fun e=>h (by rw [e]; simp)
  have h2:=index_yes (q:=q) (p:=l) (fun e=>h (by simp [e]))
  rw [List.cons_append,index_cons,if_neg h1,h2,if_neg (by omega),List.length_cons]; rfl
theorem cut_yes {p q:List UInt8} (h:(47:UInt8) ∉ p):Go.Lib.cut (p++47::q) [47]=(p,q,true):=by
 unfold Go.Lib.cut
 rw [index_yes h,if_pos (by omega),Int.toNat_natCast,List.take_left,List.length_singleton,List.drop_append,List.drop_eq_nil_of_le (by omega),List.nil_append,show p.length+1 - p.length=1 by omega]; rfl
theorem cut_no {p:List UInt8} (h:(47:UInt8) ∉ p):Go.Lib.cut p [47]=(p,[],false):=by
 unfold Go.Lib.cut
 rw [index_no h,if_neg (by omega)]
theorem uintM_ok {M:Nat} (hM:1000000000≤M):∀ (l:List UInt8) (acc:Nat),Dg l→acc*10 ^ l.length+dval l < 1000000000→Go.Lib.parseUintM M acc l=.ok (acc*10 ^ l.length+dval l)
 | [],acc,_,_=>by show Go.Lib.NumEnd.ok acc=_; rw [dval_nil]; simp
 | c::r,acc,hd,hb=>by
  have hc:=hd c (by simp)
  rw [dval_cons,List.length_cons,Nat.pow_succ] at hb ⊢
  have hp:1≤10 ^ r.length:=Nat.pow_pos (by decide)
  have e:acc*(10 ^ r.length*10)+((c.toNat - 48)*10 ^ r.length+dval r)=(acc*10+(c.toNat - 48))*10 ^ r.length+dval r:=by grind
  rw [e] at hb ⊢
  have hle:(acc*10+(c.toNat - 48))≤(acc*10+(c.toNat - 48))*10 ^ r.length:=Nat.le_mul_of_pos_right _ hp
  unfold Go.Lib.parseUintM
  rw [if_pos hc,if_neg (by omega),if_neg (by omega)]
  exact uintM_ok hM r _ (fun x hx=>hd x (by simp [hx])) hb
theorem dval_small {l:List UInt8} (hd:Dg l) (hl:l.length≤9):dval l < 1000000000:=by
 have h1:=dval_lt hd
 have h2:(10:Nat) ^ l.length≤10 ^ 9:=Nat.pow_le_pow_right (by decide) hl
 omega
theorem lib_parseUint (l:List UInt8) (hd:Dg l) (h1:1≤l.length) (h9:l.length≤9):Fn E z5z [.c (.str (B l)),.c (.i64 10),.c (.i64 32)] (.tup [.c (.u64 (dval l:Int)),.undef]) :=
 fn_of_calls (ds:=[.str (B l),.i64 10,.i64 32]) (vs:=[.string (B l),.int .i64 10,.int .i64 32]) E.hs (enters_known (by kernel_rfl)) (AV.isData_ok rfl) rfl fun w hg _=>by
  have hp:Go.Lib.parseUintB 32 (B l).data.toList=.ok (dval l):=by
   rw [B_list]
   unfold Go.Lib.parseUintB
   rw [if_neg (by intro e; rw [e] at h1; simp at h1),uintM_ok (by decide) l 0 hd (by have:=dval_small hd h9; omega)]
   simp
  refine Calls.mono (Tryz.strconv_ParseUint_10_at32_ok (B l) (by rw [B_size]; omega) _ hp w) ?_
  rintro e w' ⟨rfl,hw⟩
  have hk:Kept (fun _=>False) w w':=by
   rcases hw with rfl | rfl
   · exact Kept.refl _ _
   · exact Kept.of_below (Go.Lib.bytesWorld_below w 5 (B l))
  refine ⟨_,rfl,hk,fun ext=>?_⟩
  refine .tup [_,_] _ rfl fun i v a h1 h2=>?_
  match i,h1,h2 with
  | 0,h1,h2=>cases h1; cases h2; exact .c (.int _ _)
  | 1,h1,h2=>cases h1; cases h2; exact .undef _
theorem lib_parseInt (z:Int) (hl:(decZ z).length≤9):Fn E z3i [.c (.str (B (decZ z))),.c (.i64 10),.c (.i64 64)] (.tup [.c (.i64 z),.undef]) :=
 fn_of_calls (ds:=[.str (B (decZ z)),.i64 10,.i64 64]) (vs:=[.string (B (decZ z)),.int .i64 10,.int .i64 64]) E.hs (enters_known (by kernel_rfl)) (AV.isData_ok rfl) rfl fun w hg _=>by
  have hla:(dec z.natAbs).length≤9:=Nat.le_trans (by unfold decZ; split <;> simp) hl
  have hn:=dval_small (dec_dg z.natAbs) hla
  rw [dval_dec] at hn
  have hu:Go.Lib.parseUintB 64 (dec z.natAbs)=.ok z.natAbs:=by
   unfold Go.Lib.parseUintB
   rw [if_neg (dec_ne _),uintM_ok (by decide) _ 0 (dec_dg _) (by rw [dval_dec]; omega),dval_dec]
   simp
  have hp:Go.Lib.parseIntB 64 (B (decZ z)).data.toList=.ok z:=by
   rw [B_list]
   by_cases h:z < 0
   · rw [decZ_neg h]
     unfold Go.Lib.parseIntB
     simp only
     rw [if_pos (.inr rfl),hu]
     simp only
     rw [if_neg (by simp),if_neg (by omega),if_pos (show UInt8.toNat 45=45 from rfl)]
     congr 1; omega
   · rw [decZ_nonneg (by omega)]
     cases hd:dec z.natAbs with
     | nil=>exact absurd hd (dec_ne _)
     | cons c r =>
      have hc:=dec_dg z.natAbs c (by rw [hd]; simp)
      unfold Go.Lib.parseIntB
      simp only
      rw [if_neg (by omega),← hd,hu]
      simp only
      rw [if_neg (by omega),if_neg (by omega),if_neg (by omega)]
      congr 1; omega
  refine Calls.mono (Tryz.strconv_ParseInt_10_at64_ok (B (decZ z)) (by rw [B_size]; omega) _ hp w) ?_
  rintro e w' ⟨rfl,hw⟩
  have hk:Kept (fun _=>False) w w':=by
   rcases hw with rfl | ⟨t,rfl⟩
   · exact Kept.refl _ _
   · exact Kept.of_below (Go.Lib.bytesWorld_below w 5 t)
  refine ⟨_,rfl,hk,fun ext=>?_⟩
  refine .tup [_,_] _ rfl fun i v a h1 h2=>?_
  match i,h1,h2 with
  | 0,h1,h2=>cases h1; cases h2; exact .c (.int _ _)
  | 1,h1,h2=>cases h1; cases h2; exact .undef _
end Gev
namespace Go.Proofs
open Go.RowKit Go.Shelf Go.Sort Go.MapKept
set_option maxRecDepth 100000
theorem u165:Tryz.prog.underlying 165=some (.map 5 164):=by kernel_rfl
theorem u5:Tryz.prog.underlying 5=some (.int .u8):=by kernel_rfl
theorem run_ins (w:World) (es:Array MapEntry) (c:Nat) (k:Int) (v:Value) (hf:Instr.findNow (.int .u8) (.int .u8 k) es.toList 0=some none) :
    (Instr.mapUpdate 165 (.map (some w.heap.size)) (.int .u8 k) v).run Tryz.prog (w.alloc (.map es c))=.ok () (w.alloc (.map (es.push { key:=.int .u8 k,val:=v,born:=c }) (c+1))):=by
 have hb:(w.alloc (.map es c)).heap[w.heap.size]?=some (.map es c):=World.alloc_heap_new w _
 have hs:({ (w.alloc (.map es c)) with heap:=(w.alloc (.map es c)).heap.setIfInBounds w.heap.size (.map (es.push { key:=.int .u8 k,val:=v,born:=c }) (c+1)) }:World)=w.alloc (.map (es.push { key:=.int .u8 k,val:=v,born:=c }) (c+1)):=by
  show ({ w with heap:=(w.heap.push (.map es c)).setIfInBounds w.heap.size _ }:World)={ w with heap:=w.heap.push _ }
  have e:∀ (h:Array Obj) (x y:Obj),(h.push x).setIfInBounds h.size y=h.push y:=fun h x y=>by
   apply Array.ext'
   simp [List.set_append]
  rw [e]
 have hk:IsKey (TypeDesc.int IntKind.u8) (Value.int IntKind.u8 k):=rfl
 simp only [Instr.mapUpdate,Sem.run_bind,run_underlying u165,Result.andThen,Go.MapKept.run_getObj_map hb,Go.MapKept.run_checkKey u5 hk,Go.MapKept.run_findKey u5 hf,Go.MapKept.run_setObj_map _ hb,hs]
def opsMap:Array MapEntry:=#[{ key:=.int .u8 43,val:=.func (.func 159) #[] #[],born:=0 },{ key:=.int .u8 42,val:=.func (.func 160) #[] #[],born:=1 },{ key:=.int .u8 45,val:=.func (.func 161) #[] #[],born:=2 },{ key:=.int .u8 47,val:=.func (.func 163) #[] #[],born:=3 }]
theorem ops_raw (w:World):Calls Tryz.prog 145 #[] w fun e w'=>e=.returned (.map (some w.heap.size))∧w'=w.alloc (.map opsMap 4):=by
 have hmm:=@run_makeMap Tryz.prog
 have h1:=run_ins w #[] 0 43 (.func (.func 159) #[] #[]) rfl
 have h2:=run_ins w (#[{ key:=.int .u8 43,val:=.func (.func 159) #[] #[],born:=0 }]) 1 42 (.func (.func 160) #[] #[]) rfl
 have h3:=run_ins w (#[{ key:=.int .u8 43,val:=.func (.func 159) #[] #[],born:=0 },{ key:=.int .u8 42,val:=.func (.func 160) #[] #[],born:=1 }]) 2 45 (.func (.func 161) #[] #[]) rfl
 have h4:=run_ins w (#[{ key:=.int .u8 43,val:=.func (.func 159) #[] #[],born:=0 },{ key:=.int .u8 42,val:=.func (.func 160) #[] #[],born:=1 },{ key:=.int .u8 45,val:=.func (.func 161) #[] #[],born:=2 }]) 3 47 (.func (.func 163) #[] #[]) rfl
 go_enter Tryz.func145,Tryz.ntmps145
 go_wp2
 go_ret
 exact ⟨rfl,rfl⟩
theorem all_raw (w:World):Calls Tryz.prog 131 #[] w fun e w'=>e=.returned (.map (some w.heap.size))∧w'=w.alloc (.map opsMap 4):=by
 go_enter Tryz.func131,Tryz.ntmps131
 go_wp2_with (go_at_call 145; refine (ops_raw _).mono ?_; rintro e w' ⟨rfl,rfl⟩)
 go_ret
 exact ⟨rfl,rfl⟩
theorem run_look (w w1:World) (hb:w1.heap[w.heap.size]?=some (.map opsMap 4)) (k:Int) (f:Nat) (h:(k,f)∈[((43:Int),159),(42,160),(45,161),(47,163)]) :
    (Instr.lookup 165 (.map (some w.heap.size)) (.int .u8 k) false).run Tryz.prog w1=.ok (.func (.func f) #[] #[]) w1:=by
 have hk:IsKey (TypeDesc.int IntKind.u8) (Value.int IntKind.u8 k):=rfl
 have hf:∃ i,Instr.findNow (.int .u8) (.int .u8 k) opsMap.toList 0=some (some (i,.func (.func f) #[] #[])):=by
  simp only [List.mem_cons,Prod.mk.injEq,List.not_mem_nil,or_false] at h
  rcases h with ⟨rfl,rfl⟩ | ⟨rfl,rfl⟩ | ⟨rfl,rfl⟩ | ⟨rfl,rfl⟩
  · exact ⟨0,rfl⟩
  · exact ⟨1,rfl⟩
  · exact ⟨2,rfl⟩
  · exact ⟨3,rfl⟩
 obtain ⟨i,hf⟩:=hf
 simp [Instr.lookup,run_underlying u165,Result.andThen,Go.MapKept.run_getObj_map hb,Go.MapKept.run_checkKey u5 hk,Go.MapKept.run_findKey u5 hf]
end Go.Proofs
namespace Gev
open Go Gb Go.Proofs Go.Sort
variable {E:Env}
theorem rep_str {Γ:Ctx} {v:Value} {s:ByteArray} (h:RepA DD Γ v (.c (.str s))):v=.string s:=by cases h with | c h=>cases h; rfl
theorem rep_i64 {Γ:Ctx} {v:Value} {n:Int} (h:RepA DD Γ v (.c (.i64 n))):v=.int .i64 n:=by cases h with | c h=>cases h; rfl
theorem rep_two {Γ:Ctx} {v:Value} {x y:ByteArray} (h:RepA DD Γ v (.agg [.str x,.str y])):v=.agg #[.string x,.string y]:=by
 cases h with
 | agg vs cs hl h =>
  match vs,hl with
  | ⟨[p,q]⟩,_ =>
   have h0:=h 0 p _ rfl rfl
   have h1:=h 1 q _ rfl rfl
   cases h0; cases h1; rfl
theorem two_rep {Γ:Ctx} (x y:ByteArray):RepA DD Γ (.agg #[.string x,.string y]) (.agg [.str x,.str y]):=by
 refine .agg #[_,_] _ rfl fun j u d h1 h2=>?_
 match j,h1,h2 with
 | 0,h1,h2=>cases h1; cases h2; exact .str _
 | 1,h1,h2=>cases h1; cases h2; exact .str _
theorem call_both {a b x1 x2 y1 y2:ByteArray} (h:Fn E X9 [.c (.str a),.c (.str b)] (.tup [.agg [.str x1,.str x2],.agg [.str y1,.str y2],.c (.i64 0)])) (w:World) (hg:E.Gd w) (hB:E.B0≤w.heap.size) :
    Calls Tryz.prog 109 #[.string a,.string b] w fun e w'=>e=.returned (.tuple #[.agg #[.string x1,.string x2],.agg #[.string y1,.string y2],.int .i64 0])∧E.Gd w'∧Kept (fun _=>False) w w':=by
 refine Calls.mono (h.calls w (fun _=>False) #[.string a,.string b] hg hB (fun _ h=>h.elim) rfl fun i v x h1 h2=>?_) ?_
 · match i,h1,h2 with
   | 0,h1,h2=>cases h1; cases h2; exact .c (.str _)
   | 1,h1,h2=>cases h1; cases h2; exact .c (.str _)
 · rintro e w' ⟨v,rfl,k1,k2,k3⟩
   refine ⟨?_,k1,k2⟩
   cases k3 with
   | tup vs us hl h =>
    match vs,hl with
    | [p,q,r],_ =>
     have h0:=rep_two (h 0 p _ rfl rfl)
     have h1:=rep_two (h 1 q _ rfl rfl)
     have h2:=rep_i64 (h 2 r _ rfl rfl)
     subst h0 h1 h2; rfl
theorem call_two {f:Nat} {x1 x2 y1 y2 z1 z2:ByteArray} (h:Fn E f [.agg [.str x1,.str x2],.agg [.str y1,.str y2]] (.agg [.str z1,.str z2])) (w:World) (hg:E.Gd w) (hB:E.B0≤w.heap.size) :
    Calls Tryz.prog f #[.agg #[.string x1,.string x2],.agg #[.string y1,.string y2]] w fun e w'=>e=.returned (.agg #[.string z1,.string z2])∧E.Gd w'∧Kept (fun _=>False) w w':=by
 refine Calls.mono (h.calls w (fun _=>False) #[_,_] hg hB (fun _ h=>h.elim) rfl fun i v x h1 h2=>?_) ?_
 · match i,h1,h2 with
   | 0,h1,h2=>cases h1; cases h2; exact two_rep _ _
   | 1,h1,h2=>cases h1; cases h2; exact two_rep _ _
 · rintro e w' ⟨v,rfl,k1,k2,k3⟩
   rw [rep_two k3]; exact ⟨rfl,k1,k2⟩
theorem call_text {z1 z2 t:ByteArray} (h:Fn E V1 [.agg [.str z1,.str z2]] (.c (.str t))) (w:World) (hg:E.Gd w) (hB:E.B0≤w.heap.size) :
    Calls Tryz.prog 132 #[.agg #[.string z1,.string z2]] w fun e w'=>e=.returned (.string t)∧E.Gd w'∧Kept (fun _=>False) w w':=by
 refine Calls.mono (h.calls w (fun _=>False) #[_] hg hB (fun _ h=>h.elim) rfl fun i v x h1 h2=>?_) ?_
 · match i,h1,h2 with
   | 0,h1,h2=>cases h1; cases h2; exact two_rep _ _
 · rintro e w' ⟨v,rfl,k1,k2,k3⟩
   rw [rep_str k3]; exact ⟨rfl,k1,k2⟩
end Gev
namespace Go.Proofs
open Go.RowKit Go.Shelf Go.Sort Gev
theorem kept_drew (W:World) (o:Obj):Kept (fun _=>False) W (W.drew.alloc o):=⟨fun b hb h=>(Kept.alloc (fun _=>False) W.drew o).heap b hb h,(Kept.alloc (fun _=>False) W.drew o).size,rfl,rfl,rfl⟩
theorem behind_all {Gd:World→Prop} {B0:Nat} (hs:Stable B0 Gd) {w W2 w3:World} {x1 x2 y1 y2:ByteArray} {n:Nat} (hg:Gd w) (hB:B0≤w.heap.size) (k2:Kept (fun _=>False) w W2) (hw:w3=W2.drew.alloc (.map opsMap 4)) {op:Int} {f:Nat} (hop:(op,f)∈[((43:Int),159),(42,160),(45,161),(47,163)])
    (a0:W2.cell? ⟨n,0,none⟩=some (.string x1)) (a1:W2.cell? ⟨n,1,none⟩=some (.string x2)) (b0:W2.cell? ⟨n+1,0,none⟩=some (.string y1)) (b1:W2.cell? ⟨n+1,1,none⟩=some (.string y2)) :
    (Instr.lookup 165 (.map (some W2.heap.size)) (.int .u8 op) false).run Tryz.prog w3=.ok (.func (.func f) #[] #[]) w3∧w3.cell? ⟨n,0,none⟩=some (.string x1)∧w3.cell? ⟨n,1,none⟩=some (.string x2)∧w3.cell? ⟨n+1,0,none⟩=some (.string y1)∧w3.cell? ⟨n+1,1,none⟩=some (.string y2)∧Gd w3∧B0≤w3.heap.size∧Kept (fun _=>False) w w3:=by
 subst hw
 have k3:=kept_drew W2 (.map opsMap 4)
 have k:=k2.trans k3 (fun _ h=>False.elim h)
 exact ⟨run_look W2 _ (World.alloc_heap_new W2.drew _) op f hop,k3.cell a0 id,k3.cell a1 id,k3.cell b0 id,k3.cell b1 id,hs w _ (fun b hb=>k.heap b (Nat.lt_of_lt_of_le hb hB) id) k.size hg,Nat.le_trans hB k.size,k⟩
set_option maxRecDepth 100000 in
set_option maxHeartbeats 40000000 in
theorem apply_raw (Gd:World→Prop) (B0:Nat) (hs:Stable B0 Gd) (op:Int) (f:Nat) (hop:(op,f)∈[((43:Int),159),(42,160),(45,161),(47,163)]) (a b x1 x2 y1 y2 z1 z2 t:ByteArray) (h47:op=47→¬ y1=(⟨#[48]⟩:ByteArray))
    (ef:∀ args w,(callFunc f args).run Tryz.prog w=.ok (.enter f args) w)
    (hb:∀ w,Gd w→B0≤w.heap.size→Calls Tryz.prog 109 #[.string a,.string b] w fun e w'=>e=.returned (.tuple #[.agg #[.string x1,.string x2],.agg #[.string y1,.string y2],.int .i64 0])∧Gd w'∧Kept (fun _=>False) w w')
    (hf:∀ w,Gd w→B0≤w.heap.size→Calls Tryz.prog f #[.agg #[.string x1,.string x2],.agg #[.string y1,.string y2]] w fun e w'=>e=.returned (.agg #[.string z1,.string z2])∧Gd w'∧Kept (fun _=>False) w w')
    (ht:∀ w,Gd w→B0≤w.heap.size→Calls Tryz.prog 132 #[.agg #[.string z1,.string z2]] w fun e w'=>e=.returned (.string t)∧Gd w'∧Kept (fun _=>False) w w') (w:World) (hg:Gd w) (hB:B0≤w.heap.size) :
    Calls Tryz.prog 114 #[.int .u8 op,.string a,.string b] w fun e w'=>e=.returned (.tuple #[.string t,.int .i64 0])∧Kept (fun _=>False) w w':=by
 go_enter Tryz.func114,Tryz.ntmps114
 go_wp2_with (go_at_call 109; refine (hb _ hg hB).mono ?_; rintro e w1 ⟨rfl,g1,k1⟩)
 · rename_i _ hq
   exact absurd (bytes_ext (b:=(⟨#[48]⟩:ByteArray)) ((eq_of_beq hq).trans (by rw [toList_eq]))) (h47 (by assumption))
 all_goals
  obtain ⟨W2,hW2⟩:∃ W2,W2=(w1.alloc (.cells #[.string x1,.string x2] 133)).alloc (.cells #[.string y1,.string y2] 133):=⟨_,rfl⟩
  rw [← hW2]
  have a0:W2.cell? ⟨w1.heap.size,0,none⟩=some (.string x1):=by rw [hW2]; simp
  have a1:W2.cell? ⟨w1.heap.size,1,none⟩=some (.string x2):=by rw [hW2]; simp
  have b0:W2.cell? ⟨w1.heap.size+1,0,none⟩=some (.string y1):=by rw [hW2]; simp
  have b1:W2.cell? ⟨w1.heap.size+1,1,none⟩=some (.string y2):=by rw [hW2]; simp
  have k2:Kept (fun _=>False) w W2:=by rw [hW2]; exact (k1.trans (Kept.alloc (fun _=>False) _ _) (fun _ h=>False.elim h)).trans (Kept.alloc (fun _=>False) _ _) (fun _ h=>False.elim h)
  have g2:Gd W2:=hs w _ (fun b hb=>k2.heap b (Nat.lt_of_lt_of_le hb hB) id) k2.size hg
  have hB2:=Nat.le_trans hB k2.size
  clear hW2
  try subst op
  go_region_with (first
   | (go_at_call 131; refine (all_raw _).mono ?_; rintro e w3 ⟨rfl,hw3⟩; obtain ⟨hl,a0',a1',b0',b1',g3,hB3,k3⟩:=behind_all hs hg hB k2 hw3 hop a0 a1 b0 b1; clear hw3)
   | (go_at_call 132; refine (ht _ g4 hB4).mono ?_; rintro e w5 ⟨rfl,g5,k5⟩)
   | (refine (hf _ g3 hB3).mono ?_; rintro e w4 ⟨rfl,g4,k4⟩; have hB4:=Nat.le_trans hB3 k4.size))
  all_goals
   go_wp2
   go_ret2
   exact ⟨rfl,(k3.trans k4 (fun _ h=>False.elim h)).trans k5 (fun _ h=>False.elim h)⟩
end Go.Proofs
namespace Gev
open Go Gb Go.Proofs
variable {E:Env}
theorem lib_apply (op:Int) (f:Nat) (hop:(op,f)∈[((43:Int),z0s),(42,Z0),(45,V2),(47,V3)]) (a b x1 x2 y1 y2 z1 z2 t:ByteArray)
    (hb:Fn E X9 [.c (.str a),.c (.str b)] (.tup [.agg [.str x1,.str x2],.agg [.str y1,.str y2],.c (.i64 0)])) (h47:op=47→¬ y1=B [48])
    (hf:Fn E f [.agg [.str x1,.str x2],.agg [.str y1,.str y2]] (.agg [.str z1,.str z2])) (ht:Fn E V1 [.agg [.str z1,.str z2]] (.c (.str t))):Fn E z1g [.c (.u8 op),.c (.str a),.c (.str b)] (.tup [.c (.str t),.c (.i64 0)]) :=
 fn_of_calls (ds:=[.u8 op,.str a,.str b]) (vs:=[.int .u8 op,.string a,.string b]) E.hs (enters_known (by kernel_rfl)) (AV.isData_ok rfl) rfl fun w hg hB=>by
  refine Calls.mono (apply_raw E.Gd E.B0 E.hs op f hop a b x1 x2 y1 y2 z1 z2 t h47 hf.enters (call_both hb) (call_two hf) (call_text ht) w hg hB) ?_
  rintro e w' ⟨rfl,hk⟩
  refine ⟨_,rfl,hk,fun ext=>?_⟩
  refine .tup [_,_] _ rfl fun i v a h1 h2=>?_
  match i,h1,h2 with
  | 0,h1,h2=>cases h1; cases h2; exact .c (.str _)
  | 1,h1,h2=>cases h1; cases h2; exact .c (.int _ _)
theorem lib_cut2 (L:Laid E) (s sep:List UInt8) (hs:s.length < 4200000000):Fn E O4 [.c (.str (B s)),.c (.str (B sep))] (.tup [.c (.str (B (Go.Lib.cut s sep).1)),.c (.str (B (Go.Lib.cut s sep).2.1)),.c (.bool (Go.Lib.cut s sep).2.2)]) :=
 fn_of_calls (ds:=[.str (B s),.str (B sep)]) (vs:=[.string (B s),.string (B sep)]) E.hs (enters_known (by kernel_rfl)) (AV.isData_ok rfl) rfl fun w hg _=>by
  obtain ⟨m,hm⟩:=L.max w hg
  refine Calls.mono (Tryz.strings_Cut (B s) (B sep) m w (by rw [B_size]; omega) hm) ?_
  rintro e w' ⟨rfl,n,rfl⟩
  refine ⟨_,rfl,Kept.of_drewN w n,fun ext=>?_⟩
  rw [B_list,B_list]
  refine .tup [_,_,_] _ rfl fun i v a h1 h2=>?_
  match i,h1,h2 with
  | 0,h1,h2=>cases h1; cases h2; exact str_rep _
  | 1,h1,h2=>cases h1; cases h2; exact str_rep _
  | 2,h1,h2=>cases h1; cases h2; exact .c (.bool _)
theorem lib_all (L:Laid E):Lib E where
 parseUint l h1 h2 h3:=lib_parseUint l h1 h2 h3
 cutPrefix l p _ _:=lib_cutPrefix l p
 cutYes p q hp hl:=by
  have h:=lib_cut2 L (p++47::q) [47] (by simp; omega)
  rw [cut_yes hp] at h; exact h
 cutNo p hp hl:=by
  have h:=lib_cut L p [47] hl
  rw [cut_no hp] at h; exact h
 parseInt z hz:=lib_parseInt z hz
 formatInt z hz:=lib_formatInt L z hz
 itoa z hz:=lib_itoa L z hz
 apply op f hop a b x1 x2 y1 y2 z1 z2 t hb h47 hf ht:=lib_apply op f hop a b x1 x2 y1 y2 z1 z2 t hb h47 hf ht
 text n K h hK:=text_ok L.tab h hK
end Gev
namespace Gev
open Go Gb Go.Proofs
variable {E:Env}
def RT (T:List (List ByteArray)):List (List DV):=T.map fun x=>x.map DV.str
def vT:List (List ByteArray)→List Value
 | []=>[]
 | x::T=>x.map Value.string++vT T
theorem RT_len (T:List (List ByteArray)):(RT T).length=T.length:=by simp [RT]
theorem RT_get {T:List (List ByteArray)} {i:Nat} {x} (h:T[i]?=some x):(RT T)[i]?=some (x.map DV.str):=by simp [RT,h]
theorem RT_of {T:List (List ByteArray)} {i:Nat} {y} (h:(RT T)[i]?=some y):∃ x,T[i]?=some x∧y=x.map DV.str:=by
 unfold RT at h
 rw [List.getElem?_map] at h
 cases hp:T[i]? with
 | none=>rw [hp] at h; cases h
 | some x=>rw [hp] at h; cases h; exact ⟨x,rfl,rfl⟩
theorem vT_len {k:Nat}:∀ {T:List (List ByteArray)},(∀ x∈T,x.length=k)→(vT T).length=T.length*k
 | [],_=>by show 0=0*k; omega
 | x::T,h=>by
  show (x.map Value.string++vT T).length=(T.length+1)*k
  rw [List.length_append,List.length_map,vT_len fun y hy=>h y (List.mem_cons_of_mem _ hy),h x (by simp),Nat.add_mul]
  omega
theorem vT_get {k:Nat}:∀ {T:List (List ByteArray)} {j:Nat} {u:Value},(∀ x∈T,x.length=k)→(vT T)[j]?=some u→∃ i x d b,T[i]?=some x∧x[d]?=some b∧j=i*k+d∧u=.string b
 | [],j,u,_,h=>by cases h
 | x::T,j,u,hk,h=>by
  have h:(x.map Value.string++vT T)[j]?=some u:=h
  have hx:=hk x (by simp)
  rcases Nat.lt_or_ge j k with hj | hj
  · rw [List.getElem?_append_left (by rw [List.length_map]; omega),List.getElem?_map] at h
    cases hb:x[j]? with
    | none=>rw [hb] at h; cases h
    | some b=>rw [hb] at h; cases h; exact ⟨0,x,j,b,rfl,hb,by omega,rfl⟩
  · rw [List.getElem?_append_right (by rw [List.length_map]; omega),List.length_map,hx] at h
    obtain ⟨i,y,d,b,h1,h2,h3,h4⟩:=vT_get (fun y hy=>hk y (List.mem_cons_of_mem _ hy)) h
    exact ⟨i+1,y,d,b,h1,h2,by rw [Nat.add_mul]; omega,h4⟩
theorem vT_at {k:Nat}:∀ {T:List (List ByteArray)} {i d:Nat} {x b},(∀ x∈T,x.length=k)→T[i]?=some x→x[d]?=some b→(vT T)[i*k+d]?=some (.string b)
 | y::T,0,d,x,b,hk,h,hd=>by
  cases h
  show (y.map Value.string++vT T)[0*k+d]?=_
  have:=(List.getElem?_eq_some_iff.1 hd).1
  rw [Nat.zero_mul,Nat.zero_add,List.getElem?_append_left (by rw [List.length_map]; omega),List.getElem?_map,hd]; rfl
 | y::T,i+1,d,x,b,hk,h,hd=>by
  show (y.map Value.string++vT T)[(i+1)*k+d]?=_
  have hy:=hk y (by simp)
  rw [List.getElem?_append_right (by rw [List.length_map,hy,Nat.add_mul]; omega),List.length_map,hy,show (i+1)*k+d - k=i*k+d by rw [Nat.add_mul]; omega]
  exact vT_at (fun y hy=>hk y (List.mem_cons_of_mem _ hy)) h hd
theorem vT_one {T:List (List ByteArray)} {k:Nat} (hk:∀ x∈T,x.length=k):∀ u∈vT T,u.oneCell'=true:=fun u hu=>by
 obtain ⟨j,hj⟩:=List.getElem?_of_mem hu
 obtain ⟨i,x,d,b,_,_,_,rfl⟩:=vT_get hk hj
 rfl
theorem str_at {x:List ByteArray} {d:Nat} {v:DV} (h:(x.map DV.str)[d]?=some v):∃ b,x[d]?=some b∧v=.str b:=by
 rw [List.getElem?_map] at h
 cases hb:x[d]? with
 | none=>rw [hb] at h; cases h
 | some b=>rw [hb] at h; cases h; exact ⟨b,rfl,rfl⟩
theorem own_row {Γ:Ctx} {B0:Nat} {Gd:World→Prop} (hs:Stable B0 Gd) (ho:Γ.objs=[]) (hG:Good DD B0 Gd Γ) {w':World} (hk:Kept (fun _=>False) Γ.w w') {T k:Nat} {ti:TI} (ht:DD.ty T=some ti) (h2:ti.size=k) {l:List (List ByteArray)} (hlk:∀ x∈l,x.length=k) {v:Value}
    (hr:w'.ownsRow Γ.w.heap.size T k v l.length (vT l)):∃ Γ':Ctx,Γ'.objs=[some (.vec T (RT l))]∧Γ'.w=w'∧Good DD B0 Gd Γ'∧Tr DD Γ Γ'∧RepA DD Γ' v (.vec 0 l.length):=by
 have hnone:∀ k,lk Γ.objs k=none:=fun k=>by rw [ho]; rfl
 have hmine:∀ b,¬ Γ.mine b:=fun b ⟨k,o,h,_⟩=>by rw [hnone] at h; cases h
 have hgd:Gd w':=hs _ _ (fun b hb=>hk.heap b (Nat.lt_of_lt_of_le hb hG.size) id) hk.size hG.gd
 have hlen:∀ x∈RT l,x.length=ti.size:=fun x hx=>by
  unfold RT at hx
  obtain ⟨p,hp,rfl⟩:=List.mem_map.1 hx
  rw [h2,List.length_map]; exact hlk p hp
 have mk:∀ (ob:Option Nat),(∀ b,ob=some b→Γ.w.heap.size≤b)→∀ Γ':Ctx,Γ'=⟨⟨fun k=>if k=0 then ob else none,Γ.S.ext⟩,[some (.vec T (RT l))],w'⟩→ObRep DD Γ' 0 (.vec T (RT l))→Good DD B0 Gd Γ'∧Tr DD Γ Γ':=by
  intro ob hob Γ' e hob2
  have hm:∀ b,Γ'.mine b→Γ.w.heap.size≤b:=fun b ⟨k,o,h,_,hS⟩=>by
   subst e
   have hS:(if k=0 then ob else none)=some b:=hS
   split at hS
   · exact hob b hS
   · cases hS
  have hl:∀ k o,lk Γ'.objs k=some o→k=0∧o=.vec T (RT l):=fun k o h=>by
   subst e
   match k,h with
   | 0,h=>cases h; exact ⟨rfl,rfl⟩
  have hw:Γ'.w=w':=by subst e; rfl
  have hex:Γ'.S.ext=Γ.S.ext:=by subst e; rfl
  refine ⟨⟨fun k o h=>?_,fun k k' o o' b h h' _ _ _ _=>?_,fun b hb=>?_,fun b hb=>⟨?_,fun h=>?_⟩,?_,?_⟩,⟨by rw [hw]; exact hk.mono fun _ h=>h.elim,hex,fun b hb=>.inr (hm b hb),fun k cs h=>?_,fun v k len h=>?_,fun v k i off h=>?_⟩⟩
  · obtain ⟨rfl,rfl⟩:=hl k o h; exact hob2
  · rw [(hl k o h).1,(hl k' o' h').1]
  · rcases hb with hb | hb
    · exact hG.own b (.inl (hex ▸ hb))
    · exact Nat.le_trans hG.size (hm b hb)
  · rw [hw]; exact Nat.lt_of_lt_of_le (hG.ext b (hex ▸ hb)).1 hk.size
  · have:=hm b h; have:=(hG.ext b (hex ▸ hb)).1; omega
  · rw [hw]; exact Nat.le_trans hG.size hk.size
  · rw [hw]; exact hgd
  · rw [hnone] at h; cases h
  · cases h with
    | vnil _ _ h1=>rw [hnone] at h1; cases h1
    | vec _ _ _ _ _ _ _ _ h1=>rw [hnone] at h1; cases h1
    | fvec _ _ _ h1=>rw [hnone] at h1; cases h1
    | gone _ _ h1=>rw [hnone] at h1; cases h1
  · cases h with
    | vptr _ _ _ _ _ _ _ h1=>rw [hnone] at h1; cases h1
    | fptr _ _ _ _ _ _ h1=>rw [hnone] at h1; cases h1
    | pgone _ _ _ h1=>rw [hnone] at h1; cases h1
 obtain ⟨_,hr⟩:=hr
 rcases hr with ⟨rfl,h0⟩ | ⟨g,cap,cur,rfl,hb,hg,hnc,_,hsz,hcur⟩
 · have hl0:l=[]:=List.eq_nil_of_length_eq_zero h0
   subst hl0
   obtain ⟨a1,a2⟩:=mk none (fun _ h=>by cases h) _ rfl ⟨ti,ht,hlen,.inl ⟨rfl,rfl⟩⟩
   exact ⟨_,rfl,rfl,a1,a2,.vnil 0 T rfl rfl⟩
 · obtain ⟨a1,a2⟩:=mk (some g) (fun b h=>by cases h; exact hb) _ rfl ⟨ti,ht,hlen,.inr ⟨g,cur,cap,rfl,hg,by rw [h2]; exact hsz,by rw [RT_len]; exact hnc,fun i x j d u h1 h3 h4=>by
    rw [h2] at h4
    obtain ⟨p,hp,rfl⟩:=RT_of h1
    obtain ⟨b,hb,rfl⟩:=str_at h3
    have hv:=vT_at hlk hp hb
    have hlt:i*k+j < l.length*k:=by rw [← vT_len hlk]; exact (List.getElem?_eq_some_iff.1 hv).1
    rw [← Array.getElem?_toList,← List.getElem?_take_of_lt hlt,hcur,hv] at h4
    cases h4; exact .str _⟩⟩
   exact ⟨_,rfl,rfl,a1,a2,.vec 0 l.length cap g T ti (RT l) cur rfl ht rfl (by rw [RT_len]; exact Nat.le_refl _) hg (by rw [h2]; exact hsz) (by rw [RT_len]; exact hnc)⟩
theorem rn_clone {f T k:Nat} (hen:∀ cargs w,(callFunc f cargs).run PP w=.ok (.enter f cargs) w) (hti:(DD.ty T).map (·.size)=some k)
    (hsome:∀ (a:Addr) (n c:Nat) (news:List Value) (w:World),news.length=n*k→n≤100000→(∀ j u,news[j]?=some u→w.cell? (a.add j)=some u)→(∀ u∈news,u.oneCell'=true)→Calls PP f #[.slice (some a) n c] w fun e w'=>∃ v',e=.returned v'∧w'.ownsRow w.heap.size T k v' n news∧Go.RowKit.Below w.heap.size w w')
    (hnil:∀ (n c:Nat) (w:World),Calls PP f #[.slice none n c] w fun e w'=>e=.returned (.slice none 0 0)∧w'=w)
    (l:List (List ByteArray)) (hlk:∀ x∈l,x.length=k) (hl:l.length < 1000):Rn E f [.c (.list (RT l))] [] (.vec 0 l.length) [some (.vec T (RT l))]:=by
 obtain ⟨ti,ht,h2⟩:∃ ti,DD.ty T=some ti∧ti.size=k:=by
  cases ht:DD.ty T with
  | none=>rw [ht] at hti; cases hti
  | some ti=>rw [ht] at hti; exact ⟨ti,rfl,Option.some.inj hti⟩
 refine ⟨hen,fun Γ cargs ho hG hcl ha=>?_⟩
 obtain ⟨v,rfl⟩:∃ v,cargs=#[v]:=by
  match cargs,hcl with
  | ⟨[v]⟩,_=>exact ⟨v,rfl⟩
 have hc0:=ha 0 v _ rfl rfl
 cases hc0 with
 | c hr =>
  generalize hxs:RT l=xs at hr
  cases hr with
  | list A c xs sz u hc hA hx' hu hd =>
   subst hxs
   rw [RT_len] at hc ⊢
   cases A with
   | none =>
    have hl0:l=[]:=by
     cases l with
     | nil=>rfl
     | cons p l=>obtain ⟨a,h,_⟩:=hA (by intro e; cases e); cases h
    subst hl0
    refine Calls.mono (hnil _ c Γ.w) ?_
    rintro e w' ⟨rfl,rfl⟩
    obtain ⟨Γ',a1,a2,a3,a4,a5⟩:=own_row E.hs ho hG (Kept.refl _ _) ht h2 (l:=[]) hlk (v:=.slice none 0 0) ⟨(Nat.zero_mul k).symm,.inl ⟨rfl,rfl⟩⟩
    exact ⟨_,Γ',rfl,a1,a2,a3,a4,a5⟩
   | some a =>
    refine Calls.mono (hsome a l.length c (vT l) Γ.w (vT_len hlk) (by omega) (fun j w0 hj=>?_) (vT_one hlk)) ?_
    · obtain ⟨i,x,d,b,h3,h5,rfl,rfl⟩:=vT_get hlk hj
      have g:=RT_get h3
      have hsz:sz=k:=by rw [← hx' _ (List.mem_of_getElem? g),List.length_map]; exact hlk x (List.mem_of_getElem? h3)
      subst hsz
      have g2:(x.map DV.str)[d]?=some (.str b):=by rw [List.getElem?_map,h5]; rfl
      have d0:=hd i _ d _ g g2
      rw [hu a i _ d _ rfl g g2]
      generalize u i d=q at d0
      cases d0; rfl
    · rintro e w' ⟨v',rfl,hown,hb⟩
      obtain ⟨Γ',a1,a2,a3,a4,a5⟩:=own_row E.hs ho hG (Kept.of_below hb) ht h2 hlk hown
      exact ⟨_,Γ',rfl,a1,a2,a3,a4,a5⟩
end Gev
namespace Gev
open Go Gb Go.Proofs
variable {E:Env}
def putC (arr:Array Value):Nat→List Value→Array Value
 | _,[]=>arr
 | o,v::r=>putC (arr.setIfInBounds o v) (o+1) r
theorem putC_size:∀ (vs:List Value) (o:Nat) (arr:Array Value),(putC arr o vs).size=arr.size
 | [],_,_=>rfl
 | v::r,o,arr=>by show (putC (arr.setIfInBounds o v) (o+1) r).size=_; rw [putC_size]; simp
theorem putC_get:∀ (vs:List Value) (o:Nat) (arr:Array Value) (j:Nat),o+vs.length≤arr.size→(putC arr o vs)[j]?=if o≤j∧j < o+vs.length then vs[j - o]? else arr[j]?
 | [],o,arr,j,_=>by rw [if_neg (by simp only [List.length_nil]; omega)]; rfl
 | v::r,o,arr,j,h=>by
  show (putC (arr.setIfInBounds o v) (o+1) r)[j]?=_
  rw [List.length_cons] at h ⊢
  rw [putC_get r (o+1) _ j (by simp; omega),Array.getElem?_setIfInBounds]
  by_cases e:o=j
  · subst e
    rw [if_neg (by omega),if_pos rfl,if_pos (by omega),if_pos (by omega),Nat.sub_self]; rfl
  · rw [if_neg e]
    by_cases c:o+1≤j∧j < o+1+r.length
    · rw [if_pos c,if_pos (by omega),show j - o=(j - (o+1))+1 by omega,List.getElem?_cons_succ]
    · rw [if_neg c,if_neg (by omega)]
theorem setRow_self {w:World} {b:Nat} {arr:Array Value} {t:TypeId} {fr:Nat × Nat} (h:w.heap[b]?=some (.cells arr t fr)):w.setRow b arr=w:=by
 have e:(w.setRow b arr).heap=w.heap:=by
  apply Array.ext_getElem?
  intro j
  show (w.heap.modify b _)[j]?=_
  rw [Array.getElem?_modify]
  by_cases e:b=j
  · subst e; rw [if_pos rfl,h]; rfl
  · rw [if_neg e]
 show ({ w with heap:=(w.setRow b arr).heap }:World)=w
 rw [e]
theorem setCell_row {w:World} {b o:Nat} {v:Value} {arr:Array Value} {t:TypeId} {fr:Nat × Nat} (h:w.heap[b]?=some (.cells arr t fr)):w.setCell ⟨b,o,none⟩ v=w.setRow b (arr.setIfInBounds o v):=by
 have e:(w.setCell ⟨b,o,none⟩ v).heap=(w.setRow b (arr.setIfInBounds o v)).heap:=by
  apply Array.ext_getElem?
  intro j
  show (w.heap.modify b _)[j]?=(w.heap.modify b _)[j]?
  rw [Array.getElem?_modify,Array.getElem?_modify]
  by_cases e:b=j
  · subst e; rw [if_pos rfl,if_pos rfl,h]; rfl
  · rw [if_neg e,if_neg e]
 show ({ w with heap:=(w.setCell ⟨b,o,none⟩ v).heap }:World)={ w with heap:=(w.setRow b (arr.setIfInBounds o v)).heap }
 rw [e]
theorem setRow_row {w:World} {b:Nat} (c d:Array Value):(w.setRow b c).setRow b d=w.setRow b d:=by
 have e:((w.setRow b c).setRow b d).heap=(w.setRow b d).heap:=by
  apply Array.ext_getElem?
  intro j
  simp only [World.setRow,Array.getElem?_modify]
  by_cases e:b=j
  · subst e
    simp only [if_true]
    cases w.heap[b]? with
    | none=>rfl
    | some o=>cases o <;> rfl
  · simp only [if_neg e]
 show ({ w with heap:=((w.setRow b c).setRow b d).heap }:World)={ w with heap:=(w.setRow b d).heap }
 rw [e]
theorem setCells_row {b:Nat} {t:TypeId} {fr:Nat × Nat}:∀ (vs:List Value) (o:Nat) (w:World) (arr:Array Value),w.heap[b]?=some (.cells arr t fr)→w.setCells b o vs=w.setRow b (putC arr o vs)
 | [],o,w,arr,h=>(setRow_self h).symm
 | v::r,o,w,arr,h=>by
  show (w.setCell ⟨b,o,none⟩ v).setCells b (o+1) r=w.setRow b (putC (arr.setIfInBounds o v) (o+1) r)
  rw [setCell_row h,setCells_row r (o+1) _ _ (setRow_heap _ _ _ _ _ _ h),setRow_row]
theorem vT_app:∀ (A B:List (List ByteArray)),vT (A++B)=vT A++vT B
 | [],_=>rfl
 | x::A,B=>by show x.map Value.string++vT (A++B)=x.map Value.string++vT A++vT B; rw [vT_app A B,List.append_assoc]
theorem cut_cells {k:Nat} {arr:Array Value} {L:List (List ByteArray)} {i:Nat} {z:List ByteArray} (hk:∀ x∈L,x.length=k) (hz:z.length=k) (hi:i < L.length) (hs:L.length*k≤arr.size) (hA:∀ j,j < L.length*k→arr[j]?=(vT L)[j]?) (j:Nat) (hj:j < L.length*k) :
    (putC (putC arr (i*k) (vT (L.drop (i+1)))) ((L.length - 1)*k) (z.map Value.string))[j]?=(vT (L.eraseIdx i++[z]))[j]?:=by
 obtain ⟨n,hn⟩:∃ n,L.length=i+1+n:=⟨L.length - (i+1),by omega⟩
 have e1:(vT (L.take i)).length=i*k:=by rw [vT_len fun x hx=>hk x (List.mem_of_mem_take hx),List.length_take]; congr 1; omega
 have e2:(vT (L.drop (i+1))).length=n*k:=by rw [vT_len fun x hx=>hk x (List.mem_of_mem_drop hx),List.length_drop]; congr 1; omega
 have e3:(z.map Value.string).length=k:=by rw [List.length_map,hz]
 have e4:vT (L.eraseIdx i++[z])=vT (L.take i)++(vT (L.drop (i+1))++z.map Value.string):=by
  rw [List.eraseIdx_eq_take_drop_succ,vT_app,vT_app,List.append_assoc]
  congr 2
  show z.map Value.string++[]=_
  rw [List.append_nil]
 have m1:L.length*k=i*k+k+n*k:=by rw [hn,Nat.add_mul,Nat.add_mul,Nat.one_mul]
 have m2:(L.length - 1)*k=i*k+n*k:=by rw [hn,show i+1+n - 1=i+n by omega,Nat.add_mul]
 rw [m1] at hj hs
 rw [putC_get _ _ _ _ (by rw [putC_size,e3]; omega),putC_get _ _ _ _ (by rw [e2]; omega),e4,e2,e3,m2]
 by_cases c1:j < i*k
 · rw [if_neg (by omega),if_neg (by omega),List.getElem?_append_left (by omega),hA j (by omega)]
   conv=>lhs; rw [← List.take_append_drop i L,vT_app]
   rw [List.getElem?_append_left (by omega)]
 · rw [List.getElem?_append_right (by omega),e1]
   by_cases c2:j < i*k+n*k
   · rw [if_neg (by omega),if_pos (by omega),List.getElem?_append_left (by omega)]
   · rw [if_pos (by omega),List.getElem?_append_right (by omega),e2]
     congr 1
     omega
theorem own_cells {Γ:Ctx} {ti:TI} {arr:Array Value} {L:List (List ByteArray)} {k:Nat} (hk:∀ x∈L,x.length=k) (h2:ti.size=k) (hs:L.length*k≤arr.size)
    (hd:∀ (i:Nat) x (j:Nat) d u,(RT L)[i]?=some x→x[j]?=some d→arr[i*ti.size+j]?=some u→RepD Γ.w Γ.own u d) (j:Nat) (hj:j < L.length*k):arr[j]?=(vT L)[j]?:=by
 rw [h2] at hd
 have hlt:j < (vT L).length:=by rw [vT_len hk]; exact hj
 obtain ⟨i,x,d,s,h3,h4,rfl,h5⟩:=vT_get hk (List.getElem?_eq_getElem hlt)
 have ha:arr[i*k+d]?=some (arr[i*k+d]'(by omega)):=Array.getElem?_eq_getElem (by omega)
 have:=hd i _ d (.str s) _ (RT_get h3) (by rw [List.getElem?_map,h4]; rfl) ha
 rw [vT_at hk h3 h4,ha]
 generalize arr[i*k+d]'(by omega)=q at this
 cases this; rfl
theorem rn_cut {f T k:Nat} {z:List ByteArray} (hen:∀ cargs w,(callFunc f cargs).run PP w=.ok (.enter f cargs) w) (hti:(DD.ty T).map (·.size)=some k) (hz:z.length=k)
    (hcut:∀ (blk cap i:Nat) (L:List (List ByteArray)) (w:World),(∀ x∈L,x.length=k)→i < L.length→L.length < 1000→L.length≤cap→(∀ j u,(vT L)[j]?=some u→w.cell? ⟨blk,j,none⟩=some u)→(∀ j,w.frozen? ⟨blk,j,none⟩=false) →
     Calls PP f #[.slice (some ⟨blk,0,none⟩) L.length cap,.int .i64 (i:Nat),.int .i64 ((i+1:Nat):Int)] w fun e w'=>e=.returned (.slice (some ⟨blk,0,none⟩) (L.length - 1) cap)∧w'=(w.drew.setCells blk (i*k) (vT (L.drop (i+1)))).setCells blk ((L.length - 1)*k) (z.map Value.string))
    (L:List (List ByteArray)) (i:Nat) (hlk:∀ x∈L,x.length=k) (hi:i < L.length) (hl:L.length < 1000) :
    Rn E f [.vec 0 L.length,.c (.i64 (i:Nat)),.c (.i64 ((i+1:Nat):Int))] [some (.vec T (RT L))] (.vec 0 (L.length - 1)) [some (.vec T (RT (L.eraseIdx i++[z])))]:=by
 obtain ⟨ti,ht,h2⟩:∃ ti,DD.ty T=some ti∧ti.size=k:=by
  cases ht:DD.ty T with
  | none=>rw [ht] at hti; cases hti
  | some ti=>rw [ht] at hti; exact ⟨ti,rfl,Option.some.inj hti⟩
 refine ⟨hen,fun Γ cargs ho hG hcl ha=>?_⟩
 obtain ⟨v0,v1,v2,rfl⟩:∃ v0 v1 v2,cargs=#[v0,v1,v2]:=by
  match cargs,hcl with
  | ⟨[a,b,c]⟩,_=>exact ⟨a,b,c,rfl⟩
 have r0:=ha 0 v0 _ rfl rfl
 have r1:=RepA.int_inv (ha 1 v1 _ rfl rfl)
 have r2:=RepA.int_inv (ha 2 v2 _ rfl rfl)
 subst r1
 subst r2
 have hl0:lk Γ.objs 0=some (.vec T (RT L)):=by rw [ho]; rfl
 generalize hn0:L.length=n0 at r0
 cases r0 with
 | vnil _ t h1 _ =>
  omega
 | fvec _ _ xs h1 _ _=>rw [hl0] at h1; cases h1
 | gone _ _ h1=>rw [hl0] at h1; cases h1
 | vec _ _ cap b t ti' xs arr h1 h2' h3 h4 h5 h6 h7 =>
  subst hn0
  rw [hl0] at h1
  cases h1
  rw [ht] at h2'
  cases h2'
  rw [RT_len] at h7
  rw [h2] at h6
  obtain ⟨ti2,q0,q1,⟨q2,_⟩ | ⟨b',arr',cap',q2,q3,q4,q5,q6⟩⟩:=hG.ob 0 _ hl0
  · rw [h3] at q2; cases q2
  rw [ht] at q0
  cases q0
  rw [h3] at q2
  cases q2
  rw [h5] at q3
  cases q3
  have hs:L.length*k≤arr.size:=by rw [h6]; exact Nat.mul_le_mul_right k h7
  have hA:=own_cells hlk h2 hs q6
  refine Calls.mono (hcut b cap i L Γ.w hlk hi hl h7 (fun j u hj=>?_) (fun j=>by simp [World.frozen?,h5])) ?_
  · rw [cell_of h5,hA j (by rw [← vT_len hlk]; exact (List.getElem?_eq_some_iff.1 hj).1),hj]
  · rintro e w' ⟨rfl,rfl⟩
    have h5':Γ.w.drew.heap[b]?=some (.cells arr T (0,0)):=h5
    obtain ⟨g1,t1⟩:=drew_ok E.hs hG
    have hlen:(RT (L.eraseIdx i++[z])).length=(RT L).length:=by rw [RT_len,RT_len,List.length_append,List.length_eraseIdx_of_lt hi,List.length_singleton]; omega
    have hk':∀ x∈L.eraseIdx i++[z],x.length=k:=fun x hx=>by
     rcases List.mem_append.1 hx with h | h
     · exact hlk x (List.mem_of_mem_eraseIdx h)
     · rw [List.mem_singleton.1 h]; exact hz
    obtain ⟨g2,t2⟩:=vec_ok E.hs g1 (l:=0) (b:=b) (t:=T) (ti:=ti) (xs:=RT L) (ys:=RT (L.eraseIdx i++[z])) (arr:=arr) (arr':=putC (putC arr (i*k) (vT (L.drop (i+1)))) ((L.length - 1)*k) (z.map Value.string)) hl0 ht h3 h5' (by rw [putC_size,putC_size]) hlen (fun y hy=>by
        obtain ⟨p,hp,rfl⟩:=List.mem_map.1 hy
        rw [h2,List.length_map]; exact hk' p hp) (fun i' x j d u a1 a2 a3=>by
     obtain ⟨y,hy,rfl⟩:=RT_of a1
     obtain ⟨s,hs',rfl⟩:=str_at a2
     have hv:=vT_at hk' hy hs'
     have hlt:i'*k+j < L.length*k:=by
      have:=(List.getElem?_eq_some_iff.1 hv).1
      rw [vT_len hk',List.length_append,List.length_eraseIdx_of_lt hi,List.length_singleton,show L.length - 1+1=L.length by omega] at this
      exact this
     rw [h2,cut_cells hlk hz hi hs hA _ hlt,hv] at a3
     cases a3
     exact .str _)
    rw [setCells_row _ _ _ _ h5',setCells_row _ _ _ _ (setRow_heap _ _ _ _ _ _ h5'),setRow_row]
    refine ⟨_,_,rfl,?_,rfl,g2,t1.trans t2,?_⟩
    · show Γ.objs.set 0 _=_
      rw [ho]; rfl
    · have hlv:lk (Ctx.put ⟨Γ.S,Γ.objs,Γ.w.drew⟩ 0 (.vec T (RT (L.eraseIdx i++[z]))) (Γ.w.drew.setRow b (putC (putC arr (i*k) (vT (L.drop (i+1)))) ((L.length - 1)*k) (z.map Value.string)))).objs 0=some (.vec T (RT (L.eraseIdx i++[z]))):=by
       show lk (Γ.objs.set 0 _) 0=_
       rw [ho]; rfl
      exact .vec 0 (L.length - 1) cap b T ti _ _ hlv ht h3 (by rw [hlen,RT_len]; omega) (setRow_heap _ _ _ _ _ _ h5') (by rw [putC_size,putC_size,h2]; exact h6) (by rw [hlen,RT_len]; exact h7)
end Gev
namespace Go.Proofs
open Go.RowKit Go.Shelf Go.Sort Go.Lib Gev
set_option maxHeartbeats 2000000 in
set_option maxRecDepth 100000 in
theorem clone_mark (a:Addr) (n c:Nat) (news:List Value) (w:World) (hl:news.length=n*4) (hn:n≤100000) (hc:∀ j u,news[j]?=some u→w.cell? (a.add j)=some u) (h1:∀ u∈news,u.oneCell'=true) :
    Calls Tryz.prog 14 #[.slice (some a) n c] w fun e w'=>∃ v',e=.returned v'∧w'.ownsRow w.heap.size 33 4 v' n news∧Below w.heap.size w w':=by
 have t22:Tryz.prog.underlying 22=some (.slice 33):=by kernel_rfl
 have q22:∀ (w:World) (a:Option Addr) (n c n' c':Nat),(binOp .eql 22 (.slice a n c) (.slice none n' c')).run Tryz.prog w=.ok (.bool a.isNone) w:=fun w a n c n' c'=>Lib.run_eql_slice_nil w _ _ a n c n' c' t22
 obtain ⟨i0,hi,hz0,hz1,hz2⟩:=info_parts (by kernel_rfl:(Tryz.prog.info? 33).map (fun i=>(i.zero,i.size,i.bytes))=some (some (.agg #[.string ⟨#[]⟩,.string ⟨#[]⟩,.string ⟨#[]⟩,.string ⟨#[]⟩]),4,64))
 have A:Aside (∀ j u,news[j]?=some u→w.cell? (a.add j)=some u):=hc
 clear hc
 go_enter Tryz.func14,Tryz.ntmps14
 go_wp2_with (at_builtin; refine wpList_append_own _ rfl _ _ 22 rfl w.heap.size 33 i0 (.agg #[.string ⟨#[]⟩,.string ⟨#[]⟩,.string ⟨#[]⟩,.string ⟨#[]⟩]) 4 64 t22 hi hz0 hz1 hz2 rfl (by decide) _ _ _ rfl (World.ownsRow_made w #[] 0 (Nat.le_refl _) (Nat.zero_le _) (by simp)) a n c news rfl ?qc1 ?qc2 ?qc3 ?qc4 ?qc5 ?qc6 ?_)
 case qc1=>exact hl
 case qc2=>exact fun j u hj=>Lib.cell?_alloc_some _ (A.out j u hj)
 case qc3=>exact h1
 case qc4=>rw [Nat.zero_add]; unfold maxLen; omega
 case qc5=>rw [Nat.zero_add]; omega
 case qc6=>simp
 intro v' w1 hown hgrow hnil
 go_wp2
 go_ret
 refine ⟨v',rfl,by simpa using hown,?_⟩
 exact ((Below.refl _ w).alloc (Nat.le_refl _) _).grown hgrow (by simp) (by intro k hk; simp [Value.ownBlock] at hk; omega)
set_option maxRecDepth 100000 in
theorem clone_mark_nil (n c:Nat) (w:World):Calls Tryz.prog 14 #[.slice none n c] w fun e w'=>e=.returned (.slice none 0 0)∧w'=w:=by
 have t22:Tryz.prog.underlying 22=some (.slice 33):=by kernel_rfl
 have q22:∀ (w:World) (a:Option Addr) (n c n' c':Nat),(binOp .eql 22 (.slice a n c) (.slice none n' c')).run Tryz.prog w=.ok (.bool a.isNone) w:=fun w a n c n' c'=>Lib.run_eql_slice_nil w _ _ a n c n' c' t22
 go_enter Tryz.func14,Tryz.ntmps14
 go_wp2
 go_ret
 exact ⟨rfl,rfl⟩
set_option maxHeartbeats 2000000 in
set_option maxRecDepth 100000 in
theorem clone_displaced (a:Addr) (n c:Nat) (news:List Value) (w:World) (hl:news.length=n*3) (hn:n≤100000) (hc:∀ j u,news[j]?=some u→w.cell? (a.add j)=some u) (h1:∀ u∈news,u.oneCell'=true) :
    Calls Tryz.prog 24 #[.slice (some a) n c] w fun e w'=>∃ v',e=.returned v'∧w'.ownsRow w.heap.size 46 3 v' n news∧Below w.heap.size w w':=by
 have t22:Tryz.prog.underlying 44=some (.slice 46):=by kernel_rfl
 have q22:∀ (w:World) (a:Option Addr) (n c n' c':Nat),(binOp .eql 44 (.slice a n c) (.slice none n' c')).run Tryz.prog w=.ok (.bool a.isNone) w:=fun w a n c n' c'=>Lib.run_eql_slice_nil w _ _ a n c n' c' t22
 obtain ⟨i0,hi,hz0,hz1,hz2⟩:=info_parts (by kernel_rfl:(Tryz.prog.info? 46).map (fun i=>(i.zero,i.size,i.bytes))=some (some (.agg #[.string ⟨#[]⟩,.string ⟨#[]⟩,.string ⟨#[]⟩]),3,48))
 have A:Aside (∀ j u,news[j]?=some u→w.cell? (a.add j)=some u):=hc
 clear hc
 go_enter Tryz.func24,Tryz.ntmps24
 go_wp2_with (at_builtin; refine wpList_append_own _ rfl _ _ 44 rfl w.heap.size 46 i0 (.agg #[.string ⟨#[]⟩,.string ⟨#[]⟩,.string ⟨#[]⟩]) 3 48 t22 hi hz0 hz1 hz2 rfl (by decide) _ _ _ rfl (World.ownsRow_made w #[] 0 (Nat.le_refl _) (Nat.zero_le _) (by simp)) a n c news rfl ?qc1 ?qc2 ?qc3 ?qc4 ?qc5 ?qc6 ?_)
 case qc1=>exact hl
 case qc2=>exact fun j u hj=>Lib.cell?_alloc_some _ (A.out j u hj)
 case qc3=>exact h1
 case qc4=>rw [Nat.zero_add]; unfold maxLen; omega
 case qc5=>rw [Nat.zero_add]; omega
 case qc6=>simp
 intro v' w1 hown hgrow hnil
 go_wp2
 go_ret
 refine ⟨v',rfl,by simpa using hown,?_⟩
 exact ((Below.refl _ w).alloc (Nat.le_refl _) _).grown hgrow (by simp) (by intro k hk; simp [Value.ownBlock] at hk; omega)
set_option maxRecDepth 100000 in
theorem clone_displaced_nil (n c:Nat) (w:World):Calls Tryz.prog 24 #[.slice none n c] w fun e w'=>e=.returned (.slice none 0 0)∧w'=w:=by
 have t22:Tryz.prog.underlying 44=some (.slice 46):=by kernel_rfl
 have q22:∀ (w:World) (a:Option Addr) (n c n' c':Nat),(binOp .eql 44 (.slice a n c) (.slice none n' c')).run Tryz.prog w=.ok (.bool a.isNone) w:=fun w a n c n' c'=>Lib.run_eql_slice_nil w _ _ a n c n' c' t22
 go_enter Tryz.func24,Tryz.ntmps24
 go_wp2
 go_ret
 exact ⟨rfl,rfl⟩
end Go.Proofs
namespace Go.Proofs
open Go.RowKit Go.Shelf Go.Sort Go.Lib Gev
variable {P:Program}
theorem run_clear_one (w:World) (t e ty:TypeId) (z:Value) (zs:List Value) (ht:P.underlying t=some (.slice e)) (hv:∀ w,(zeroValue e).run P w=.ok z w) (hz:z.cells=zs.toArray) (h1:∀ v∈zs,v.oneCell'=true) (b o c:Nat)
    (hc:∀ j,j < zs.length→(w.cell? ⟨b,o+j,none⟩).isSome=true) (hf:∀ j,j < zs.length→w.frozen? ⟨b,o+j,none⟩=false) :
    (Builtin.clear_ #[t] ty #[.slice (some ⟨b,o,none⟩) 1 c]).run P w=.ok (.tuple #[]) (w.setCells b o zs):=by
 have hzc:(Builtin.zeroCells z.cells 1).toList=zs:=by
  rw [hz]
  apply List.ext_getElem
  · simp [Builtin.zeroCells]
  · intro i h1 h2
    simp [Builtin.zeroCells,Nat.mod_eq_of_lt h2]
    rw [List.getElem?_eq_getElem h2]; rfl
 have hst:=run_storeCells_cells (P:=P) b o zs 0 w (by simpa using hc) (by simpa using hf) h1
 simp only [Nat.add_zero] at hst
 simp [Builtin.clear_,run_underlying ht,hv,hzc,hst]
set_option maxHeartbeats 4000000 in
set_option maxRecDepth 1000000 in
theorem delete_mark (blk cap i:Nat) (L:List (List ByteArray)) (w:World) (hk:∀ x∈L,x.length=4) (hi:i < L.length) (hl:L.length < 1000) (hcap:L.length≤cap) (hc:∀ j u,(vT L)[j]?=some u→w.cell? ⟨blk,j,none⟩=some u) (hf:∀ j,w.frozen? ⟨blk,j,none⟩=false) :
    Calls Tryz.prog 41 #[.slice (some ⟨blk,0,none⟩) L.length cap,.int .i64 (i:Nat),.int .i64 ((i+1:Nat):Int)] w fun e w'=>e=.returned (.slice (some ⟨blk,0,none⟩) (L.length - 1) cap)∧w'=(w.drew.setCells blk (i*4) (vT (L.drop (i+1)))).setCells blk ((L.length - 1)*4) (([⟨#[]⟩,⟨#[]⟩,⟨#[]⟩,⟨#[]⟩]:List ByteArray).map Value.string):=by
 have mixed:Tryz.prog.follows .mixedOrders=true:=by kernel_rfl
 have t22:Tryz.prog.underlying 22=some (.slice 33):=by kernel_rfl
 have z33:∀ w,(Go.sizeOf 33).run Tryz.prog w=.ok 4 w:=fun w=>by kernel_rfl
 have v33:∀ w,(zeroValue 33).run Tryz.prog w=.ok (.agg #[.string ⟨#[]⟩,.string ⟨#[]⟩,.string ⟨#[]⟩,.string ⟨#[]⟩]) w:=fun w=>by kernel_rfl
 obtain ⟨i0,hi0,hz0,hz1,hz2⟩:=info_parts (by kernel_rfl:(Tryz.prog.info? 33).map (fun i=>(i.zero,i.size,i.bytes))=some (some (.agg #[.string ⟨#[]⟩,.string ⟨#[]⟩,.string ⟨#[]⟩,.string ⟨#[]⟩]),4,64))
 obtain ⟨n,hn⟩:∃ n,n=L.length:=⟨_,rfl⟩
 obtain ⟨news,hnews⟩:∃ news,news=vT (L.drop (i+1)):=⟨_,rfl⟩
 have hkd:∀ x∈L.drop (i+1),x.length=4:=fun x hx=>hk x (List.mem_of_mem_drop hx)
 have hlen:news.length=(n - (i+1))*4:=by rw [hnews,vT_len hkd,List.length_drop,hn]
 have hvl:(vT L).length=n*4:=by rw [vT_len hk,hn]
 have hsplit:vT L=vT (L.take (i+1))++news:=by rw [hnews,← vT_app,List.take_append_drop]
 have htl:(vT (L.take (i+1))).length=(i+1)*4:=by rw [vT_len (fun x hx=>hk x (List.mem_of_mem_take hx)),List.length_take]; congr 1; omega
 have hsome:∀ j,j < n*4→(w.cell? ⟨blk,j,none⟩).isSome=true:=fun j hj=>by
  rw [hc j _ (List.getElem?_eq_getElem (by rw [hvl]; exact hj))]; rfl
 obtain ⟨A,hA,hsrc⟩:∃ A:Addr,(if cap=i+1 then some (⟨blk,0,none⟩:Addr) else some ⟨blk,(i+1)*4,none⟩)=some A∧Hid (∀ t u,news[t]?=some u→w.drew.cell? (A.add t)=some u):=by
  by_cases h:cap=i+1
  · refine ⟨⟨blk,0,none⟩,by simp [h],fun t u hu=>?_⟩
    have h0:news.length=0:=by rw [hlen]; omega
    rw [List.length_eq_zero_iff.1 h0] at hu
    simp at hu
  · refine ⟨⟨blk,(i+1)*4,none⟩,by simp [h],fun t u hu=>?_⟩
    rw [Addr.add_lit]
    exact hc _ _ (by rw [hsplit,List.getElem?_append_right (by omega),htl,Nat.add_sub_cancel_left]; exact hu)
 have s1:Hid (news.length=(n - (i+1))*4):=hlen
 have s2:Hid (∀ u∈news,u.oneCell'=true):=by rw [hnews]; exact vT_one hkd
 have s3:Hid (∀ t,t < news.length→(w.drew.cell? ⟨blk,0+i*4+t,none⟩).isSome=true∧w.drew.frozen? ⟨blk,0+i*4+t,none⟩=false):=by
  intro t ht
  rw [hlen] at ht
  exact ⟨hsome _ (by omega),hf _⟩
 obtain ⟨W1,hW1⟩:∃ W1,W1=w.drew.setCells blk (0+i*4) news:=⟨_,rfl⟩
 have hcl:∀ ty c,(Builtin.clear_ #[22] ty #[.slice (some ⟨blk,(i+(n - (i+1)))*4,none⟩) (n - (i+(n - (i+1)))) c]).run Tryz.prog W1=.ok (.tuple #[]) (W1.setCells blk ((i+(n - (i+1)))*4) (([⟨#[]⟩,⟨#[]⟩,⟨#[]⟩,⟨#[]⟩]:List ByteArray).map Value.string)):=fun ty c=>by
  rw [show n - (i+(n - (i+1)))=1 by omega]
  exact run_clear_one W1 _ _ ty _ _ t22 v33 rfl (by simp [Value.oneCell']) blk _ c (fun j hj=>by
   have hj:j < 4:=hj
   rw [hW1]
   exact World.isSome_setCells blk news (0+i*4) w.drew _ (hsome _ (by omega))) (fun j hj=>by rw [hW1,World.frozen?_setCells]; exact hf _)
 have hW:Hid (W1=w.drew.setCells blk (0+i*4) news):=hW1
 rw [← hn] at hcap hi hl ⊢
 have hN:=Lib.hid hnews
 have e1:n - 1=i+(n - (i+1)):=by omega
 have hic:i≤cap:=by omega
 have hjc:i+1≤cap:=by omega
 have hb1:(0:Int)≤(i:Int)+1:=by omega
 have hb2:(i:Int)+1≤(n:Int):=by omega
 clear hW1 hsome hsplit htl hvl hkd hnews hlen hc hk hf hn
 go_enter Tryz.func41,Tryz.ntmps41
 go_wp2_with fail
 go_region_law_o (refine step_append_room rfl (.tmp 22) (.tmp 25) 22 rfl 33 i0 4 t22 hi0 hz1 blk 0 i cap (by simp [Act.eval,Act.put]) A (n - (i+1)) (cap - (i+1)) news (by simp [Act.eval,Act.put]) s1.out hsrc.out s2.out (by omega) s3.out ?_; rw [← hW.out])
 go_wp2
 go_ret
 rw [e1]
 refine ⟨rfl,?_⟩
 rw [hW.out,Nat.zero_add,hN.out]
 rfl
end Go.Proofs
namespace Gev
open Go Gb Go.Proofs
variable {E:Env}
def r4 (l:List Mk):List (List ByteArray):=l.map fun m=>[B m.1,B m.2.1,B m.2.2.1,B m.2.2.2]
def r3 (l:List D3):List (List ByteArray):=l.map fun m=>[B m.1,B m.2.1,B m.2.2]
theorem RT_r4 (l:List Mk):RT (r4 l)=R4 l:=by unfold RT r4 R4; rw [List.map_map]; rfl
theorem RT_r3 (l:List D3):RT (r3 l)=R3 l:=by unfold RT r3 R3; rw [List.map_map]; rfl
theorem r4_len (l:List Mk):(r4 l).length=l.length:=List.length_map _
theorem r3_len (l:List D3):(r3 l).length=l.length:=List.length_map _
theorem r4_four (l:List Mk):∀ x∈r4 l,x.length=4:=fun x hx=>by
 obtain ⟨m,_,rfl⟩:=List.mem_map.1 hx; rfl
theorem r3_three (l:List D3):∀ x∈r3 l,x.length=3:=fun x hx=>by
 obtain ⟨m,_,rfl⟩:=List.mem_map.1 hx; rfl
theorem cs_ok:Cs E where
 mark l hl:=by
  have h:=rn_clone (E:=E) (f:=B3) (T:=A9) (k:=4) (enters_known (by kernel_rfl)) (by kernel_rfl) clone_mark clone_mark_nil (r4 l) (r4_four l) (by rw [r4_len]; exact hl)
  rw [RT_r4,r4_len] at h; exact h
 table l hl:=by
  have h:=rn_clone (E:=E) (f:=B7) (T:=B6) (k:=3) (enters_known (by kernel_rfl)) (by kernel_rfl) clone_displaced clone_displaced_nil (r3 l) (r3_three l) (by rw [r3_len]; exact hl)
  rw [RT_r3,r3_len] at h; exact h
 cut l i hi hl:=by
  have h:=rn_cut (E:=E) (f:=N7) (T:=A9) (k:=4) (z:=[⟨#[]⟩,⟨#[]⟩,⟨#[]⟩,⟨#[]⟩]) (enters_known (by kernel_rfl)) (by kernel_rfl) rfl delete_mark (r4 l) i (r4_four l) (by rw [r4_len]; exact hi) (by rw [r4_len]; exact hl)
  have e:RT ((r4 l).eraseIdx i++[[⟨#[]⟩,⟨#[]⟩,⟨#[]⟩,⟨#[]⟩]])=R4 (l.eraseIdx i)++[[.str ⟨#[]⟩,.str ⟨#[]⟩,.str ⟨#[]⟩,.str ⟨#[]⟩]]:=by
   unfold RT r4 R4
   rw [List.map_append,map_erase,List.map_map]; rfl
  rw [e,RT_r4,r4_len] at h; exact h
end Gev
namespace Gev
open Go
inductive TyD (P:Program):TypeId→List DV→Prop
 | int {t:TypeId} {k:IntKind} (n:Int) (h:P.underlying t=some (.int k)) (hw:(Lit.int k n).wf=true):TyD P t [.int k n]
 | bool {t:TypeId} (b:Bool) (h:P.underlying t=some .bool):TyD P t [.bool b]
 | str {t:TypeId} (s:ByteArray) (h:P.underlying t=some .string):TyD P t [.str s]
 | slice {t e:TypeId} (xs:List (List DV)) (h:P.underlying t=some (.slice e)) (hx:∀ x∈xs,TyD P e x) (hl:xs.length≤maxLen):TyD P t [.list xs]
 | struct {t:TypeId} {fs:Array Field} (ds:List DV) (h:P.underlying t=some (.struct fs)) (hl:ds.length=P.cellsOf t) (hp:∀ f∈fs.toList,TyD P f.type ((ds.drop f.offset).take (P.cellsOf f.type))):TyD P t ds
def contig (P:Program):Nat→List Field→Option Nat
 | o,[]=>some o
 | o,f::fs=>if f.offset=o then contig P (o+P.cellsOf f.type) fs else none
def plainT (P:Program):Nat→TypeId→Bool
 | 0,_=>false
 | k+1,t=>match P.underlying t with
  | some .bool=>true
  | some (.int _)=>true
  | some .string=>true
  | some (.slice e)=>decide (0 < P.cellsOf e) && plainT P k e
  | some (.struct fs)=>decide (contig P 0 fs.toList=some (P.cellsOf t)) && fs.toList.all fun f=>plainT P k f.type
  | _=>false
theorem tmapM_get {α β:Type} {f:α→Option β}:∀ {l:List α} {r:List β},l.mapM f=some r→r.length=l.length∧∀ (i:Nat) x,l[i]?=some x→∃ y,r[i]?=some y∧f x=some y
 | [],r,h=>by simp at h; subst h; exact ⟨rfl,fun i x h=>by simp at h⟩
 | a::l,r,h=>by
  simp only [List.mapM_cons,Option.bind_eq_bind,Option.bind_eq_some_iff,Option.pure_def,Option.some.injEq] at h
  obtain ⟨b,hb,bs,hbs,rfl⟩:=h
  obtain ⟨h1,h2⟩:=tmapM_get hbs
  refine ⟨by simp [h1],fun i x hx=>?_⟩
  cases i with
  | zero=>simp at hx; subst hx; exact ⟨b,rfl,hb⟩
  | succ i=>exact h2 i x (by simpa using hx)
theorem tchoose_list {α:Type} {p:Nat→α→Prop}:∀ n,(∀ i,i < n→∃ x,p i x)→∃ xs:List α,xs.length=n∧∀ (i:Nat) x,xs[i]?=some x→p i x
 | 0,_=>⟨[],rfl,fun i x h=>by simp at h⟩
 | n+1,h=>by
  obtain ⟨xs,h1,h2⟩:=tchoose_list n fun i hi=>h i (by omega)
  obtain ⟨x,hx⟩:=h n (by omega)
  refine ⟨xs++[x],by simp [h1],fun i y hy=>?_⟩
  by_cases hi:i < n
  · exact h2 i y (by rwa [List.getElem?_append_left (by omega)] at hy)
  · have hlt:=(List.getElem?_eq_some_iff.1 hy).1
    simp [h1] at hlt
    have e:i=n:=by omega
    subst e
    rw [List.getElem?_append_right (by omega),h1,Nat.sub_self] at hy
    cases hy; exact hx
theorem tcells_get {w:World} {base:Nat} {a:Addr} {n:Nat} {cs:List Value} (h:w.cells? base a n=some cs):cs.length=n∧∀ (j:Nat) v,cs[j]?=some v→w.cell? (a.add j)=some v:=by
 unfold World.cells? at h
 split at h
 · obtain ⟨h1,h2⟩:=tmapM_get h
   rw [List.length_range] at h1
   refine ⟨h1,fun j v hj=>?_⟩
   have hlt:=(List.getElem?_eq_some_iff.1 hj).1
   obtain ⟨y,hy,e⟩:=h2 j j (by rw [List.getElem?_range (by omega)])
   rw [hj] at hy; cases hy; exact e
 · cases h
section
variable {P:Program} {w:World} {own:Nat→Prop}
def TReps (w:World) (own:Nat→Prop) (cs:List Value) (ds:List DV):Prop:=ds.length=cs.length∧∀ (j:Nat) v e,cs[j]?=some v→ds[j]?=some e→RepD w own v e
theorem treps_one {v:Value} {d:DV} (h:RepD w own v d):TReps w own [v] [d]:=⟨rfl,fun j v e h1 h2=>by
 cases j with
 | zero=>cases h1; cases h2; exact h
 | succ j=>simp at h1⟩
theorem treps_append {cs cs':List Value} {ds ds':List DV} (h:TReps w own cs ds) (k:TReps w own cs' ds'):TReps w own (cs++cs') (ds++ds'):=by
 refine ⟨by simp [h.1,k.1],fun j v e h1 h2=>?_⟩
 by_cases hj:j < cs.length
 · rw [List.getElem?_append_left hj] at h1
   rw [List.getElem?_append_left (by rw [h.1]; exact hj)] at h2
   exact h.2 j v e h1 h2
 · rw [List.getElem?_append_right (by omega)] at h1
   rw [List.getElem?_append_right (by rw [h.1]; omega),h.1] at h2
   exact k.2 _ v e h1 h2
theorem tfields_rep {cs:List Value}:∀ (fs:List Field) (o n:Nat),contig P o fs=some n→n=cs.length →
    (∀ f∈fs,∃ ds,TyD P f.type ds∧TReps w own ((cs.drop f.offset).take (P.cellsOf f.type)) ds) →
    ∃ ds,TReps w own (cs.drop o) ds∧o≤n∧∀ f∈fs,o≤f.offset∧TyD P f.type ((ds.drop (f.offset - o)).take (P.cellsOf f.type))
 | [],o,n,h,hn,_=>by
  cases h
  subst hn
  exact ⟨[],by rw [List.drop_length]; exact ⟨rfl,fun j v e h _=>by simp at h⟩,Nat.le_refl _,fun f h=>by cases h⟩
 | f::fs,o,n,h,hn,hf=>by
  unfold contig at h
  split at h
  · rename_i ho
    obtain ⟨ds,h1,hle,h2⟩:=tfields_rep fs _ n h hn fun g hg=>hf g (by simp [hg])
    obtain ⟨d0,t0,r0⟩:=hf f (by simp)
    have hl0:d0.length=P.cellsOf f.type:=by rw [r0.1,List.length_take,List.length_drop]; omega
    refine ⟨d0++ds,?_,by omega,fun g hg=>?_⟩
    · have e:cs.drop o=(cs.drop o).take (P.cellsOf f.type)++cs.drop (o+P.cellsOf f.type):=by
       rw [← List.drop_drop,List.take_append_drop]
      rw [e]
      exact treps_append (ho ▸ r0) h1
    · rcases List.mem_cons.1 hg with rfl | hg
      · refine ⟨by omega,?_⟩
        rw [ho,Nat.sub_self,List.drop_zero,List.take_left' hl0]; exact t0
      · obtain ⟨hle2,ht⟩:=h2 g hg
        refine ⟨by omega,?_⟩
        have e:g.offset - o=d0.length+(g.offset - (o+P.cellsOf f.type)):=by omega
        rw [e,List.drop_append]
        rwa [List.drop_eq_nil_of_le (by omega),List.nil_append,Nat.add_sub_cancel_left]
  · cases h
theorem trod_rep {H:Type} {enc:TypeId × Value→H} {base:Nat} {sp:Nat→Bool} {held:Bool} (hown:∀ b,b < w.heap.size→¬ own b):∀ (k fuel:Nat) (t:TypeId) (cs:List Value) (x:DataW H × List MemPlace),plainT P k t=true→DataW.trod enc P w base sp held fuel t cs=some x→∃ ds,TyD P t ds∧TReps w own cs ds
 | 0,fuel,t,cs,x,hp,_=>by simp [plainT] at hp
 | k+1,fuel,t,cs,x,hp,h=>by
  unfold plainT at hp
  cases hu:P.underlying t with
  | none=>rw [hu] at hp; cases hp
  | some u =>
   rw [hu] at hp
   cases u with
   | bool =>
    obtain ⟨b,rfl,_⟩:=DataW.trod_bool hu h
    exact ⟨_,.bool b hu,treps_one (.bool b)⟩
   | int q =>
    obtain ⟨n,rfl,_,hw⟩:=DataW.trod_int hu h
    exact ⟨_,.int n hu hw,treps_one (.int q n)⟩
   | string =>
    obtain ⟨s,rfl,_,_⟩:=DataW.trod_string hu h
    exact ⟨_,.str s hu,treps_one (.str s)⟩
   | slice e =>
    simp only [Bool.and_eq_true,decide_eq_true_eq] at hp
    rcases DataW.trod_slice hu h with ⟨rfl,_⟩ | ⟨a,len,cap,elems,rest,n,_,rfl,_,_,hlc,hcm,hel,hall,_⟩
    · exact ⟨_,.slice [] hu (fun _ h=>by cases h) (Nat.zero_le _),treps_one (.list none 0 [] 0 (fun _ _=>.nilIface) (Nat.le_refl _) (fun h=>absurd rfl h) (fun _ h=>by cases h) (fun _ _ _ _ _ h=>by cases h) (fun _ _ _ _ h=>by simp at h))⟩
    · have hch:∀ i,i < len→∃ ds,TyD P e ds∧ds.length=P.cellsOf e∧∀ (j:Nat) d,ds[j]?=some d→∃ v,w.cell? (a.add (i*P.cellsOf e+j))=some v∧RepD w own v d:=by
       intro i hi
       have h1:=hall i hi
       rw [List.getElem?_eq_getElem (by omega)] at h1
       obtain ⟨cs',hcs,ht⟩:=Option.bind_eq_some_iff.1 h1
       obtain ⟨hcl,hcg⟩:=tcells_get hcs
       obtain ⟨ds,h2,h3⟩:=trod_rep hown k n e cs' _ hp.2 ht
       refine ⟨ds,h2,h3.1.trans hcl,fun j d hj=>?_⟩
       have hjl:=(List.getElem?_eq_some_iff.1 hj).1
       rw [h3.1] at hjl
       have e1:=List.getElem?_eq_getElem hjl
       refine ⟨cs'[j],?_,h3.2 j _ d e1 hj⟩
       rw [← add_add]; exact hcg j _ e1
      obtain ⟨xs,hxl,hxs⟩:=tchoose_list len hch
      have hblk:xs≠[]→a.block < w.heap.size:=fun hne=>by
       have hpos:0 < xs.length:=List.length_pos_iff.2 hne
       have hx0:=hxs 0 xs[0] (List.getElem?_eq_getElem hpos)
       obtain ⟨_,hl0,hc0⟩:=hx0
       obtain ⟨v,hv,_⟩:=hc0 0 _ (List.getElem?_eq_getElem (by omega))
       have:=cell_lt hv
       rwa [add_block] at this
      refine ⟨_,.slice xs hu (fun x hx=>?_) (by rw [hxl]; omega),treps_one ?_⟩
      · obtain ⟨i,hi⟩:=List.getElem?_of_mem hx
        exact (hxs i x hi).1
      · rw [← hxl]
        refine .list (some a) cap xs (P.cellsOf e) (fun i j=>(w.cell? (a.add (i*P.cellsOf e+j))).getD .nilIface) (by omega) (fun hne=>⟨a,rfl,hblk hne,hown _ (hblk hne)⟩) (fun x hx=>?_) (fun a' i x j d ha' hi hj=>?_) (fun i x j d hi hj=>?_)
        · obtain ⟨i,hi⟩:=List.getElem?_of_mem hx
          exact (hxs i x hi).2.1
        · cases ha'
          obtain ⟨v,hv,_⟩:=(hxs i x hi).2.2 j d hj
          rw [hv]; rfl
        · obtain ⟨v,hv,hr⟩:=(hxs i x hi).2.2 j d hj
          rw [hv]; exact hr
   | struct fs =>
    simp only [Bool.and_eq_true,decide_eq_true_eq,List.all_eq_true] at hp
    obtain ⟨xs,n,_,_,hcl,hxl,hall⟩:=DataW.trod_struct hu h
    obtain ⟨ds,h1,_,h2⟩:=tfields_rep (P:=P) (w:=w) (own:=own) (cs:=cs) fs.toList 0 (P.cellsOf t) hp.1 hcl.symm (fun f hf=>by
     obtain ⟨i,hi⟩:=List.getElem?_of_mem hf
     rw [Array.getElem?_toList] at hi
     have h3:=hall i f hi
     have hil:=(Array.getElem?_eq_some_iff.1 hi).1
     rw [List.getElem?_eq_getElem (by omega)] at h3
     exact trod_rep hown k n f.type _ _ (hp.2 f hf) h3)
    rw [List.drop_zero] at h1
    exact ⟨ds,.struct ds hu (h1.1.trans hcl) (fun f hf=>by have:=(h2 f hf).2; rwa [Nat.sub_zero] at this),h1⟩
   | _=>cases hp
end
end Gev
namespace Gev
open Go Go.Proofs
def Told (w:World):Prop:=Go.Lib.TabIs Tryz.prog w "internal/strconv.uint64pow10" .u64 Go.Lib.pow10Tab∧∃ m,w.cell? ⟨0,0,none⟩=some (.int .i64 m)
theorem gTab:Tryz.prog.globalNamed "internal/strconv.uint64pow10"=some 1:=by kernel_rfl
theorem told_stable:Stable 2 Told:=by
 rintro w w' hb _ ⟨h1,m,h2⟩
 refine ⟨?_,m,?_⟩
 · unfold Go.Lib.TabIs World.var? at h1 ⊢
   rw [gTab] at h1 ⊢
   simp only [Option.bind_some] at h1 ⊢
   rw [hb 1 (by omega)]; exact h1
 · unfold World.cell? at h2 ⊢
   rw [hb 0 (by omega)]; exact h2
noncomputable def E0:Env:=⟨2,Told,told_stable⟩
theorem laid0:Laid E0:=⟨fun _ h=>h.1,fun _ h=>h.2⟩
theorem lib0:Lib E0:=lib_all laid0
theorem told_size {w:World} (h:Told w):2≤w.heap.size:=by
 obtain ⟨h1,_⟩:=h
 unfold Go.Lib.TabIs World.var? at h1
 rw [gTab] at h1
 simp only [Option.bind_some] at h1
 cases hb:w.heap[1]? with
 | none=>rw [hb] at h1; cases h1
 | some o=>exact (Array.getElem?_eq_some_iff.1 hb).1
inductive AvOf (P:Program):TypeId→AV→Prop
 | agg {t:TypeId} {fs:Array Field} {ds:List DV} (h:P.underlying t=some (.struct fs)) (hd:TyD P t ds):AvOf P t (.agg ds)
 | one {t:TypeId} {d:DV} (hd:TyD P t [d]):AvOf P t (.c d)
def AvsOf (P:Program):List TypeId→List AV→Prop
 | [],[]=>True
 | t::ts,a::us=>AvOf P t a∧AvsOf P ts us
 | _,_=>False
theorem targ_rep {P:Program} {w:World} {own:Nat→Prop} {H:Type} {enc:TypeId × Value→H} {base b0:Nat} {sp:Nat→Bool} {held:Bool} (hown:∀ b,b < w.heap.size→¬ own b) {k:Nat} {t:TypeId} {v:Value} {d:DataW H} {ps:List MemPlace} (hp:plainT P k t=true) (hv:Value.okWide P w .any b0 t v)
    (h:DataW.Trod enc P w base sp held t v d ps):∃ a,AvOf P t a∧RepA DD ⟨⟨fun _=>none,own⟩,[],w⟩ v a:=by
 obtain ⟨fuel,h⟩:=h
 obtain ⟨ds,h1,h2⟩:=trod_rep hown k fuel t _ _ hp h
 have hmine:∀ {b},(Ctx.mk ⟨fun _=>none,own⟩ [] w).own b→own b:=fun h=>h.elim id fun h=>(no_mine h).elim
 have one:∀ e,ds=[e]→v.cells.toList=[v]→∃ a,AvOf P t a∧RepA DD ⟨⟨fun _=>none,own⟩,[],w⟩ v a:=fun e he hc=>by
  subst he
  rw [hc] at h2
  exact ⟨.c e,.one h1,.c ((h2.2 0 v e rfl rfl).mono (Kept.refl _ _) fun b _ hb=>hmine hb)⟩
 cases h1 with
 | int n hu hw =>
  obtain ⟨n,hc,_⟩:=DataW.trod_int hu h
  refine one _ rfl ?_
  cases v <;> simp_all [Value.cells,Value.okWide,Cell.okWide,Cell.ok]
 | bool b hu =>
  obtain ⟨n,hc,_⟩:=DataW.trod_bool hu h
  refine one _ rfl ?_
  cases v <;> simp_all [Value.cells,Value.okWide,Cell.okWide,Cell.ok]
 | str s hu =>
  obtain ⟨s,rfl⟩:=Go.WideShapes.okWide_string hu hv
  exact one _ rfl rfl
 | slice xs hu hx hl =>
  obtain ⟨a,l,c,rfl⟩:=Go.WideShapes.okWide_slice hu hv
  exact one _ rfl rfl
 | struct ds hu hl hp' =>
  obtain ⟨cs,rfl,hsz⟩:=Go.WideShapes.okWide_struct hu hv
  refine ⟨.agg ds,.agg hu (.struct ds hu hl hp'),.agg cs ds ?_ fun j u d hj hd=>?_⟩
  · have:=h2.1; simpa [Value.cells] using this.symm
  · exact (h2.2 j u d (by simpa [Value.cells] using hj) hd).mono (Kept.refl _ _) fun b _ hb=>hmine hb
theorem targs_rep {P:Program} {w:World} {own:Nat→Prop} {H:Type} {enc:TypeId × Value→H} {base b0:Nat} {sp:Nat→Bool} {held:Bool} (hown:∀ b,b < w.heap.size→¬ own b) {k:Nat}:∀ {ts:List TypeId} {vs:List Value} {ds:List (DataW H)} {ps:List MemPlace},ts.all (plainT P k)=true→(∀ (j:Nat) t v,ts[j]?=some t→vs[j]?=some v→Value.okWide P w .any b0 t v) →
    DataW.TrodAll enc P w base sp held ts vs ds ps→∃ us,AvsOf P ts us∧vs.length=us.length∧∀ (i:Nat) v a,vs[i]?=some v→us[i]?=some a→RepA DD ⟨⟨fun _=>none,own⟩,[],w⟩ v a
 | [],[],[],ps,_,_,_=>⟨[],trivial,rfl,fun i v a h=>by simp at h⟩
 | t::ts,v::vs,d::ds,ps,hp,hv,h=>by
  rw [List.all_cons,Bool.and_eq_true] at hp
  obtain ⟨p,q,h1,h2,_⟩:=h
  obtain ⟨a,a1,a2⟩:=targ_rep hown hp.1 (hv 0 t v rfl rfl) h1
  obtain ⟨us,b1,b2,b3⟩:=targs_rep hown hp.2 (fun j t v h1 h2=>hv (j+1) t v h1 h2) h2
  refine ⟨a::us,⟨a1,b1⟩,by simp [b2],fun i v a h1 h2=>?_⟩
  cases i with
  | zero=>cases h1; cases h2; exact a2
  | succ i=>exact b3 i v a h1 h2
 | [],_::_,_,_,_,_,h=>by simp [DataW.TrodAll] at h
 | [],[],_::_,_,_,_,h=>by simp [DataW.TrodAll] at h
 | _::_,[],_,_,_,_,h=>by simp [DataW.TrodAll] at h
 | _::_,_::_,[],_,_,_,h=>by simp [DataW.TrodAll] at h
theorem trodAll_below {H:Type} {enc:TypeId × Value→H} {P:Program} (hl:laidOutB P=true) {W W':World} (hb:Go.RowKit.Below W.heap.size W W'):∀ {ts:List TypeId} {vs:List Value} {ds:List (DataW H)} {ps:List MemPlace},(ts.all fun t=>P.readableRec t && decide (t < P.types.size))=true→(∀ x∈ps,x.block < W.heap.size) →
    DataW.TrodAll enc P W 0 (fun _=>true) true ts vs ds ps→DataW.TrodAll enc P W' 0 (fun b=>decide (b < W.heap.size)) true ts vs ds ps
 | [],[],[],ps,_,_,h=>h
 | t::ts,v::vs,d::ds,ps,hp,hlt,h=>by
  rw [List.all_cons,Bool.and_eq_true,Bool.and_eq_true,decide_eq_true_eq] at hp
  obtain ⟨p,q,h1,h2,rfl⟩:=h
  exact ⟨p,q,Go.RowKit.Below.trod hl hp.1.1 hp.1.2 h1 hb (fun x hx=>hlt x (by simp [hx])),trodAll_below hl hb hp.2 (fun x hx=>hlt x (by simp [hx])) h2,rfl⟩
 | [],_::_,_,_,_,_,h=>by simp [DataW.TrodAll] at h
 | [],[],_::_,_,_,_,h=>by simp [DataW.TrodAll] at h
 | _::_,[],_,_,_,_,h=>by simp [DataW.TrodAll] at h
 | _::_,_::_,[],_,_,_,h=>by simp [DataW.TrodAll] at h
end Gev
namespace Gev
open Go Go.Proofs Go.ChangeShapes Go.WideShapes Go.ChangeAt Go.RowKit
variable {H:Type} {enc:TypeId × Value→H}
theorem returns_told {C:Checked} {os:Os} {f:FuncId} {fn:Func} {s:ChangeSpec} {conds:List PathCond} {apart fresh handsOn again:Bool} {X:World→Prop} (hX:∀ (w w':World),w.heap=w'.heap→X w→X w')
    (own:ownKnob C.prog.godebug=none) (started:os.Started) (noInit:C.prog.inits.idxOf? f=none) (hfn:C.prog.funcs[f]?=some fn)
    (witness:∃ (w:World) (tape:Tape) (i:Input),w.os=os∧(w.forCall tape i).Shaped C.prog∧i.vars=[]∧Input.okWide C.prog (w.forCall tape i) .any w.heap.size f i ∧
     ((s.pre enc C.prog fn conds apart (w.forCall tape i).memory i.args∧X (w.forCall tape i).memory)∧sizedMet enc C.prog fn (OpenSpec.ofChange s) apart (w.forCall tape i).memory i.args)∧Assume.holds {} C.prog (lone (Frame.enter C.prog f i.args .normal) [] (w.forCall tape i)))
    (contract:∀ (W:World) (base:Nat) (args:Array Value) (ds gs:List (DataW H)) (before:List MemPlace),
     (∀ (j:Nat) t v,fn.params[j]?=some t→args[j]?=some v→Value.okWide C.prog W .any base t v) →
     DataW.Whole enc C.prog fn.params.toList s.vars apart W args.toList ds gs before→X W→W.ShapedOpen C.prog →
     Calls C.prog f args W fun e W'=>∃ v,e=.returned v∧s.post enc C.prog fn apart fresh handsOn again W args v W') :
    ReturnsInHanded {} C os f .any (fun w args=>(s.pre enc C.prog fn conds apart w args∧X w)∧sizedMet enc C.prog fn (OpenSpec.ofChange s) apart w args) (s.post enc C.prog fn apart fresh handsOn again):=by
 refine returnsInHanded_of_calls own started noInit witness ?_
 intro w tape i _ hsh _ hok hpre _
 obtain ⟨_,_,_,fn',hfn',_,_,_,_,hval⟩:=hok
 obtain rfl:fn'=fn:=Option.some.inj (hfn'.symm.trans hfn)
 obtain ⟨⟨⟨ds,gs,before,hw,_⟩,hx⟩,_⟩:=hpre
 have hw':=DataW.Whole.of_heap (w':=w.forCall tape i) (by rfl) hw
 refine (contract (w.forCall tape i) w.heap.size i.args ds gs before hval hw' (hX _ _ (by rfl) hx) hsh).mono fun e W' ⟨v,he,hp⟩=>?_
 subst he
 exact ChangeSpec.post_blind hp
abbrev laidL:List (String × DataW Unit):=[("math/bits.deBruijn32tab",YtgkchlchkdecfaaGreatDoor.Rows.laid_math_bits_deBruijn32tab),("math/bits.deBruijn64tab",YtgkchlchkdecfaaGreatDoor.Rows.laid_math_bits_deBruijn64tab),("internal/strconv.uint64pow10",YtgkchlchkdecfaaGreatDoor.Rows.laid_internal_strconv_uint64pow10),("strconv.ErrRange",YtgkchlchkdecfaaGreatDoor.Rows.laid_strconv_ErrRange),("strconv.ErrSyntax",YtgkchlchkdecfaaGreatDoor.Rows.laid_strconv_ErrSyntax)]
abbrev laidK:List LaidKind:=[.data,.data,.data,.sentinel,.sentinel]
theorem own0:ownKnob Tryz.prog.godebug=none:=by kernel_rfl
theorem laidOut0:laidOutB Tryz.prog=true:=by kernel_rfl
theorem door_met (os:Os) (args:Array Value):laidMetH Tryz.prog laidL ((World.doorLaid Tryz.prog 400 os).forCall (fun _ _=>0) ⟨#[],args,[]⟩).memory :=
 laidMetH_of_parts3 (fuel:=8) (laidMet_of_run' 8 (by kernel_rfl) (by kernel_rfl)) (by kernel_rfl) (by kernel_rfl)
theorem laid_tail {P:Program} {x:String × DataW Unit} {r:List (String × DataW Unit)} {w:World} (h:laidMet P (x::r) w):laidMet P r w:=by
 obtain ⟨ps,hv,hnd,hrows⟩:=h
 obtain ⟨n,d⟩:=x
 obtain ⟨g,t,cs,fuel,p,q,_,_,_,_,hq,rfl⟩:=hv
 exact ⟨q,hq,List.Nodup.sublist (List.sublist_append_right _ _) hnd,fun b off hm=>hrows b off (List.mem_append_right _ hm)⟩
theorem told_of {W:World} (h:laidMetH Tryz.prog laidL W) (hs:W.ShapedOpen Tryz.prog):Told W:=by
 refine ⟨?_,Tryz.laysM145.s1_3 W hs⟩
 rw [MakeChecks.laidMetH_plain _ _ _ (by kernel_rfl)] at h
 exact Go.Lib.tabIs_of_head (g:=1) gTab (t:=202) (e:=126) (n:=20) (by kernel_rfl) (by kernel_rfl) (by kernel_rfl) (by kernel_rfl) (by kernel_rfl) (laid_tail (laid_tail h):laidMet Tryz.prog (("internal/strconv.uint64pow10",Go.Lib.tabData .u64 Go.Lib.pow10Tab)::_) W)
theorem none_own {W:World}:∀ b,b < W.heap.size→¬ (fun _:Nat=>False) b:=fun _ _ h=>h
set_option maxRecDepth 100000 in
theorem law_lifted (f:FuncId) (fn:Func) (s:ChangeSpec) (os:Os) (started:os.Started) (hfn:Tryz.checked.prog.funcs[f]?=some fn) (noInit:Tryz.checked.prog.inits.idxOf? f=none) (hres:fn.resultTypes=#[4]) (hv:s.vars=[])
    (hs:∀ ds:List (DataW H),ds.length=fn.params.size→s.fn H ds={ results:=[.lit (.bool true)],args:=ds }) (hp:fn.params.toList.all (plainT Tryz.prog 10)=true) (hr:(fn.params.toList.all fun t=>Tryz.prog.readableRec t && decide (t < Tryz.prog.types.size))=true)
    (witness:∃ (w:World) (tape:Tape) (i:Input),w.os=os∧(w.forCall tape i).Shaped Tryz.checked.prog∧i.vars=[]∧Input.okWide Tryz.checked.prog (w.forCall tape i) .any w.heap.size f i ∧
     ((s.pre enc Tryz.checked.prog fn [] false (w.forCall tape i).memory i.args∧laidMetH Tryz.prog laidL (w.forCall tape i).memory)∧sizedMet enc Tryz.checked.prog fn (OpenSpec.ofChange s) false (w.forCall tape i).memory i.args)∧Assume.holds {} Tryz.checked.prog (lone (Frame.enter Tryz.checked.prog f i.args .normal) [] (w.forCall tape i)))
    (law:∀ us,AvsOf Tryz.prog fn.params.toList us→Fn E0 f us (.c (.bool true))) :
    ReturnsInHanded {} Tryz.checked os f .any (fun w args=>(s.pre enc Tryz.checked.prog fn [] false w args∧laidMetH Tryz.prog laidL w)∧sizedMet enc Tryz.checked.prog fn (OpenSpec.ofChange s) false w args) (s.post enc Tryz.checked.prog fn false true false false):=by
 refine returns_told (fun _ _ hh h=>h.of_heap hh) own0 started noInit hfn witness fun W base args ds gs before hval hW hL hsh=>?_
 have hW':=hW
 obtain ⟨p,q,hA,hV,rfl,_,_⟩:=hW
 rw [hv] at hV
 obtain ⟨rfl,rfl⟩:=trodVars_none hV
 have hT:=told_of hL hsh
 have hlt:∀ y∈p,y.block < W.heap.size:=fun y hy=>hW'.lt y (List.mem_append_left _ hy)
 obtain ⟨us,u1,u2,u3⟩:=targs_rep none_own hp (fun j t v h1 h2=>hval j t v (by rw [← Array.getElem?_toList]; exact h1) (by rw [← Array.getElem?_toList]; exact h2)) hA
 have hdl:ds.length=fn.params.size:=by
  have:∀ {ts:List TypeId} {vs:List Value} {ds:List (DataW H)} {ps:List MemPlace},DataW.TrodAll enc Tryz.checked.prog W 0 (fun _=>true) true ts vs ds ps→ds.length=ts.length:=by
   intro ts
   induction ts with
   | nil=>intro vs ds ps h; cases vs <;> cases ds <;> simp_all [DataW.TrodAll]
   | cons t ts ih =>
    intro vs ds ps h
    cases vs with
    | nil=>cases ds <;> simp [DataW.TrodAll] at h
    | cons v vs=>cases ds with
     | nil=>simp [DataW.TrodAll] at h
     | cons d ds=>obtain ⟨_,_,_,h2,_⟩:=h; simp [ih h2]
  rw [this hA]; simp
 refine Calls.mono ((law us u1).calls W (fun _=>False) args hT (told_size hT) (fun _ h=>h.elim) (by rw [← u2]; simp) fun i v a h1 h2=>u3 i v a (by rw [Array.getElem?_toList]; exact h1) h2) ?_
 rintro e W' ⟨v,rfl,_,k1,k2⟩
 have hb:Below W.heap.size W W':=⟨k1.os,k1.tape,k1.output,k1.size,fun b hb=>k1.heap b hb id⟩
 have hvv:v=.bool true:=by cases k2 with | c k2=>cases k2; rfl
 subst hvv
 refine ⟨_,rfl,ds,[],p++[],[],p,[],hW',?_,?_,?_,hb.frame _,fun h=>by cases h⟩
 · rw [List.append_nil,hs ds hdl,hres]; exact trodAll_mk1 (shut_bool (by kernel_rfl) true)
 · rw [List.append_nil,hs ds hdl]; exact trodAll_below laidOut0 hb hr hlt hA
 · rw [List.append_nil,hs ds hdl,hv]; rfl
end Gev
namespace Gev
open Go Gb Go.Proofs
variable {P:Program}
theorem uStr {t:TypeId} (h:P.underlying t=some .string) {ds:List DV} (hd:TyD P t ds):∃ l,ds=[.str (B l)]:=by
 cases hd with
 | str s hu=>exact ⟨s.data.toList,by rw [B_of]⟩
 | int n hu hw=>rw [h] at hu; cases hu
 | bool b hu=>rw [h] at hu; cases hu
 | slice xs hu hx hl=>rw [h] at hu; cases hu
 | struct ds hu hl hp=>rw [h] at hu; cases hu
def fieldsOf (P:Program) (e:TypeId):Option (List (Nat × TypeId)):=match P.underlying e with | some (.struct fs)=>some (fs.toList.map fun f=>(f.offset,f.type)) | _=>none
theorem fields_get {e:TypeId} {l:List (Nat × TypeId)} (h:fieldsOf P e=some l):∃ fs,P.underlying e=some (.struct fs)∧fs.toList.map (fun f=>(f.offset,f.type))=l:=by
 unfold fieldsOf at h
 split at h
 · rename_i fs hu; exact ⟨fs,hu,Option.some.inj h⟩
 · cases h
theorem uStruct {e:TypeId} {l:List (Nat × TypeId)} (h:fieldsOf P e=some l) {ds:List DV} (hd:TyD P e ds):ds.length=P.cellsOf e∧∀ x∈l,TyD P x.2 ((ds.drop x.1).take (P.cellsOf x.2)):=by
 obtain ⟨fs,hu0,rfl⟩:=fields_get h
 cases hd with
 | struct _ hu hl hp =>
  rw [hu0] at hu; cases hu
  refine ⟨hl,fun x hx=>?_⟩
  obtain ⟨f,hf,rfl⟩:=List.mem_map.1 hx
  exact hp f hf
 | int n hu hw=>rw [hu0] at hu; cases hu
 | bool b hu=>rw [hu0] at hu; cases hu
 | str s hu=>rw [hu0] at hu; cases hu
 | slice xs hu hx hl=>rw [hu0] at hu; cases hu
theorem uSlice {t e:TypeId} (ht:P.underlying t=some (.slice e)) {d:DV} (hd:TyD P t [d]):∃ xs,d=.list xs∧(∀ x∈xs,TyD P e x)∧xs.length≤9223372036854775807:=by
 generalize hds:[d]=ds at hd
 cases hd with
 | slice xs hu hx hl=>rw [ht] at hu; cases hu; cases hds; exact ⟨xs,rfl,hx,hl⟩
 | int n hu hw=>rw [ht] at hu; cases hu
 | bool b hu=>rw [ht] at hu; cases hu
 | str s hu=>rw [ht] at hu; cases hu
 | struct ds hu hl hp=>rw [ht] at hu; cases hu
theorem three_cells {x:List DV} (h:x.length=3):∃ a b c,x=[a,b,c]:=by
 match x,h with
 | [a,b,c],_=>exact ⟨a,b,c,rfl⟩
theorem four_cells {x:List DV} (h:x.length=4):∃ a b c d,x=[a,b,c,d]:=by
 match x,h with
 | [a,b,c,d],_=>exact ⟨a,b,c,d,rfl⟩
theorem uTriple {e s:TypeId} (he:fieldsOf P e=some [(0,s),(1,s),(2,s)]) (c3:P.cellsOf e=3) (cs:P.cellsOf s=1) (hs:P.underlying s=some .string) {x:List DV} (hd:TyD P e x):∃ p q r,x=[.str (B p),.str (B q),.str (B r)]:=by
 obtain ⟨hl,hp⟩:=uStruct he hd
 rw [c3] at hl
 obtain ⟨a,b,c,rfl⟩:=three_cells hl
 have ha:=hp (0,s) (by simp)
 have hb:=hp (1,s) (by simp)
 have hc:=hp (2,s) (by simp)
 simp only [cs,List.drop_zero,List.drop_succ_cons,List.take_succ_cons,List.take_zero] at ha hb hc
 obtain ⟨p,e1⟩:=uStr hs ha
 obtain ⟨q,e2⟩:=uStr hs hb
 obtain ⟨r,e3⟩:=uStr hs hc
 cases e1; cases e2; cases e3; exact ⟨p,q,r,rfl⟩
theorem uQuad {e s0 s:TypeId} (he:fieldsOf P e=some [(0,s0),(1,s),(2,s),(3,s)]) (c4:P.cellsOf e=4) (c0:P.cellsOf s0=1) (cs:P.cellsOf s=1) (h0:P.underlying s0=some .string) (hs:P.underlying s=some .string) {x:List DV} (hd:TyD P e x):∃ p q r t,x=[.str (B p),.str (B q),.str (B r),.str (B t)]:=by
 obtain ⟨hl,hp⟩:=uStruct he hd
 rw [c4] at hl
 obtain ⟨a,b,c,d,rfl⟩:=four_cells hl
 have ha:=hp (0,s0) (by simp)
 have hb:=hp (1,s) (by simp)
 have hc:=hp (2,s) (by simp)
 have hd:=hp (3,s) (by simp)
 simp only [c0,cs,List.drop_zero,List.drop_succ_cons,List.take_succ_cons,List.take_zero] at ha hb hc hd
 obtain ⟨p,e1⟩:=uStr h0 ha
 obtain ⟨q,e2⟩:=uStr hs hb
 obtain ⟨r,e3⟩:=uStr hs hc
 obtain ⟨t,e4⟩:=uStr hs hd
 cases e1; cases e2; cases e3; cases e4; exact ⟨p,q,r,t,rfl⟩
theorem rows_of {α:Type} {p:List DV→Prop} {f:α→List DV} (h:∀ x,p x→∃ a,x=f a):∀ xs:List (List DV),(∀ x∈xs,p x)→∃ l:List α,xs=l.map f
 | [],_=>⟨[],rfl⟩
 | x::xs,hx=>by
  obtain ⟨l,rfl⟩:=rows_of h xs fun y hy=>hx y (List.mem_cons_of_mem _ hy)
  obtain ⟨a,rfl⟩:=h x (hx x (by simp))
  exact ⟨a::l,rfl⟩
theorem uTriples {t e s:TypeId} (ht:P.underlying t=some (.slice e)) (he:fieldsOf P e=some [(0,s),(1,s),(2,s)]) (c3:P.cellsOf e=3) (cs:P.cellsOf s=1) (hs:P.underlying s=some .string) {d:DV} (hd:TyD P t [d]):∃ l,d=.list (R3 l)∧l.length≤9223372036854775807:=by
 obtain ⟨xs,rfl,hx,hl⟩:=uSlice ht hd
 obtain ⟨l,rfl⟩:=rows_of (α:=D3) (p:=TyD P e) (f:=fun m=>[.str (B m.1),.str (B m.2.1),.str (B m.2.2)]) (fun x hx=>by obtain ⟨p,q,r,rfl⟩:=uTriple he c3 cs hs hx; exact ⟨(p,q,r),rfl⟩) xs hx
 exact ⟨l,rfl,by rw [List.length_map] at hl; exact hl⟩
theorem uQuads {t e s0 s:TypeId} (ht:P.underlying t=some (.slice e)) (he:fieldsOf P e=some [(0,s0),(1,s),(2,s),(3,s)]) (c4:P.cellsOf e=4) (c0:P.cellsOf s0=1) (cs:P.cellsOf s=1) (h0:P.underlying s0=some .string) (hs:P.underlying s=some .string) {d:DV} (hd:TyD P t [d]):∃ l,d=.list (R4 l)∧l.length≤9223372036854775807:=by
 obtain ⟨xs,rfl,hx,hl⟩:=uSlice ht hd
 obtain ⟨l,rfl⟩:=rows_of (α:=Mk) (p:=TyD P e) (f:=fun m=>[.str (B m.1),.str (B m.2.1),.str (B m.2.2.1),.str (B m.2.2.2)]) (fun x hx=>by obtain ⟨p,q,r,t,rfl⟩:=uQuad he c4 c0 cs h0 hs hx; exact ⟨(p,q,r,t),rfl⟩) xs hx
 exact ⟨l,rfl,by rw [List.length_map] at hl; exact hl⟩
theorem uText {s:TypeId} (hs:P.underlying s=some .string) {d:DV} (hd:TyD P s [d]):∃ p,d=.str (B p):=by
 obtain ⟨p,e⟩:=uStr hs hd
 cases e; exact ⟨p,rfl⟩
end Gev
