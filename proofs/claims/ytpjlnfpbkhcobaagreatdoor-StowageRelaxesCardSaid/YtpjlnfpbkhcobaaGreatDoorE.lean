/- A part of the proof: see the last text of this claim. -/
import Derived.Test.YtpjlnfpbkhcobaaGreatDoorD
import Derived.KernelRfl
import Derived.Shelf.Strings.Builder1
import Derived.Shelf.Strings.Builder2
import Derived.Shelf.Small.Wraps
import Derived.Shelf.Strings.BuilderF
import Derived.Shelf.Strings.BuilderK
import Derived.Shelf.Strconv.Itoa0
import Derived.Shelf.Strconv.Itoa1
import Derived.Shelf.LaysM
import Derived.Shelf.Strconv.Itoa2
import Derived.Shelf.Strconv.Itoa3
import Derived.Shelf.Strconv.Itoa4
import Derived.Shelf.Strconv.ParseIntEmpty
import Derived.Shelf.Strconv.Clone
import Derived.Shelf.Strconv.SyntaxError
import Derived.Shelf.LaysC
import Derived.Shelf.Strconv.ToError
import Derived.Shelf.Strconv.Lower
import Derived.Shelf.Strconv.ParseUint10
import Derived.Shelf.Strconv.ParseUint10Empty
import Derived.Shelf.Strconv.ParseUint10Any
import Derived.Shelf.Strconv.ParseInt10
import Derived.Shelf.Strconv.RangeError
import Derived.Shelf.Strconv.ToErrorRange
import Derived.Shelf.Strconv.ParseUintEmpty
import Derived.Shelf.Strconv.ParseUint10b64
import Derived.Shelf.Strconv.ParseUint10b32
import Derived.Shelf.Strconv.ParseUint10b16
import Derived.Shelf.Strconv.ParseUint10b8
import Derived.Shelf.Strconv.ParseUint10At
import Derived.Shelf.Strconv.ParseInt10At64
import Derived.Shelf.Strconv.ParseInt10At32
import Derived.Shelf.Strconv.ParseInt10At16
import Derived.Shelf.Strconv.ParseInt10At8
import Derived.Shelf.Strconv.ParseInt10All
import Derived.Shelf.Strconv.ParseIntPublic10
import Derived.Ground.MpProg
import Derived.Shelf.Pu.ParseUintPublic10
import Derived.Shelf.Strings.Search1
import Derived.Shelf.Strings.Search2
import Derived.Shelf.Strings.Cut
import Derived.Shelf.Strings.Shaped
import Derived.Shelf.Strings.Prefix
import Derived.Shelf.Bits.Mul64
import Derived.Shelf.Strings.Repeat
import Derived.Ground.Names2Prog
import Derived.Shelf.Slices.SearchI
import Derived.Ground.SlgnProg
import Derived.Shelf.SlicesE.Clone
import Derived.Test.YtpjlnfpbkhcobaaGreatDoorProg
set_option linter.unusedSectionVars false
set_option linter.unusedVariables false
set_option linter.unusedSimpArgs false
namespace Gev
open Go Gb
variable {E:Env}
theorem k0d {c0_0:RW} {c0_1:RW} {c1_0:RW} {l:List Hd} (p:Hd→Bool) (hl:l.length<9223372036854775807) (hf:∀ a∈l,Rn E I9 [.agg a.d,.ptr 0 0,.ptr 1 0] [some (.cells [.c (.list c0_0),.c (.list c0_1)]),some (.cells [.c (.list c1_0)])] (.c (.bool (p a))) [some (.cells [.c (.list c0_0),.c (.list c0_1)]),some (.cells [.c (.list c1_0)])]) :
    Rn E B1 [.c (.list (Hs l)),.fn I9 [.ptr 0 0,.ptr 1 0]] [some (.cells [.c (.list c0_0),.c (.list c0_1)]),some (.cells [.c (.list c1_0)])] (.c (.i64 (ix p l))) [some (.cells [.c (.list c0_0),.c (.list c0_1)]),some (.cells [.c (.list c1_0)])]:=by
 have hq:=Z7 l
 have h:=J1 (l:=l) (fun _ a=>p a) (fun i=>O8 (Hs l) ((Hs l).length:Int) (i:Nat) c0_0 c0_1 c1_0) (fun j _ o s=>o=.ret∧s=z4z c0_0 c0_1 c1_0 (j:Int)) (y9z (by omega))
  (fun i a ha hb o s ih=>by
   have hi:=C1 ha;have hc:=hf a (List.mem_of_getElem? ha);rw [show p a=false from hb] at hc
   exact x1u (by omega) (by omega) (A5 (z1m ha)) hc (wi (by omega)) ih)
  (fun i a ha hb=>by
   have hi:=C1 ha;have hc:=hf a (List.mem_of_getElem? ha);rw [show p a=true from hb] at hc
   exact ⟨_,_,⟨rfl,rfl⟩,y9y (by omega) (by omega) (A5 (z1m ha)) hc⟩) l.length 0 (by omega)
 rcases h with ⟨h1,h2⟩ | ⟨j,a,o,s,h1,h2,h3,h4,⟨rfl,rfl⟩,h5⟩
 · rw [z8r fun j a hj h=>h1 j a hj h];exact z7y h2
 · rw [z8s h2 h3 fun j a hj hk h=>h4 j a hj hk h];exact z7x h5
theorem j3r {c1_0:BA} {l:List Ru} {w0:RW} (hw:∀ (i:Nat) a,l[i]?=some a→w0[i]?=some (a.d)) (p:Ru→Bool) (hl:l.length<9223372036854775807) (hf:∀ a∈l,Rn E G0 [.agg a.d,.ptr 1 0] [some (.vec C7 w0),some (.cells [.c (.str c1_0)])] (.c (.bool (p a))) [some (.vec C7 w0),some (.cells [.c (.str c1_0)])]) :
    Rn E B8 [.vec 0 l.length,.fn G0 [.ptr 1 0]] [some (.vec C7 w0),some (.cells [.c (.str c1_0)])] (.c (.i64 (ix p l))) [some (.vec C7 w0),some (.cells [.c (.str c1_0)])]:=by
 have h:=J1 (l:=l) (fun _ a=>p a) (fun i=>P0 l.length ((l.length:Nat):Int) (i:Nat) w0 c1_0) (fun j _ o s=>o=.ret∧s=z5b w0 c1_0 (j:Int)) (x0e (by omega))
  (fun i a ha hb o s ih=>by
   have hi:=C1 ha;have hc:=hf a (List.mem_of_getElem? ha);rw [show p a=false from hb] at hc
   exact x1w (by omega) (⟨by omega,by omega⟩) (A5 (hw _ _ ha)) hc (wi (by omega)) ih)
  (fun i a ha hb=>by
   have hi:=C1 ha;have hc:=hf a (List.mem_of_getElem? ha);rw [show p a=true from hb] at hc
   exact ⟨_,_,⟨rfl,rfl⟩,x0d (by omega) (⟨by omega,by omega⟩) (A5 (hw _ _ ha)) hc⟩) l.length 0 (by omega)
 rcases h with ⟨h1,h2⟩ | ⟨j,a,o,s,h1,h2,h3,h4,⟨rfl,rfl⟩,h5⟩
 · rw [z8r fun j a hj h=>h1 j a hj h];exact y1i h2
 · rw [z8s h2 h3 fun j a hj hk h=>h4 j a hj hk h];exact y1h h5
theorem j0y {l:List (List UInt8)} (p:List UInt8→Bool) (hl:l.length<9223372036854775807) (hf:∀ a∈l,Fn E H7 [.c (.str (B a))] (.c (.bool (p a)))) :
    Fn E C2 [.c (.list (R1 l)),.fn H7 []] (.c (.i64 (ix p l))):=by
 have hq:=z0p l
 have h:=J1 (l:=l) (fun _ a=>p a) (fun i=>U3 (R1 l) ((R1 l).length:Int) (i:Nat)) (fun j _ o s=>o=.ret∧s=z5o (j:Int)) (x0y (by omega))
  (fun i a ha hb o s ih=>by
   have hi:=C1 ha;have hc:=hf a (List.mem_of_getElem? ha);rw [show p a=false from hb] at hc
   exact x3c (by omega) (by omega) (A5 (y0f ha)) hc (wi (by omega)) ih)
  (fun i a ha hb=>by
   have hi:=C1 ha;have hc:=hf a (List.mem_of_getElem? ha);rw [show p a=true from hb] at hc
   exact ⟨_,_,⟨rfl,rfl⟩,x0x (by omega) (by omega) (A5 (y0f ha)) hc⟩) l.length 0 (by omega)
 rcases h with ⟨h1,h2⟩ | ⟨j,a,o,s,h1,h2,h3,h4,⟨rfl,rfl⟩,h5⟩
 · rw [z8r fun j a hj h=>h1 j a hj h];exact y1g h2
 · rw [z8s h2 h3 fun j a hj hk h=>h4 j a hj hk h];exact y1f h5
theorem j0l {l:List (List UInt8)} (p:List UInt8→Bool) (hl:l.length<9223372036854775807) (hf:∀ a∈l,Fn E H7 [.c (.str (B a))] (.c (.bool (p a)))) :
    Fn E I3 [.c (.list (R1 l)),.fn H7 []] (.c (.bool (l.any p))):=by
 have h:=j0y p hl hf
 cases hp:l.any p with
 | false=>exact z8y h (by have:=z5n.2 hp;omega)
 | true =>
  have hn:¬ ix p l<0:=fun h=>by rw [z5n.1 h] at hp;cases hp
  exact z8x h (by omega)
theorem j0z {c0_0:BA} {c0_1:Int} {c0_2:RW} {c0_3:BA} {c0_4:BA} {c0_5:Int} {c0_6:Int} {l:List Ru} (p:Ru→Bool) (hl:l.length<9223372036854775807) (hf:∀ a∈l,Rn E G7 [.agg a.d,.ptr 0 0] [some (.cells [.c (.str c0_0),.c (.i64 c0_1),.c (.list c0_2),.c (.str c0_3),.c (.str c0_4),.c (.i64 c0_5),.c (.i64 c0_6)])] (.c (.bool (p a))) [some (.cells [.c (.str c0_0),.c (.i64 c0_1),.c (.list c0_2),.c (.str c0_3),.c (.str c0_4),.c (.i64 c0_5),.c (.i64 c0_6)])]) :
    Rn E B8 [.c (.list (Rs l)),.fn G7 [.ptr 0 0]] [some (.cells [.c (.str c0_0),.c (.i64 c0_1),.c (.list c0_2),.c (.str c0_3),.c (.str c0_4),.c (.i64 c0_5),.c (.i64 c0_6)])] (.c (.i64 (ix p l))) [some (.cells [.c (.str c0_0),.c (.i64 c0_1),.c (.list c0_2),.c (.str c0_3),.c (.str c0_4),.c (.i64 c0_5),.c (.i64 c0_6)])]:=by
 have hq:=z5m l
 have h:=J1 (l:=l) (fun _ a=>p a) (fun i=>N1 (Rs l) ((Rs l).length:Int) (i:Nat) c0_0 c0_1 c0_2 c0_3 c0_4 c0_5 c0_6) (fun j _ o s=>o=.ret∧s=z4a c0_0 c0_1 c0_2 c0_3 c0_4 c0_5 c0_6 (j:Int)) (y8v (by omega))
  (fun i a ha hb o s ih=>by
   have hi:=C1 ha;have hc:=hf a (List.mem_of_getElem? ha);rw [show p a=false from hb] at hc
   exact x0z (by omega) (by omega) (A5 (z7c ha)) hc (wi (by omega)) ih)
  (fun i a ha hb=>by
   have hi:=C1 ha;have hc:=hf a (List.mem_of_getElem? ha);rw [show p a=true from hb] at hc
   exact ⟨_,_,⟨rfl,rfl⟩,y8u (by omega) (by omega) (A5 (z7c ha)) hc⟩) l.length 0 (by omega)
 rcases h with ⟨h1,h2⟩ | ⟨j,a,o,s,h1,h2,h3,h4,⟨rfl,rfl⟩,h5⟩
 · rw [z8r fun j a hj h=>h1 j a hj h];exact y0o h2
 · rw [z8s h2 h3 fun j a hj hk h=>h4 j a hj hk h];exact y0n h5
theorem j0m {c0_0:BA} {c0_1:Int} {c0_2:RW} {c0_3:BA} {c0_4:BA} {c0_5:Int} {c0_6:Int} {l:List Ru} (p:Ru→Bool) (hl:l.length<9223372036854775807) (hf:∀ a∈l,Rn E G7 [.agg a.d,.ptr 0 0] [some (.cells [.c (.str c0_0),.c (.i64 c0_1),.c (.list c0_2),.c (.str c0_3),.c (.str c0_4),.c (.i64 c0_5),.c (.i64 c0_6)])] (.c (.bool (p a))) [some (.cells [.c (.str c0_0),.c (.i64 c0_1),.c (.list c0_2),.c (.str c0_3),.c (.str c0_4),.c (.i64 c0_5),.c (.i64 c0_6)])]) :
    Rn E X9 [.c (.list (Rs l)),.fn G7 [.ptr 0 0]] [some (.cells [.c (.str c0_0),.c (.i64 c0_1),.c (.list c0_2),.c (.str c0_3),.c (.str c0_4),.c (.i64 c0_5),.c (.i64 c0_6)])] (.c (.bool (l.any p))) [some (.cells [.c (.str c0_0),.c (.i64 c0_1),.c (.list c0_2),.c (.str c0_3),.c (.str c0_4),.c (.i64 c0_5),.c (.i64 c0_6)])]:=by
 have h:=j0z p hl hf
 cases hp:l.any p with
 | false=>exact z7u h (by have:=z5n.2 hp;omega)
 | true =>
  have hn:¬ ix p l<0:=fun h=>by rw [z5n.1 h] at hp;cases hp
  exact z7t h (by omega)
theorem j1d {c0_0:BA} {c0_1:Int} {c0_2:RW} {c0_3:BA} {c0_4:BA} {c0_5:Int} {c0_6:Int} {l:List Pc} (p:Pc→Bool) (hl:l.length<9223372036854775807) (hf:∀ a∈l,Rn E V1 [.agg a.d,.ptr 0 0] [some (.cells [.c (.str c0_0),.c (.i64 c0_1),.c (.list c0_2),.c (.str c0_3),.c (.str c0_4),.c (.i64 c0_5),.c (.i64 c0_6)])] (.c (.bool (p a))) [some (.cells [.c (.str c0_0),.c (.i64 c0_1),.c (.list c0_2),.c (.str c0_3),.c (.str c0_4),.c (.i64 c0_5),.c (.i64 c0_6)])]) :
    Rn E A6 [.c (.list (Ps l)),.fn V1 [.ptr 0 0]] [some (.cells [.c (.str c0_0),.c (.i64 c0_1),.c (.list c0_2),.c (.str c0_3),.c (.str c0_4),.c (.i64 c0_5),.c (.i64 c0_6)])] (.c (.i64 (ix p l))) [some (.cells [.c (.str c0_0),.c (.i64 c0_1),.c (.list c0_2),.c (.str c0_3),.c (.str c0_4),.c (.i64 c0_5),.c (.i64 c0_6)])]:=by
 have hq:=z0z l
 have h:=J1 (l:=l) (fun _ a=>p a) (fun i=>M3 (Ps l) ((Ps l).length:Int) (i:Nat) c0_0 c0_1 c0_2 c0_3 c0_4 c0_5 c0_6) (fun j _ o s=>o=.ret∧s=z3g c0_0 c0_1 c0_2 c0_3 c0_4 c0_5 c0_6 (j:Int)) (y7e (by omega))
  (fun i a ha hb o s ih=>by
   have hi:=C1 ha;have hc:=hf a (List.mem_of_getElem? ha);rw [show p a=false from hb] at hc
   exact x0a (by omega) (by omega) (A5 (X5 ha)) hc (wi (by omega)) ih)
  (fun i a ha hb=>by
   have hi:=C1 ha;have hc:=hf a (List.mem_of_getElem? ha);rw [show p a=true from hb] at hc
   exact ⟨_,_,⟨rfl,rfl⟩,y7d (by omega) (by omega) (A5 (X5 ha)) hc⟩) l.length 0 (by omega)
 rcases h with ⟨h1,h2⟩ | ⟨j,a,o,s,h1,h2,h3,h4,⟨rfl,rfl⟩,h5⟩
 · rw [z8r fun j a hj h=>h1 j a hj h];exact z9g h2
 · rw [z8s h2 h3 fun j a hj hk h=>h4 j a hj hk h];exact z9f h5
theorem j8p {l:List (List UInt8)} (p:List UInt8→Bool) (hl:l.length<9223372036854775807) (hf:∀ a∈l,Fn E K4 [.c (.str (B a))] (.c (.bool (p a)))) :
    Fn E C2 [.c (.list (R1 l)),.fn K4 []] (.c (.i64 (ix p l))):=by
 have hq:=z0p l
 have h:=J1 (l:=l) (fun _ a=>p a) (fun i=>O9 (R1 l) ((R1 l).length:Int) (i:Nat)) (fun j _ o s=>o=.ret∧s=z5a (j:Int)) (x0c (by omega))
  (fun i a ha hb o s ih=>by
   have hi:=C1 ha;have hc:=hf a (List.mem_of_getElem? ha);rw [show p a=false from hb] at hc
   exact x1v (by omega) (by omega) (A5 (y0f ha)) hc (wi (by omega)) ih)
  (fun i a ha hb=>by
   have hi:=C1 ha;have hc:=hf a (List.mem_of_getElem? ha);rw [show p a=true from hb] at hc
   exact ⟨_,_,⟨rfl,rfl⟩,x0b (by omega) (by omega) (A5 (y0f ha)) hc⟩) l.length 0 (by omega)
 rcases h with ⟨h1,h2⟩ | ⟨j,a,o,s,h1,h2,h3,h4,⟨rfl,rfl⟩,h5⟩
 · rw [z8r fun j a hj h=>h1 j a hj h];exact y3b h2
 · rw [z8s h2 h3 fun j a hj hk h=>h4 j a hj hk h];exact y3a h5
theorem j8d {l:List (List UInt8)} (p:List UInt8→Bool) (hl:l.length<9223372036854775807) (hf:∀ a∈l,Fn E K4 [.c (.str (B a))] (.c (.bool (p a)))) :
    Fn E I3 [.c (.list (R1 l)),.fn K4 []] (.c (.bool (l.any p))):=by
 have h:=j8p p hl hf
 cases hp:l.any p with
 | false=>exact y0h h (by have:=z5n.2 hp;omega)
 | true =>
  have hn:¬ ix p l<0:=fun h=>by rw [z5n.1 h] at hp;cases hp
  exact y0g h (by omega)
theorem j1b {c0_0:BA} {c0_1:Int} {c0_2:RW} {c0_3:BA} {c0_4:BA} {c0_5:Int} {c0_6:Int} {l:List Hd} (p:Hd→Bool) (hl:l.length<9223372036854775807) (hf:∀ a∈l,Rn E G9 [.agg a.d,.ptr 0 0] [some (.cells [.c (.str c0_0),.c (.i64 c0_1),.c (.list c0_2),.c (.str c0_3),.c (.str c0_4),.c (.i64 c0_5),.c (.i64 c0_6)])] (.c (.bool (p a))) [some (.cells [.c (.str c0_0),.c (.i64 c0_1),.c (.list c0_2),.c (.str c0_3),.c (.str c0_4),.c (.i64 c0_5),.c (.i64 c0_6)])]) :
    Rn E B1 [.c (.list (Hs l)),.fn G9 [.ptr 0 0]] [some (.cells [.c (.str c0_0),.c (.i64 c0_1),.c (.list c0_2),.c (.str c0_3),.c (.str c0_4),.c (.i64 c0_5),.c (.i64 c0_6)])] (.c (.i64 (ix p l))) [some (.cells [.c (.str c0_0),.c (.i64 c0_1),.c (.list c0_2),.c (.str c0_3),.c (.str c0_4),.c (.i64 c0_5),.c (.i64 c0_6)])]:=by
 have hq:=Z7 l
 have h:=J1 (l:=l) (fun _ a=>p a) (fun i=>M9 (Hs l) ((Hs l).length:Int) (i:Nat) c0_0 c0_1 c0_2 c0_3 c0_4 c0_5 c0_6) (fun j _ o s=>o=.ret∧s=z3y c0_0 c0_1 c0_2 c0_3 c0_4 c0_5 c0_6 (j:Int)) (y8o (by omega))
  (fun i a ha hb o s ih=>by
   have hi:=C1 ha;have hc:=hf a (List.mem_of_getElem? ha);rw [show p a=false from hb] at hc
   exact x0v (by omega) (by omega) (A5 (z1m ha)) hc (wi (by omega)) ih)
  (fun i a ha hb=>by
   have hi:=C1 ha;have hc:=hf a (List.mem_of_getElem? ha);rw [show p a=true from hb] at hc
   exact ⟨_,_,⟨rfl,rfl⟩,y8n (by omega) (by omega) (A5 (z1m ha)) hc⟩) l.length 0 (by omega)
 rcases h with ⟨h1,h2⟩ | ⟨j,a,o,s,h1,h2,h3,h4,⟨rfl,rfl⟩,h5⟩
 · rw [z8r fun j a hj h=>h1 j a hj h];exact y0m h2
 · rw [z8s h2 h3 fun j a hj hk h=>h4 j a hj hk h];exact y0l h5
theorem j0o {c0_0:BA} {c0_1:Int} {c0_2:RW} {c0_3:BA} {c0_4:BA} {c0_5:Int} {c0_6:Int} {l:List Hd} (p:Hd→Bool) (hl:l.length<9223372036854775807) (hf:∀ a∈l,Rn E G9 [.agg a.d,.ptr 0 0] [some (.cells [.c (.str c0_0),.c (.i64 c0_1),.c (.list c0_2),.c (.str c0_3),.c (.str c0_4),.c (.i64 c0_5),.c (.i64 c0_6)])] (.c (.bool (p a))) [some (.cells [.c (.str c0_0),.c (.i64 c0_1),.c (.list c0_2),.c (.str c0_3),.c (.str c0_4),.c (.i64 c0_5),.c (.i64 c0_6)])]) :
    Rn E X8 [.c (.list (Hs l)),.fn G9 [.ptr 0 0]] [some (.cells [.c (.str c0_0),.c (.i64 c0_1),.c (.list c0_2),.c (.str c0_3),.c (.str c0_4),.c (.i64 c0_5),.c (.i64 c0_6)])] (.c (.bool (l.any p))) [some (.cells [.c (.str c0_0),.c (.i64 c0_1),.c (.list c0_2),.c (.str c0_3),.c (.str c0_4),.c (.i64 c0_5),.c (.i64 c0_6)])]:=by
 have h:=j1b p hl hf
 cases hp:l.any p with
 | false=>exact z7s h (by have:=z5n.2 hp;omega)
 | true =>
  have hn:¬ ix p l<0:=fun h=>by rw [z5n.1 h] at hp;cases hp
  exact z7r h (by omega)
theorem j1c {c0_0:BA} {c0_1:Int} {c0_2:RW} {c0_3:BA} {c0_4:BA} {c0_5:Int} {c0_6:Int} {l:List Pc} (p:Pc→Bool) (hl:l.length<9223372036854775807) (hf:∀ a∈l,Rn E H0 [.agg a.d,.ptr 0 0] [some (.cells [.c (.str c0_0),.c (.i64 c0_1),.c (.list c0_2),.c (.str c0_3),.c (.str c0_4),.c (.i64 c0_5),.c (.i64 c0_6)])] (.c (.bool (p a))) [some (.cells [.c (.str c0_0),.c (.i64 c0_1),.c (.list c0_2),.c (.str c0_3),.c (.str c0_4),.c (.i64 c0_5),.c (.i64 c0_6)])]) :
    Rn E A6 [.c (.list (Ps l)),.fn H0 [.ptr 0 0]] [some (.cells [.c (.str c0_0),.c (.i64 c0_1),.c (.list c0_2),.c (.str c0_3),.c (.str c0_4),.c (.i64 c0_5),.c (.i64 c0_6)])] (.c (.i64 (ix p l))) [some (.cells [.c (.str c0_0),.c (.i64 c0_1),.c (.list c0_2),.c (.str c0_3),.c (.str c0_4),.c (.i64 c0_5),.c (.i64 c0_6)])]:=by
 have hq:=z0z l
 have h:=J1 (l:=l) (fun _ a=>p a) (fun i=>J9 (Ps l) ((Ps l).length:Int) (i:Nat) c0_0 c0_1 c0_2 c0_3 c0_4 c0_5 c0_6) (fun j _ o s=>o=.ret∧s=z2s c0_0 c0_1 c0_2 c0_3 c0_4 c0_5 c0_6 (j:Int)) (y6r (by omega))
  (fun i a ha hb o s ih=>by
   have hi:=C1 ha;have hc:=hf a (List.mem_of_getElem? ha);rw [show p a=false from hb] at hc
   exact y8r (by omega) (by omega) (A5 (X5 ha)) hc (wi (by omega)) ih)
  (fun i a ha hb=>by
   have hi:=C1 ha;have hc:=hf a (List.mem_of_getElem? ha);rw [show p a=true from hb] at hc
   exact ⟨_,_,⟨rfl,rfl⟩,y6q (by omega) (by omega) (A5 (X5 ha)) hc⟩) l.length 0 (by omega)
 rcases h with ⟨h1,h2⟩ | ⟨j,a,o,s,h1,h2,h3,h4,⟨rfl,rfl⟩,h5⟩
 · rw [z8r fun j a hj h=>h1 j a hj h];exact z9e h2
 · rw [z8s h2 h3 fun j a hj hk h=>h4 j a hj hk h];exact z9d h5
theorem j0p {c0_0:BA} {c0_1:Int} {c0_2:RW} {c0_3:BA} {c0_4:BA} {c0_5:Int} {c0_6:Int} {l:List Pc} (p:Pc→Bool) (hl:l.length<9223372036854775807) (hf:∀ a∈l,Rn E H0 [.agg a.d,.ptr 0 0] [some (.cells [.c (.str c0_0),.c (.i64 c0_1),.c (.list c0_2),.c (.str c0_3),.c (.str c0_4),.c (.i64 c0_5),.c (.i64 c0_6)])] (.c (.bool (p a))) [some (.cells [.c (.str c0_0),.c (.i64 c0_1),.c (.list c0_2),.c (.str c0_3),.c (.str c0_4),.c (.i64 c0_5),.c (.i64 c0_6)])]) :
    Rn E V7 [.c (.list (Ps l)),.fn H0 [.ptr 0 0]] [some (.cells [.c (.str c0_0),.c (.i64 c0_1),.c (.list c0_2),.c (.str c0_3),.c (.str c0_4),.c (.i64 c0_5),.c (.i64 c0_6)])] (.c (.bool (l.any p))) [some (.cells [.c (.str c0_0),.c (.i64 c0_1),.c (.list c0_2),.c (.str c0_3),.c (.str c0_4),.c (.i64 c0_5),.c (.i64 c0_6)])]:=by
 have h:=j1c p hl hf
 cases hp:l.any p with
 | false=>exact z6r h (by have:=z5n.2 hp;omega)
 | true =>
  have hn:¬ ix p l<0:=fun h=>by rw [z5n.1 h] at hp;cases hp
  exact z6q h (by omega)
theorem j0x {c0_0:Int} {l:List Pc} (p:Pc→Bool) (hl:l.length<9223372036854775807) (hf:∀ a∈l,Rn E V0 [.agg a.d,.ptr 0 0] [some (.cells [.c (.i64 c0_0)])] (.c (.bool (p a))) [some (.cells [.c (.i64 c0_0)])]) :
    Rn E A6 [.c (.list (Ps l)),.fn V0 [.ptr 0 0]] [some (.cells [.c (.i64 c0_0)])] (.c (.i64 (ix p l))) [some (.cells [.c (.i64 c0_0)])]:=by
 have hq:=z0z l
 have h:=J1 (l:=l) (fun _ a=>p a) (fun i=>K0 (Ps l) ((Ps l).length:Int) (i:Nat) c0_0) (fun j _ o s=>o=.ret∧s=z2t c0_0 (j:Int)) (y6t (by omega))
  (fun i a ha hb o s ih=>by
   have hi:=C1 ha;have hc:=hf a (List.mem_of_getElem? ha);rw [show p a=false from hb] at hc
   exact y8s (by omega) (by omega) (A5 (X5 ha)) hc (wi (by omega)) ih)
  (fun i a ha hb=>by
   have hi:=C1 ha;have hc:=hf a (List.mem_of_getElem? ha);rw [show p a=true from hb] at hc
   exact ⟨_,_,⟨rfl,rfl⟩,y6s (by omega) (by omega) (A5 (X5 ha)) hc⟩) l.length 0 (by omega)
 rcases h with ⟨h1,h2⟩ | ⟨j,a,o,s,h1,h2,h3,h4,⟨rfl,rfl⟩,h5⟩
 · rw [z8r fun j a hj h=>h1 j a hj h];exact z9c h2
 · rw [z8s h2 h3 fun j a hj hk h=>h4 j a hj hk h];exact z9b h5
theorem j1a {c0_0:BA} {c0_1:Int} {c0_2:RW} {c0_3:BA} {c0_4:BA} {c0_5:Int} {c0_6:Int} {c1_0:RW} {c1_1:RW} {c1_2:RW} {l:List Sw} (p:Sw→Bool) (hl:l.length<9223372036854775807) (hf:∀ a∈l,Rn E G8 [.agg a.d,.ptr 0 0,.ptr 1 0] [some (.cells [.c (.str c0_0),.c (.i64 c0_1),.c (.list c0_2),.c (.str c0_3),.c (.str c0_4),.c (.i64 c0_5),.c (.i64 c0_6)]),some (.cells [.c (.list c1_0),.c (.list c1_1),.c (.list c1_2)])] (.c (.bool (p a))) [some (.cells [.c (.str c0_0),.c (.i64 c0_1),.c (.list c0_2),.c (.str c0_3),.c (.str c0_4),.c (.i64 c0_5),.c (.i64 c0_6)]),some (.cells [.c (.list c1_0),.c (.list c1_1),.c (.list c1_2)])]) :
    Rn E B9 [.c (.list (Ss l)),.fn G8 [.ptr 0 0,.ptr 1 0]] [some (.cells [.c (.str c0_0),.c (.i64 c0_1),.c (.list c0_2),.c (.str c0_3),.c (.str c0_4),.c (.i64 c0_5),.c (.i64 c0_6)]),some (.cells [.c (.list c1_0),.c (.list c1_1),.c (.list c1_2)])] (.c (.i64 (ix p l))) [some (.cells [.c (.str c0_0),.c (.i64 c0_1),.c (.list c0_2),.c (.str c0_3),.c (.str c0_4),.c (.i64 c0_5),.c (.i64 c0_6)]),some (.cells [.c (.list c1_0),.c (.list c1_1),.c (.list c1_2)])]:=by
 have hq:=k1t l
 have h:=J1 (l:=l) (fun _ a=>p a) (fun i=>P1 (Ss l) ((Ss l).length:Int) (i:Nat) c0_0 c0_1 c0_2 c0_3 c0_4 c0_5 c0_6 c1_0 c1_1 c1_2) (fun j _ o s=>o=.ret∧s=z5c c0_0 c0_1 c0_2 c0_3 c0_4 c0_5 c0_6 c1_0 c1_1 c1_2 (j:Int)) (x0g (by omega))
  (fun i a ha hb o s ih=>by
   have hi:=C1 ha;have hc:=hf a (List.mem_of_getElem? ha);rw [show p a=false from hb] at hc
   exact x1x (by omega) (by omega) (A5 (z8n ha)) hc (wi (by omega)) ih)
  (fun i a ha hb=>by
   have hi:=C1 ha;have hc:=hf a (List.mem_of_getElem? ha);rw [show p a=true from hb] at hc
   exact ⟨_,_,⟨rfl,rfl⟩,x0f (by omega) (by omega) (A5 (z8n ha)) hc⟩) l.length 0 (by omega)
 rcases h with ⟨h1,h2⟩ | ⟨j,a,o,s,h1,h2,h3,h4,⟨rfl,rfl⟩,h5⟩
 · rw [z8r fun j a hj h=>h1 j a hj h];exact y0q h2
 · rw [z8s h2 h3 fun j a hj hk h=>h4 j a hj hk h];exact y0p h5
theorem j0n {c0_0:BA} {c0_1:Int} {c0_2:RW} {c0_3:BA} {c0_4:BA} {c0_5:Int} {c0_6:Int} {c1_0:RW} {c1_1:RW} {c1_2:RW} {l:List Sw} (p:Sw→Bool) (hl:l.length<9223372036854775807) (hf:∀ a∈l,Rn E G8 [.agg a.d,.ptr 0 0,.ptr 1 0] [some (.cells [.c (.str c0_0),.c (.i64 c0_1),.c (.list c0_2),.c (.str c0_3),.c (.str c0_4),.c (.i64 c0_5),.c (.i64 c0_6)]),some (.cells [.c (.list c1_0),.c (.list c1_1),.c (.list c1_2)])] (.c (.bool (p a))) [some (.cells [.c (.str c0_0),.c (.i64 c0_1),.c (.list c0_2),.c (.str c0_3),.c (.str c0_4),.c (.i64 c0_5),.c (.i64 c0_6)]),some (.cells [.c (.list c1_0),.c (.list c1_1),.c (.list c1_2)])]) :
    Rn E z0y [.c (.list (Ss l)),.fn G8 [.ptr 0 0,.ptr 1 0]] [some (.cells [.c (.str c0_0),.c (.i64 c0_1),.c (.list c0_2),.c (.str c0_3),.c (.str c0_4),.c (.i64 c0_5),.c (.i64 c0_6)]),some (.cells [.c (.list c1_0),.c (.list c1_1),.c (.list c1_2)])] (.c (.bool (l.any p))) [some (.cells [.c (.str c0_0),.c (.i64 c0_1),.c (.list c0_2),.c (.str c0_3),.c (.str c0_4),.c (.i64 c0_5),.c (.i64 c0_6)]),some (.cells [.c (.list c1_0),.c (.list c1_1),.c (.list c1_2)])]:=by
 have h:=j1a p hl hf
 cases hp:l.any p with
 | false=>exact z7w h (by have:=z5n.2 hp;omega)
 | true =>
  have hn:¬ ix p l<0:=fun h=>by rw [z5n.1 h] at hp;cases hp
  exact z7v h (by omega)
theorem x7v {c1_0:Int} {l:List Pc} (p:Pc→Bool) (hl:l.length<9223372036854775807) (hf:∀ a∈l,Rn E J3 [.agg a.d,.ptr 0 0,.ptr 1 0] [some (.cells [.fn C8 []]),some (.cells [.c (.i64 c1_0)])] (.c (.bool (p a))) [some (.cells [.fn C8 []]),some (.cells [.c (.i64 c1_0)])]) :
    Rn E A6 [.c (.list (Ps l)),.fn J3 [.ptr 0 0,.ptr 1 0]] [some (.cells [.fn C8 []]),some (.cells [.c (.i64 c1_0)])] (.c (.i64 (ix p l))) [some (.cells [.fn C8 []]),some (.cells [.c (.i64 c1_0)])]:=by
 have hq:=z0z l
 have h:=J1 (l:=l) (fun _ a=>p a) (fun i=>K1 (Ps l) ((Ps l).length:Int) (i:Nat) c1_0) (fun j _ o s=>o=.ret∧s=z2u c1_0 (j:Int)) (y6v (by omega))
  (fun i a ha hb o s ih=>by
   have hi:=C1 ha;have hc:=hf a (List.mem_of_getElem? ha);rw [show p a=false from hb] at hc
   exact y8t (by omega) (by omega) (A5 (X5 ha)) hc (wi (by omega)) ih)
  (fun i a ha hb=>by
   have hi:=C1 ha;have hc:=hf a (List.mem_of_getElem? ha);rw [show p a=true from hb] at hc
   exact ⟨_,_,⟨rfl,rfl⟩,y6u (by omega) (by omega) (A5 (X5 ha)) hc⟩) l.length 0 (by omega)
 rcases h with ⟨h1,h2⟩ | ⟨j,a,o,s,h1,h2,h3,h4,⟨rfl,rfl⟩,h5⟩
 · rw [z8r fun j a hj h=>h1 j a hj h];exact z6p h2
 · rw [z8s h2 h3 fun j a hj hk h=>h4 j a hj hk h];exact z6o h5
theorem k3g {c1_0:Int} {l:List Hd} (p:Hd→Bool) (hl:l.length<9223372036854775807) (hf:∀ a∈l,Rn E M5 [.agg a.d,.ptr 0 0,.ptr 1 0] [some (.cells [.fn F1 []]),some (.cells [.c (.i64 c1_0)])] (.c (.bool (p a))) [some (.cells [.fn F1 []]),some (.cells [.c (.i64 c1_0)])]) :
    Rn E B1 [.c (.list (Hs l)),.fn M5 [.ptr 0 0,.ptr 1 0]] [some (.cells [.fn F1 []]),some (.cells [.c (.i64 c1_0)])] (.c (.i64 (ix p l))) [some (.cells [.fn F1 []]),some (.cells [.c (.i64 c1_0)])]:=by
 have hq:=Z7 l
 have h:=J1 (l:=l) (fun _ a=>p a) (fun i=>N0 (Hs l) ((Hs l).length:Int) (i:Nat) c1_0) (fun j _ o s=>o=.ret∧s=z3z c1_0 (j:Int)) (y8q (by omega))
  (fun i a ha hb o s ih=>by
   have hi:=C1 ha;have hc:=hf a (List.mem_of_getElem? ha);rw [show p a=false from hb] at hc
   exact x0w (by omega) (by omega) (A5 (z1m ha)) hc (wi (by omega)) ih)
  (fun i a ha hb=>by
   have hi:=C1 ha;have hc:=hf a (List.mem_of_getElem? ha);rw [show p a=true from hb] at hc
   exact ⟨_,_,⟨rfl,rfl⟩,y8p (by omega) (by omega) (A5 (z1m ha)) hc⟩) l.length 0 (by omega)
 rcases h with ⟨h1,h2⟩ | ⟨j,a,o,s,h1,h2,h3,h4,⟨rfl,rfl⟩,h5⟩
 · rw [z8r fun j a hj h=>h1 j a hj h];exact z9a h2
 · rw [z8s h2 h3 fun j a hj hk h=>h4 j a hj hk h];exact z8z h5
theorem v2k {c1_0:Int} {l:List Sw} {w0:RW} (hw:∀ (i:Nat) a,l[i]?=some a→w0[i]?=some (a.d)) (p:Sw→Bool) (hl:l.length<9223372036854775807) (hf:∀ a∈l,Rn E M4 [.agg a.d,.ptr 1 0] [some (.vec F7 w0),some (.cells [.c (.i64 c1_0)])] (.c (.bool (p a))) [some (.vec F7 w0),some (.cells [.c (.i64 c1_0)])]) :
    Rn E B9 [.vec 0 l.length,.fn M4 [.ptr 1 0]] [some (.vec F7 w0),some (.cells [.c (.i64 c1_0)])] (.c (.i64 (ix p l))) [some (.vec F7 w0),some (.cells [.c (.i64 c1_0)])]:=by
 have h:=J1 (l:=l) (fun _ a=>p a) (fun i=>N2 l.length ((l.length:Nat):Int) (i:Nat) w0 c1_0) (fun j _ o s=>o=.ret∧s=z4b w0 c1_0 (j:Int)) (y8x (by omega))
  (fun i a ha hb o s ih=>by
   have hi:=C1 ha;have hc:=hf a (List.mem_of_getElem? ha);rw [show p a=false from hb] at hc
   exact x1a (by omega) (⟨by omega,by omega⟩) (A5 (hw _ _ ha)) hc (wi (by omega)) ih)
  (fun i a ha hb=>by
   have hi:=C1 ha;have hc:=hf a (List.mem_of_getElem? ha);rw [show p a=true from hb] at hc
   exact ⟨_,_,⟨rfl,rfl⟩,y8w (by omega) (⟨by omega,by omega⟩) (A5 (hw _ _ ha)) hc⟩) l.length 0 (by omega)
 rcases h with ⟨h1,h2⟩ | ⟨j,a,o,s,h1,h2,h3,h4,⟨rfl,rfl⟩,h5⟩
 · rw [z8r fun j a hj h=>h1 j a hj h];exact y4e h2
 · rw [z8s h2 h3 fun j a hj hk h=>h4 j a hj hk h];exact y4d h5
theorem ix_ge {α:Type} {p:α→Bool} {l:List α}:-1≤ix p l:=by
 unfold ix
 split
 · omega
 · exact Int.le_refl _
theorem w1k {α:Type} {p:α→Bool} {l:List α} (h:¬ ix p l<0):∀ (j:Nat) a,j<(ix p l).toNat→l[j]?=some a→p a=false:=by
 unfold ix at h ⊢
 cases h2:l.findIdx? p with
 | none=>rw [h2] at h;exact absurd (by decide) h
 | some i =>
  obtain ⟨h3,h4,h5⟩:=List.findIdx?_eq_some_iff_getElem.1 h2
  intro j a hj ha
  have hj:j<i:=by simpa using hj
  have:=h5 j hj
  rw [(List.getElem?_eq_some_iff.1 ha).2] at this
  simpa using this
theorem w5a {α:Type} {f:α→List DV} {n:Nat} {w:RW} (h:∀ j,j<n→∃ a:α,w[j]?=some (f a)):n≤w.length:=by
 by_cases e:n=0
 · omega
 · obtain ⟨a,ha⟩:=h (n-1) (by omega)
   have:=(List.getElem?_eq_some_iff.1 ha).1
   omega
theorem u0n {α:Type} {f:α→List DV} {l:List α} {w:RW} (hw:∀ (i:Nat) a,l[i]?=some a→w[i]?=some (f a)):l.length≤w.length :=
 w5a fun j hj=>⟨l[j],hw j _ (List.getElem?_eq_getElem hj)⟩
theorem j7t {α:Type} (f:α→List DV) {l:List α} {w:RW} (hw:∀ (i:Nat) a,l[i]?=some a→w[i]?=some (f a)):w.take l.length=l.map f:=by
 apply List.ext_getElem?
 intro i
 rw [List.getElem?_take,List.getElem?_map]
 by_cases h:i<l.length
 · rw [if_pos h,List.getElem?_eq_getElem h,hw i _ (List.getElem?_eq_getElem h)];rfl
 · rw [if_neg h,List.getElem?_eq_none (by omega)];rfl
theorem q7l {c1_0:Int} {l:List Sw} {w0:RW} (hw:∀ (i:Nat) a,l[i]?=some a→w0[i]?=some (a.d)) (p:Sw→Bool) (hl:l.length<9223372036854775807)
    (hf:∀ a∈l,∀ objs:Objs,lk objs 1=some (.cells [.c (.i64 c1_0)])→Rn E M4 [.agg a.d,.ptr 1 0] objs (.c (.bool (p a))) objs) :
    ∃ w k,Rn E F9 [.vec 0 l.length,.fn M4 [.ptr 1 0]] [some (.vec F7 w0),some (.cells [.c (.i64 c1_0)])] (.vec 0 k) [some (.vec F7 w),some (.cells [.c (.i64 c1_0)])]∧w.take k=Ss (l.filter fun a=>!p a)∧k≤w.length:=by
 have h0:=v2k hw p hl fun a ha=>hf a ha _ rfl
 by_cases hx:ix p l=-1
 · rw [hx] at h0
   refine ⟨w0,l.length,y3m h0 rfl,?_,u0n hw⟩
   have hn:l.any p=false:=z5n.1 (by omega)
   rw [List.any_eq_false] at hn
   rw [List.filter_eq_self.2 fun a ha=>by simpa using hn a ha]
   exact j7t Sw.d hw
 · have hx0:¬ ix p l<0:=fun h=>by
    have:=ix_ge (p:=p) (l:=l)
    omega
   obtain ⟨a0,ha0,hp0⟩:=v7x hx0
   have hlt:=C1 ha0
   have hfst:=w1k hx0
   obtain ⟨n,hn⟩:∃ n:Nat,ix p l=(n:Int):=⟨(ix p l).toNat,by omega⟩
   rw [hn] at h0 hlt ha0 hfst hx
   rw [Int.toNat_natCast] at hlt ha0 hfst
   have hgo:=G5 (l:=l) (n:=2) (F:=F9) (k:=0) (fun (b:RW × Nat) a=>if p a then b else (b.1.set b.2 a.d,b.2+1))
    (fun i b=>b.2≤i∧(∀ j a,i≤j→l[j]?=some a→b.1[j]?=some a.d)∧(∀ j,j<l.length→∃ a:Sw,b.1[j]?=some a.d)∧b.1.take b.2=Ss ((l.take i).filter fun a=>!p a))
    (fun i b=>M8 l.length (b.2:Nat) (i:Nat) b.1 c1_0) (oe:=.exit 0) (fin:=fun b=>z3x l.length c1_0 (b.2:Nat) b.1)
    (fun b hb=>y8m (by omega))
    (fun i a b ha hb=>by
     have hi:=C1 ha
     obtain ⟨h1,h2,h3,h4⟩:=hb
     have hc:=hf a (List.mem_of_getElem? ha) [some (.vec F7 b.1),some (.cells [.c (.i64 c1_0)]),some (.cells (a.d.map .c))] rfl
     have ht:l.take (i+1)=l.take i++[a]:=by rw [List.take_add_one,ha];rfl
     cases hp:p a with
     | true =>
      rw [hp] at hc
      rw [if_pos rfl]
      refine ⟨⟨by omega,fun j a' hj hg=>h2 j a' (by omega) hg,h3,?_⟩,fun o s ih=>x0t (by omega) ⟨by omega,by omega⟩ (A5 (h2 i a (Nat.le_refl _) ha)) hc (wi (by omega)) ih⟩
      rw [h4,ht,List.filter_append];simp [hp]
     | false =>
      rw [hp] at hc
      rw [if_neg (by simp)]
      obtain ⟨a1,ha1⟩:=h3 b.2 (by omega)
      refine ⟨⟨Nat.succ_le_succ h1,fun j a' hj hg=>?_,fun j hj=>?_,?_⟩,fun o s ih=>x0u (by omega) ⟨by omega,by omega⟩ (A5 (h2 i a (Nat.le_refl _) ha)) hc ⟨by omega,by omega⟩ (A5 ha1) (by rw [Int.toNat_natCast];rfl) (wi (by omega)) (wi (by omega)) ih⟩
      · show (b.1.set b.2 a.d)[j]?=_
        rw [List.getElem?_set_ne (by omega)];exact h2 j a' (by omega) hg
      · by_cases e:j=b.2
        · subst e;exact ⟨a,List.getElem?_set_self (List.getElem?_eq_some_iff.1 ha1).1⟩
        · obtain ⟨a2,h⟩:=h3 j hj
          exact ⟨a2,(List.getElem?_set_ne (by omega)).trans h⟩
      · show (b.1.set b.2 a.d).take (b.2+1)=_
        rw [List.take_add_one,List.getElem?_set_self (List.getElem?_eq_some_iff.1 ha1).1,List.take_set_of_le (Nat.le_refl _),h4,ht,List.filter_append]
        simp [hp,Ss])
    (l.length-(n+1)) (n+1) (w0,n) (by omega) ⟨by simp,fun j a hj h=>hw j a h,fun j hj=>⟨l[j],hw j _ (List.getElem?_eq_getElem hj)⟩,?_⟩
   · obtain ⟨⟨h1,h2,h3,h4⟩,h5⟩:=hgo
     generalize hb:(List.foldl _ _ _:RW × Nat)=b at h1 h2 h3 h4 h5
     refine ⟨_,b.2,y3n h0 (by omega) h5 ⟨by omega,by omega,by omega⟩ ⟨by omega,by omega⟩ (wi (by omega)) rfl (Int.toNat_natCast _),?_,?_⟩
     rotate_left
     · rw [Int.toNat_natCast,List.append_assoc,List.length_append,List.length_take]
       have hlb:l.length≤b.1.length:=w5a h3
       omega
     rw [Int.toNat_natCast,List.append_assoc,List.take_append_of_le_length (by
      rw [List.length_take]
      obtain ⟨a,ha⟩:=h3 (b.2-1) (by omega)
      have:=(List.getElem?_eq_some_iff.1 ha).1
      omega),List.take_take,Nat.min_self,h4,List.take_length]
   · show w0.take n=_
     have ht:l.take (n+1)=l.take n++[a0]:=by rw [List.take_add_one,ha0];rfl
     rw [ht,List.filter_append,List.filter_eq_self.2 fun a ha=>by
      obtain ⟨j,hj⟩:=List.mem_iff_getElem?.1 ha
      rw [List.getElem?_take] at hj
      split at hj
      · rename_i hjn;rw [hfst j a hjn hj];rfl
      · cases hj]
     rw [show [a0].filter (fun a=>!p a)=[] by simp [hp0],List.append_nil]
     have:=j7t Sw.d (l:=l.take n) (w:=w0) (fun i a h=>by
      rw [List.getElem?_take] at h
      split at h
      · exact hw i a h
      · cases h)
     rwa [List.length_take,Nat.min_eq_left (by omega)] at this
theorem j0r {c1_0:BA} {l:List Ru} {w0:RW} (hw:∀ (i:Nat) a,l[i]?=some a→w0[i]?=some (a.d)) (p:Ru→Bool) (hl:l.length<9223372036854775807)
    (hf:∀ a∈l,∀ objs:Objs,lk objs 1=some (.cells [.c (.str c1_0)])→Rn E G0 [.agg a.d,.ptr 1 0] objs (.c (.bool (p a))) objs) :
    ∃ w k,Rn E F2 [.vec 0 l.length,.fn G0 [.ptr 1 0]] [some (.vec C7 w0),some (.cells [.c (.str c1_0)])] (.vec 0 k) [some (.vec C7 w),some (.cells [.c (.str c1_0)])]∧w.take k=Rs (l.filter fun a=>!p a)∧k≤w.length:=by
 have h0:=j3r hw p hl fun a ha=>hf a ha _ rfl
 by_cases hx:ix p l=-1
 · rw [hx] at h0
   refine ⟨w0,l.length,y0i h0 rfl,?_,u0n hw⟩
   have hn:l.any p=false:=z5n.1 (by omega)
   rw [List.any_eq_false] at hn
   rw [List.filter_eq_self.2 fun a ha=>by simpa using hn a ha]
   exact j7t Ru.d hw
 · have hx0:¬ ix p l<0:=fun h=>by
    have:=ix_ge (p:=p) (l:=l)
    omega
   obtain ⟨a0,ha0,hp0⟩:=v7x hx0
   have hlt:=C1 ha0
   have hfst:=w1k hx0
   obtain ⟨n,hn⟩:∃ n:Nat,ix p l=(n:Int):=⟨(ix p l).toNat,by omega⟩
   rw [hn] at h0 hlt ha0 hfst hx
   rw [Int.toNat_natCast] at hlt ha0 hfst
   have hgo:=G5 (l:=l) (n:=2) (F:=F2) (k:=0) (fun (b:RW × Nat) a=>if p a then b else (b.1.set b.2 a.d,b.2+1))
    (fun i b=>b.2≤i∧(∀ j a,i≤j→l[j]?=some a→b.1[j]?=some a.d)∧(∀ j,j<l.length→∃ a:Ru,b.1[j]?=some a.d)∧b.1.take b.2=Rs ((l.take i).filter fun a=>!p a))
    (fun i b=>M7 l.length (b.2:Nat) (i:Nat) b.1 c1_0) (oe:=.exit 0) (fin:=fun b=>z3w l.length c1_0 (b.2:Nat) b.1)
    (fun b hb=>y8l (by omega))
    (fun i a b ha hb=>by
     have hi:=C1 ha
     obtain ⟨h1,h2,h3,h4⟩:=hb
     have hc:=hf a (List.mem_of_getElem? ha) [some (.vec C7 b.1),some (.cells [.c (.str c1_0)]),some (.cells (a.d.map .c))] rfl
     have ht:l.take (i+1)=l.take i++[a]:=by rw [List.take_add_one,ha];rfl
     cases hp:p a with
     | true =>
      rw [hp] at hc
      rw [if_pos rfl]
      refine ⟨⟨by omega,fun j a' hj hg=>h2 j a' (by omega) hg,h3,?_⟩,fun o s ih=>x0r (by omega) ⟨by omega,by omega⟩ (A5 (h2 i a (Nat.le_refl _) ha)) hc (wi (by omega)) ih⟩
      rw [h4,ht,List.filter_append];simp [hp]
     | false =>
      rw [hp] at hc
      rw [if_neg (by simp)]
      obtain ⟨a1,ha1⟩:=h3 b.2 (by omega)
      refine ⟨⟨Nat.succ_le_succ h1,fun j a' hj hg=>?_,fun j hj=>?_,?_⟩,fun o s ih=>x0s (by omega) ⟨by omega,by omega⟩ (A5 (h2 i a (Nat.le_refl _) ha)) hc ⟨by omega,by omega⟩ (A5 ha1) (by rw [Int.toNat_natCast];rfl) (wi (by omega)) (wi (by omega)) ih⟩
      · show (b.1.set b.2 a.d)[j]?=_
        rw [List.getElem?_set_ne (by omega)];exact h2 j a' (by omega) hg
      · by_cases e:j=b.2
        · subst e;exact ⟨a,List.getElem?_set_self (List.getElem?_eq_some_iff.1 ha1).1⟩
        · obtain ⟨a2,h⟩:=h3 j hj
          exact ⟨a2,(List.getElem?_set_ne (by omega)).trans h⟩
      · show (b.1.set b.2 a.d).take (b.2+1)=_
        rw [List.take_add_one,List.getElem?_set_self (List.getElem?_eq_some_iff.1 ha1).1,List.take_set_of_le (Nat.le_refl _),h4,ht,List.filter_append]
        simp [hp,Rs])
    (l.length-(n+1)) (n+1) (w0,n) (by omega) ⟨by simp,fun j a hj h=>hw j a h,fun j hj=>⟨l[j],hw j _ (List.getElem?_eq_getElem hj)⟩,?_⟩
   · obtain ⟨⟨h1,h2,h3,h4⟩,h5⟩:=hgo
     generalize hb:(List.foldl _ _ _:RW × Nat)=b at h1 h2 h3 h4 h5
     refine ⟨_,b.2,y0j h0 (by omega) h5 ⟨by omega,by omega,by omega⟩ ⟨by omega,by omega⟩ (wi (by omega)) rfl (Int.toNat_natCast _),?_,?_⟩
     rotate_left
     · rw [Int.toNat_natCast,List.append_assoc,List.length_append,List.length_take]
       have hlb:l.length≤b.1.length:=w5a h3
       omega
     rw [Int.toNat_natCast,List.append_assoc,List.take_append_of_le_length (by
      rw [List.length_take]
      obtain ⟨a,ha⟩:=h3 (b.2-1) (by omega)
      have:=(List.getElem?_eq_some_iff.1 ha).1
      omega),List.take_take,Nat.min_self,h4,List.take_length]
   · show w0.take n=_
     have ht:l.take (n+1)=l.take n++[a0]:=by rw [List.take_add_one,ha0];rfl
     rw [ht,List.filter_append,List.filter_eq_self.2 fun a ha=>by
      obtain ⟨j,hj⟩:=List.mem_iff_getElem?.1 ha
      rw [List.getElem?_take] at hj
      split at hj
      · rename_i hjn;rw [hfst j a hjn hj];rfl
      · cases hj]
     rw [show [a0].filter (fun a=>!p a)=[] by simp [hp0],List.append_nil]
     have:=j7t Ru.d (l:=l.take n) (w:=w0) (fun i a h=>by
      rw [List.getElem?_take] at h
      split at h
      · exact hw i a h
      · cases h)
     rwa [List.length_take,Nat.min_eq_left (by omega)] at this
end Gev
namespace Gev
open Go
variable {P:Program} {D:Tab} {B0:Nat} {Gd:World→Prop}
def inBs (n:Nat) (sm:Objs):Bool:=sm.all fun o=>match o with | some o=>o.inB n | none=>true
theorem q5z {n:Nat} {sm:Objs} (h:inBs n sm=true) (i:Nat) (o:Ob) (hi:lk sm i=some o):o.inB n=true:=by
 have hil:=z5l hi
 have e:sm[i]?=some (some o):=by
  unfold lk at hi
  rw [List.getD_eq_getElem?_getD,List.getElem?_eq_getElem hil] at hi
  rw [List.getElem?_eq_getElem hil];exact congrArg some hi
 unfold inBs at h
 rw [List.all_eq_true] at h
 exact h _ (List.mem_of_getElem? e)
theorem RunOk.put {f:Nat} {args:List AV} {sm sm':Objs} {r:AV} (h:RunOk P D B0 Gd f args sm r sm') (ls:List Nat) (hn:ls.Nodup) (hlen:ls.length=sm.length) (hlen':sm'.length=sm.length) {big big':Objs}
    (hs:∀ i,i<sm.length→lk big (ls.getD i 0)=(lk sm i).map (Ob.ren fun i=>ls.getD i 0)) (hs':∀ i,i<sm.length→lk big' (ls.getD i 0)=(lk sm' i).map (Ob.ren fun i=>ls.getD i 0)) (hrest:∀ l,(∀ i,i<sm.length→ls.getD i 0≠l)→lk big' l=lk big l)
    (hp:inBs sm.length sm=true) (hp':inBs sm.length sm'=true) (ha:args.all (AV.inB sm.length)=true) (hr:r.inB sm.length=true) :
    RunOk P D B0 Gd f (args.map (AV.ren fun i=>ls.getD i 0)) big (r.ren fun i=>ls.getD i 0) big':=by
 refine h.frameG (fun i=>ls.getD i 0) big big' (fun i j hi hj e=>?_) (Nat.le_of_eq hlen'.symm) hs (fun i h1 h2=>by omega) (by rw [hlen'];exact hs') (by rw [hlen'];exact hrest) (q5z hp) (by rw [hlen'];exact q5z hp') (fun a hx=>by simp only [List.all_eq_true] at ha;exact ha a hx) (by rw [hlen'];exact hr)
 have e2:ls.getD i 0=ls.getD j 0:=e
 simp only [List.getD_eq_getElem?_getD] at e2
 rw [List.getElem?_eq_getElem (by omega),List.getElem?_eq_getElem (by omega)] at e2
 have e':ls[i]?=ls[j]?:=by
  rw [List.getElem?_eq_getElem (by omega),List.getElem?_eq_getElem (by omega)]
  exact congrArg some e2
 exact (List.getElem?_inj (by omega) hn).1 e'
theorem RunOk.putN {f:Nat} {args:List AV} {sm sm':Objs} {r:AV} (h:RunOk P D B0 Gd f args sm r sm') (ls:List Nat) (hn:ls.Nodup) (hlen:ls.length=sm'.length) (hle:sm.length≤sm'.length) {big big':Objs}
    (hs:∀ i,i<sm.length→lk big (ls.getD i 0)=(lk sm i).map (Ob.ren fun i=>ls.getD i 0)) (hnew:∀ i,sm.length≤i→i<sm'.length→lk big (ls.getD i 0)=none)
    (hs':∀ i,i<sm'.length→lk big' (ls.getD i 0)=(lk sm' i).map (Ob.ren fun i=>ls.getD i 0)) (hrest:∀ l,(∀ i,i<sm'.length→ls.getD i 0≠l)→lk big' l=lk big l)
    (hp:inBs sm.length sm=true) (hp':inBs sm'.length sm'=true) (ha:args.all (AV.inB sm.length)=true) (hr:r.inB sm'.length=true) :
    RunOk P D B0 Gd f (args.map (AV.ren fun i=>ls.getD i 0)) big (r.ren fun i=>ls.getD i 0) big':=by
 refine h.frameG (fun i=>ls.getD i 0) big big' (fun i j hi hj e=>?_) hle hs hnew hs' hrest (q5z hp) (q5z hp') (fun a hx=>by simp only [List.all_eq_true] at ha;exact ha a hx) hr
 have e2:ls.getD i 0=ls.getD j 0:=e
 simp only [List.getD_eq_getElem?_getD] at e2
 rw [List.getElem?_eq_getElem (by omega),List.getElem?_eq_getElem (by omega)] at e2
 have e':ls[i]?=ls[j]?:=by
  rw [List.getElem?_eq_getElem (by omega),List.getElem?_eq_getElem (by omega)]
  exact congrArg some e2
 exact (List.getElem?_inj (by omega) hn).1 e'
theorem RunOk.swap {f:Nat} {args:List AV} {a b a' b':Ob} {r:AV} (h:RunOk P D B0 Gd f args [some a,some b] r [some a',some b']) (hp:inBs 2 [some a,some b]=true) (hp':inBs 2 [some a',some b']=true) (ha:args.all (AV.inB 2)=true) (hr:r.inB 2=true) :
    RunOk P D B0 Gd f (args.map (AV.ren fun i=>[1,0].getD i 0)) [some (b.ren fun i=>[1,0].getD i 0),some (a.ren fun i=>[1,0].getD i 0)] (r.ren fun i=>[1,0].getD i 0) [some (b'.ren fun i=>[1,0].getD i 0),some (a'.ren fun i=>[1,0].getD i 0)] :=
 h.put [1,0] (by decide) rfl rfl (by intro i hi;match i,hi with | 0,_=>rfl | 1,_=>rfl) (by intro i hi;match i,hi with | 0,_=>rfl | 1,_=>rfl) (by
  intro l hl
  match l with
  | 0=>exact absurd rfl (hl 1 (by simp))
  | 1=>exact absurd rfl (hl 0 (by simp))
  | l+2=>rfl) hp hp' ha hr
end Gev
namespace Gev
open Go Gb
variable {E:Env}
attribute [local irreducible] Sz
structure Cs (E:Env):Prop where
 sw:∀ l:List Sw,l.length≤1000→Rn E z6u [.c (.list (Ss l))] [] (.vec 0 l.length) [some (.vec F7 (Ss l))]
 pc:∀ l:List Pc,l.length≤1000→Rn E z5f [.c (.list (Ps l))] [] (.vec 0 l.length) [some (.vec x7m (Ps l))]
 hd:∀ l:List Hd,l.length≤1000→Rn E z6s [.c (.list (Hs l))] [] (.vec 0 l.length) [some (.vec j0d (Hs l))]
 ru:∀ l:List Ru,l.length≤1000→Rn E z6t [.c (.list (Rs l))] [] (.vec 0 l.length) [some (.vec C7 (Rs l))]
 ra:∀ l:List (List UInt8),l.length≤1000→Rn E z8l [.c (.list (R1 l))] [] (.vec 0 l.length) [some (.vec A0 (R1 l))]
noncomputable def rdv (p:List UInt8):Rat:=(rd p).getD 0
theorem w1s {l:List UInt8} (h:ok1 l=true):∃ q,l=decQ q:=by
 obtain ⟨x,hx⟩:=Option.isSome_iff_exists.1 h
 exact ⟨x,q6g hx⟩
theorem v8p (q:Rat):rdv (decQ q)=q:=by unfold rdv;rw [j4n];rfl
theorem k5m {l:List UInt8} (h:ok1 l=true):decQ (rdv l)=l:=by
 obtain ⟨q,rfl⟩:=w1s h
 rw [v8p]
theorem z3d {x:List UInt8} {K:Nat} (h:ok1 x=true) (k:x.length≤K):Sz (rdv x) K:=by
 obtain ⟨u,rfl⟩:=w1s h
 rw [v8p]
 exact Sz.of_len k
theorem y1l {x:List UInt8} (h:ok1 x=true):Sq (rdv x)=.c (.str (B x)):=by unfold Sq;rw [k5m h]
theorem x2k:200000≤Lim:=by rw [Y7];omega
theorem y3t (hlib:Lib E) {x:List UInt8} (h:ok1 x=true) (k:x.length≤40):Fn E z0u [.c (.str (B x))] (.c (.i64 (cmpQ (rdv x) 0))):=by
 have:=v1x hlib (z3d h k) (by have:=x2k;omega)
 rwa [y1l h] at this
theorem k2k (hlib:Lib E) {l:List (List UInt8)} (hl:l.length<1000) (hb:∀ x∈l,x.length≤Lim):Fn E z4c [.c (.list (R1 l))] (.c (.bool (l.all ok1))):=by
 have:=v1z (j8d (fun x=>!ok1 x) (by omega) fun x hx=>q2s (y6g hlib (hb x hx)))
 rwa [show (!l.any fun x=>!ok1 x)=l.all ok1 from by rw [List.all_eq_not_any_not]] at this
theorem x8z {ps:List Pc} {hs:RW} {id:Int} (hl:ps.length<9223372036854775807):Fn E y5p [.agg [.list (Ps ps),.list hs],.c (.i64 id)] (.c (.i64 (ix (fun p=>p.id == id) ps))):=by
 have h:=x7v (E:=E) (l:=ps) (c1_0:=id) (fun p=>p.id == id) hl fun a _=>by
  by_cases e:a.id=id
  · rw [show (a.id == id)=true by simp [e]];exact x9s x5p e
  · rw [show (a.id == id)=false by simp [e]];exact x9t x5p e
 exact q6x (y3s (h.swap rfl rfl rfl rfl))
theorem x4u {hs:List Hd} {ps:RW} {id:Int} (hl:hs.length<9223372036854775807):Fn E y2i [.agg [.list ps,.list (Hs hs)],.c (.i64 id)] (.c (.i64 (ix (fun p=>p.id == id) hs))):=by
 have h:=k3g (E:=E) (l:=hs) (c1_0:=id) (fun p=>p.id == id) hl fun a _=>by
  by_cases e:a.id=id
  · rw [show (a.id == id)=true by simp [e]];exact k6y k2i e
  · rw [show (a.id == id)=false by simp [e]];exact k6z k2i e
 exact v7c (y7c (h.swap rfl rfl rfl rfl))
def inH (l:List Sw) (h:Int):List Sw:=l.filter fun a=>a.ho == h
theorem q1v (hc:Cs E) {l:List Sw} {h:Int} (hl:l.length≤1000):Fn E x7k [.c (.list (Ss l)),.c (.i64 h)] (.c (.list (Ss (inH l h)))):=by
 obtain ⟨w,k,h1,h2,_⟩:=q7l (E:=E) (c1_0:=h) (l:=l) (w0:=Ss l) (fun i a ha=>z8n ha) (fun a=>!(a.ho == h)) (by omega) fun a _ objs ho=>by
  by_cases e:a.ho=h
  · rw [show (!(a.ho == h))=false by simp [e]]
    exact (v7e (E:=E) (i1:=a.pa) (i2:=a.un) e).sub [1] (by decide) rfl (by intro i hi;match i,hi with | 0,_=>exact ho) (by simp [Ob.plain]) rfl rfl
  · rw [show (!(a.ho == h))=true by simp [e]]
    exact (v7d (E:=E) (i1:=a.pa) (i2:=a.un) e).sub [1] (by decide) rfl (by intro i hi;match i,hi with | 0,_=>exact ho) (by simp [Ob.plain]) rfl rfl
 exact w4n (hc.sw l hl) (h1.swap rfl rfl rfl rfl) (by rw [h2];unfold inH;simp only [Bool.not_not])
def unS (l:List Sw) (id:Int):Int:=(l.map fun a=>if a.pa=id then a.un else 0).sum
theorem q6y {l:List Sw} {id:Int} (hl:l.length≤1000) (hu:∀ a∈l,-9≤a.un∧a.un≤1000000000):Fn E U5 [.c (.list (Ss l)),.c (.i64 id)] (.c (.i64 (unS l id))):=by
 have hq:=k1t l
 have h:=G5 (E:=E) (l:=l) (n:=0) (F:=U5) (k:=0) (fun (b:Int) a=>b+if a.pa=id then a.un else 0) (fun i b=>-9*i≤b∧b≤1000000000*i)
  (fun i b=>z4r id b (Ss l) ((Ss l).length:Int) (i:Nat)) (oe:=.exit 0) (fin:=fun b=>y7r b) (fun b hb=>k7b (by omega))
  (fun i a b ha hb=>by
   have hi:=C1 ha
   have hu:=hu a (List.mem_of_getElem? ha)
   by_cases e:a.pa=id
   · rw [if_pos e]
     exact ⟨by omega,fun o s ih=>j3e (by omega) (by omega) (A5 (z8n ha)) e (wi (by omega)) (wi (by omega)) ih⟩
   · rw [if_neg e]
     exact ⟨by omega,fun o s ih=>by
      rw [Int.add_zero] at ih
      exact j3f (by omega) (by omega) (A5 (z8n ha)) e (wi (by omega)) ih⟩)
  l.length 0 0 (by omega) ⟨by omega,by omega⟩
 have e:∀ (l:List Sw) b,l.foldl (fun (b:Int) a=>b+if a.pa=id then a.un else 0) b=b+unS l id:=by
  intro l
  induction l with
  | nil=>intro b;show b=b+0;omega
  | cons a l ih=>intro b;rw [List.foldl_cons,ih];unfold unS;rw [List.map_cons,List.sum_cons];omega
 rw [List.drop_zero,e,Int.zero_add] at h
 exact v1y h.2
def ordS (a b:Sw):Int:=if cmpI a.ho b.ho=0 then cmpI a.pa b.pa else cmpI a.ho b.ho
theorem u3n {x y:Int}:Fn E z1w [.c (.list [[.i64 x],[.i64 y]])] (.c (.i64 (if x=0 then y else x))):=by
 have h0:(0:Int)<(([[.i64 x],[.i64 y]]:RW).length:Int):=by simp
 have h1:(1:Int)<(([[.i64 x],[.i64 y]]:RW).length:Int):=by simp
 have h2:¬ (2:Int)<(([[.i64 x],[.i64 y]]:RW).length:Int):=by simp
 by_cases hx:x=0
 · rw [if_pos hx]
   by_cases hy:y=0
   · rw [hy] at h0 h1 h2 ⊢
     exact v7i (y7s (wi (m:=1) (by omega)) h0 (by decide) rfl hx (y7s (wi (m:=2) (by omega)) h1 (by decide) rfl rfl (j0j h2)))
   · exact j3k (y7s (wi (m:=1) (by omega)) h0 (by decide) rfl hx (x2n h1 (by decide) rfl hy))
 · rw [if_neg hx]
   exact j3k (x2n h0 (by decide) rfl hx)
theorem q6w (a b:Sw):Fn E y9a [.agg a.d,.agg b.d] (.c (.i64 (ordS a b))):=v1w (v7j _ _) (v7j _ _) u3n rfl
def fE {α:Type} (f:Nat→α→Int):Nat→List α→Int
 | _,[]=>0
 | i,a::l=>if f i a=0 then fE f (i+1) l else f i a
theorem x5s {α:Type} {n F k:Nat} {l:List α} (f:Nat→α→Int) (st:Nat→St) {oe:Out} {fin:St} {G:Int→St} (hend:Lp E n F k (st l.length) oe fin)
    (hstep:∀ i a,l[i]?=some a→(f i a=0→∀ o s,Lp E n F k (st (i+1)) o s→Lp E n F k (st i) o s)∧(f i a≠0→Lp E n F k (st i) .ret (G (f i a)))):∀ d i:Nat,i+d=l.length →
    (fE f i (l.drop i)=0∧Lp E n F k (st i) oe fin)∨(fE f i (l.drop i)≠0∧Lp E n F k (st i) .ret (G (fE f i (l.drop i))))
 | 0,i,hi=>by
  have e:i=l.length:=by omega
  rw [e,List.drop_length];exact .inl ⟨rfl,hend⟩
 | d+1,i,hi=>by
  obtain ⟨a,ha⟩:=z0o (l:=l) (i:=i) (by omega)
  rw [k3h ha]
  show (fE f i (a::l.drop (i+1))=0∧_)∨_
  unfold fE
  by_cases h0:f i a=0
  · rw [if_pos h0]
    rcases x5s f st hend hstep d (i+1) (by omega) with ⟨h1,h2⟩ | ⟨h1,h2⟩
    · exact .inl ⟨h1,(hstep i a ha).1 h0 _ _ h2⟩
    · exact .inr ⟨h1,(hstep i a ha).1 h0 _ _ h2⟩
  · rw [if_neg h0];exact .inr ⟨h0,(hstep i a ha).2 h0⟩
theorem k5q {α:Type} {f:Nat→α→Int}:∀ {l:List α} {i:Nat},fE f i l=0→∀ (j:Nat) a,l[j]?=some a→f (i+j) a=0
 | [],i,_,j,a,h=>by simp at h
 | b::l,i,h0,j,a,h=>by
  unfold fE at h0
  split at h0
  · rename_i h1
    match j,h with
    | 0,h=>cases h;exact h1
    | j+1,h=>have:=k5q h0 j a h;rwa [Nat.add_right_comm] at this
  · rename_i h1;exact absurd h0 h1
noncomputable def okP (p:Pc):Bool:=[p.ma,p.vo,p.wo].all ok1
noncomputable def okH (h:Hd):Bool:=[h.ro,h.mo,h.x,h.y,h.z].all ok1
def ShP (p:Pc):Prop:=p.ma.length≤40∧p.vo.length≤40∧p.wo.length≤40
def ShH (h:Hd):Prop:=h.ro.length≤40∧h.mo.length≤40∧h.x.length≤40∧h.y.length≤40∧h.z.length≤40
structure Sh (ps:List Pc) (hs:List Hd):Prop where
 np:ps.length≤7
 nh:hs.length≤7
 p:∀ p∈ps,ShP p
 h:∀ h∈hs,ShH h
noncomputable def fP (l:List Pc) (i:Nat) (p:Pc):Int :=
 if 1≤p.id∧p.id≤1073741824 then (if 1≤p.un∧p.un≤9 then (if 1≤p.cl∧p.cl≤9 then (if cmpQ (rdv p.ma) 0≤0 then 2 else if cmpQ (rdv p.vo) 0≤0 then 2 else if cmpQ (rdv p.wo) 0<0 then 2 else
  if nmB p.nm=true then (if 0<i then (if ((l[i-1]?).map Pc.id).getD 0≥p.id then 5 else 0) else 0) else 4) else 2) else 2) else 2
noncomputable def fH (l:List Hd) (i:Nat) (p:Hd):Int :=
 if 1≤p.id∧p.id≤1073741824 then (if cmpQ (rdv p.ro) 0<0 then 2 else if cmpQ (rdv p.mo) 0<0 then 2 else
  if nmB p.nm=true then (if 0<i then (if ((l[i-1]?).map Hd.id).getD 0≥p.id then 5 else 0) else 0) else 4) else 2
noncomputable def chkC (ps:List Pc) (hs:List Hd):Int :=
 if ps.all okP=true∧hs.all okH=true then (if ps.length>6∨hs.length>6 then 8 else if fE (fP ps) 0 ps=0 then fE (fH hs) 0 hs else fE (fP ps) 0 ps) else 1
theorem j7y {a b:Int} (h:1≤a∧a≤b):Fn E N7 [.c (.i64 a),.c (.i64 b)] (.c (.bool true)):=by have:=x9a (E:=E) (a:=a) (b:=b);rwa [decide_eq_true h] at this
theorem j7x {a b:Int} (h:¬ (1≤a∧a≤b)):Fn E N7 [.c (.i64 a),.c (.i64 b)] (.c (.bool false)):=by have:=x9a (E:=E) (a:=a) (b:=b);rwa [decide_eq_false h] at this
theorem q6c {s:List UInt8} {b:Bool} (h:nmB s=b):Fn E Z5 [.c (.str (B s))] (.c (.bool b)):=h ▸ q6u
theorem chk_L0 (hlib:Lib E) {ps:List Pc} {hs:RW} (hp:∀ p∈ps,ShP p) (hl:ps.length<1000) :
    (ps.all okP=true∧Lp E 1 B2 0 (z1a (Ps ps) ((Ps ps).length:Int) 0 (Ps ps) hs) (.exit 0) (y7l (Ps ps) hs)) ∨
    (¬ ps.all okP=true∧Lp E 1 B2 0 (z1a (Ps ps) ((Ps ps).length:Int) 0 (Ps ps) hs) .ret (y2n (Ps ps) hs)):=by
 have hq:=z0z ps
 have hv:∀ p∈ps,Fn E z4c [.c (.list ([[.str (B p.ma)],[.str (B p.vo)],[.str (B p.wo)]]:RW))] (.c (.bool (okP p))):=fun p h=>by
  have hs:=hp p h
  have:=x2k
  exact k2k hlib (l:=[p.ma,p.vo,p.wo]) (by simp) (by simp;unfold ShP at hs;omega)
 have h:=J1 (E:=E) (l:=ps) (fun _ a=>!okP a) (fun i=>z1a (Ps ps) ((Ps ps).length:Int) (i:Nat) (Ps ps) hs) (fun _ _ o s=>o=.ret∧s=y2n (Ps ps) hs) (k6f (by omega))
  (fun i a ha hb o s ih=>by
   have hi:=C1 ha;have hc:=hv a (List.mem_of_getElem? ha);have e:okP a=true:=by simpa using hb
   rw [e] at hc
   exact j2x (by omega) (by omega) (A5 (X5 ha)) hc rfl (wi (by omega)) ih)
  (fun i a ha hb=>by
   have hi:=C1 ha;have hc:=hv a (List.mem_of_getElem? ha);have e:okP a=false:=by simpa using hb
   rw [e] at hc
   exact ⟨_,_,⟨rfl,rfl⟩,k6e (by omega) (by omega) (A5 (X5 ha)) hc rfl⟩) ps.length 0 (by omega)
 rcases h with ⟨h1,h2⟩ | ⟨j,a,o,s,h1,h2,h3,h4,⟨rfl,rfl⟩,h5⟩
 · exact .inl ⟨List.all_eq_true.2 (fun a ha=>(List.mem_iff_getElem?.1 ha).elim fun j hj=>by simpa using h1 j a (Nat.zero_le _) hj),h2⟩
 · exact .inr ⟨fun h=>by { rw [List.all_eq_true.1 h a (List.mem_of_getElem? h2)] at h3;cases h3 },h5⟩
theorem chk_L1 (hlib:Lib E) {hs:List Hd} {ps:RW} (hp:∀ p∈hs,ShH p) (hl:hs.length<1000) :
    (hs.all okH=true∧Lp E 1 B2 1 (z1b (Hs hs) ((Hs hs).length:Int) 0 ps (Hs hs)) (.exit 2) (y7m ps (Hs hs))) ∨
    (¬ hs.all okH=true∧Lp E 1 B2 1 (z1b (Hs hs) ((Hs hs).length:Int) 0 ps (Hs hs)) .ret (y2o ps (Hs hs))):=by
 have hq:=Z7 hs
 have hv:∀ p∈hs,Fn E z4c [.c (.list ([[.str (B p.ro)],[.str (B p.mo)],[.str (B p.x)],[.str (B p.y)],[.str (B p.z)]]:RW))] (.c (.bool (okH p))):=fun p h=>by
  have hs:=hp p h
  have:=x2k
  exact k2k hlib (l:=[p.ro,p.mo,p.x,p.y,p.z]) (by simp) (by simp;unfold ShH at hs;omega)
 have h:=J1 (E:=E) (l:=hs) (fun _ a=>!okH a) (fun i=>z1b (Hs hs) ((Hs hs).length:Int) (i:Nat) ps (Hs hs)) (fun _ _ o s=>o=.ret∧s=y2o ps (Hs hs)) (k6h (by omega))
  (fun i a ha hb o s ih=>by
   have hi:=C1 ha;have hc:=hv a (List.mem_of_getElem? ha);have e:okH a=true:=by simpa using hb
   rw [e] at hc
   exact j2y (by omega) (by omega) (A5 (z1m ha)) hc rfl (wi (by omega)) ih)
  (fun i a ha hb=>by
   have hi:=C1 ha;have hc:=hv a (List.mem_of_getElem? ha);have e:okH a=false:=by simpa using hb
   rw [e] at hc
   exact ⟨_,_,⟨rfl,rfl⟩,k6g (by omega) (by omega) (A5 (z1m ha)) hc rfl⟩) hs.length 0 (by omega)
 rcases h with ⟨h1,h2⟩ | ⟨j,a,o,s,h1,h2,h3,h4,⟨rfl,rfl⟩,h5⟩
 · exact .inl ⟨List.all_eq_true.2 (fun a ha=>(List.mem_iff_getElem?.1 ha).elim fun j hj=>by simpa using h1 j a (Nat.zero_le _) hj),h2⟩
 · exact .inr ⟨fun h=>by { rw [List.all_eq_true.1 h a (List.mem_of_getElem? h2)] at h3;cases h3 },h5⟩
theorem outp {P Q:Prop} {v:Int} (hv:v≠0) (h:Q):(v=0→P)∧(v≠0→Q):=⟨fun e=>absurd e hv,fun _=>h⟩
theorem inp {P Q:Prop} (h:P):((0:Int)=0→P)∧((0:Int)≠0→Q):=⟨fun _=>h,fun e=>absurd rfl e⟩
theorem chk_L2 (hlib:Lib E) {ps:List Pc} {hs:RW} (hp:∀ p∈ps,ShP p) (ho:ps.all okP=true) (hl:ps.length<1000) :
    (fE (fP ps) 0 ps=0∧Lp E 1 B2 2 (I4 (Ps ps) ((Ps ps).length:Int) 0 (Ps ps) hs) (.exit 4) (y7n (Ps ps) hs)) ∨
    (fE (fP ps) 0 ps≠0∧Lp E 1 B2 2 (I4 (Ps ps) ((Ps ps).length:Int) 0 (Ps ps) hs) .ret (P9 (Ps ps) hs (fE (fP ps) 0 ps))):=by
 have hq:=z0z ps
 refine x5s (E:=E) (l:=ps) (fP ps) (fun i=>I4 (Ps ps) ((Ps ps).length:Int) (i:Nat) (Ps ps) hs) (G:=fun v=>P9 (Ps ps) hs v) (k6q (by omega)) (fun i a ha=>?_) ps.length 0 (by omega)
 have hi:=C1 ha
 have hm:=List.mem_of_getElem? ha
 have hs1:=hp a hm
 have ho:=List.all_eq_true.1 ho a hm
 unfold okP at ho
 simp only [List.all_cons,List.all_nil,Bool.and_true,Bool.and_eq_true] at ho
 have s1:=y3t hlib ho.1 hs1.1
 have s2:=y3t hlib ho.2.1 hs1.2.1
 have s3:=y3t hlib ho.2.2 hs1.2.2
 have g:=A5 (X5 ha)
 have b1:(i:Int)<((Ps ps).length:Int):=by omega
 have b2:(0:Int)≤(i:Int):=by omega
 unfold fP
 by_cases c1:1≤a.id∧a.id≤1073741824
 rotate_left
 · rw [if_neg c1];exact outp (by decide) (k6p b1 b2 g (j7x c1))
 have w1:=j7y (E:=E) c1
 rw [if_pos c1]
 by_cases c2:1≤a.un∧a.un≤9
 rotate_left
 · rw [if_neg c2];exact outp (by decide) (k6o b1 b2 g w1 (j7x c2))
 have w2:=j7y (E:=E) c2
 rw [if_pos c2]
 by_cases c3:1≤a.cl∧a.cl≤9
 rotate_left
 · rw [if_neg c3];exact outp (by decide) (k6n b1 b2 g w1 w2 (j7x c3))
 have w3:=j7y (E:=E) c3
 rw [if_pos c3]
 by_cases c4:cmpQ (rdv a.ma) 0≤0
 · rw [if_pos c4];exact outp (by decide) (k6i b1 b2 g w1 w2 w3 s1 c4)
 rw [if_neg c4]
 by_cases c5:cmpQ (rdv a.vo) 0≤0
 · rw [if_pos c5];exact outp (by decide) (k6j b1 b2 g w1 w2 w3 s1 c4 s2 c5)
 rw [if_neg c5]
 by_cases c6:cmpQ (rdv a.wo) 0<0
 · rw [if_pos c6];exact outp (by decide) (k6k b1 b2 g w1 w2 w3 s1 c4 s2 c5 s3 c6)
 rw [if_neg c6]
 cases c7:nmB a.nm with
 | false=>rw [if_neg (by simp)];exact outp (by decide) (k6m b1 b2 g w1 w2 w3 s1 c4 s2 c5 s3 c6 (q6c c7))
 | true =>
  rw [if_pos rfl]
  have w7:=q6c (E:=E) c7
  by_cases c8:0<i
  · rw [if_pos c8]
    obtain ⟨q,hq'⟩:=z0o (l:=ps) (i:=i-1) (by omega)
    rw [hq']
    show (((if q.id≥a.id then (5:Int) else 0)=0)→_)∧_
    by_cases c9:q.id≥a.id
    · rw [show ((if ((some q).map Pc.id).getD 0≥a.id then (5:Int) else 0))=5 from if_pos c9,if_pos c9];exact outp (by decide) (k6l b1 b2 g w1 w2 w3 s1 c4 s2 c5 s3 c6 w7 (by omega) (by omega) (A5 (X5 hq')) c9 (wi (by omega)))
    · rw [show ((if ((some q).map Pc.id).getD 0≥a.id then (5:Int) else 0))=0 from if_neg c9,if_neg c9];exact inp fun o s ih=>j2z b1 b2 g w1 w2 w3 s1 c4 s2 c5 s3 c6 w7 (by omega) (by omega) (A5 (X5 hq')) c9 (wi (by omega)) (wi (by omega)) ih
  · rw [if_neg c8]
    exact inp fun o s ih=>j3a b1 b2 g w1 w2 w3 s1 c4 s2 c5 s3 c6 w7 (by omega) (wi (by omega)) ih
theorem chk_L3 (hlib:Lib E) {hs:List Hd} {ps:RW} (hp:∀ p∈hs,ShH p) (ho:hs.all okH=true) (hl:hs.length<1000) :
    (fE (fH hs) 0 hs=0∧Lp E 1 B2 3 (M1 (Hs hs) ((Hs hs).length:Int) 0 ps (Hs hs)) (.exit 6) (y7o ps (Hs hs))) ∨
    (fE (fH hs) 0 hs≠0∧Lp E 1 B2 3 (M1 (Hs hs) ((Hs hs).length:Int) 0 ps (Hs hs)) .ret (z0j ps (Hs hs) (fE (fH hs) 0 hs))):=by
 have hq:=Z7 hs
 refine x5s (E:=E) (l:=hs) (fH hs) (fun i=>M1 (Hs hs) ((Hs hs).length:Int) (i:Nat) ps (Hs hs)) (G:=fun v=>z0j ps (Hs hs) v) (k6w (by omega)) (fun i a ha=>?_) hs.length 0 (by omega)
 have hi:=C1 ha
 have hm:=List.mem_of_getElem? ha
 have hs1:=hp a hm
 have ho:=List.all_eq_true.1 ho a hm
 unfold okH at ho
 simp only [List.all_cons,List.all_nil,Bool.and_true,Bool.and_eq_true] at ho
 have s1:=y3t hlib ho.1 hs1.1
 have s2:=y3t hlib ho.2.1 hs1.2.1
 have g:=A5 (z1m ha)
 have b1:(i:Int)<((Hs hs).length:Int):=by omega
 have b2:(0:Int)≤(i:Int):=by omega
 unfold fH
 by_cases c1:1≤a.id∧a.id≤1073741824
 rotate_left
 · rw [if_neg c1];exact outp (by decide) (k6v b1 b2 g (j7x c1))
 have w1:=j7y (E:=E) c1
 rw [if_pos c1]
 by_cases c4:cmpQ (rdv a.ro) 0<0
 · rw [if_pos c4];exact outp (by decide) (k6r b1 b2 g w1 s1 c4)
 rw [if_neg c4]
 by_cases c5:cmpQ (rdv a.mo) 0<0
 · rw [if_pos c5];exact outp (by decide) (k6s b1 b2 g w1 s1 c4 s2 c5)
 rw [if_neg c5]
 cases c7:nmB a.nm with
 | false=>rw [if_neg (by simp)];exact outp (by decide) (k6u b1 b2 g w1 s1 c4 s2 c5 (q6c c7))
 | true =>
  rw [if_pos rfl]
  have w7:=q6c (E:=E) c7
  by_cases c8:0<i
  · rw [if_pos c8]
    obtain ⟨q,hq'⟩:=z0o (l:=hs) (i:=i-1) (by omega)
    rw [hq']
    show (((if q.id≥a.id then (5:Int) else 0)=0)→_)∧_
    by_cases c9:q.id≥a.id
    · rw [show ((if ((some q).map Hd.id).getD 0≥a.id then (5:Int) else 0))=5 from if_pos c9,if_pos c9];exact outp (by decide) (k6t b1 b2 g w1 s1 c4 s2 c5 w7 (by omega) (by omega) (A5 (z1m hq')) c9 (wi (by omega)))
    · rw [show ((if ((some q).map Hd.id).getD 0≥a.id then (5:Int) else 0))=0 from if_neg c9,if_neg c9];exact inp fun o s ih=>j3b b1 b2 g w1 s1 c4 s2 c5 w7 (by omega) (by omega) (A5 (z1m hq')) c9 (wi (by omega)) (wi (by omega)) ih
  · rw [if_neg c8]
    exact inp fun o s ih=>j3c b1 b2 g w1 s1 c4 s2 c5 w7 (by omega) (wi (by omega)) ih
theorem k1v (hlib:Lib E) {ps:List Pc} {hs:List Hd} (h:Sh ps hs):Fn E B2 [.agg [.list (Ps ps),.list (Hs hs)]] (.c (.i64 (chkC ps hs))):=by
 obtain ⟨n1,n2,hp,hh⟩:=h
 have l1:=z0z ps
 have l2:=Z7 hs
 unfold chkC
 rcases chk_L0 hlib (hs:=Hs hs) hp (by omega) with ⟨o1,h1⟩ | ⟨o1,h1⟩
 rotate_left
 · rw [if_neg fun h=>o1 h.1];exact v1k h1
 rcases chk_L1 hlib (ps:=Ps ps) hh (by omega) with ⟨o2,h2⟩ | ⟨o2,h2⟩
 rotate_left
 · rw [if_neg fun h=>o2 h.2];exact v1l h1 h2
 rw [if_pos ⟨o1,o2⟩]
 by_cases c1:ps.length>6
 · rw [if_pos (.inl c1)];exact v1m h1 h2 (by omega)
 by_cases c2:hs.length>6
 · rw [if_pos (.inr c2)];exact v1n h1 h2 (by omega) (by omega)
 rw [if_neg (fun h=>h.elim c1 c2)]
 rcases chk_L2 hlib (hs:=Hs hs) hp o1 (by omega) with ⟨o3,h3⟩ | ⟨o3,h3⟩
 rotate_left
 · rw [if_neg o3];exact v1o h1 h2 (by omega) (by omega) h3
 rw [if_pos o3]
 rcases chk_L3 hlib (ps:=Ps ps) hh o2 (by omega) with ⟨o4,h4⟩ | ⟨o4,h4⟩
 · rw [o4];exact v1q h1 h2 (by omega) (by omega) h3 h4
 · exact v1p h1 h2 (by omega) (by omega) h3 h4
theorem q7i {α:Type} {n F k:Nat} {l:List α} (f:Nat→α→Int) (st:Nat→St) {oe:Out} {fin:St} {G:Int→St} (hend:Lp E n F k (st l.length) oe fin)
    (hstep:∀ i a,l[i]?=some a→(∀ j b,j<i→l[j]?=some b→f j b=0)→(f i a=0→∀ o s,Lp E n F k (st (i+1)) o s→Lp E n F k (st i) o s)∧(f i a≠0→Lp E n F k (st i) .ret (G (f i a)))):∀ d i:Nat,i+d=l.length→(∀ j b,j<i→l[j]?=some b→f j b=0) →
    (fE f i (l.drop i)=0∧Lp E n F k (st i) oe fin)∨(fE f i (l.drop i)≠0∧Lp E n F k (st i) .ret (G (fE f i (l.drop i))))
 | 0,i,hi,_=>by
  have e:i=l.length:=by omega
  rw [e,List.drop_length];exact .inl ⟨rfl,hend⟩
 | d+1,i,hi,hp=>by
  obtain ⟨a,ha⟩:=z0o (l:=l) (i:=i) (by omega)
  rw [k3h ha]
  show (fE f i (a::l.drop (i+1))=0∧_)∨_
  unfold fE
  by_cases h0:f i a=0
  · rw [if_pos h0]
    have hp':∀ j b,j<i+1→l[j]?=some b→f j b=0:=fun j b hj hb=>by
     by_cases e:j=i
     · rw [e] at hb ⊢;rw [ha] at hb;cases hb;exact h0
     · exact hp j b (by omega) hb
    rcases q7i f st hend hstep d (i+1) (by omega) hp' with ⟨h1,h2⟩ | ⟨h1,h2⟩
    · exact .inl ⟨h1,(hstep i a ha hp).1 h0 _ _ h2⟩
    · exact .inr ⟨h1,(hstep i a ha hp).1 h0 _ _ h2⟩
  · rw [if_neg h0];exact .inr ⟨h0,(hstep i a ha hp).2 h0⟩
def ixP (ps:List Pc) (id:Int):Int:=ix (fun p=>p.id == id) ps
def ixH (hs:List Hd) (id:Int):Int:=ix (fun p=>p.id == id) hs
def pcAt (ps:List Pc) (id:Int):Pc:=(ps[(ixP ps id).toNat]?).getD ⟨0,0,0,[],[],[],[]⟩
def hdAt (hs:List Hd) (id:Int):Hd:=(hs[(ixH hs id).toNat]?).getD ⟨0,[],[],[],[],[],[]⟩
theorem y6e {ps:List Pc} {id:Int} (h:¬ ixP ps id<0):ps[(ixP ps id).toNat]?=some (pcAt ps id):=by
 obtain ⟨a,h1,h2⟩:=v7x h
 unfold pcAt ixP
 rw [h1];rfl
theorem w1g {hs:List Hd} {id:Int} (h:¬ ixH hs id<0):hs[(ixH hs id).toNat]?=some (hdAt hs id):=by
 obtain ⟨a,h1,h2⟩:=v7x h
 unfold hdAt ixH
 rw [h1];rfl
def fS (ps:List Pc) (hs:List Hd) (l:List Sw) (i:Nat) (s:Sw):Int :=
 if ixP ps s.pa<0 then 7 else if ixH hs s.ho<0 then 7 else if s.un<1 then 2 else if 0<i∧ordS ((l[i-1]?).getD ⟨0,0,0⟩) s≥0 then 5 else
 if s.un>(pcAt ps s.pa).un then 12 else if unS (l.take (i+1)) s.pa>(pcAt ps s.pa).un then 12 else 0
noncomputable def stwC (ps:List Pc) (hs:List Hd) (l:List Sw):Int:=if chkC ps hs=0 then fE (fS ps hs l) 0 l else 1
theorem j8a {ps:List Pc} {hs:List Hd} (h:chkC ps hs=0):ps.all okP=true∧hs.all okH=true∧ps.length≤6∧hs.length≤6∧fE (fP ps) 0 ps=0∧fE (fH hs) 0 hs=0:=by
 unfold chkC at h
 by_cases c:ps.all okP=true∧hs.all okH=true
 · rw [if_pos c] at h
   by_cases c2:ps.length>6∨hs.length>6
   · rw [if_pos c2] at h;cases h
   · rw [if_neg c2] at h
     by_cases c3:fE (fP ps) 0 ps=0
     · rw [if_pos c3] at h;exact ⟨c.1,c.2,by omega,by omega,c3,h⟩
     · rw [if_neg c3] at h;exact absurd h c3
 · rw [if_neg c] at h;cases h
theorem u3w {l:List Pc} {i:Nat} {p:Pc} (h:fP l i p=0):(1≤p.id∧p.id≤1073741824)∧(1≤p.un∧p.un≤9)∧(1≤p.cl∧p.cl≤9):=by
 unfold fP at h
 by_cases c1:1≤p.id∧p.id≤1073741824
 · rw [if_pos c1] at h
   by_cases c2:1≤p.un∧p.un≤9
   · rw [if_pos c2] at h
     by_cases c3:1≤p.cl∧p.cl≤9
     · exact ⟨c1,c2,c3⟩
     · rw [if_neg c3] at h;cases h
   · rw [if_neg c2] at h;cases h
 · rw [if_neg c1] at h;cases h
theorem j8b {ps:List Pc} {hs:List Hd} (h:chkC ps hs=0) {p:Pc} (hp:p∈ps):(1≤p.id∧p.id≤1073741824)∧(1≤p.un∧p.un≤9)∧(1≤p.cl∧p.cl≤9):=by
 obtain ⟨j,hj⟩:=List.mem_iff_getElem?.1 hp
 exact u3w (k5q (j8a h).2.2.2.2.1 j p hj)
theorem w6r {ps:List Pc} {hs:List Hd} {l:List Sw} {i:Nat} {s:Sw} (h:fS ps hs l i s=0):¬ ixP ps s.pa<0∧¬ ixH hs s.ho<0∧1≤s.un∧s.un≤(pcAt ps s.pa).un:=by
 unfold fS at h
 by_cases c1:ixP ps s.pa<0
 · rw [if_pos c1] at h;cases h
 rw [if_neg c1] at h
 by_cases c2:ixH hs s.ho<0
 · rw [if_pos c2] at h;cases h
 rw [if_neg c2] at h
 by_cases c3:s.un<1
 · rw [if_pos c3] at h;cases h
 rw [if_neg c3] at h
 by_cases c4:0<i∧ordS ((l[i-1]?).getD ⟨0,0,0⟩) s≥0
 · rw [if_pos c4] at h;cases h
 rw [if_neg c4] at h
 by_cases c5:s.un>(pcAt ps s.pa).un
 · rw [if_pos c5] at h;cases h
 exact ⟨c1,c2,by omega,by omega⟩
theorem u3h (l:List Sw) (n:Nat):(Ss l).take n=Ss (l.take n):=by unfold Ss;rw [List.map_take]
theorem x0j (hlib:Lib E) {ps:List Pc} {hs:List Hd} {l:List Sw} (h:Sh ps hs) (hl:l.length≤1000) (hu:∀ a∈l,-9223372036854775808≤a.un∧a.un≤9223372036854775807):Fn E F5 [.agg [.list (Ps ps),.list (Hs hs)],.c (.list (Ss l))] (.c (.i64 (stwC ps hs l))):=by
 have hC:=k1v hlib h
 unfold stwC
 by_cases c0:chkC ps hs=0
 rotate_left
 · rw [if_neg c0];exact q6r hC c0
 rw [if_pos c0]
 have hq:=k1t l
 have n1:=h.np
 have n2:=h.nh
 have:=q7i (E:=E) (l:=l) (fS ps hs l) (fun i=>I8 (Ss l) (Ss l) ((Ss l).length:Int) (i:Nat) (Ps ps) (Hs hs)) (G:=fun v=>V2 (Ps ps) (Hs hs) v) (n:=1) (F:=F5) (k:=0) (oe:=.exit 0) (fin:=y5y (Ps ps) (Hs hs)) (k2h (by omega)) (fun i a ha hpre=>?_) l.length 0 (by omega) (fun j b hj=>by omega)
 · rcases this with ⟨h1,h2⟩ | ⟨h1,h2⟩
   · rw [List.drop_zero] at h1;rw [h1];exact q6t hC c0 h2
   · rw [List.drop_zero] at h2;exact q6s hC c0 h2
 have hi:=C1 ha
 have g:=A5 (z8n ha)
 have b1:(i:Int)<((Ss l).length:Int):=by omega
 have b2:(0:Int)≤(i:Int):=by omega
 have p1:=x8z (E:=E) (ps:=ps) (hs:=Hs hs) (id:=a.pa) (by omega)
 have p2:=x4u (E:=E) (hs:=hs) (ps:=Ps ps) (id:=a.ho) (by omega)
 unfold fS
 by_cases c1:ixP ps a.pa<0
 · rw [if_pos c1];exact outp (by decide) (k1z b1 b2 g p1 c1)
 rw [if_neg c1]
 by_cases c2:ixH hs a.ho<0
 · rw [if_pos c2];exact outp (by decide) (k2a b1 b2 g p1 c1 p2 c2)
 rw [if_neg c2]
 by_cases c3:a.un<1
 · rw [if_pos c3];exact outp (by decide) (k2b b1 b2 g p1 c1 p2 c2 c3)
 rw [if_neg c3]
 have gp:=X5 (y6e c1)
 have hun:=j8b c0 (List.mem_of_getElem? (y6e c1))
 have hu2:a.un≤(pcAt ps a.pa).un→∀ b∈l.take (i+1),-9≤b.un∧b.un≤1000000000:=fun hle b hb=>by
  obtain ⟨j,hj⟩:=List.mem_iff_getElem?.1 hb
  rw [List.getElem?_take] at hj
  split at hj
  · rename_i hji
    by_cases e:j=i
    · rw [e,ha] at hj;cases hj;omega
    · have:=w6r (hpre j b (by omega) hj)
      have h2:=j8b c0 (List.mem_of_getElem? (y6e this.1))
      omega
  · cases hj
 have hu3:a.un≤(pcAt ps a.pa).un→Fn E U5 [.c (.list (Ss (l.take (i+1)))),.c (.i64 a.pa)] (.c (.i64 (unS (l.take (i+1)) a.pa))):=fun hle=>q6y (by rw [List.length_take];omega) (hu2 hle)
 have hsl:(0:Int)≤0∧(0:Int)≤((i+1:Nat):Int)∧((i+1:Nat):Int)≤(Ss l).length∧∀ x∈Ss l,x.length=3:=⟨by omega,by omega,by omega,fun x hx=>by obtain ⟨y,_,rfl⟩:=List.mem_map.1 hx;rfl⟩
 have htk:List.drop 0 ((Ss l).take (Int.toNat ((i+1:Nat):Int)))=Ss (l.take (i+1)):=by rw [List.drop_zero,Int.toNat_natCast,u3h]
 by_cases c8:0<i
 · obtain ⟨q,hq'⟩:=z0o (l:=l) (i:=i-1) (by omega)
   have po:=q6w (E:=E) q a
   rw [hq']
   by_cases c4:ordS q a≥0
   · rw [if_pos ⟨c8,c4⟩];exact outp (by decide) (k2c b1 b2 g p1 c1 p2 c2 c3 (by omega) (by omega) (A5 (z8n hq')) po c4 (wi (by omega)))
   rw [if_neg fun h=>c4 h.2]
   by_cases c5:a.un>(pcAt ps a.pa).un
   · rw [if_pos c5];exact outp (by decide) (k2d b1 b2 g p1 c1 p2 c2 c3 (by omega) (by omega) (A5 (z8n hq')) po c4 (by unfold ixP at c1;omega) gp c5 (wi (by omega)))
   rw [if_neg c5]
   by_cases c6:unS (l.take (i+1)) a.pa>(pcAt ps a.pa).un
   · rw [if_pos c6];exact outp (by decide) (k2e b1 b2 g p1 c1 p2 c2 c3 (by omega) (by omega) (A5 (z8n hq')) po c4 (by unfold ixP at c1;omega) gp c5 hsl (hu3 (by omega)) c6 (wi (by omega)) (wi (by omega)) htk)
   · rw [if_neg c6];exact inp fun o s ih=>j0g b1 b2 g p1 c1 p2 c2 c3 (by omega) (by omega) (A5 (z8n hq')) po c4 (by unfold ixP at c1;omega) gp c5 hsl (hu3 (by omega)) c6 (wi (by omega)) (wi (by omega)) htk ih
 · rw [if_neg fun h=>c8 h.1]
   by_cases c5:a.un>(pcAt ps a.pa).un
   · rw [if_pos c5];exact outp (by decide) (k2f b1 b2 g p1 c1 p2 c2 c3 (by omega) (by unfold ixP at c1;omega) gp c5)
   rw [if_neg c5]
   by_cases c6:unS (l.take (i+1)) a.pa>(pcAt ps a.pa).un
   · rw [if_pos c6];exact outp (by decide) (k2g b1 b2 g p1 c1 p2 c2 c3 (by omega) (by unfold ixP at c1;omega) gp c5 hsl (hu3 (by omega)) c6 (wi (by omega)) htk)
   · rw [if_neg c6];exact inp fun o s ih=>j0h b1 b2 g p1 c1 p2 c2 c3 (by omega) (by unfold ixP at c1;omega) gp c5 hsl (hu3 (by omega)) c6 (wi (by omega)) htk ih
structure LD where
 (m v w x y z:Rat)
def LD.d (t:LD):List DV:=[.str (B (decQ t.m)),.str (B (decQ t.v)),.str (B (decQ t.w)),.str (B (decQ t.x)),.str (B (decQ t.y)),.str (B (decQ t.z))]
def LD.o:LD:=⟨0,0,0,0,0,0⟩
noncomputable def ladN (ps:List Pc) (hs:List Hd) (t:LD) (s:Sw):LD :=
 ⟨t.m+(s.un:Rat)*rdv (pcAt ps s.pa).ma,t.v+(s.un:Rat)*rdv (pcAt ps s.pa).vo,t.w+(s.un:Rat)*rdv (pcAt ps s.pa).wo,
  t.x+(s.un:Rat)*rdv (pcAt ps s.pa).ma*rdv (hdAt hs s.ho).x,t.y+(s.un:Rat)*rdv (pcAt ps s.pa).ma*rdv (hdAt hs s.ho).y,t.z+(s.un:Rat)*rdv (pcAt ps s.pa).ma*rdv (hdAt hs s.ho).z⟩
noncomputable def lad (ps:List Pc) (hs:List Hd) (l:List Sw):LD:=l.foldl (ladN ps hs) LD.o
def LD.Z (t:LD) (K:Nat):Prop:=Sz t.m K∧Sz t.v K∧Sz t.w K∧Sz t.x K∧Sz t.y K∧Sz t.z K
structure Rg (ps:List Pc) (hs:List Hd) (l:List Sw):Prop where
 sh:Sh ps hs
 ok:chkC ps hs=0
 st:∀ s∈l,¬ ixP ps s.pa<0∧¬ ixH hs s.ho<0∧1≤s.un∧s.un≤9
 ln:l.length≤1000
theorem Rg.of {ps:List Pc} {hs:List Hd} {l:List Sw} (h:Sh ps hs) (hl:l.length≤1000)(h0:stwC ps hs l=0):Rg ps hs l:=by
 unfold stwC at h0
 by_cases c:chkC ps hs=0
 · rw [if_pos c] at h0
   refine ⟨h,c,fun s hs'=>?_,hl⟩
   obtain ⟨j,hj⟩:=List.mem_iff_getElem?.1 hs'
   have:=w6r (k5q h0 j s hj)
   have h2:=j8b c (List.mem_of_getElem? (y6e this.1))
   exact ⟨this.1,this.2.1,by omega,by omega⟩
 · rw [if_neg c] at h0;cases h0
theorem Rg.filter {ps:List Pc} {hs:List Hd} {l:List Sw} (h:Rg ps hs l) (p:Sw→Bool):Rg ps hs (l.filter p) :=
 ⟨h.sh,h.ok,fun s hs=>h.st s (List.mem_filter.1 hs).1,Nat.le_trans (List.length_filter_le p l) h.ln⟩
theorem w5d {ps:List Pc} {hs:List Hd} (h:chkC ps hs=0) {p:Pc} (hp:p∈ps):ok1 p.ma=true∧ok1 p.vo=true∧ok1 p.wo=true:=by
 have:=List.all_eq_true.1 (j8a h).1 p hp
 unfold okP at this
 simpa using this
theorem u1b {ps:List Pc} {hs:List Hd} (h:chkC ps hs=0) {p:Hd} (hp:p∈hs):ok1 p.ro=true∧ok1 p.mo=true∧ok1 p.x=true∧ok1 p.y=true∧ok1 p.z=true:=by
 have:=List.all_eq_true.1 (j8a h).2.1 p hp
 unfold okH at this
 simpa using this
theorem q2r (hlib:Lib E) {z:Int} (h:-9223372036854775808≤z∧z≤9223372036854775807):Fn E x2f [.c (.i64 z)] (Sq (z:Rat)):=by
 have:=q6v (hlib.itoa z h)
 rwa [show decZ z=decQ (z:Rat) from (x1i z).symm] at this
theorem w7k {ps:List Pc} {hs:List Hd} {l:List Sw} (h:Rg ps hs l) {s:Sw} (hs':s∈l) :
    (ok1 (pcAt ps s.pa).ma=true∧ok1 (pcAt ps s.pa).vo=true∧ok1 (pcAt ps s.pa).wo=true∧ok1 (hdAt hs s.ho).x=true∧ok1 (hdAt hs s.ho).y=true∧ok1 (hdAt hs s.ho).z=true)∧Sz (s.un:Rat) 1 ∧
    Sz (rdv (pcAt ps s.pa).ma) 40∧Sz (rdv (pcAt ps s.pa).vo) 40∧Sz (rdv (pcAt ps s.pa).wo) 40∧Sz (rdv (hdAt hs s.ho).x) 40∧Sz (rdv (hdAt hs s.ho).y) 40∧Sz (rdv (hdAt hs s.ho).z) 40:=by
 obtain ⟨h1,h2,h3,h4⟩:=h.st s hs'
 have m1:=List.mem_of_getElem? (y6e h1)
 have m2:=List.mem_of_getElem? (w1g h2)
 obtain ⟨a1,a2,a3⟩:=w5d h.ok m1
 obtain ⟨_,_,b1,b2,b3⟩:=u1b h.ok m2
 have s1:=h.sh.p _ m1
 have s2:=h.sh.h _ m2
 exact ⟨⟨a1,a2,a3,b1,b2,b3⟩,Sz.int (by decide) (by omega),z3d a1 s1.1,z3d a2 s1.2.1,z3d a3 s1.2.2,z3d b1 s2.2.2.1,z3d b2 s2.2.2.2.1,z3d b3 s2.2.2.2.2⟩
theorem w6u {ps:List Pc} {hs:List Hd} {l:List Sw} (h:Rg ps hs l) {s:Sw} (hs':s∈l) {t:LD} {K:Nat} (ht:t.Z K):(ladN ps hs t s).Z (K+100):=by
 obtain ⟨_,u,m,v,w,x,y,z⟩:=w7k h hs'
 obtain ⟨t1,t2,t3,t4,t5,t6⟩:=ht
 exact ⟨(t1.add (u.mul m)).mono (by omega),(t2.add (u.mul v)).mono (by omega),(t3.add (u.mul w)).mono (by omega),(t4.add ((u.mul m).mul x)).mono (by omega),(t5.add ((u.mul m).mul y)).mono (by omega),(t6.add ((u.mul m).mul z)).mono (by omega)⟩
theorem u0l {ps:List Pc} {hs:List Hd} {l:List Sw} (h:Rg ps hs l):∀ (r:List Sw) (t:LD) (K:Nat),(∀ s∈r,s∈l)→t.Z K→(r.foldl (ladN ps hs) t).Z (K+100*r.length)
 | [],t,K,_,ht=>ht
 | s::r,t,K,hr,ht=>by
  have:=u0l h r (ladN ps hs t s) (K+100) (fun x hx=>hr x (List.mem_cons_of_mem _ hx)) (w6u h (hr s List.mem_cons_self) ht)
  rw [List.foldl_cons,List.length_cons]
  rwa [show K+100*(r.length+1)=K+100+100*r.length by omega]
theorem LD.o_sz:LD.o.Z 1:=⟨Sz.zero,Sz.zero,Sz.zero,Sz.zero,Sz.zero,Sz.zero⟩
theorem k2j (hlib:Lib E) {ps:List Pc} {hs:List Hd} {l:List Sw} (h:Rg ps hs l):Fn E z0r [.agg [.list (Ps ps),.list (Hs hs)],.c (.list (Ss l))] (.agg (lad ps hs l).d):=by
 have hq:=k1t l
 have n1:=h.sh.np
 have n2:=h.sh.nh
 have hln:=h.ln
 have hL:=x2k
 have hz:(B (decQ 0))=(⟨#[48]⟩:BA):=by rw [x5t];rfl
 have:=G5 (E:=E) (l:=l) (n:=3) (F:=z0r) (k:=0) (ladN ps hs) (fun i t=>t.Z (1+100*i))
  (fun i t=>z2m (Ss l) ((Ss l).length:Int) (i:Nat) (Ps ps) (Hs hs) ⟨#[]⟩ ⟨#[]⟩ ⟨#[]⟩ ⟨#[]⟩ ⟨#[]⟩ ⟨#[]⟩ (B (decQ t.m)) (B (decQ t.v)) (B (decQ t.w)) (B (decQ t.x)) (B (decQ t.y)) (B (decQ t.z))) (oe:=.exit 0)
  (fin:=fun t=>y7q (Ps ps) (Hs hs) ⟨#[]⟩ ⟨#[]⟩ ⟨#[]⟩ ⟨#[]⟩ ⟨#[]⟩ ⟨#[]⟩ (B (decQ t.m)) (B (decQ t.v)) (B (decQ t.w)) (B (decQ t.x)) (B (decQ t.y)) (B (decQ t.z))) (fun t _=>k7a (by omega))
  (fun i a t ha ht=>by
   have hi:=C1 ha
   have hm:=List.mem_of_getElem? ha
   refine ⟨by have:=w6u h hm ht;rwa [show 1+100*(i+1)=1+100*i+100 by omega],fun o s ih=>?_⟩
   obtain ⟨t1,t2,t3,t4,t5,t6⟩:=ht
   obtain ⟨h1,h2,h3,h4⟩:=h.st a hm
   obtain ⟨⟨k1,k2,k3,k4,k5,k6⟩,u,m,v,w,x,y,z⟩:=w7k h hm
   have p1:=x8z (E:=E) (ps:=ps) (hs:=Hs hs) (id:=a.pa) (by omega)
   have p2:=x4u (E:=E) (hs:=hs) (ps:=Ps ps) (id:=a.ho) (by omega)
   have g1:=X5 (y6e h1)
   have g2:=z1m (w1g h2)
   have nu:=q2r hlib (z:=a.un) (by omega)
   have q1:=y2q hlib u m (by omega)
   have q2:=y2q hlib u v (by omega)
   have q3:=y2q hlib u w (by omega)
   have q4:=y2q hlib (u.mul m) x (by omega)
   have q5:=y2q hlib (u.mul m) y (by omega)
   have q6:=y2q hlib (u.mul m) z (by omega)
   rw [y1l k1] at q1
   rw [y1l k2] at q2
   rw [y1l k3] at q3
   rw [y1l k4] at q4
   rw [y1l k5] at q5
   rw [y1l k6] at q6
   exact j3d (by omega) (by omega) (A5 (z8n ha)) p1 (by unfold ixP at h1;omega) g1 p2 (by unfold ixH at h2;omega) g2 nu q1 (y2p hlib t1 (u.mul m) (by omega)) q2 (y2p hlib t2 (u.mul v) (by omega)) q3 (y2p hlib t3 (u.mul w) (by omega))
    q4 (y2p hlib t4 ((u.mul m).mul x) (by omega)) q5 (y2p hlib t5 ((u.mul m).mul y) (by omega)) q6 (y2p hlib t6 ((u.mul m).mul z) (by omega)) (wi (by omega)) ih)
  l.length 0 LD.o (by omega) LD.o_sz
 rw [List.drop_zero] at this
 have h2:=this.2
 show Fn E z0r _ (.agg (LD.d (l.foldl (ladN ps hs) LD.o)))
 have e:(fun i:Nat=>z2m (Ss l) ((Ss l).length:Int) (i:Nat) (Ps ps) (Hs hs) ⟨#[]⟩ ⟨#[]⟩ ⟨#[]⟩ ⟨#[]⟩ ⟨#[]⟩ ⟨#[]⟩ (B (decQ LD.o.m)) (B (decQ LD.o.v)) (B (decQ LD.o.w)) (B (decQ LD.o.x)) (B (decQ LD.o.y)) (B (decQ LD.o.z))) 0=z2m (Ss l) ((Ss l).length:Int) 0 (Ps ps) (Hs hs) ⟨#[]⟩ ⟨#[]⟩ ⟨#[]⟩ ⟨#[]⟩ ⟨#[]⟩ ⟨#[]⟩ ⟨#[48]⟩ ⟨#[48]⟩ ⟨#[48]⟩ ⟨#[48]⟩ ⟨#[48]⟩ ⟨#[48]⟩:=by
  show z2m _ _ _ _ _ _ _ _ _ _ _ (B (decQ 0)) (B (decQ 0)) (B (decQ 0)) (B (decQ 0)) (B (decQ 0)) (B (decQ 0))=_
  rw [hz];rfl
 exact v1s (e ▸ h2)
theorem u3y {hs:List Hd} {h:Hd} (hh:h∈hs):¬ ixH hs h.id<0:=fun e=>by
 have:=z5n.1 e
 rw [List.any_eq_false] at this
 exact this h hh (by simp)
theorem x1g:1000000000≤Lim:=by rw [Y7];omega
theorem v7w {ps:List Pc} {hs:List Hd} {l:List Sw} (h:Rg ps hs l) (id:Int):Rg ps hs (inH l id):=h.filter _
theorem v1r (hlib:Lib E) (hc:Cs E) {ps:List Pc} {hs:List Hd} {l:List Sw} (h:Rg ps hs l)(h0:stwC ps hs l=0) (hu:∀ a∈l,-9223372036854775808≤a.un∧a.un≤9223372036854775807) {id:Int} (hi:¬ ixH hs id<0) :
    Fn E x7j [.agg [.list (Ps ps),.list (Hs hs)],.c (.list (Ss l)),.c (.i64 id)] (.tup [.agg (lad ps hs (inH l id)).d,.c (.i64 0)]):=by
 have n2:=h.sh.nh
 have hS:=x0j hlib h.sh h.ln hu
 exact v7b hS h0 (x4u (by omega)) hi (q1v hc h.ln) (k2j hlib (v7w h id))
noncomputable def ovH (ps:List Pc) (hs:List Hd) (l:List Sw) (h:Hd):Bool:=decide (cmpQ (lad ps hs (inH l h.id)).m (rdv h.mo)>0∨cmpQ (lad ps hs (inH l h.id)).v (rdv h.ro)>0)
theorem lad_Z {ps:List Pc} {hs:List Hd} {l:List Sw} (h:Rg ps hs l):(lad ps hs l).Z 100001:=by
 have:=u0l h l LD.o 1 (fun s hs=>hs) LD.o_sz
 have hl:=h.ln
 obtain ⟨t1,t2,t3,t4,t5,t6⟩:=this
 have e:1+100*l.length≤100001:=by omega
 exact ⟨t1.mono e,t2.mono e,t3.mono e,t4.mono e,t5.mono e,t6.mono e⟩
theorem k6x (hlib:Lib E) (hc:Cs E) {ps:List Pc} {hs:List Hd} {l:List Sw} (h:Sh ps hs) (hl:l.length≤1000) (hu:∀ a∈l,-9223372036854775808≤a.un∧a.un≤9223372036854775807) :
    Fn E z8g [.agg [.list (Ps ps),.list (Hs hs)],.c (.list (Ss l))] (if stwC ps hs l=0 then .tup [.c (.i64 (ix (ovH ps hs l) hs)),.c (.i64 0)] else .tup [.c (.i64 0),.c (.i64 1)]):=by
 have hS:=x0j hlib h hl hu
 by_cases h0:stwC ps hs l=0
 · rw [if_pos h0]
   have hr:=Rg.of h hl h0
   have n2:=h.nh
   have hL:=x2k
   refine j0f hS h0 (k0d (ovH ps hs l) (by omega) fun a ha=>?_)
   obtain ⟨a1,a2,_⟩:=u1b hr.ok ha
   have sz:=h.h a ha
   have z:=lad_Z (v7w hr a.id)
   have e1:=q1v hc (h:=a.id) hl
   have e2:=k2j hlib (v7w hr a.id)
   have k1:=y7p hlib z.1 (z3d a2 sz.2.1) (by omega)
   have k2:=y7p hlib z.2.1 (z3d a1 sz.1) (by omega)
   rw [y1l a2] at k1
   rw [y1l a1] at k2
   unfold ovH
   by_cases c1:cmpQ (lad ps hs (inH l a.id)).m (rdv a.mo)>0
   · rw [decide_eq_true (.inl c1)];exact k1w e1 e2 k1 c1
   by_cases c2:cmpQ (lad ps hs (inH l a.id)).v (rdv a.ro)>0
   · rw [decide_eq_true (.inr c2)];exact k1x e1 e2 k1 c1 k2 c2
   · rw [decide_eq_false fun h=>h.elim c1 c2];exact k1y e1 e2 k1 c1 k2 c2
 · rw [if_neg h0];exact j0e hS h0
theorem j2r (hlib:Lib E) {x y:List UInt8} (h:ok1 x=true) (k:x.length≤1000) (h':ok1 y=true) (k':y.length≤1000):Fn E O1 [.c (.str (B x)),.c (.str (B y))] (.c (.i64 (cmpQ (rdv x) (rdv y)))):=by
 have:=x4i (y3k hlib (z3d h k) (z3d h' k') (by have:=x2k;omega))
 rwa [k5m h,k5m h'] at this
noncomputable def emp (x:List UInt8):Bool:=x.isEmpty || ok1 x
theorem G6 {x:List UInt8}:B x=(⟨#[]⟩:BA)↔x=[]:=by exact ⟨fun h=>y5o (h.trans w9j.symm),fun h=>by rw [h];rfl⟩
theorem x7f (hlib:Lib E) {x:List UInt8} (h:x.length≤40):Fn E z3c [.c (.str (B x))] (.c (.bool (emp x))):=by
 unfold emp
 cases x with
 | nil=>exact q4t rfl
 | cons a x=>exact q4u (fun e=>by cases G6.1 e) (y6g hlib (by have:=x2k;omega))
def clB (n:Int):Bool:=decide (1≤n∧n≤9)
theorem z0m {n:Int} {b:Bool} (h:clB n=b):Fn E K6 [.c (.i64 n)] (.c (.bool b)):=by
 subst h
 unfold clB
 by_cases h1:n≥1
 · by_cases h2:n≤9
   · rw [decide_eq_true ⟨h1,h2⟩];exact j7j h1 h2
   · rw [decide_eq_false fun h=>h2 h.2];exact j7k h1 h2
 · rw [decide_eq_false fun h=>h1 h.1];exact j7l h1
def fO (ps:List Pc) (hs:List Hd) (r:Ru):Int :=
 if r.kd=2 then (if r.a≥r.b then 2 else if clB r.a=true then (if clB r.b=true then 0 else 2) else 2) else if r.kd=3 then (if clB r.a=true then (if (hs.any fun h=>h.id == r.b)=true then 0 else 7) else 2) else
 if r.b=0 then (if (ps.any fun p=>p.id == r.a)=true then 0 else 7) else 2
theorem q1i {ps:List Pc} {hs:List Hd} {rs:RW} {r:Ru} (n1:ps.length≤1000) (n2:hs.length≤1000):Fn E P6 [.agg [.list (Ps ps),.list (Hs hs),.list rs],.agg r.d] (.c (.i64 (fO ps hs r))):=by
 unfold fO
 by_cases k2:r.kd=2
 · rw [if_pos k2]
   by_cases c1:r.a≥r.b
   · rw [if_pos c1];exact q5g k2 c1
   rw [if_neg c1]
   cases c2:clB r.a with
   | false=>rw [if_neg (by simp)];exact q5j k2 c1 (z0m c2)
   | true =>
    rw [if_pos rfl]
    cases c3:clB r.b with
    | false=>rw [if_neg (by simp)];exact q5i k2 c1 (z0m c2) (z0m c3)
    | true=>rw [if_pos rfl];exact q5h k2 c1 (z0m c2) (z0m c3)
 rw [if_neg k2]
 by_cases k3:r.kd=3
 · rw [if_pos k3]
   have h:=(j0o (E:=E) (c0_0:=B r.nm) (c0_1:=r.kd) (c0_2:=R1 r.fs) (c0_3:=B r.lo) (c0_4:=B r.hi) (c0_5:=r.a) (c0_6:=r.b) (l:=hs) (fun h=>h.id == r.b) (by omega) fun a _=>by
    by_cases e:a.id=r.b
    · rw [show (a.id == r.b)=true by simp [e]];exact j7m e
    · rw [show (a.id == r.b)=false by simp [e]];exact j7n e).sub [1] (by decide) rfl (objs:=[some (.cells [.c (.list (Ps ps)),.c (.list (Hs hs)),.c (.list rs)]),some (.cells [.c (.str (B r.nm)),.c (.i64 r.kd),.c (.list (R1 r.fs)),.c (.str (B r.lo)),.c (.str (B r.hi)),.c (.i64 r.a),.c (.i64 r.b)])]) (by intro i hi;match i,hi with | 0,_=>rfl) (by simp [Ob.plain]) rfl rfl
   cases c2:clB r.a with
   | false=>rw [if_neg (by simp)];exact q5m k2 k3 (z0m c2)
   | true =>
    rw [if_pos rfl]
    cases c3:(hs.any fun h=>h.id == r.b) with
    | false=>rw [c3] at h;rw [if_neg (by simp)];exact q5l k2 k3 (z0m c2) h
    | true=>rw [c3] at h;rw [if_pos rfl];exact q5k k2 k3 (z0m c2) h
 rw [if_neg k3]
 by_cases c1:r.b=0
 · rw [if_pos c1]
   have h:=(j0p (E:=E) (c0_0:=B r.nm) (c0_1:=r.kd) (c0_2:=R1 r.fs) (c0_3:=B r.lo) (c0_4:=B r.hi) (c0_5:=r.a) (c0_6:=r.b) (l:=ps) (fun h=>h.id == r.a) (by omega) fun a _=>by
    by_cases e:a.id=r.a
    · rw [show (a.id == r.a)=true by simp [e]];exact j7o e
    · rw [show (a.id == r.a)=false by simp [e]];exact j7p e).sub [1] (by decide) rfl (objs:=[some (.cells [.c (.list (Ps ps)),.c (.list (Hs hs)),.c (.list rs)]),some (.cells [.c (.str (B r.nm)),.c (.i64 r.kd),.c (.list (R1 r.fs)),.c (.str (B r.lo)),.c (.str (B r.hi)),.c (.i64 r.a),.c (.i64 r.b)])]) (by intro i hi;match i,hi with | 0,_=>rfl) (by simp [Ob.plain]) rfl rfl
   cases c3:(ps.any fun h=>h.id == r.a) with
   | false=>rw [c3] at h;rw [if_neg (by simp)];exact q5p k2 k3 c1 h
   | true=>rw [c3] at h;rw [if_pos rfl];exact q5o k2 k3 c1 h
 · rw [if_neg c1];exact q5n k2 k3 c1
noncomputable def fR (ps:List Pc) (hs:List Hd) (rs:List Ru) (i:Nat) (r:Ru):Int :=
 if r.fs.all ok1=true∧emp r.lo=true∧emp r.hi=true then (if nmB r.nm=true then (if (rs.take i).any (fun x=>x.nm == r.nm)=true then 6 else if r.kd<1∨r.kd>4 then 2 else
  if r.kd=1 then (if r.fs.length=hs.length∧r.a=0∧r.b=0 then (if r.lo=[]∧r.hi=[] then 2 else if r.lo≠[]∧r.hi≠[]∧cmpQ (rdv r.lo) (rdv r.hi)>0 then 2 else 0) else 10) else
  if r.fs.length>0∨r.lo≠[]∨r.hi≠[] then 10 else fO ps hs r) else 4) else 1
def ShR (r:Ru):Prop:=r.fs.length≤8∧(∀ x∈r.fs,x.length≤40)∧r.lo.length≤40∧r.hi.length≤40∧r.nm.length≤70
theorem u3g (l:List Ru) (n:Nat):(Rs l).take n=Rs (l.take n):=by unfold Rs;rw [List.map_take]
theorem k2u {x:List UInt8} (h:emp x=true) (hx:x≠[]):ok1 x=true:=by
 unfold emp at h
 cases x with
 | nil=>exact absurd rfl hx
 | cons a x=>exact h
theorem q1f (hlib:Lib E) {ps:List Pc} {hs:List Hd} {rs:List Ru} {i:Nat} {r:Ru} (n1:ps.length≤1000) (n2:hs.length≤1000) (n3:rs.length≤1000) (hi:rs[i]?=some r) (hr:ShR r):Fn E F3 [.agg [.list (Ps ps),.list (Hs hs),.list (Rs rs)],.c (.i64 (i:Nat))] (.c (.i64 (fR ps hs rs i r))):=by
 have hlt:=C1 hi
 have b1:(0:Int)≤(i:Nat):=by omega
 have g:=A5 (z7c hi)
 have l2:=Z7 hs
 have l3:=z5m rs
 have hnm:=U4 r.nm
 have hL:=x2k
 have v:=j0l (E:=E) (l:=r.fs) (fun x=>!ok1 x) (by have:=hr.1;omega) fun x hx=>j7c (y6g hlib (by have:=hr.2.1 x hx;omega))
 rw [show (r.fs.any fun x=>!ok1 x)=!r.fs.all ok1 from by rw [List.all_eq_not_any_not,Bool.not_not]] at v
 have v1:=x7f hlib hr.2.2.1
 have v2:=x7f hlib hr.2.2.2.1
 unfold fR
 cases c1:r.fs.all ok1 with
 | false=>rw [c1] at v;rw [if_neg (by simp)];exact q4v b1 g v
 | true =>
 rw [c1] at v
 cases c2:emp r.lo with
 | false=>rw [c2] at v1;rw [if_neg (by simp)];exact q1e b1 g v v1
 | true =>
 rw [c2] at v1
 cases c3:emp r.hi with
 | false=>rw [c3] at v2;rw [if_neg (by simp)];exact q1d b1 g v v1 v2
 | true =>
 rw [c3] at v2
 rw [if_pos ⟨rfl,rfl,rfl⟩]
 by_cases c4:r.nm.length<1
 · rw [if_neg (by unfold nmB;simp;omega)];exact q4w b1 g v v1 v2 (by omega)
 by_cases c5:r.nm.length>64
 · rw [if_neg (by unfold nmB;simp;omega)];exact q4x b1 g v v1 v2 (by omega) (by omega)
 rw [if_pos (by unfold nmB;simp;omega)]
 have d1:¬ ((B r.nm).size:Int)<1:=by omega
 have d2:¬ ((B r.nm).size:Int)>64:=by omega
 have hsl:(0:Int)≤0∧(0:Int)≤((i:Nat):Int)∧((i:Nat):Int)≤(Rs rs).length∧∀ x∈Rs rs,x.length=7:=⟨by omega,by omega,by omega,fun x hx=>by obtain ⟨y,_,rfl⟩:=List.mem_map.1 hx;rfl⟩
 have htk:List.drop 0 ((Rs rs).take (Int.toNat ((i:Nat):Int)))=Rs (rs.take i):=by rw [List.drop_zero,Int.toNat_natCast,u3g]
 have t:=(j0m (E:=E) (c0_0:=B r.nm) (c0_1:=r.kd) (c0_2:=R1 r.fs) (c0_3:=B r.lo) (c0_4:=B r.hi) (c0_5:=r.a) (c0_6:=r.b) (l:=rs.take i) (fun x=>x.nm == r.nm) (by rw [List.length_take];omega) fun a _=>by
     by_cases e:a.nm=r.nm
     · rw [show (a.nm == r.nm)=true by simp [e]];exact j7d (by rw [e])
     · rw [show (a.nm == r.nm)=false by simp [e]];exact j7e (fun h=>e (y5o h))).sub [1] (by decide) rfl (objs:=[some (.cells [.c (.list (Ps ps)),.c (.list (Hs hs)),.c (.list (Rs rs))]),some (.cells [.c (.str (B r.nm)),.c (.i64 r.kd),.c (.list (R1 r.fs)),.c (.str (B r.lo)),.c (.str (B r.hi)),.c (.i64 r.a),.c (.i64 r.b)])]) (by intro i hi;match i,hi with | 0,_=>rfl) (by simp [Ob.plain]) rfl rfl
 cases c6:(rs.take i).any (fun x=>x.nm == r.nm) with
 | true=>rw [c6] at t;rw [if_pos rfl];exact q4y b1 g v v1 v2 d1 d2 hsl t htk
 | false =>
 rw [c6] at t
 rw [if_neg (by simp)]
 by_cases c7:r.kd<1
 · rw [if_pos (.inl c7)];exact q4z b1 g v v1 v2 d1 d2 hsl t c7 htk
 by_cases c8:r.kd>4
 · rw [if_pos (.inr c8)];exact q5a b1 g v v1 v2 d1 d2 hsl t c7 c8 htk
 rw [if_neg fun h=>h.elim c7 c8]
 have hf:=z0p r.fs
 by_cases c9:r.kd=1
 · rw [if_pos c9]
   by_cases c10:r.fs.length=hs.length
   rotate_left
   · rw [if_neg fun h=>c10 h.1];exact q5b b1 g v v1 v2 d1 d2 hsl t c7 c8 c9 (by omega) htk
   have c10':((R1 r.fs).length:Int)=((Hs hs).length:Int):=by omega
   by_cases c11:r.a=0
   rotate_left
   · rw [if_neg fun h=>c11 h.2.1];exact q5c b1 g v v1 v2 d1 d2 hsl t c7 c8 c9 c10' c11 htk
   by_cases c12:r.b=0
   rotate_left
   · rw [if_neg fun h=>c12 h.2.2];exact q5d b1 g v v1 v2 d1 d2 hsl t c7 c8 c9 c10' c11 c12 htk
   rw [if_pos ⟨c10,c11,c12⟩]
   by_cases c13:r.lo=[]
   · by_cases c14:r.hi=[]
     · rw [if_pos ⟨c13,c14⟩];exact q5e b1 g v v1 v2 d1 d2 hsl t c7 c8 c9 c10' c11 c12 (G6.2 c13) (G6.2 c14) htk
     · rw [if_neg fun h=>c14 h.2,if_neg fun h=>h.1 c13];exact q0v b1 g v v1 v2 d1 d2 hsl t c7 c8 c9 c10' c11 c12 (G6.2 c13) (fun h=>c14 (G6.1 h)) htk
   · rw [if_neg fun h=>c13 h.1]
     by_cases c14:r.hi=[]
     · rw [if_neg fun h=>h.2.1 c14];exact q0y b1 g v v1 v2 d1 d2 hsl t c7 c8 c9 c10' c11 c12 (fun h=>c13 (G6.1 h)) (G6.2 c14) htk
     · have k:=j2r hlib (k2u c2 c13) (by have:=hr.2.2.1;omega) (k2u c3 c14) (by have:=hr.2.2.2.1;omega)
       by_cases c15:cmpQ (rdv r.lo) (rdv r.hi)>0
       · rw [if_pos ⟨c13,c14,c15⟩];exact q0w b1 g v v1 v2 d1 d2 hsl t c7 c8 c9 c10' c11 c12 (fun h=>c13 (G6.1 h)) (fun h=>c14 (G6.1 h)) k c15 htk
       · rw [if_neg fun h=>c15 h.2.2];exact q0x b1 g v v1 v2 d1 d2 hsl t c7 c8 c9 c10' c11 c12 (fun h=>c13 (G6.1 h)) (fun h=>c14 (G6.1 h)) k c15 htk
 rw [if_neg c9]
 by_cases c10:r.fs.length>0
 · rw [if_pos (.inl c10)];exact q0z b1 g v v1 v2 d1 d2 hsl t c7 c8 c9 (by omega) htk
 by_cases c11:r.lo=[]
 rotate_left
 · rw [if_pos (.inr (.inl c11))];exact q1a b1 g v v1 v2 d1 d2 hsl t c7 c8 c9 (by omega) (fun h=>c11 (G6.1 h)) htk
 by_cases c12:r.hi=[]
 rotate_left
 · rw [if_pos (.inr (.inr c12))];exact q1b b1 g v v1 v2 d1 d2 hsl t c7 c8 c9 (by omega) (G6.2 c11) (fun h=>c12 (G6.1 h)) htk
 rw [if_neg fun h=>h.elim c10 fun h=>h.elim (fun h=>h c11) fun h=>h c12]
 exact q1c b1 g v v1 v2 d1 d2 hsl t c7 c8 c9 (by omega) (G6.2 c11) (G6.2 c12) (q1i n1 n2) htk
def fI {α:Type} (f:Nat→α→Int):Nat→List α→Int
 | _,[]=>-1
 | i,a::l=>if f i a=0 then fI f (i+1) l else i
theorem j0k {α:Type} {n F k:Nat} {l:List α} (f:Nat→α→Int) (st:Nat→St) {oe:Out} {fin:St} {G:Int→Int→St} (hend:Lp E n F k (st l.length) oe fin)
    (hstep:∀ i a,l[i]?=some a→(f i a=0→∀ o s,Lp E n F k (st (i+1)) o s→Lp E n F k (st i) o s)∧(f i a≠0→Lp E n F k (st i) .ret (G i (f i a)))):∀ d i:Nat,i+d=l.length →
    (fE f i (l.drop i)=0∧fI f i (l.drop i)=-1∧Lp E n F k (st i) oe fin)∨(fE f i (l.drop i)≠0∧Lp E n F k (st i) .ret (G (fI f i (l.drop i)) (fE f i (l.drop i))))
 | 0,i,hi=>by
  have e:i=l.length:=by omega
  rw [e,List.drop_length];exact .inl ⟨rfl,rfl,hend⟩
 | d+1,i,hi=>by
  obtain ⟨a,ha⟩:=z0o (l:=l) (i:=i) (by omega)
  rw [k3h ha]
  show (fE f i (a::l.drop (i+1))=0∧_)∨_
  unfold fE fI
  by_cases h0:f i a=0
  · rw [if_pos h0,if_pos h0]
    rcases j0k f st hend hstep d (i+1) (by omega) with ⟨h1,h2,h3⟩ | ⟨h1,h2⟩
    · exact .inl ⟨h1,h2,(hstep i a ha).1 h0 _ _ h3⟩
    · exact .inr ⟨h1,(hstep i a ha).1 h0 _ _ h2⟩
  · rw [if_neg h0,if_neg h0];exact .inr ⟨h0,(hstep i a ha).2 h0⟩
noncomputable def chkE (ps:List Pc) (hs:List Hd) (rs:List Ru):Int:=if chkC ps hs=0 then (if rs.length>16 then 8 else fE (fR ps hs rs) 0 rs) else chkC ps hs
noncomputable def chkN (ps:List Pc) (hs:List Hd) (rs:List Ru):Int:=if chkC ps hs=0 then (if rs.length>16 then -1 else fI (fR ps hs rs) 0 rs) else -1
structure Sp (ps:List Pc) (hs:List Hd) (rs:List Ru):Prop where
 sh:Sh ps hs
 nr:rs.length≤17
 r:∀ r∈rs,ShR r
def Pb (ps:List Pc) (hs:List Hd) (rs:List Ru):List DV:=[.list (Ps ps),.list (Hs hs),.list (Rs rs)]
theorem z7p (hlib:Lib E) {ps:List Pc} {hs:List Hd} {rs:List Ru} (h:Sp ps hs rs):Fn E I7 [.agg (Pb ps hs rs)] (.tup [.c (.i64 (chkN ps hs rs)),.c (.i64 (chkE ps hs rs))]):=by
 have hC:=k1v hlib h.sh
 have n1:=h.sh.np
 have n2:=h.sh.nh
 have n3:=h.nr
 have l3:=z5m rs
 unfold chkN chkE
 by_cases c0:chkC ps hs=0
 rotate_left
 · rw [if_neg c0,if_neg c0];exact q4e hC c0
 rw [if_pos c0,if_pos c0]
 by_cases c1:rs.length>16
 · rw [if_pos c1,if_pos c1];exact q4f hC c0 (by omega)
 rw [if_neg c1,if_neg c1]
 have:=j0k (E:=E) (l:=rs) (fR ps hs rs) (fun i=>z1s ((Rs rs).length:Int) (i:Nat) (Ps ps) (Hs hs) (Rs rs)) (G:=fun i v=>y4q (Ps ps) (Hs hs) (Rs rs) i v) (n:=1) (F:=I7) (k:=0) (oe:=.exit 0) (fin:=y4r (Ps ps) (Hs hs) (Rs rs)) (k0y (by omega)) (fun i a ha=>by
  have hi:=C1 ha
  have hf:=q1f hlib (ps:=ps) (hs:=hs) (by omega) (by omega) (by omega) ha (h.r a (List.mem_of_getElem? ha))
  exact ⟨fun e o s ih=>k8z (by omega) hf e (wi (by omega)) ih,fun e=>k0x (by omega) hf e⟩) rs.length 0 (by omega)
 rw [List.drop_zero] at this
 rcases this with ⟨h1,h2,h3⟩ | ⟨h1,h2⟩
 · rw [h1,h2];exact q4h hC c0 (by omega) h3
 · exact q4g hC c0 (by omega) h2
structure Sl (l:List Sw):Prop where
 n:l.length≤1000
 u:∀ a∈l,-9223372036854775808≤a.un∧a.un≤9223372036854775807
noncomputable def rgtB (ps:List Pc) (hs:List Hd) (rs:List Ru) (l:List Sw):Bool:=decide (chkE ps hs rs=0∧stwC ps hs l=0)
theorem y8y (hlib:Lib E) {ps:List Pc} {hs:List Hd} {rs:List Ru} {l:List Sw} (h:Sp ps hs rs) (hl:Sl l):Fn E Y3 [.agg (Pb ps hs rs),.c (.list (Ss l))] (.c (.bool (rgtB ps hs rs l))):=by
 have hC:=z7p hlib h
 have hS:=x0j hlib h.sh hl.n hl.u
 unfold rgtB
 by_cases c0:chkE ps hs rs=0
 · by_cases c1:stwC ps hs l=0
   · rw [decide_eq_true ⟨c0,c1⟩];exact q5q hC c0 hS c1
   · rw [decide_eq_false fun h=>c1 h.2];exact q5r hC c0 hS c1
 · rw [decide_eq_false fun h=>c0 h.1];exact q5s hC c0
theorem x5r {ps:List Pc} {hs:List Hd} {rs:List Ru} (h:chkE ps hs rs=0):chkC ps hs=0∧rs.length≤16∧fE (fR ps hs rs) 0 rs=0:=by
 unfold chkE at h
 by_cases c0:chkC ps hs=0
 · rw [if_pos c0] at h
   by_cases c1:rs.length>16
   · rw [if_pos c1] at h;cases h
   · rw [if_neg c1] at h;exact ⟨c0,by omega,h⟩
 · rw [if_neg c0] at h;exact absurd h c0
theorem v7t {ps:List Pc} {hs:List Hd} {rs:List Ru} {i:Nat} {r:Ru} (h:fR ps hs rs i r=0):(r.fs.all ok1=true∧emp r.lo=true∧emp r.hi=true)∧(1≤r.kd∧r.kd≤4)∧(r.kd=1→r.fs.length=hs.length)∧(r.kd≠1→fO ps hs r=0)∧(rs.take i).any (fun x=>x.nm == r.nm)=false:=by
 unfold fR at h
 by_cases c1:r.fs.all ok1=true∧emp r.lo=true∧emp r.hi=true
 rotate_left
 · rw [if_neg c1] at h;cases h
 rw [if_pos c1] at h
 by_cases c2:nmB r.nm=true
 rotate_left
 · rw [if_neg c2] at h;cases h
 rw [if_pos c2] at h
 by_cases c3:(rs.take i).any (fun x=>x.nm == r.nm)=true
 · rw [if_pos c3] at h;cases h
 rw [if_neg c3] at h
 by_cases c4:r.kd<1∨r.kd>4
 · rw [if_pos c4] at h;cases h
 rw [if_neg c4] at h
 have c3':(rs.take i).any (fun x=>x.nm == r.nm)=false:=by cases e:(rs.take i).any (fun x=>x.nm == r.nm) with | true=>exact absurd e c3 | false=>rfl
 by_cases c5:r.kd=1
 · rw [if_pos c5] at h
   by_cases c6:r.fs.length=hs.length∧r.a=0∧r.b=0
   · exact ⟨c1,by omega,fun _=>c6.1,fun e=>absurd c5 e,c3'⟩
   · rw [if_neg c6] at h;cases h
 · rw [if_neg c5] at h
   by_cases c6:r.fs.length>0∨r.lo≠[]∨r.hi≠[]
   · rw [if_pos c6] at h;cases h
   · rw [if_neg c6] at h;exact ⟨c1,by omega,fun e=>absurd e c5,fun _=>h,c3'⟩
structure Rr (ps:List Pc) (hs:List Hd) (r:Ru):Prop where
 f:r.fs.length=hs.length
 o:∀ x∈r.fs,ok1 x=true
 s:ShR r
 lo:emp r.lo=true
 hi:emp r.hi=true
theorem Rr.of {ps:List Pc} {hs:List Hd} {rs:List Ru} (h:Sp ps hs rs)(h0:chkE ps hs rs=0) {i:Nat} {r:Ru} (hi:rs[i]?=some r) (hk:r.kd=1):Rr ps hs r:=by
 have hz:=k5q (x5r h0).2.2 i r hi
 rw [Nat.zero_add] at hz
 have:=v7t hz
 exact ⟨this.2.2.1 hk,List.all_eq_true.1 this.1.1,h.r r (List.mem_of_getElem? hi),this.1.2.1,this.1.2.2⟩
theorem v0y (hlib:Lib E) {a b:Rat} {K L:Nat} (ha:Sz a K) (hb:Sz b L) (h:K+L+1≤Lim):Fn E x4s [Sq a,Sq b] (Sq (a+b)):=v4v (x9g hlib ha hb h)
theorem y6y (hlib:Lib E) {a b:Rat} {K L:Nat} (ha:Sz a K) (hb:Sz b L) (h:K+L+1≤Lim):Fn E Z6 [Sq a,Sq b] (Sq (a-b)):=v4x (q3b hlib ha hb h)
theorem x3d (hlib:Lib E) {a b:Rat} {K L:Nat} (ha:Sz a K) (hb:Sz b L) (h:K+L≤Lim):Fn E y3r [Sq a,Sq b] (Sq (a*b)):=v4w (x9h hlib ha hb h)
theorem y4z (hlib:Lib E) {a b:Rat} {K L:Nat} (ha:Sz a K) (hb:Sz b L) (h:K+L≤Lim):Fn E O1 [Sq a,Sq b] (.c (.i64 (cmpQ a b))):=x4i (y3k hlib ha hb h)
noncomputable def sumS (ps:List Pc) (hs:List Hd) (fs:List (List UInt8)) (l:List Sw):Rat:=(hs.zip fs).foldl (fun s x=>s+rdv x.2*(lad ps hs (inH l x.1.id)).m) 0
theorem u5j {α β:Type} {a:List α} {b:List β} {i:Nat} {x:α × β} (h:(a.zip b)[i]?=some x):a[i]?=some x.1∧b[i]?=some x.2:=by
 rw [List.getElem?_zip_eq_some] at h
 exact h
theorem x3e (hlib:Lib E) (hc:Cs E) {ps:List Pc} {hs:List Hd} {r:Ru} {rs:RW} {l:List Sw} (h:Rg ps hs l)(h0:stwC ps hs l=0) (hl:Sl l) (hr:Rr ps hs r) :
    Fn E z2c [.agg [.list (Ps ps),.list (Hs hs),.list rs],.agg r.d,.c (.list (Ss l))] (Sq (sumS ps hs r.fs l))∧Sz (sumS ps hs r.fs l) 1000000:=by
 have n2:=h.sh.nh
 have l2:=Z7 hs
 have hL:=x1g
 have hf:=hr.f
 have hz:(B (decQ 0))=(⟨#[48]⟩:BA):=by rw [x5t];rfl
 have hlen:(hs.zip r.fs).length=hs.length:=by rw [List.length_zip];omega
 have:=G5 (E:=E) (l:=hs.zip r.fs) (n:=2) (F:=z2c) (k:=0) (fun (s:Rat) x=>s+rdv x.2*(lad ps hs (inH l x.1.id)).m) (fun i s=>Sz s (1+100100*i))
  (fun i s=>y2f (Ss l) (B (decQ s)) (Hs hs) ((Hs hs).length:Int) (i:Nat) (Ps ps) (Hs hs) rs (B r.nm) r.kd (R1 r.fs) (B r.lo) (B r.hi) r.a r.b) (oe:=.exit 0)
  (fin:=fun s=>y8z (Ps ps) (Hs hs) rs (B r.nm) r.kd (R1 r.fs) (B r.lo) (B r.hi) r.a r.b (B (decQ s))) (fun s _=>k9o (by omega))
  (fun i a s ha hs'=>by
   have hi:=C1 ha
   obtain ⟨g1,g2⟩:=u5j ha
   have hm:=List.mem_of_getElem? g1
   have z:=lad_Z (v7w h a.1.id)
   have ok:=hr.o _ (List.mem_of_getElem? g2)
   have sf:=z3d ok (hr.s.2.1 _ (List.mem_of_getElem? g2))
   have q:=x3d hlib sf z.1 (by omega)
   rw [y1l ok] at q
   exact ⟨(hs'.add (sf.mul z.1)).mono (by omega),fun o st ih=>j7q (by omega) (by omega) (A5 (z1m g1)) (v1r hlib hc h h0 hl.u (u3y hm)) (A5 (y0f g2)) q (v0y hlib hs' (sf.mul z.1) (by omega)) (wi (by omega)) ih⟩)
  (hs.zip r.fs).length 0 0 (by omega) Sz.zero
 rw [List.drop_zero] at this
 refine ⟨v4y ?_,this.1.mono (by omega)⟩
 have h2:=this.2
 rw [hz] at h2
 exact h2
noncomputable def exS (r:Ru) (s:Rat):Rat:=if r.hi≠[]∧cmpQ s (rdv r.hi)>0 then s-rdv r.hi else if r.lo≠[]∧cmpQ s (rdv r.lo)<0 then s-rdv r.lo else 0
theorem x4j (hlib:Lib E) {ps:List Pc} {hs:List Hd} {r:Ru} (hr:Rr ps hs r) {s:Rat} (hs':Sz s 1000000):Fn E X0 [.agg r.d,Sq s] (Sq (exS r s))∧Sz (exS r s) 1000100:=by
 have hL:=x1g
 have z0:(AV.c (.str (⟨#[48]⟩:BA)))=Sq 0:=x5q
 have kh:r.hi≠[]→(Fn E O1 [Sq s,.c (.str (B r.hi))] (.c (.i64 (cmpQ s (rdv r.hi))))∧Fn E Z6 [Sq s,.c (.str (B r.hi))] (Sq (s-rdv r.hi)))∧Sz (s-rdv r.hi) 1000100:=fun e=>by
  have o:=k2u hr.hi e
  have z:=z3d o hr.s.2.2.2.1
  have a:=y4z hlib hs' z (by omega)
  have b:=y6y hlib hs' z (by omega)
  rw [y1l o] at a b
  exact ⟨⟨a,b⟩,(hs'.sub z).mono (by omega)⟩
 have kl:r.lo≠[]→(Fn E O1 [Sq s,.c (.str (B r.lo))] (.c (.i64 (cmpQ s (rdv r.lo))))∧Fn E Z6 [Sq s,.c (.str (B r.lo))] (Sq (s-rdv r.lo)))∧Sz (s-rdv r.lo) 1000100:=fun e=>by
  have o:=k2u hr.lo e
  have z:=z3d o hr.s.2.2.1
  have a:=y4z hlib hs' z (by omega)
  have b:=y6y hlib hs' z (by omega)
  rw [y1l o] at a b
  exact ⟨⟨a,b⟩,(hs'.sub z).mono (by omega)⟩
 unfold exS
 by_cases c1:r.hi=[]
 · rw [if_neg fun h=>h.1 c1]
   by_cases c2:r.lo=[]
   · rw [if_neg fun h=>h.1 c2,← z0];exact ⟨q0u (G6.2 c1) (G6.2 c2),Sz.zero.mono (by omega)⟩
   · have k:=kl c2
     by_cases c3:cmpQ s (rdv r.lo)<0
     · rw [if_pos ⟨c2,c3⟩];exact ⟨q0s (G6.2 c1) (fun h=>c2 (G6.1 h)) k.1.1 c3 k.1.2,k.2⟩
     · rw [if_neg fun h=>c3 h.2,← z0];exact ⟨q0t (G6.2 c1) (fun h=>c2 (G6.1 h)) k.1.1 c3,Sz.zero.mono (by omega)⟩
 · have k':=kh c1
   by_cases c0:cmpQ s (rdv r.hi)>0
   · rw [if_pos ⟨c1,c0⟩];exact ⟨q0o (fun h=>c1 (G6.1 h)) k'.1.1 c0 k'.1.2,k'.2⟩
   rw [if_neg fun h=>c0 h.2]
   by_cases c2:r.lo=[]
   · rw [if_neg fun h=>h.1 c2,← z0];exact ⟨q0r (fun h=>c1 (G6.1 h)) k'.1.1 c0 (G6.2 c2),Sz.zero.mono (by omega)⟩
   · have k:=kl c2
     by_cases c3:cmpQ s (rdv r.lo)<0
     · rw [if_pos ⟨c2,c3⟩];exact ⟨q0p (fun h=>c1 (G6.1 h)) k'.1.1 c0 (fun h=>c2 (G6.1 h)) k.1.1 c3 k.1.2,k.2⟩
     · rw [if_neg fun h=>c3 h.2,← z0];exact ⟨q0q (fun h=>c1 (G6.1 h)) k'.1.1 c0 (fun h=>c2 (G6.1 h)) k.1.1 c3,Sz.zero.mono (by omega)⟩
noncomputable def smE (ps:List Pc) (hs:List Hd) (rs:List Ru) (rule:Int) (l:List Sw):Int :=
 if rgtB ps hs rs l=true then (if rule<0∨rule≥rs.length then 7 else if ((rs[rule.toNat]?).map Ru.kd).getD 0=1 then 0 else 10) else 1
def ruAt (rs:List Ru) (rule:Int):Ru:=(rs[rule.toNat]?).getD ⟨[],0,[],[],[],0,0⟩
noncomputable def sumT (ps:List Pc) (hs:List Hd) (rs:List Ru) (rule:Int) (l:List Sw):List UInt8:=if smE ps hs rs rule l=0 then decQ (sumS ps hs (ruAt rs rule).fs l) else []
noncomputable def excT (ps:List Pc) (hs:List Hd) (rs:List Ru) (rule:Int) (l:List Sw):List UInt8:=if smE ps hs rs rule l=0 then decQ (exS (ruAt rs rule) (sumS ps hs (ruAt rs rule).fs l)) else []
theorem w0h {ps:List Pc} {hs:List Hd} {rs:List Ru} {l:List Sw} (h:Sp ps hs rs) (hl:Sl l) (hg:rgtB ps hs rs l=true):chkE ps hs rs=0∧stwC ps hs l=0∧Rg ps hs l:=by
 unfold rgtB at hg
 have:=of_decide_eq_true hg
 exact ⟨this.1,this.2,Rg.of h.sh hl.n this.2⟩
theorem w3x {ps:List Pc} {hs:List Hd} {rs:List Ru} {rule:Int} {l:List Sw} (h:smE ps hs rs rule l=0):rgtB ps hs rs l=true∧¬ rule<0∧¬ rule≥rs.length∧rs[rule.toNat]?=some (ruAt rs rule)∧(ruAt rs rule).kd=1:=by
 unfold smE at h
 cases c0:rgtB ps hs rs l with
 | false=>rw [c0] at h;cases h
 | true =>
  rw [c0,if_pos rfl] at h
  by_cases c1:rule<0∨rule≥rs.length
  · rw [if_pos c1] at h;cases h
  rw [if_neg c1] at h
  obtain ⟨r,hr⟩:=z0o (l:=rs) (i:=rule.toNat) (by omega)
  have e:ruAt rs rule=r:=by unfold ruAt;rw [hr];rfl
  rw [hr] at h
  rw [e]
  by_cases c2:r.kd=1
  · exact ⟨rfl,by omega,by omega,hr,c2⟩
  · rw [show ((if ((some r).map Ru.kd).getD 0=1 then (0:Int) else 10))=10 from if_neg c2] at h;cases h
theorem x4k (hlib:Lib E) (hc:Cs E) {ps:List Pc} {hs:List Hd} {rs:List Ru} {rule:Int} {l:List Sw} (h:Sp ps hs rs) (hl:Sl l) :
    Fn E z0i [.agg (Pb ps hs rs),.c (.i64 rule),.c (.list (Ss l))] (.tup [.c (.str (B (sumT ps hs rs rule l))),.c (.i64 (smE ps hs rs rule l))]):=by
 have hR:=y8y hlib h hl
 have l3:=z5m rs
 by_cases h0:smE ps hs rs rule l=0
 · obtain ⟨g0,g1,g2,g3,g4⟩:=w3x h0
   rw [g0] at hR
   obtain ⟨k1,k2,k3⟩:=w0h h hl g0
   unfold sumT
   rw [if_pos h0,h0]
   exact q1m hR g1 (by omega) (by omega) (z7c g3) g4 (x3e hlib hc k3 k2 hl (Rr.of h k1 g3 g4)).1
 · unfold sumT
   rw [if_neg h0]
   unfold smE at h0 ⊢
   cases c0:rgtB ps hs rs l with
   | false=>rw [c0] at hR;rw [if_neg (by simp)];exact q1n hR
   | true =>
    rw [c0] at hR
    rw [c0,if_pos rfl] at h0
    rw [if_pos rfl]
    by_cases c1:rule<0
    · rw [if_pos (.inl c1)];exact q1j hR c1
    by_cases c2:rule≥rs.length
    · rw [if_pos (.inr c2)];exact q1k hR c1 (by omega)
    rw [if_neg fun h=>h.elim c1 c2] at h0 ⊢
    obtain ⟨r,hr⟩:=z0o (l:=rs) (i:=rule.toNat) (by omega)
    rw [hr] at h0 ⊢
    by_cases c3:r.kd=1
    · exact absurd (if_pos c3) h0
    · rw [show ((if ((some r).map Ru.kd).getD 0=1 then (0:Int) else 10))=10 from if_neg c3]
      exact q1l hR c1 (by omega) (by omega) (z7c hr) c3
theorem v0x (hlib:Lib E) (hc:Cs E) {ps:List Pc} {hs:List Hd} {rs:List Ru} {rule:Int} {l:List Sw} (h:Sp ps hs rs) (hl:Sl l) :
    Fn E x4r [.agg (Pb ps hs rs),.c (.i64 rule),.c (.list (Ss l))] (.tup [.c (.str (B (sumT ps hs rs rule l))),.c (.i64 (smE ps hs rs rule l))]):=v4u (x4k hlib hc h hl)
theorem j6s (hlib:Lib E) (hc:Cs E) {ps:List Pc} {hs:List Hd} {rs:List Ru} {rule:Int} {l:List Sw} (h:Sp ps hs rs) (hl:Sl l) :
    Fn E y2l [.agg (Pb ps hs rs),.c (.i64 rule),.c (.list (Ss l))] (.tup [.c (.str (B (excT ps hs rs rule l))),.c (.i64 (smE ps hs rs rule l))]):=by
 have hS:=x4k hlib hc (rule:=rule) h hl
 unfold excT
 by_cases h0:smE ps hs rs rule l=0
 · obtain ⟨g0,g1,g2,g3,g4⟩:=w3x h0
   obtain ⟨k1,k2,k3⟩:=w0h h hl g0
   have hr:=Rr.of h k1 g3 g4
   unfold sumT at hS
   rw [if_pos h0,h0] at hS
   rw [if_pos h0,h0]
   exact q0l hS rfl (by omega) (z7c g3) (x4j hlib hr (x3e hlib hc (rs:=[]) k3 k2 hl hr).2).1
 · rw [if_neg h0];exact q0k hS h0
def y5e (ps:List Pc) (id:Int):Int:=(pcAt ps id).cl
theorem y3c {ps:List Pc} {hs rs:RW} {id:Int} (hn:ps.length≤1000) (h:¬ ixP ps id<0):Fn E z3b [.agg [.list (Ps ps),.list hs,.list rs],.c (.i64 id)] (.c (.i64 (y5e ps id))):=by
 have t:=(j0x (E:=E) (c0_0:=id) (l:=ps) (fun p=>p.id == id) (by omega) fun a _=>by
  by_cases e:a.id=id
  · rw [show (a.id == id)=true by simp [e]];exact j7a e
  · rw [show (a.id == id)=false by simp [e]];exact j7b e).sub [1] (by decide) rfl (objs:=[some (.cells [.c (.list (Ps ps)),.c (.list hs),.c (.list rs)]),some (.cells [.c (.i64 id)])]) (by intro i hi;match i,hi with | 0,_=>rfl) (by simp [Ob.plain]) rfl rfl
 have g:=X5 (y6e h)
 exact q4s t (by unfold ixP at h;omega) g
def aptB (ps:List Pc) (r:Ru) (l:List Sw):Bool:=l.any fun a=>l.any fun b=>a.ho == b.ho && (y5e ps a.pa == r.a && y5e ps b.pa == r.b)
def nevB (ps:List Pc) (r:Ru) (l:List Sw):Bool:=l.any fun s=>s.ho == r.b && y5e ps s.pa == r.a
def whoB (ps:List Pc) (r:Ru) (l:List Sw):Bool:=decide ((pcAt ps r.a).un-unS l r.a>0)
theorem w0p {α:Type} {l:List α} {p:α→Bool} (h:∀ j a,0≤j→l[j]?=some a→p a=false):l.any p=false:=by
 rw [List.any_eq_false];intro a ha
 obtain ⟨j,hj⟩:=List.mem_iff_getElem?.1 ha
 rw [h j a (Nat.zero_le _) hj];simp
theorem w0q {α:Type} {l:List α} {p:α→Bool} {j:Nat} {a:α} (h:l[j]?=some a) (hp:p a=true):l.any p=true:=List.any_eq_true.2 ⟨a,List.mem_of_getElem? h,hp⟩
theorem q0m {ps:List Pc} {hs:List Hd} {rs:RW} {r:Ru} {l:List Sw} (h:Rg ps hs l):Fn E C9 [.agg [.list (Ps ps),.list (Hs hs),.list rs],.agg r.d,.c (.list (Ss l))] (.c (.bool (aptB ps r l))):=by
 have n1:=h.sh.np
 have hln:=h.ln
 have hq:=k1t l
 have inner:∀ (i:Nat) (a:Sw),l[i]?=some a →
     ((l.any fun b=>a.ho == b.ho && (y5e ps a.pa == r.a && y5e ps b.pa == r.b))=false∧Lp E 3 C9 1 (K3 (Ss l) (Ss l) ((Ss l).length:Int) (i:Nat) (Ss l) ((Ss l).length:Int) 0 (Ps ps) (Hs hs) rs (B r.nm) r.kd (R1 r.fs) (B r.lo) (B r.hi) r.a r.b a.ho a.pa a.un) (.exit 2) (z9n (Ss l) (Ss l) ((Ss l).length:Int) (i:Nat) (Ps ps) (Hs hs) rs (B r.nm) r.kd (R1 r.fs) (B r.lo) (B r.hi) r.a r.b a.ho a.pa a.un)) ∨
     ((l.any fun b=>a.ho == b.ho && (y5e ps a.pa == r.a && y5e ps b.pa == r.b))=true∧Lp E 3 C9 1 (K3 (Ss l) (Ss l) ((Ss l).length:Int) (i:Nat) (Ss l) ((Ss l).length:Int) 0 (Ps ps) (Hs hs) rs (B r.nm) r.kd (R1 r.fs) (B r.lo) (B r.hi) r.a r.b a.ho a.pa a.un) .ret (z9m (Ps ps) (Hs hs) rs (B r.nm) r.kd (R1 r.fs) (B r.lo) (B r.hi) r.a r.b a.ho a.pa a.un)):=fun i a ha=>by
  have ka:=y3c (E:=E) (hs:=Hs hs) (rs:=rs) (by omega) (h.st a (List.mem_of_getElem? ha)).1
  have:=J1 (E:=E) (l:=l) (n:=3) (F:=C9) (k:=1) (fun _ b=>a.ho == b.ho && (y5e ps a.pa == r.a && y5e ps b.pa == r.b)) (fun j=>K3 (Ss l) (Ss l) ((Ss l).length:Int) (i:Nat) (Ss l) ((Ss l).length:Int) (j:Nat) (Ps ps) (Hs hs) rs (B r.nm) r.kd (R1 r.fs) (B r.lo) (B r.hi) r.a r.b a.ho a.pa a.un)
   (oe:=.exit 2) (fin:=z9n (Ss l) (Ss l) ((Ss l).length:Int) (i:Nat) (Ps ps) (Hs hs) rs (B r.nm) r.kd (R1 r.fs) (B r.lo) (B r.hi) r.a r.b a.ho a.pa a.un) (fun _ _ o s=>o=.ret∧s=z9m (Ps ps) (Hs hs) rs (B r.nm) r.kd (R1 r.fs) (B r.lo) (B r.hi) r.a r.b a.ho a.pa a.un) (k1j (by omega))
   (fun j b hb hf o s ih=>by
    have hj:=C1 hb
    have kb:=y3c (E:=E) (hs:=Hs hs) (rs:=rs) (by omega) (h.st b (List.mem_of_getElem? hb)).1
    by_cases c1:a.ho=b.ho
    · by_cases c2:y5e ps a.pa=r.a
      · by_cases c3:y5e ps b.pa=r.b
        · exfalso;simp [c1,c2,c3] at hf
        · exact k9k (by omega) (by omega) (A5 (z8n hb)) c1 ka c2 kb c3 (wi (by omega)) ih
      · exact k9l (by omega) (by omega) (A5 (z8n hb)) c1 ka c2 (wi (by omega)) ih
    · exact k9m (by omega) (by omega) (A5 (z8n hb)) c1 (wi (by omega)) ih)
   (fun j b hb hf=>by
    have hj:=C1 hb
    have kb:=y3c (E:=E) (hs:=Hs hs) (rs:=rs) (by omega) (h.st b (List.mem_of_getElem? hb)).1
    simp only [Bool.and_eq_true,beq_iff_eq] at hf
    exact ⟨_,_,⟨rfl,rfl⟩,k1i (by omega) (by omega) (A5 (z8n hb)) hf.1 ka hf.2.1 kb hf.2.2⟩) l.length 0 (by omega)
  rcases this with ⟨h1,h2⟩ | ⟨j,b,o,s,h1,h2,h3,h4,⟨rfl,rfl⟩,h5⟩
  · exact .inl ⟨w0p h1,h2⟩
  · exact .inr ⟨w0q h2 h3,h5⟩
 have:=J1 (E:=E) (l:=l) (n:=2) (F:=C9) (k:=0) (fun _ a=>l.any fun b=>a.ho == b.ho && (y5e ps a.pa == r.a && y5e ps b.pa == r.b)) (fun j=>z1u (Ss l) (Ss l) ((Ss l).length:Int) (j:Nat) (Ps ps) (Hs hs) rs (B r.nm) r.kd (R1 r.fs) (B r.lo) (B r.hi) r.a r.b)
     (oe:=.exit 0) (fin:=y4y (Ps ps) (Hs hs) rs (B r.nm) r.kd (R1 r.fs) (B r.lo) (B r.hi) r.a r.b) (fun _ _ o s=>o=.ret∧s=y4x (Ps ps) (Hs hs) rs (B r.nm) r.kd (R1 r.fs) (B r.lo) (B r.hi) r.a r.b) (k1h (by omega))
     (fun i a ha hf o s ih=>by
      have hi:=C1 ha
      rcases inner i a ha with ⟨h1,h2⟩ | ⟨h1,h2⟩
      · exact k9j (by omega) (by omega) (A5 (z8n ha)) h2 (wi (by omega)) ih
      · exact absurd (h1.symm.trans hf) (by simp))
     (fun i a ha hf=>by
      have hi:=C1 ha
      rcases inner i a ha with ⟨h1,h2⟩ | ⟨h1,h2⟩
      · exact absurd (h1.symm.trans hf) (by simp)
      · exact ⟨_,_,⟨rfl,rfl⟩,k1g (by omega) (by omega) (A5 (z8n ha)) h2⟩) l.length 0 (by omega)
 unfold aptB
 rcases this with ⟨h1,h2⟩ | ⟨j,b,o,s,h1,h2,h3,h4,⟨rfl,rfl⟩,h5⟩
 · rw [w0p h1];exact q4r h2
 · rw [w0q h2 h3];exact q4q h5
theorem q1g {ps:List Pc} {hs:List Hd} {rs:RW} {r:Ru} {l:List Sw} (h:Rg ps hs l):Fn E z5p [.agg [.list (Ps ps),.list (Hs hs),.list rs],.agg r.d,.c (.list (Ss l))] (.c (.bool (nevB ps r l))):=by
 have n1:=h.sh.np
 have hln:=h.ln
 have t:=j0n (E:=E) (c0_0:=B r.nm) (c0_1:=r.kd) (c0_2:=R1 r.fs) (c0_3:=B r.lo) (c0_4:=B r.hi) (c0_5:=r.a) (c0_6:=r.b) (c1_0:=Ps ps) (c1_1:=Hs hs) (c1_2:=rs) (l:=l) (fun s=>s.ho == r.b && y5e ps s.pa == r.a) (by omega) fun a ha=>by
  have ka:=y3c (E:=E) (hs:=Hs hs) (rs:=rs) (by omega) (h.st a ha).1
  by_cases c1:a.ho=r.b
  · by_cases c2:y5e ps a.pa=r.a
    · rw [show (a.ho == r.b && y5e ps a.pa == r.a)=true by simp [c1,c2]];exact j7f c1 ka c2
    · rw [show (a.ho == r.b && y5e ps a.pa == r.a)=false by simp [c2]];exact j7g c1 ka c2
  · rw [show (a.ho == r.b && y5e ps a.pa == r.a)=false by simp [c1]];exact j7h c1
 exact q5f (t.swap rfl rfl rfl rfl)
theorem q1o {ps:List Pc} {hs:List Hd} {rs:RW} {r:Ru} {l:List Sw} (h:Rg ps hs l) (hr:¬ ixP ps r.a<0):Fn E K7 [.agg [.list (Ps ps),.list (Hs hs),.list rs],.agg r.d,.c (.list (Ss l))] (.c (.bool (whoB ps r l))):=by
 have n1:=h.sh.np
 have hln:=h.ln
 have hq:=k1t l
 have t:=(j1d (E:=E) (c0_0:=B r.nm) (c0_1:=r.kd) (c0_2:=R1 r.fs) (c0_3:=B r.lo) (c0_4:=B r.hi) (c0_5:=r.a) (c0_6:=r.b) (l:=ps) (fun p=>p.id == r.a) (by omega) fun a _=>by
  by_cases e:a.id=r.a
  · rw [show (a.id == r.a)=true by simp [e]];exact j7r e
  · rw [show (a.id == r.a)=false by simp [e]];exact j7s e).sub [1] (by decide) rfl (objs:=[some (.cells [.c (.list (Ps ps)),.c (.list (Hs hs)),.c (.list rs)]),some (.cells [.c (.str (B r.nm)),.c (.i64 r.kd),.c (.list (R1 r.fs)),.c (.str (B r.lo)),.c (.str (B r.hi)),.c (.i64 r.a),.c (.i64 r.b)])]) (by intro i hi;match i,hi with | 0,_=>rfl) (by simp [Ob.plain]) rfl rfl
 have g:=X5 (y6e hr)
 have hun:=j8b h.ok (List.mem_of_getElem? (y6e hr))
 have h2:=G5 (E:=E) (l:=l) (n:=2) (F:=K7) (k:=0) (fun (b:Int) a=>b-if a.pa=r.a then a.un else 0) (fun i b=>-9*i≤b∧b≤9)
  (fun i b=>z1v b (Ss l) ((Ss l).length:Int) (i:Nat) (Ps ps) (Hs hs) rs (B r.nm) r.kd (R1 r.fs) (B r.lo) (B r.hi) r.a r.b) (oe:=.exit 0) (fin:=fun b=>y5a (Ps ps) (Hs hs) rs (B r.nm) r.kd (R1 r.fs) (B r.lo) (B r.hi) r.a r.b b) (fun b hb=>k1k (by omega))
  (fun i a b ha hb=>by
   have hi:=C1 ha
   have hu:=h.st a (List.mem_of_getElem? ha)
   by_cases e:a.pa=r.a
   · rw [if_pos e]
     exact ⟨by omega,fun o s ih=>k9p (by omega) (by omega) (A5 (z8n ha)) e (wi (by omega)) (wi (by omega)) ih⟩
   · rw [if_neg e]
     exact ⟨by omega,fun o s ih=>by
      rw [Int.sub_zero] at ih
      exact k9q (by omega) (by omega) (A5 (z8n ha)) e (wi (by omega)) ih⟩)
  l.length 0 (pcAt ps r.a).un (by omega) ⟨by omega,by omega⟩
 have e:∀ (l:List Sw) b,l.foldl (fun (b:Int) a=>b-if a.pa=r.a then a.un else 0) b=b-unS l r.a:=by
  intro l
  induction l with
  | nil=>intro b;show b=b-0;omega
  | cons a l ih=>intro b;rw [List.foldl_cons,ih];unfold unS;rw [List.map_cons,List.sum_cons];omega
 rw [List.drop_zero,e] at h2
 unfold whoB
 by_cases c:(pcAt ps r.a).un-unS l r.a>0
 · rw [decide_eq_true c];exact q5v t (by unfold ixP at hr;omega) g h2.2 c
 · rw [decide_eq_false c];exact q5w t (by unfold ixP at hr;omega) g h2.2 c
theorem q5t (hlib:Lib E) {a:Rat} {K:Nat} (ha:Sz a K) (h:K+1≤Lim):Fn E x2j [Sq a] (.c (.i64 (cmpQ a 0))):=by
 have:=y4z hlib ha Sz.zero h
 rw [← x5q] at this
 exact v0z this
noncomputable def sumB (ps:List Pc) (hs:List Hd) (r:Ru) (l:List Sw):Bool:=decide (cmpQ (exS r (sumS ps hs r.fs l)) 0≠0)
noncomputable def brk (ps:List Pc) (hs:List Hd) (r:Ru) (l:List Sw):Bool:=if r.kd=1 then sumB ps hs r l else if r.kd=2 then aptB ps r l else if r.kd=3 then nevB ps r l else whoB ps r l
theorem q5u (hlib:Lib E) (hc:Cs E) {ps:List Pc} {hs:List Hd} {r:Ru} {rs:RW} {l:List Sw} (h:Rg ps hs l)(h0:stwC ps hs l=0) (hl:Sl l) (hr:Rr ps hs r) :
    Fn E z0d [.agg [.list (Ps ps),.list (Hs hs),.list rs],.agg r.d,.c (.list (Ss l))] (.c (.bool (sumB ps hs r l))):=by
 have hL:=x1g
 obtain ⟨s1,s2⟩:=x3e hlib hc (rs:=rs) h h0 hl hr
 obtain ⟨e1,e2⟩:=x4j hlib hr s2
 have k:=q5t hlib e2 (by omega)
 unfold sumB
 by_cases c:cmpQ (exS r (sumS ps hs r.fs l)) 0=0
 · rw [decide_eq_false (fun h=>h c)];exact j2q s1 e1 k c
 · rw [decide_eq_true c];exact j2p s1 e1 k c
def I1 (l:List Int):RW:=l.map fun i=>[.i64 i]
theorem q6k (l:List Int):(I1 l).length=l.length:=by simp [I1]
noncomputable def brF (ps:List Pc) (hs:List Hd) (l:List Sw) (b:List Int) (x:Ru × Nat):List Int:=if brk ps hs x.1 l=true then b++[(x.2:Int)] else b
noncomputable def brI (ps:List Pc) (hs:List Hd) (rs:List Ru) (l:List Sw):List Int:=rs.zipIdx.foldl (brF ps hs l) []
theorem y5b {α:Type} {a:List α} {i:Nat} {x:α × Nat} (h:a.zipIdx[i]?=some x):a[i]?=some x.1∧x.2=i:=by
 rw [List.getElem?_zipIdx] at h
 obtain ⟨y,h1,h2⟩:=Option.map_eq_some_iff.1 h
 rw [← h2];exact ⟨h1,by simp⟩
theorem fO_kd4 {ps:List Pc} {hs:List Hd} {r:Ru} (h:fO ps hs r=0)(h2:r.kd≠2)(h3:r.kd≠3):¬ ixP ps r.a<0:=by
 unfold fO at h
 rw [if_neg h2,if_neg h3] at h
 by_cases c:r.b=0
 · rw [if_pos c] at h
   by_cases c2:(ps.any fun p=>p.id == r.a)=true
   · intro e
     have:=z5n.1 e
     rw [this] at c2;cases c2
   · rw [if_neg c2] at h;cases h
 · rw [if_neg c] at h;cases h
theorem k9n (hlib:Lib E) (hc:Cs E) {ps:List Pc} {hs:List Hd} {rs:List Ru} {l:List Sw} (h:Sp ps hs rs) (hl:Sl l) (hg:rgtB ps hs rs l=true) :
    Lp E 2 D0 0 (F0 (Ss l) 0 (Rs rs) ((Rs rs).length:Int) 0 (Ps ps) (Hs hs) (Rs rs) []) (.exit 0) (z6y (Ps ps) (Hs hs) (Rs rs) (brI ps hs rs l).length (I1 (brI ps hs rs l))):=by
 obtain ⟨k1,k2,k3⟩:=w0h h hl hg
 have l3:=z5m rs
 have n3:=h.nr
 have hz:rs.zipIdx.length=rs.length:=by simp
 have happ:∀ (b:List Int) (i:Int),(I1 b).take b.length++[[DV.i64 i]]=I1 (b++[i]):=fun b i=>by
  rw [show b.length=(I1 b).length from (q6k b).symm,List.take_length];unfold I1;rw [List.map_append];rfl
 have:=G5 (E:=E) (l:=rs.zipIdx) (n:=2) (F:=D0) (k:=0) (brF ps hs l) (fun i b=>b.length≤i)
  (fun i b=>F0 (Ss l) b.length (Rs rs) ((Rs rs).length:Int) (i:Nat) (Ps ps) (Hs hs) (Rs rs) (I1 b)) (oe:=.exit 0) (fin:=fun b=>z6y (Ps ps) (Hs hs) (Rs rs) b.length (I1 b)) (fun b hb=>x8u (by omega))
  (fun i x b hx hb=>by
   have hi:=C1 hx
   obtain ⟨g1,g2⟩:=y5b hx
   have g:=z7c g1
   have hz:=k5q (x5r k1).2.2 i x.1 g1
   rw [Nat.zero_add] at hz
   have hf:=v7t hz
   have b1:(i:Int)<((Rs rs).length:Int):=by omega
   have b2:(0:Int)≤(i:Nat):=by omega
   have hsz:(b.length+1)*8≤140737488355328∧b.length+1≤140737488355328:=by omega
   have hl1:∀ j:Int,b.length+1=(b++[j]).length:=fun j=>by simp
   unfold brF
   rw [g2]
   refine ⟨?_,fun o s ih=>?_⟩
   · split
     · rw [List.length_append];exact Nat.succ_le_succ hb
     · exact Nat.le_succ_of_le hb
   by_cases d1:x.1.kd=1
   · have hd:x.1.d=[.str (B x.1.nm),.i64 1,.list (R1 x.1.fs),.str (B x.1.lo),.str (B x.1.hi),.i64 x.1.a,.i64 x.1.b]:=by unfold Ru.d;rw [d1]
     have c:=q5u hlib hc (rs:=Rs rs) k3 k2 hl (Rr.of h k1 g1 d1)
     rw [hd] at g c
     have e:brk ps hs x.1 l=sumB ps hs x.1 l:=by unfold brk;rw [if_pos d1]
     rw [e] at ih
     cases c1:sumB ps hs x.1 l with
     | true=>rw [c1] at c ih;rw [if_pos rfl] at ih;exact k4w b1 b2 (A5 g) c hsz (happ b _) (hl1 _) (wi (by omega)) ih
     | false=>rw [c1] at c ih;rw [if_neg (by simp)] at ih;exact k4x b1 b2 (A5 g) c (wi (by omega)) ih
   by_cases d2:x.1.kd=2
   · have hd:x.1.d=[.str (B x.1.nm),.i64 2,.list (R1 x.1.fs),.str (B x.1.lo),.str (B x.1.hi),.i64 x.1.a,.i64 x.1.b]:=by unfold Ru.d;rw [d2]
     have c:=q0m (E:=E) (r:=x.1) (rs:=Rs rs) k3
     rw [hd] at g c
     have e:brk ps hs x.1 l=aptB ps x.1 l:=by unfold brk;rw [if_neg d1,if_pos d2]
     rw [e] at ih
     cases c1:aptB ps x.1 l with
     | true=>rw [c1] at c ih;rw [if_pos rfl] at ih;exact k4y b1 b2 (A5 g) c hsz (happ b _) (hl1 _) (wi (by omega)) ih
     | false=>rw [c1] at c ih;rw [if_neg (by simp)] at ih;exact k4z b1 b2 (A5 g) c (wi (by omega)) ih
   by_cases d3:x.1.kd=3
   · have hd:x.1.d=[.str (B x.1.nm),.i64 3,.list (R1 x.1.fs),.str (B x.1.lo),.str (B x.1.hi),.i64 x.1.a,.i64 x.1.b]:=by unfold Ru.d;rw [d3]
     have c:=q1g (E:=E) (r:=x.1) (rs:=Rs rs) k3
     rw [hd] at g c
     have e:brk ps hs x.1 l=nevB ps x.1 l:=by unfold brk;rw [if_neg d1,if_neg d2,if_pos d3]
     rw [e] at ih
     cases c1:nevB ps x.1 l with
     | true=>rw [c1] at c ih;rw [if_pos rfl] at ih;exact k5a b1 b2 (A5 g) c hsz (happ b _) (hl1 _) (wi (by omega)) ih
     | false=>rw [c1] at c ih;rw [if_neg (by simp)] at ih;exact k5b b1 b2 (A5 g) c (wi (by omega)) ih
   · have d4:x.1.kd=4:=by omega
     have hd:x.1.d=[.str (B x.1.nm),.i64 4,.list (R1 x.1.fs),.str (B x.1.lo),.str (B x.1.hi),.i64 x.1.a,.i64 x.1.b]:=by unfold Ru.d;rw [d4]
     have c:=q1o (E:=E) (r:=x.1) (rs:=Rs rs) k3 (fO_kd4 (hf.2.2.2.1 d1) d2 d3)
     rw [hd] at g c
     have e:brk ps hs x.1 l=whoB ps x.1 l:=by unfold brk;rw [if_neg d1,if_neg d2,if_neg d3]
     rw [e] at ih
     cases c1:whoB ps x.1 l with
     | true=>rw [c1] at c ih;rw [if_pos rfl] at ih;exact k5c b1 b2 (A5 g) c hsz (happ b _) (hl1 _) (wi (by omega)) ih
     | false=>rw [c1] at c ih;rw [if_neg (by simp)] at ih;exact k5d b1 b2 (A5 g) c (wi (by omega)) ih)
  rs.zipIdx.length 0 [] (by omega) (Nat.le_refl _)
 rw [List.drop_zero] at this
 exact this.2
theorem x4h (hlib:Lib E) (hc:Cs E) {ps:List Pc} {hs:List Hd} {rs:List Ru} {l:List Sw} (h:Sp ps hs rs) (hl:Sl l) (hg:rgtB ps hs rs l=true) :
    Fn E D0 [.agg (Pb ps hs rs),.c (.list (Ss l))] (.c (.list (I1 (brI ps hs rs l)))) :=
 q0n (k9n hlib hc h hl hg) (by rw [show (brI ps hs rs l).length=(I1 (brI ps hs rs l)).length from (q6k _).symm];exact List.take_length)
noncomputable def brR (ps:List Pc) (hs:List Hd) (rs:List Ru) (l:List Sw):List Int:=if rgtB ps hs rs l=true then brI ps hs rs l else []
noncomputable def brE (ps:List Pc) (hs:List Hd) (rs:List Ru) (l:List Sw):Int:=if rgtB ps hs rs l=true then 0 else 1
noncomputable def kpB (ps:List Pc) (hs:List Hd) (rs:List Ru) (l:List Sw):Bool:=rgtB ps hs rs l && ((brI ps hs rs l).isEmpty && !hs.any (ovH ps hs l))
theorem j6r (hlib:Lib E) (hc:Cs E) {ps:List Pc} {hs:List Hd} {rs:List Ru} {l:List Sw} (h:Sp ps hs rs) (hl:Sl l) :
    Fn E z7b [.agg (Pb ps hs rs),.c (.list (Ss l))] (.tup [.c (.list (I1 (brR ps hs rs l))),.c (.i64 (brE ps hs rs l))]):=by
 have hR:=y8y hlib h hl
 unfold brR brE
 cases c0:rgtB ps hs rs l with
 | false=>rw [c0] at hR;rw [if_neg (by simp),if_neg (by simp)];exact q0g hR
 | true=>rw [c0] at hR;rw [if_pos rfl,if_pos rfl];exact q0f hR (x4h hlib hc h hl c0)
theorem x7b (hlib:Lib E) (hc:Cs E) {ps:List Pc} {hs:List Hd} {rs:List Ru} {l:List Sw} (h:Sp ps hs rs) (hl:Sl l) :
    Fn E z3a [.agg (Pb ps hs rs),.c (.list (Ss l))] (.c (.bool (kpB ps hs rs l))):=by
 have hR:=y8y hlib h hl
 unfold kpB
 cases c0:rgtB ps hs rs l with
 | false=>rw [c0] at hR;exact q4l hR
 | true =>
  rw [c0] at hR
  obtain ⟨k1,k2,k3⟩:=w0h h hl c0
  have hB:=x4h hlib hc h hl c0
  have hO:=k6x hlib hc h.sh hl.n hl.u
  rw [if_pos k2] at hO
  have hlen:=q6k (brI ps hs rs l)
  cases hb:brI ps hs rs l with
  | cons a b=>rw [hb] at hB hlen;exact q4i hR hB (by rw [hlen,List.length_cons];omega)
  | nil =>
   rw [hb] at hB hlen
   cases ho:hs.any (ovH ps hs l) with
   | true=>exact q4k hR hB (by rw [hlen];simp) hO (fun e=>by rw [z5n.1 e] at ho;cases ho)
   | false=>exact q4j hR hB (by rw [hlen];simp) hO (z5n.2 ho)
theorem w9y (a:Rat):cmpQ a 0=cmpI a.num 0:=by
 unfold cmpQ
 rw [show (0:Rat).num=0 from rfl,show (0:Rat).den=1 from rfl,Int.zero_mul]
 simp
theorem k3z (a:Rat):Fn E X3 [.agg (Qr a)] (.c (.i64 (cmpQ a 0))):=by rw [w9y];exact v8o a
theorem x8e {x:List UInt8} (h:x.length≤40):Fn E V3 [.c (.str (B x))] (.agg (Qr (rdv x))):=q6f (by have:=x2k;omega)
theorem X6 {x:List UInt8} (h:x.length≤40):Fn E F8 [.c (.str (B x))] (.c (.bool (ok1 x))):=u1w (by have:=x2k;omega)
theorem j4i {a:Int} {b:Bool} (h:decide (1≤a∧a≤1073741824)=b):Fn E z5t [.c (.i64 a)] (.c (.bool b)):=by
 subst h
 by_cases h1:a≥1
 · by_cases h2:a≤1073741824
   · rw [decide_eq_true ⟨h1,h2⟩];exact v9u h1 h2
   · rw [decide_eq_false fun h=>h2 h.2];exact v9v h1 h2
 · rw [decide_eq_false fun h=>h1 h.1];exact v9w h1
theorem k5x {s:List UInt8} {b:Bool} (h:nmB s=b):Fn E z0t [.c (.str (B s))] (.c (.bool b)):=by
 subst h
 unfold nmB
 have hs:=U4 s
 by_cases h1:1≤s.length
 · by_cases h2:s.length≤64
   · rw [decide_eq_true ⟨h1,h2⟩];exact v3y (by omega) (by omega)
   · rw [decide_eq_false fun h=>h2 h.2];exact v3z (by omega) (by omega)
 · rw [decide_eq_false fun h=>h1 h.1];exact v4a (by omega)
theorem w5j {ps:List Pc} {hs:RW} {id:Int} (hl:ps.length≤1000):Fn E X7 [.agg [.list (Ps ps),.list hs],.c (.i64 id)] (.c (.i64 (ixP ps id))):=by
 have hq:=z0z ps
 have h:=J1 (E:=E) (l:=ps) (fun _ p=>p.id == id) (fun i=>z3f id (i:Nat) (Ps ps) hs) (fun j _ o s=>o=.ret∧s=y6m (Ps ps) hs (j:Nat)) (k4o (by omega))
  (fun i a ha hb o s ih=>by
   have hi:=C1 ha
   exact j2c (by omega) (by omega) (A5 (X5 ha)) (by simpa using hb) (wi (by omega)) ih)
  (fun i a ha hb=>by
   have hi:=C1 ha
   exact ⟨_,_,⟨rfl,rfl⟩,k4n (by omega) (by omega) (A5 (X5 ha)) (by simpa using hb)⟩) ps.length 0 (by omega)
 unfold ixP
 rcases h with ⟨h1,h2⟩ | ⟨j,a,o,s,h1,h2,h3,h4,⟨rfl,rfl⟩,h5⟩
 · rw [z8r fun j a hj h=>h1 j a hj h];exact q9p h2
 · rw [z8s (p:=fun p:Pc=>p.id == id) h2 h3 fun j a hj hk h=>h4 j a hj hk h];exact q9o h5
theorem u1x {hs:List Hd} {ps:RW} {id:Int} (hl:hs.length≤1000):Fn E z2b [.agg [.list ps,.list (Hs hs)],.c (.i64 id)] (.c (.i64 (ixH hs id))):=by
 have hq:=Z7 hs
 have h:=J1 (E:=E) (l:=hs) (fun _ p=>p.id == id) (fun i=>z6l id (i:Nat) ps (Hs hs)) (fun j _ o s=>o=.ret∧s=x0o ps (Hs hs) (j:Nat)) (j2b (by omega))
  (fun i a ha hb o s ih=>by
   have hi:=C1 ha
   exact j9r (by omega) (by omega) (A5 (z1m ha)) (by simpa using hb) (wi (by omega)) ih)
  (fun i a ha hb=>by
   have hi:=C1 ha
   exact ⟨_,_,⟨rfl,rfl⟩,j2a (by omega) (by omega) (A5 (z1m ha)) (by simpa using hb)⟩) hs.length 0 (by omega)
 unfold ixH
 rcases h with ⟨h1,h2⟩ | ⟨j,a,o,s,h1,h2,h3,h4,⟨rfl,rfl⟩,h5⟩
 · rw [z8r fun j a hj h=>h1 j a hj h];exact v9t h2
 · rw [z8s (p:=fun p:Hd=>p.id == id) h2 h3 fun j a hj hk h=>h4 j a hj hk h];exact v9s h5
theorem w2k {ps:List Pc} {hs:List Hd} (h:Sh ps hs):Fn E D9 [.agg [.list (Ps ps),.list (Hs hs)]] (.c (.bool (decide (ps.all okP=true∧hs.all okH=true)))):=by
 have l1:=z0z ps
 have l2:=Z7 hs
 have n1:=h.np
 have n2:=h.nh
 have t0:=J1 (E:=E) (l:=ps) (fun _ a=>!okP a) (fun i=>Y9 (i:Nat) (Ps ps) (Hs hs)) (fun _ _ o s=>o=.ret∧s=z4v (Ps ps) (Hs hs)) (k0o (by omega))
  (fun i a ha hb o s ih=>by
   have hi:=C1 ha;have sz:=h.p a (List.mem_of_getElem? ha)
   unfold okP at hb
   simp only [List.all_cons,List.all_nil,Bool.and_true,Bool.not_eq_false',Bool.and_eq_true] at hb
   have v1:=X6 (E:=E) sz.1
   have v2:=X6 (E:=E) sz.2.1
   have v3:=X6 (E:=E) sz.2.2
   rw [hb.1] at v1;rw [hb.2.1] at v2;rw [hb.2.2] at v3
   exact k8n (by omega) (by omega) (A5 (X5 ha)) v1 v2 v3 (wi (by omega)) ih)
  (fun i a ha hb=>by
   have hi:=C1 ha;have sz:=h.p a (List.mem_of_getElem? ha)
   have g:=A5 (X5 ha)
   have b1:(i:Int)<((Ps ps).length:Int):=by omega
   have b2:(0:Int)≤(i:Nat):=by omega
   unfold okP at hb
   have v1:=X6 (E:=E) sz.1
   have v2:=X6 (E:=E) sz.2.1
   have v3:=X6 (E:=E) sz.2.2
   refine ⟨_,_,⟨rfl,rfl⟩,?_⟩
   cases c1:ok1 a.ma with
   | false=>rw [c1] at v1;exact k0n b1 b2 g v1
   | true =>
    rw [c1] at v1
    cases c2:ok1 a.vo with
    | false=>rw [c2] at v2;exact k0m b1 b2 g v1 v2
    | true =>
     rw [c2] at v2
     cases c3:ok1 a.wo with
     | false=>rw [c3] at v3;exact k0l b1 b2 g v1 v2 v3
     | true=>exfalso;simp [c1,c2,c3] at hb) ps.length 0 (by omega)
 have t1:=J1 (E:=E) (l:=hs) (fun _ a=>!okH a) (fun i=>U2 (i:Nat) (Ps ps) (Hs hs)) (fun _ _ o s=>o=.ret∧s=z0e (Ps ps) (Hs hs)) (k0u (by omega))
  (fun i a ha hb o s ih=>by
   have hi:=C1 ha;have sz:=h.h a (List.mem_of_getElem? ha)
   unfold okH at hb
   simp only [List.all_cons,List.all_nil,Bool.and_true,Bool.not_eq_false',Bool.and_eq_true] at hb
   have v1:=X6 (E:=E) sz.1
   have v2:=X6 (E:=E) sz.2.1
   have v3:=X6 (E:=E) sz.2.2.1
   have v4:=X6 (E:=E) sz.2.2.2.1
   have v5:=X6 (E:=E) sz.2.2.2.2
   rw [hb.1] at v1;rw [hb.2.1] at v2;rw [hb.2.2.1] at v3;rw [hb.2.2.2.1] at v4;rw [hb.2.2.2.2] at v5
   exact k8o (by omega) (by omega) (A5 (z1m ha)) v1 v2 v3 v4 v5 (wi (by omega)) ih)
  (fun i a ha hb=>by
   have hi:=C1 ha;have sz:=h.h a (List.mem_of_getElem? ha)
   have g:=A5 (z1m ha)
   have b1:(i:Int)<((Hs hs).length:Int):=by omega
   have b2:(0:Int)≤(i:Nat):=by omega
   unfold okH at hb
   have v1:=X6 (E:=E) sz.1
   have v2:=X6 (E:=E) sz.2.1
   have v3:=X6 (E:=E) sz.2.2.1
   have v4:=X6 (E:=E) sz.2.2.2.1
   have v5:=X6 (E:=E) sz.2.2.2.2
   refine ⟨_,_,⟨rfl,rfl⟩,?_⟩
   cases c1:ok1 a.ro with
   | false=>rw [c1] at v1;exact k0t b1 b2 g v1
   | true =>
   rw [c1] at v1
   cases c2:ok1 a.mo with
   | false=>rw [c2] at v2;exact k0s b1 b2 g v1 v2
   | true =>
   rw [c2] at v2
   cases c3:ok1 a.x with
   | false=>rw [c3] at v3;exact k0r b1 b2 g v1 v2 v3
   | true =>
   rw [c3] at v3
   cases c4:ok1 a.y with
   | false=>rw [c4] at v4;exact k0q b1 b2 g v1 v2 v3 v4
   | true =>
   rw [c4] at v4
   cases c5:ok1 a.z with
   | false=>rw [c5] at v5;exact k0p b1 b2 g v1 v2 v3 v4 v5
   | true=>exfalso;simp [c1,c2,c3,c4,c5] at hb) hs.length 0 (by omega)
 rcases t0 with ⟨h1,h2⟩ | ⟨j,a,o,s,h1,h2,h3,h4,⟨rfl,rfl⟩,h5⟩
 · have a1:ps.all okP=true:=List.all_eq_true.2 fun a ha=>(List.mem_iff_getElem?.1 ha).elim fun j hj=>by simpa using h1 j a (Nat.zero_le _) hj
   rcases t1 with ⟨k1,k2⟩ | ⟨j,a,o,s,k1,k2,k3,k4,⟨rfl,rfl⟩,k5⟩
   · have a2:hs.all okH=true:=List.all_eq_true.2 fun a ha=>(List.mem_iff_getElem?.1 ha).elim fun j hj=>by simpa using k1 j a (Nat.zero_le _) hj
     rw [decide_eq_true ⟨a1,a2⟩];exact q3t h2 k2
   · rw [decide_eq_false fun h=>by { rw [List.all_eq_true.1 h.2 a (List.mem_of_getElem? k2)] at k3;cases k3 }];exact q3s h2 k5
 · rw [decide_eq_false fun h=>by { rw [List.all_eq_true.1 h.1 a (List.mem_of_getElem? h2)] at h3;cases h3 }];exact q3r h5
theorem r47_L0 {ps:List Pc} {hs:RW} (hp:∀ p∈ps,ShP p) (hl:ps.length<1000) :
    (fE (fP ps) 0 ps=0∧Lp E 1 B7 0 (H3 0 (Ps ps) hs) (.exit 0) (y8f (Ps ps) hs)) ∨
    (fE (fP ps) 0 ps≠0∧Lp E 1 B7 0 (H3 0 (Ps ps) hs) .ret (K2 (Ps ps) hs (fE (fP ps) 0 ps))):=by
 have hq:=z0z ps
 refine x5s (E:=E) (l:=ps) (fP ps) (fun i=>H3 (i:Nat) (Ps ps) hs) (G:=fun v=>K2 (Ps ps) hs v) (k8g (by omega)) (fun i a ha=>?_) ps.length 0 (by omega)
 have hi:=C1 ha
 have hm:=List.mem_of_getElem? ha
 have hs1:=hp a hm
 have m1:=x8e (E:=E) hs1.1
 have m2:=x8e (E:=E) hs1.2.1
 have m3:=x8e (E:=E) hs1.2.2
 have s1:=k3z (E:=E) (rdv a.ma)
 have s2:=k3z (E:=E) (rdv a.vo)
 have s3:=k3z (E:=E) (rdv a.wo)
 have g:=A5 (X5 ha)
 have b1:(i:Int)<((Ps ps).length:Int):=by omega
 have b2:(0:Int)≤(i:Int):=by omega
 unfold fP
 by_cases c1:1≤a.id∧a.id≤1073741824
 rotate_left
 · rw [if_neg c1];exact outp (by decide) (k8f b1 b2 g (j4i (decide_eq_false c1)))
 have w1:=j4i (E:=E) (decide_eq_true c1)
 rw [if_pos c1]
 by_cases c2:1≤a.un
 rotate_left
 · rw [if_neg fun h=>c2 h.1];exact outp (by decide) (k7w b1 b2 g w1 (by omega))
 by_cases c2':a.un≤9
 rotate_left
 · rw [if_neg fun h=>c2' h.2];exact outp (by decide) (k7x b1 b2 g w1 (by omega) (by omega))
 rw [if_pos ⟨c2,c2'⟩]
 have u1:¬ a.un<1:=by omega
 have u2:¬ a.un>9:=by omega
 by_cases c3:1≤a.cl
 rotate_left
 · rw [if_neg fun h=>c3 h.1];exact outp (by decide) (k7y b1 b2 g w1 u1 u2 (by omega))
 by_cases c3':a.cl≤9
 rotate_left
 · rw [if_neg fun h=>c3' h.2];exact outp (by decide) (k7z b1 b2 g w1 u1 u2 (by omega) (by omega))
 rw [if_pos ⟨c3,c3'⟩]
 have u3:¬ a.cl<1:=by omega
 have u4:¬ a.cl>9:=by omega
 by_cases c4:cmpQ (rdv a.ma) 0≤0
 · rw [if_pos c4];exact outp (by decide) (k8a b1 b2 g w1 u1 u2 u3 u4 m1 s1 c4)
 rw [if_neg c4]
 by_cases c5:cmpQ (rdv a.vo) 0≤0
 · rw [if_pos c5];exact outp (by decide) (k8b b1 b2 g w1 u1 u2 u3 u4 m1 s1 c4 m2 s2 c5)
 rw [if_neg c5]
 by_cases c6:cmpQ (rdv a.wo) 0<0
 · rw [if_pos c6];exact outp (by decide) (k8c b1 b2 g w1 u1 u2 u3 u4 m1 s1 c4 m2 s2 c5 m3 s3 c6)
 rw [if_neg c6]
 cases c7:nmB a.nm with
 | false=>rw [if_neg (by simp)];exact outp (by decide) (k8e b1 b2 g w1 u1 u2 u3 u4 m1 s1 c4 m2 s2 c5 m3 s3 c6 (k5x c7))
 | true =>
  rw [if_pos rfl]
  have w7:=k5x (E:=E) c7
  by_cases c8:0<i
  · rw [if_pos c8]
    obtain ⟨q,hq'⟩:=z0o (l:=ps) (i:=i-1) (by omega)
    rw [hq']
    show (((if q.id≥a.id then (5:Int) else 0)=0)→_)∧_
    by_cases c9:q.id≥a.id
    · rw [show ((if ((some q).map Pc.id).getD 0≥a.id then (5:Int) else 0))=5 from if_pos c9,if_pos c9];exact outp (by decide) (k8d b1 b2 g w1 u1 u2 u3 u4 m1 s1 c4 m2 s2 c5 m3 s3 c6 w7 (by omega) (by omega) (A5 (X5 hq')) c9 (wi (by omega)))
    · rw [show ((if ((some q).map Pc.id).getD 0≥a.id then (5:Int) else 0))=0 from if_neg c9,if_neg c9];exact inp fun o s ih=>j5c b1 b2 g w1 u1 u2 u3 u4 m1 s1 c4 m2 s2 c5 m3 s3 c6 w7 (by omega) (by omega) (A5 (X5 hq')) c9 (wi (by omega)) (wi (by omega)) ih
  · rw [if_neg c8]
    exact inp fun o s ih=>j5d b1 b2 g w1 u1 u2 u3 u4 m1 s1 c4 m2 s2 c5 m3 s3 c6 w7 (by omega) (wi (by omega)) ih
theorem r47_L1 {hs:List Hd} {ps:RW} (hp:∀ p∈hs,ShH p) (hl:hs.length<1000) :
    (fE (fH hs) 0 hs=0∧Lp E 1 B7 1 (M2 0 ps (Hs hs)) (.exit 2) (y8g ps (Hs hs))) ∨
    (fE (fH hs) 0 hs≠0∧Lp E 1 B7 1 (M2 0 ps (Hs hs)) .ret (z0l ps (Hs hs) (fE (fH hs) 0 hs))):=by
 have hq:=Z7 hs
 refine x5s (E:=E) (l:=hs) (fH hs) (fun i=>M2 (i:Nat) ps (Hs hs)) (G:=fun v=>z0l ps (Hs hs) v) (k8m (by omega)) (fun i a ha=>?_) hs.length 0 (by omega)
 have hi:=C1 ha
 have hm:=List.mem_of_getElem? ha
 have hs1:=hp a hm
 have m1:=x8e (E:=E) hs1.1
 have m2:=x8e (E:=E) hs1.2.1
 have s1:=k3z (E:=E) (rdv a.ro)
 have s2:=k3z (E:=E) (rdv a.mo)
 have g:=A5 (z1m ha)
 have b1:(i:Int)<((Hs hs).length:Int):=by omega
 have b2:(0:Int)≤(i:Int):=by omega
 unfold fH
 by_cases c1:1≤a.id∧a.id≤1073741824
 rotate_left
 · rw [if_neg c1];exact outp (by decide) (k8l b1 b2 g (j4i (decide_eq_false c1)))
 have w1:=j4i (E:=E) (decide_eq_true c1)
 rw [if_pos c1]
 by_cases c4:cmpQ (rdv a.ro) 0<0
 · rw [if_pos c4];exact outp (by decide) (k8h b1 b2 g w1 m1 s1 c4)
 rw [if_neg c4]
 by_cases c5:cmpQ (rdv a.mo) 0<0
 · rw [if_pos c5];exact outp (by decide) (k8i b1 b2 g w1 m1 s1 c4 m2 s2 c5)
 rw [if_neg c5]
 cases c7:nmB a.nm with
 | false=>rw [if_neg (by simp)];exact outp (by decide) (k8k b1 b2 g w1 m1 s1 c4 m2 s2 c5 (k5x c7))
 | true =>
  rw [if_pos rfl]
  have w7:=k5x (E:=E) c7
  by_cases c8:0<i
  · rw [if_pos c8]
    obtain ⟨q,hq'⟩:=z0o (l:=hs) (i:=i-1) (by omega)
    rw [hq']
    show (((if q.id≥a.id then (5:Int) else 0)=0)→_)∧_
    by_cases c9:q.id≥a.id
    · rw [show ((if ((some q).map Hd.id).getD 0≥a.id then (5:Int) else 0))=5 from if_pos c9,if_pos c9];exact outp (by decide) (k8j b1 b2 g w1 m1 s1 c4 m2 s2 c5 w7 (by omega) (by omega) (A5 (z1m hq')) c9 (wi (by omega)))
    · rw [show ((if ((some q).map Hd.id).getD 0≥a.id then (5:Int) else 0))=0 from if_neg c9,if_neg c9];exact inp fun o s ih=>j5e b1 b2 g w1 m1 s1 c4 m2 s2 c5 w7 (by omega) (by omega) (A5 (z1m hq')) c9 (wi (by omega)) (wi (by omega)) ih
  · rw [if_neg c8]
    exact inp fun o s ih=>j5f b1 b2 g w1 m1 s1 c4 m2 s2 c5 w7 (by omega) (wi (by omega)) ih
theorem w8r {ps:List Pc} {hs:List Hd} (h:Sh ps hs):Fn E B7 [.agg [.list (Ps ps),.list (Hs hs)]] (.c (.i64 (chkC ps hs))):=by
 have hN:=w2k (E:=E) h
 obtain ⟨n1,n2,hp,hh⟩:=h
 have l1:=z0z ps
 have l2:=Z7 hs
 unfold chkC
 by_cases o1:ps.all okP=true∧hs.all okH=true
 rotate_left
 · rw [decide_eq_false o1] at hN;rw [if_neg o1];exact v3x hN
 rw [decide_eq_true o1] at hN
 rw [if_pos o1]
 by_cases c1:ps.length>6
 · rw [if_pos (.inl c1)];exact v3s hN (by omega)
 by_cases c2:hs.length>6
 · rw [if_pos (.inr c2)];exact v3t hN (by omega) (by omega)
 rw [if_neg (fun h=>h.elim c1 c2)]
 rcases r47_L0 (E:=E) (hs:=Hs hs) hp (by omega) with ⟨o3,h3⟩ | ⟨o3,h3⟩
 rotate_left
 · rw [if_neg o3];exact v3u hN (by omega) (by omega) h3
 rw [if_pos o3]
 rcases r47_L1 (E:=E) (ps:=Ps ps) hh (by omega) with ⟨o4,h4⟩ | ⟨o4,h4⟩
 · rw [o4];exact v3w hN (by omega) (by omega) h3 h4
 · exact v3v hN (by omega) (by omega) h3 h4
abbrev qd (q:Rat):RW:=Wr (words q.den)
theorem y5l {n:Int} {b:Bool} (h:clB n=b):Fn E Y2 [.c (.i64 n)] (.c (.bool b)):=by
 subst h
 unfold clB
 by_cases h1:n≥1
 · by_cases h2:n≤9
   · rw [decide_eq_true ⟨h1,h2⟩];exact v4j h1 h2
   · rw [decide_eq_false fun h=>h2 h.2];exact v4k h1 h2
 · rw [decide_eq_false fun h=>h1 h.1];exact v4l h1
theorem u3v:emp []=true:=rfl
theorem k2t {x:List UInt8} (h:x≠[]):emp x=ok1 x:=by
 unfold emp
 cases x with
 | nil=>exact absurd rfl h
 | cons a x=>rfl
theorem w2m {r:Ru} (hr:ShR r):Fn E I6 [.agg r.d] (.c (.bool (decide (r.fs.all ok1=true∧emp r.lo=true∧emp r.hi=true)))):=by
 have hq:=z0p r.fs
 have h8:=hr.1
 have h:=J1 (E:=E) (l:=r.fs) (n:=1) (F:=I6) (k:=0) (oe:=.exit 0) (fin:=y4p (B r.nm) r.kd (R1 r.fs) (B r.lo) (B r.hi) r.a r.b) (fun _ a=>!ok1 a) (fun i=>z1r (i:Nat) (B r.nm) r.kd (R1 r.fs) (B r.lo) (B r.hi) r.a r.b) (fun _ _ o s=>o=.ret∧s=y4o (B r.nm) r.kd (R1 r.fs) (B r.lo) (B r.hi) r.a r.b) (k0w (by omega))
  (fun i a ha hb o s ih=>by
   have hi:=C1 ha
   have v:=X6 (E:=E) (hr.2.1 a (List.mem_of_getElem? ha))
   rw [show ok1 a=true by simpa using hb] at v
   exact k8y (by omega) (by omega) (A5 (y0f ha)) v (wi (by omega)) ih)
  (fun i a ha hb=>by
   have hi:=C1 ha
   have v:=X6 (E:=E) (hr.2.1 a (List.mem_of_getElem? ha))
   rw [show ok1 a=false by simpa using hb] at v
   exact ⟨_,_,⟨rfl,rfl⟩,k0v (by omega) (by omega) (A5 (y0f ha)) v⟩) r.fs.length 0 (by omega)
 have v1:=X6 (E:=E) hr.2.2.1
 have v2:=X6 (E:=E) hr.2.2.2.1
 rcases h with ⟨h1,h2⟩ | ⟨j,a,o,s,h1,h2,h3,h4,⟨rfl,rfl⟩,h5⟩
 rotate_left
 · rw [decide_eq_false fun h=>by { rw [List.all_eq_true.1 h.1 a (List.mem_of_getElem? h2)] at h3;cases h3 }];exact q3x h5
 have a1:r.fs.all ok1=true:=List.all_eq_true.2 fun a ha=>(List.mem_iff_getElem?.1 ha).elim fun j hj=>by simpa using h1 j a (Nat.zero_le _) hj
 by_cases c1:r.lo=[]
 · by_cases c2:r.hi=[]
   · rw [decide_eq_true ⟨a1,by rw [c1];rfl,by rw [c2];rfl⟩];exact q3y h2 (G6.2 c1) (G6.2 c2)
   · have:=q3z h2 (G6.2 c1) (fun h=>c2 (G6.1 h)) v2
     rw [show decide (r.fs.all ok1=true∧emp r.lo=true∧emp r.hi=true)=ok1 r.hi by rw [k2t c2,c1,a1];simp [u3v]]
     exact this
 · cases c3:ok1 r.lo with
   | false=>rw [c3] at v1;rw [decide_eq_false fun h=>by { rw [k2t c1,c3] at h;cases h.2.1 }];exact q4c h2 (fun h=>c1 (G6.1 h)) v1
   | true =>
    rw [c3] at v1
    by_cases c2:r.hi=[]
    · rw [decide_eq_true ⟨a1,by rw [k2t c1];exact c3,by rw [c2];rfl⟩];exact q4a h2 (fun h=>c1 (G6.1 h)) v1 (G6.2 c2)
    · have:=q4b h2 (fun h=>c1 (G6.1 h)) v1 (fun h=>c2 (G6.1 h)) v2
      rw [show decide (r.fs.all ok1=true∧emp r.lo=true∧emp r.hi=true)=ok1 r.hi by rw [k2t c2,k2t c1,c3,a1];simp]
      exact this
noncomputable def bndB (r:Ru):Bool:=if r.kd=1 then !decide ((r.lo=[]∧r.hi=[])∨(r.lo≠[]∧r.hi≠[]∧cmpQ (rdv r.lo) (rdv r.hi)>0)) else if r.kd=2 then clB r.a && (clB r.b && decide (r.a<r.b)) else if r.kd=3 then clB r.a else decide (r.b=0)
theorem w5k {r:Ru} (hr:ShR r)(h2:emp r.lo=true)(h3:emp r.hi=true):Fn E J6 [.agg r.d] (.c (.bool (bndB r))):=by
 unfold bndB
 by_cases k1:r.kd=1
 · rw [if_pos k1]
   by_cases c1:r.lo=[]
   · by_cases c2:r.hi=[]
     · rw [decide_eq_true (.inl ⟨c1,c2⟩)];exact q9u k1 (G6.2 c1) (G6.2 c2)
     · rw [decide_eq_false (fun h=>h.elim (fun h=>c2 h.2) fun h=>h.1 c1)];exact q9t k1 (G6.2 c1) fun h=>c2 (G6.1 h)
   · by_cases c2:r.hi=[]
     · rw [decide_eq_false (fun h=>h.elim (fun h=>c1 h.1) fun h=>h.2.1 c2)];exact q9r k1 (fun h=>c1 (G6.1 h)) (G6.2 c2)
     · have l:=q9s (E:=E) (s0:=B r.nm) (r0:=R1 r.fs) (i1:=r.a) (i2:=r.b) k1 (fun h=>c1 (G6.1 h)) (fun h=>c2 (G6.1 h)) (x8e hr.2.2.2.1) (x8e hr.2.2.1) (u4q (z3d (k2u h3 c2) hr.2.2.2.1) (z3d (k2u h2 c1) hr.2.2.1) (by have:=x2k;omega))
       have e:decide ((r.lo=[]∧r.hi=[])∨(r.lo≠[]∧r.hi≠[]∧cmpQ (rdv r.lo) (rdv r.hi)>0))=decide (rdv r.hi<rdv r.lo):=by
        apply decide_eq_decide.2
        rw [u3m]
        exact ⟨fun h=>h.elim (fun h=>absurd h.1 c1) fun h=>h.2.2,fun h=>.inr ⟨c1,c2,h⟩⟩
       rw [e];exact l
 rw [if_neg k1]
 by_cases k2:r.kd=2
 · rw [if_pos k2]
   cases c1:clB r.a with
   | false=>exact q9y k1 k2 (y5l c1)
   | true =>
    cases c2:clB r.b with
    | false=>exact q9x k1 k2 (y5l c1) (y5l c2)
    | true =>
     by_cases c3:r.a<r.b
     · rw [decide_eq_true c3];exact q9v k1 k2 (y5l c1) (y5l c2) c3
     · rw [decide_eq_false c3];exact q9w k1 k2 (y5l c1) (y5l c2) c3
 rw [if_neg k2]
 by_cases k3:r.kd=3
 · rw [if_pos k3];exact q9z k1 k2 k3 (y5l rfl)
 · rw [if_neg k3]
   by_cases c:r.b=0
   · rw [decide_eq_true c];exact v0a k1 k2 k3 c
   · rw [decide_eq_false c];exact q3w k1 k2 k3 c
theorem w7u {α:Type} {l:List α} {p:α→Bool} (h:∀ j a,0≤j→l[j]?=some a→p a=false):l.any p=false:=by
 rw [List.any_eq_false];intro a ha
 obtain ⟨j,hj⟩:=List.mem_iff_getElem?.1 ha
 rw [h j a (Nat.zero_le _) hj];simp
theorem w7v {α:Type} {l:List α} {p:α→Bool} {j:Nat} {a:α} (h:l[j]?=some a) (hp:p a=true):l.any p=true:=List.any_eq_true.2 ⟨a,List.mem_of_getElem? h,hp⟩
theorem v6o {α:Type} {l:List α} {i j:Nat} {a:α} (h:(l.take i)[j]?=some a):j<i∧l[j]?=some a:=by
 rw [List.getElem?_take] at h
 split at h
 · exact ⟨by assumption,h⟩
 · cases h
theorem w8t {ps:List Pc} {hs:List Hd} {rs:List Ru} {i:Nat} {r:Ru} (n1:ps.length≤1000) (n2:hs.length≤1000) (n3:rs.length≤1000) (hi:rs[i]?=some r) (hr:ShR r):Fn E D6 [.agg [.list (Ps ps),.list (Hs hs),.list (Rs rs)],.c (.i64 (i:Nat))] (.c (.i64 (fR ps hs rs i r))):=by
 have hlt:=C1 hi
 have b1:(0:Int)≤(i:Nat):=by omega
 have g:=A5 (z7c hi)
 have l2:=Z7 hs
 have l3:=z5m rs
 have hnm:=U4 r.nm
 have v:=w2m (E:=E) hr
 unfold fR
 by_cases c1:r.fs.all ok1=true∧emp r.lo=true∧emp r.hi=true
 rotate_left
 · rw [decide_eq_false c1] at v;rw [if_neg c1];exact v0k b1 g v
 rw [decide_eq_true c1] at v
 rw [if_pos c1]
 by_cases c4:r.nm.length<1
 · rw [if_neg (by unfold nmB;simp;omega)];exact v4m b1 g v (by omega)
 by_cases c5:r.nm.length>64
 · rw [if_neg (by unfold nmB;simp;omega)];exact v4n b1 g v (by omega) (by omega)
 rw [if_pos (by unfold nmB;simp;omega)]
 have d1:¬ ((B r.nm).size:Int)<1:=by omega
 have d2:¬ ((B r.nm).size:Int)>64:=by omega
 have hlen:(rs.take i).length=i:=by rw [List.length_take];omega
 have t:=J1 (E:=E) (l:=rs.take i) (n:=2) (F:=D6) (k:=0) (oe:=.exit 0) (fin:=y8k (Ps ps) (Hs hs) (Rs rs) (B r.nm) r.kd (R1 r.fs) (B r.lo) (B r.hi) r.a r.b) (fun _ a=>a.nm == r.nm) (fun j=>z4y (i:Nat) (j:Nat) (Ps ps) (Hs hs) (Rs rs) (B r.nm) r.kd (R1 r.fs) (B r.lo) (B r.hi) r.a r.b)
  (fun _ _ o s=>o=.ret∧s=y8j (Ps ps) (Hs hs) (Rs rs) (B r.nm) r.kd (R1 r.fs) (B r.lo) (B r.hi) r.a r.b) (k8x (by omega))
  (fun j a ha hb o s ih=>by
   obtain ⟨hj,ha'⟩:=v6o ha
   exact j6k (by omega) (by omega) (A5 (z7c ha')) (fun h=>by rw [y5o h] at hb;simp at hb) (wi (by omega)) ih)
  (fun j a ha hb=>by
   obtain ⟨hj,ha'⟩:=v6o ha
   exact ⟨_,_,⟨rfl,rfl⟩,k8w (by omega) (by omega) (A5 (z7c ha')) (by rw [show a.nm=r.nm by simpa using hb])⟩) (rs.take i).length 0 (by omega)
 rcases t with ⟨t1,t⟩ | ⟨j,a,o,s,t1,t2,t3,t4,⟨rfl,rfl⟩,t⟩
 rotate_left
 · rw [if_pos (w7v t2 t3)];exact v4o b1 g v d1 d2 t
 rw [if_neg (by rw [w7u t1];simp)]
 by_cases c7:r.kd<1
 · rw [if_pos (.inl c7)];exact v4p b1 g v d1 d2 t c7
 by_cases c8:r.kd>4
 · rw [if_pos (.inr c8)];exact v4q b1 g v d1 d2 t c7 c8
 rw [if_neg fun h=>h.elim c7 c8]
 have hf:=z0p r.fs
 have kb:=w5k (E:=E) hr c1.2.1 c1.2.2
 by_cases c9:r.kd=1
 · rw [if_pos c9]
   by_cases c10:r.fs.length=hs.length
   rotate_left
   · rw [if_neg fun h=>c10 h.1];exact v4r b1 g v d1 d2 t c7 c8 c9 (by omega)
   have c10':((R1 r.fs).length:Int)=((Hs hs).length:Int):=by omega
   by_cases c11:r.a=0
   rotate_left
   · rw [if_neg fun h=>c11 h.2.1];exact v4s b1 g v d1 d2 t c7 c8 c9 c10' c11
   by_cases c12:r.b=0
   rotate_left
   · rw [if_neg fun h=>c12 h.2.2];exact v4t b1 g v d1 d2 t c7 c8 c9 c10' c11 c12
   rw [if_pos ⟨c10,c11,c12⟩]
   unfold bndB at kb
   rw [if_pos c9] at kb
   by_cases c13:r.lo=[]∧r.hi=[]
   · rw [if_pos c13]
     rw [decide_eq_true (.inl c13)] at kb
     exact k4q b1 g v d1 d2 t c7 c8 c9 c10' c11 c12 kb
   rw [if_neg c13]
   by_cases c14:r.lo≠[]∧r.hi≠[]∧cmpQ (rdv r.lo) (rdv r.hi)>0
   · rw [if_pos c14]
     rw [decide_eq_true (.inr c14)] at kb
     exact k4q b1 g v d1 d2 t c7 c8 c9 c10' c11 c12 kb
   · rw [if_neg c14]
     rw [decide_eq_false fun h=>h.elim c13 c14] at kb
     exact v0b b1 g v d1 d2 t c7 c8 c9 c10' c11 c12 kb (by omega) (by omega)
 rw [if_neg c9]
 by_cases c10:r.fs.length=0
 rotate_left
 · rw [if_pos (.inl (by omega))];exact v0c b1 g v d1 d2 t c7 c8 c9 (by omega)
 have c10':((R1 r.fs).length:Int)=0:=by omega
 by_cases c11:r.lo=[]
 rotate_left
 · rw [if_pos (.inr (.inl c11))];exact v0d b1 g v d1 d2 t c7 c8 c9 c10' (fun h=>c11 (G6.1 h))
 by_cases c12:r.hi=[]
 rotate_left
 · rw [if_pos (.inr (.inr c12))];exact v0e b1 g v d1 d2 t c7 c8 c9 c10' (G6.2 c11) (fun h=>c12 (G6.1 h))
 rw [if_neg fun h=>h.elim (fun h=>by omega) fun h=>h.elim (fun h=>h c11) fun h=>h c12]
 unfold bndB at kb
 rw [if_neg c9] at kb
 unfold fO
 by_cases k2:r.kd=2
 · rw [if_pos k2] at kb
   rw [if_pos k2]
   by_cases a1:r.a≥r.b
   · rw [if_pos a1]
     rw [show (clB r.a && (clB r.b && decide (r.a<r.b)))=false by rw [decide_eq_false (by omega:¬ r.a<r.b)];simp] at kb
     exact y1y b1 g v d1 d2 t c7 c8 c9 c10' (G6.2 c11) (G6.2 c12) kb
   rw [if_neg a1]
   rw [decide_eq_true (by omega:r.a<r.b),Bool.and_true] at kb
   cases a2:clB r.a with
   | false=>rw [a2] at kb;rw [if_neg (by simp)];exact y1y b1 g v d1 d2 t c7 c8 c9 c10' (G6.2 c11) (G6.2 c12) kb
   | true =>
    rw [if_pos rfl]
    cases a3:clB r.b with
    | false=>rw [a2,a3] at kb;rw [if_neg (by simp)];exact y1y b1 g v d1 d2 t c7 c8 c9 c10' (G6.2 c11) (G6.2 c12) kb
    | true=>rw [a2,a3] at kb;rw [if_pos rfl];exact v0j b1 g v d1 d2 t c7 c8 c9 c10' (G6.2 c11) (G6.2 c12) kb (by omega) (by omega)
 rw [if_neg k2] at kb
 rw [if_neg k2]
 by_cases k3:r.kd=3
 · rw [if_pos k3] at kb
   rw [if_pos k3]
   have hh:=u1x (E:=E) (hs:=hs) (ps:=Ps ps) (id:=r.b) n2
   cases a2:clB r.a with
   | false=>rw [a2] at kb;rw [if_neg (by simp)];exact y1y b1 g v d1 d2 t c7 c8 c9 c10' (G6.2 c11) (G6.2 c12) kb
   | true =>
    rw [a2] at kb
    rw [if_pos rfl]
    cases a3:(hs.any fun h=>h.id == r.b) with
    | false=>rw [if_neg (by simp)];exact v0f b1 g v d1 d2 t c7 c8 c9 c10' (G6.2 c11) (G6.2 c12) kb k3 hh (z5n.2 a3)
    | true=>rw [if_pos rfl];exact v0g b1 g v d1 d2 t c7 c8 c9 c10' (G6.2 c11) (G6.2 c12) kb k3 hh (fun e=>by rw [z5n.1 e] at a3;cases a3) (by omega)
 rw [if_neg k3] at kb
 rw [if_neg k3]
 have hh:=w5j (E:=E) (ps:=ps) (hs:=Hs hs) (id:=r.a) n1
 by_cases a1:r.b=0
 · rw [if_pos a1]
   rw [decide_eq_true a1] at kb
   cases a3:(ps.any fun h=>h.id == r.a) with
   | false=>rw [if_neg (by simp)];exact v0h b1 g v d1 d2 t c7 c8 c9 c10' (G6.2 c11) (G6.2 c12) kb k3 (by omega) hh (z5n.2 a3)
   | true=>rw [if_pos rfl];exact v0i b1 g v d1 d2 t c7 c8 c9 c10' (G6.2 c11) (G6.2 c12) kb k3 (by omega) hh (fun e=>by rw [z5n.1 e] at a3;cases a3)
 · rw [if_neg a1]
   rw [decide_eq_false a1] at kb
   exact y1y b1 g v d1 d2 t c7 c8 c9 c10' (G6.2 c11) (G6.2 c12) kb
theorem v6e {ps:List Pc} {hs:List Hd} {rs:List Ru} (h:Sp ps hs rs):Fn E U6 [.agg (Pb ps hs rs)] (.tup [.c (.i64 (chkN ps hs rs)),.c (.i64 (chkE ps hs rs))]):=by
 have hC:=w8r (E:=E) h.sh
 have n1:=h.sh.np
 have n2:=h.sh.nh
 have n3:=h.nr
 have l3:=z5m rs
 unfold chkN chkE
 by_cases c0:chkC ps hs=0
 rotate_left
 · rw [if_neg c0,if_neg c0];exact v4b hC c0
 rw [if_pos c0,if_pos c0]
 by_cases c1:rs.length>16
 · rw [if_pos c1,if_pos c1];exact v4c hC c0 (by omega)
 rw [if_neg c1,if_neg c1]
 have:=j0k (E:=E) (l:=rs) (fR ps hs rs) (fun i=>z4w (i:Nat) (Ps ps) (Hs hs) (Rs rs)) (G:=fun i v=>y8h (Ps ps) (Hs hs) (Rs rs) i v) (n:=1) (F:=U6) (k:=0) (oe:=.exit 0) (fin:=y8i (Ps ps) (Hs hs) (Rs rs)) (k8q (by omega)) (fun i a ha=>by
  have hi:=C1 ha
  have hf:=w8t (E:=E) (ps:=ps) (hs:=hs) (by omega) (by omega) (by omega) ha (h.r a (List.mem_of_getElem? ha))
  exact ⟨fun e o s ih=>j5s (by omega) hf e (wi (by omega)) ih,fun e=>k8p (by omega) hf e⟩) rs.length 0 (by omega)
 rw [List.drop_zero] at this
 rcases this with ⟨h1,h2,h3⟩ | ⟨h1,h2⟩
 · rw [h1,h2];exact v4e hC c0 (by omega) h3
 · exact v4d hC c0 (by omega) h2
def inB (ps:List Pc) (l:List Sw) (id c:Int):Bool:=l.any fun s=>s.ho == id && y5e ps s.pa == c
def fewP (p:Pc):Bool:=decide (p.ma.length≤40∧p.vo.length≤40∧p.wo.length≤40∧p.nm.length≤70)
def fewH (h:Hd):Bool:=decide (h.ro.length≤40∧h.mo.length≤40∧h.x.length≤40∧h.y.length≤40∧h.z.length≤40∧h.nm.length≤70)
def fewR (r:Ru):Bool:=decide ((r.nm.length≤70∧r.lo.length≤40∧r.hi.length≤40∧r.fs.length≤8)∧∀ x∈r.fs,x.length≤40)
def fewC (ps:List Pc) (hs:List Hd):Bool:=decide (ps.all fewP=true∧hs.all fewH=true∧ps.length≤7∧hs.length≤7)
def fewA (ps:List Pc) (hs:List Hd) (rs:List Ru):Bool:=decide (rs.all fewR=true∧fewC ps hs=true∧rs.length≤17)
theorem v7u {ps:List Pc} {hs:List Hd} {rs:List Ru} (h:fewA ps hs rs=true):Sp ps hs rs:=by
 obtain ⟨h1,h2,h3⟩:=of_decide_eq_true h
 obtain ⟨k1,k2,k3,k4⟩:=of_decide_eq_true h2
 refine ⟨⟨k3,k4,fun p hp=>?_,fun p hp=>?_⟩,h3,fun r hr=>?_⟩
 · have:=of_decide_eq_true (List.all_eq_true.1 k1 p hp);exact ⟨this.1,this.2.1,this.2.2.1⟩
 · have:=of_decide_eq_true (List.all_eq_true.1 k2 p hp);exact ⟨this.1,this.2.1,this.2.2.1,this.2.2.2.1,this.2.2.2.2.1⟩
 · have:=of_decide_eq_true (List.all_eq_true.1 h1 r hr);exact ⟨this.1.2.2.2,this.2,this.1.2.1,this.1.2.2.1,this.1.1⟩
theorem w4j {α:Type} {l:List α} {p:α→Bool} (h:∀ j a,0≤j→l[j]?=some a→(!p a)=false):l.all p=true :=
 List.all_eq_true.2 fun a ha=>(List.mem_iff_getElem?.1 ha).elim fun j hj=>by simpa using h j a (Nat.zero_le _) hj
theorem v8h {α:Type} {l:List α} {p:α→Bool} {j:Nat} {a:α} (h:l[j]?=some a) (hp:(!p a)=true):¬ l.all p=true:=fun k=>by
 rw [List.all_eq_true.1 k a (List.mem_of_getElem? h)] at hp;cases hp
theorem u4r {ps:List Pc} {hs:List Hd} (n1:ps.length≤9223372036854775807) (n2:hs.length≤9223372036854775807):Fn E G3 [.agg [.list (Ps ps),.list (Hs hs)]] (.c (.bool (fewC ps hs))):=by
 have l1:=z0z ps
 have l2:=Z7 hs
 have t0:=J1 (E:=E) (l:=ps) (fun _ a=>!fewP a) (fun i=>z2f (i:Nat) (Ps ps) (Hs hs)) (fun _ _ o s=>o=.ret∧s=z7j (Ps ps) (Hs hs)) (j5k (by omega))
  (fun i a ha hb o s ih=>by
   have hi:=C1 ha
   have hb:fewP a=true:=by simpa using hb
   have hb:=of_decide_eq_true hb
   have s1:=U4 a.ma;have s2:=U4 a.vo;have s3:=U4 a.wo;have s4:=U4 a.nm
   exact q3p (by omega) (by omega) (A5 (X5 ha)) (by omega) (by omega) (by omega) (by omega) (wi (by omega)) ih)
  (fun i a ha hb=>by
   have hi:=C1 ha
   have g:=A5 (X5 ha)
   have b1:(i:Int)<((Ps ps).length:Int):=by omega
   have b2:(0:Int)≤(i:Nat):=by omega
   have hb:fewP a=false:=by simpa using hb
   have hb:=of_decide_eq_false hb
   have s1:=U4 a.ma;have s2:=U4 a.vo;have s3:=U4 a.wo;have s4:=U4 a.nm
   refine ⟨_,_,⟨rfl,rfl⟩,?_⟩
   by_cases c1:((B a.ma).size:Int)>40
   · exact j5g b1 b2 g c1
   by_cases c2:((B a.vo).size:Int)>40
   · exact j5h b1 b2 g c1 c2
   by_cases c3:((B a.wo).size:Int)>40
   · exact j5i b1 b2 g c1 c2 c3
   by_cases c4:((B a.nm).size:Int)>70
   · exact j5j b1 b2 g c1 c2 c3 c4
   · exact absurd ⟨by omega,by omega,by omega,by omega⟩ hb) ps.length 0 (by omega)
 have t1:=J1 (E:=E) (l:=hs) (fun _ a=>!fewH a) (fun i=>z0c (i:Nat) (Ps ps) (Hs hs)) (fun _ _ o s=>o=.ret∧s=z2r (Ps ps) (Hs hs)) (j5r (by omega))
  (fun i a ha hb o s ih=>by
   have hi:=C1 ha
   have hb:fewH a=true:=by simpa using hb
   have hb:=of_decide_eq_true hb
   have s1:=U4 a.ro;have s2:=U4 a.mo;have s3:=U4 a.x;have s4:=U4 a.y;have s5:=U4 a.z;have s6:=U4 a.nm
   exact q3q (by omega) (by omega) (A5 (z1m ha)) (by omega) (by omega) (by omega) (by omega) (by omega) (by omega) (wi (by omega)) ih)
  (fun i a ha hb=>by
   have hi:=C1 ha
   have g:=A5 (z1m ha)
   have b1:(i:Int)<((Hs hs).length:Int):=by omega
   have b2:(0:Int)≤(i:Nat):=by omega
   have hb:fewH a=false:=by simpa using hb
   have hb:=of_decide_eq_false hb
   have s1:=U4 a.ro;have s2:=U4 a.mo;have s3:=U4 a.x;have s4:=U4 a.y;have s5:=U4 a.z;have s6:=U4 a.nm
   refine ⟨_,_,⟨rfl,rfl⟩,?_⟩
   by_cases c1:((B a.ro).size:Int)>40
   · exact j5l b1 b2 g c1
   by_cases c2:((B a.mo).size:Int)>40
   · exact j5m b1 b2 g c1 c2
   by_cases c3:((B a.x).size:Int)>40
   · exact j5n b1 b2 g c1 c2 c3
   by_cases c4:((B a.y).size:Int)>40
   · exact j5o b1 b2 g c1 c2 c3 c4
   by_cases c5:((B a.z).size:Int)>40
   · exact j5p b1 b2 g c1 c2 c3 c4 c5
   by_cases c6:((B a.nm).size:Int)>70
   · exact j5q b1 b2 g c1 c2 c3 c4 c5 c6
   · exact absurd ⟨by omega,by omega,by omega,by omega,by omega,by omega⟩ hb) hs.length 0 (by omega)
 unfold fewC
 rcases t0 with ⟨h1,h2⟩ | ⟨j,a,o,s,h1,h2,h3,h4,⟨rfl,rfl⟩,h5⟩
 rotate_left
 · rw [decide_eq_false fun k=>v8h h2 h3 k.1];exact w3a h5
 rcases t1 with ⟨k1,k2⟩ | ⟨j,a,o,s,k1,k2,k3,k4,⟨rfl,rfl⟩,k5⟩
 rotate_left
 · rw [decide_eq_false fun k=>v8h k2 k3 k.2.1];exact w3b h2 k5
 by_cases c1:ps.length≤7
 · by_cases c2:hs.length≤7
   · rw [decide_eq_true ⟨w4j h1,w4j k1,c1,c2⟩];exact w3c h2 k2 (by omega) (by omega)
   · rw [decide_eq_false fun k=>c2 k.2.2.2];exact w3d h2 k2 (by omega) (by omega)
 · rw [decide_eq_false fun k=>c1 k.2.2.1];exact w3e h2 k2 (by omega)
theorem u4s {ps:List Pc} {hs:List Hd} {rs:List Ru} (n1:ps.length≤9223372036854775807) (n2:hs.length≤9223372036854775807) (n3:rs.length≤9223372036854775807):Fn E H5 [.agg (Pb ps hs rs)] (.c (.bool (fewA ps hs rs))):=by
 have l3:=z5m rs
 have hC:=u4r (E:=E) n1 n2
 have inner:∀ (i:Nat) (r:Ru),r.fs.length≤8 →
     ((∀ x∈r.fs,x.length≤40)∧Lp E 2 H5 1 (z3u (i:Nat) 0 (Ps ps) (Hs hs) (Rs rs) (B r.nm) r.kd (R1 r.fs) (B r.lo) (B r.hi) r.a r.b) (.exit 2) (y6o (i:Nat) (Ps ps) (Hs hs) (Rs rs) (B r.nm) r.kd (R1 r.fs) (B r.lo) (B r.hi) r.a r.b)) ∨
     (¬ (∀ x∈r.fs,x.length≤40)∧Lp E 2 H5 1 (z3u (i:Nat) 0 (Ps ps) (Hs hs) (Rs rs) (B r.nm) r.kd (R1 r.fs) (B r.lo) (B r.hi) r.a r.b) .ret (y6n (Ps ps) (Hs hs) (Rs rs) (B r.nm) r.kd (R1 r.fs) (B r.lo) (B r.hi) r.a r.b)):=fun i r h8=>by
  have lf:=z0p r.fs
  have t:=J1 (E:=E) (l:=r.fs) (n:=2) (F:=H5) (k:=1) (oe:=.exit 2) (fin:=y6o (i:Nat) (Ps ps) (Hs hs) (Rs rs) (B r.nm) r.kd (R1 r.fs) (B r.lo) (B r.hi) r.a r.b) (fun _ x=>decide (40<x.length)) (fun j=>z3u (i:Nat) (j:Nat) (Ps ps) (Hs hs) (Rs rs) (B r.nm) r.kd (R1 r.fs) (B r.lo) (B r.hi) r.a r.b)
   (fun _ _ o s=>o=.ret∧s=y6n (Ps ps) (Hs hs) (Rs rs) (B r.nm) r.kd (R1 r.fs) (B r.lo) (B r.hi) r.a r.b) (j6a (by omega))
   (fun j a ha hb o s ih=>by
    have hj:=C1 ha
    have hb:=of_decide_eq_false hb
    have s1:=U4 a
    exact q3v (by omega) (by omega) (A5 (y0f ha)) (by omega) (wi (by omega)) ih)
   (fun j a ha hb=>by
    have hj:=C1 ha
    have hb:=of_decide_eq_true hb
    have s1:=U4 a
    exact ⟨_,_,⟨rfl,rfl⟩,j5z (by omega) (by omega) (A5 (y0f ha)) (by omega)⟩) r.fs.length 0 (by omega)
  rcases t with ⟨h1,h2⟩ | ⟨j,a,o,s,h1,h2,h3,h4,⟨rfl,rfl⟩,h5⟩
  · exact .inl ⟨fun x hx=>by
     obtain ⟨j,hj⟩:=List.mem_iff_getElem?.1 hx
     have:=of_decide_eq_false (h1 j x (Nat.zero_le _) hj)
     omega,h2⟩
  · exact .inr ⟨fun k=>by
     have:=k a (List.mem_of_getElem? h2)
     have:=of_decide_eq_true h3
     omega,h5⟩
 have t0:=J1 (E:=E) (l:=rs) (fun _ a=>!fewR a) (fun i=>z1e (i:Nat) (Ps ps) (Hs hs) (Rs rs)) (fun _ _ o s=>o=.ret∧s=z4x (Ps ps) (Hs hs) (Rs rs)) (j5y (by omega))
  (fun i a ha hb o s ih=>by
   have hi:=C1 ha
   have hb:fewR a=true:=by simpa using hb
   have hb:=of_decide_eq_true hb
   have s1:=U4 a.nm;have s2:=U4 a.lo;have s3:=U4 a.hi;have s4:=z0p a.fs
   rcases inner i a hb.1.2.2.2 with ⟨k1,k2⟩ | ⟨k1,k2⟩
   · exact q3u (by omega) (by omega) (A5 (z7c ha)) (by omega) (by omega) (by omega) (by omega) k2 (wi (by omega)) ih
   · exact absurd hb.2 k1)
  (fun i a ha hb=>by
   have hi:=C1 ha
   have g:=A5 (z7c ha)
   have b1:(i:Int)<((Rs rs).length:Int):=by omega
   have b2:(0:Int)≤(i:Nat):=by omega
   have hb:fewR a=false:=by simpa using hb
   have hb:=of_decide_eq_false hb
   have s1:=U4 a.nm;have s2:=U4 a.lo;have s3:=U4 a.hi;have s4:=z0p a.fs
   refine ⟨_,_,⟨rfl,rfl⟩,?_⟩
   by_cases c1:((B a.nm).size:Int)>70
   · exact j5t b1 b2 g c1
   by_cases c2:((B a.lo).size:Int)>40
   · exact j5u b1 b2 g c1 c2
   by_cases c3:((B a.hi).size:Int)>40
   · exact j5v b1 b2 g c1 c2 c3
   by_cases c4:((R1 a.fs).length:Int)>8
   · exact j5w b1 b2 g c1 c2 c3 c4
   rcases inner i a (by omega) with ⟨k1,k2⟩ | ⟨k1,k2⟩
   · exact absurd ⟨⟨by omega,by omega,by omega,by omega⟩,k1⟩ hb
   · exact j5x b1 b2 g c1 c2 c3 c4 k2) rs.length 0 (by omega)
 unfold fewA
 rcases t0 with ⟨h1,h2⟩ | ⟨j,a,o,s,h1,h2,h3,h4,⟨rfl,rfl⟩,h5⟩
 rotate_left
 · rw [decide_eq_false fun k=>v8h h2 h3 k.1];exact w3g h5
 cases c0:fewC ps hs with
 | false=>rw [c0] at hC;rw [decide_eq_false fun k=>by { have:=k.2.1;cases this }];exact w3j h2 hC
 | true =>
  rw [c0] at hC
  by_cases c1:rs.length≤17
  · rw [decide_eq_true ⟨w4j h1,rfl,c1⟩];exact w3h h2 hC (by omega)
  · rw [decide_eq_false fun k=>c1 k.2.2];exact w3i h2 hC (by omega)
theorem Ps_w (l:List Pc):∀ y∈Ps l,y.length=7:=fun y hy=>by obtain ⟨p,_,rfl⟩:=List.mem_map.1 hy;rfl
theorem Hs_w (l:List Hd):∀ y∈Hs l,y.length=7:=fun y hy=>by obtain ⟨p,_,rfl⟩:=List.mem_map.1 hy;rfl
theorem R1_w (l:List (List UInt8)):∀ y∈R1 l,y.length=1:=fun y hy=>by obtain ⟨p,_,rfl⟩:=List.mem_map.1 hy;rfl
theorem q7j (w:RW):((([]:RW).take 0)++w).take (0+w.length)=w:=by rw [Nat.zero_add,List.take_nil,List.nil_append,List.take_length]
theorem w2j {ps:List Pc} {hs:List Hd} (n1:ps.length≤1000) (n2:hs.length≤1000):Fn E x1f [.agg [.list (Ps ps),.list (Hs hs)]] (.agg [.list (Ps ps),.list (Hs hs)]):=by
 have l1:=z0z ps
 have l2:=Z7 hs
 exact v9r (Ps_w ps) ⟨by omega,by omega⟩ (Hs_w hs) ⟨by omega,by omega⟩ rfl rfl rfl rfl (q7j _) (q7j _)
theorem v6f {ps:List Pc} {hs:List Hd} {rs:List Ru} (n3:rs.length≤1000) (n4:∀ r∈rs,r.fs.length≤1000) :
    Lp E 3 V5 0 (z6m 0 (Ps ps) (Hs hs) (Rs rs) (Ps ps) (Hs hs) 0 []) (.exit 0) (z9v (Ps ps) (Hs hs) (Rs rs) (Ps ps) (Hs hs) rs.length (Rs rs)):=by
 have l3:=z5m rs
 have:=G5 (E:=E) (l:=rs) (n:=3) (F:=V5) (k:=0) (fun (b:List Ru) r=>b++[r]) (fun i b=>b.length=i) (fun i b=>z6m (i:Nat) (Ps ps) (Hs hs) (Rs rs) (Ps ps) (Hs hs) b.length (Rs b)) (oe:=.exit 0) (fin:=fun b=>z9v (Ps ps) (Hs hs) (Rs rs) (Ps ps) (Hs hs) b.length (Rs b)) (fun b hb=>j2d (by omega))
  (fun i r b hr hb=>by
   have hi:=C1 hr
   have lf:=z0p r.fs
   have h4:=n4 r (List.mem_of_getElem? hr)
   refine ⟨by simp [hb],fun o s ih=>?_⟩
   exact j9s (by omega) (by omega) (A5 (z7c hr)) (R1_w r.fs) ⟨by omega,by omega⟩ ⟨by omega,by omega⟩ rfl rfl (q7j _)
    (r10:=Rs (b++[r])) (by rw [show b.length=(Rs b).length from (z5m b).symm,List.take_length];unfold Rs;rw [List.map_append];rfl) (n3:=(b++[r]).length) (by simp) (wi (by omega)) ih)
  rs.length 0 [] (by omega) rfl
 have e:∀ (l b:List Ru),l.foldl (fun (b:List Ru) r=>b++[r]) b=b++l:=by
  intro l
  induction l with
  | nil=>intro b;simp
  | cons a l ih=>intro b;rw [List.foldl_cons,ih];simp
 rw [List.drop_zero,e,List.nil_append] at this
 exact this.2
theorem u1y {ps:List Pc} {hs:List Hd} {rs:List Ru} (n1:ps.length≤1000) (n2:hs.length≤1000) (n3:rs.length≤1000) (n4:∀ r∈rs,r.fs.length≤1000):Fn E V5 [.agg (Pb ps hs rs)] (.agg (Pb ps hs rs)) :=
 v9x (w2j n1 n2) (v6f n3 n4) (by rw [show rs.length=(Rs rs).length from (z5m rs).symm,List.take_length])
theorem v6y {l:List Int} {i:Nat} {x:Int} (h:l[i]?=some x):(I1 l)[i]?=some [.i64 x]:=by simp [I1,h]
theorem w8d {a b:List Int} (ha:a.length≤1000) (hb:b.length≤1000):Fn E K9 [.c (.list (I1 a)),.c (.list (I1 b))] (.c (.bool (a == b))):=by
 have l1:=q6k a
 have l2:=q6k b
 by_cases hl:a.length=b.length
 rotate_left
 · rw [show (a == b)=false from by rw [beq_eq_false_iff_ne];exact fun e=>hl (by rw [e])]
   exact j2l (by omega)
 have t:=J1 (E:=E) (l:=a) (fun i x=>!(b[i]? == some x)) (fun i=>Z1 (I1 a) (I1 b) ((I1 a).length:Int) (i:Nat)) (fun _ _ o s=>o=.ret∧s=y0k) (x5d (by omega))
  (fun i x hx hb' o s ih=>by
   have hi:=C1 hx
   have e:b[i]?=some x:=by simpa using hb'
   exact x8k (by omega) (by omega) (A5 (v6y hx)) (A5 (v6y e)) rfl (wi (by omega)) ih)
  (fun i x hx hb'=>by
   have hi:=C1 hx
   obtain ⟨y,hy⟩:=z0o (l:=b) (i:=i) (by omega)
   have e:¬ x=y:=fun e=>by rw [hy,e] at hb';simp at hb'
   exact ⟨_,_,⟨rfl,rfl⟩,x5c (by omega) (by omega) (A5 (v6y hx)) (A5 (v6y hy)) e⟩) a.length 0 (by omega)
 rcases t with ⟨h1,h2⟩ | ⟨j,x,o,s,h1,h2,h3,h4,⟨rfl,rfl⟩,h5⟩
 · have e:a=b:=by
    apply List.ext_getElem?
    intro i
    by_cases hi:i<a.length
    · obtain ⟨x,hx⟩:=z0o hi
      have:=h1 i x (Nat.zero_le _) hx
      rw [hx]
      have e:b[i]?=some x:=by simpa using this
      exact e.symm
    · rw [List.getElem?_eq_none (by omega),List.getElem?_eq_none (by omega)]
   rw [show (a == b)=true from by simp [e]]
   exact j2n (by omega) h2
 · rw [show (a == b)=false from by
    rw [beq_eq_false_iff_ne]
    intro e
    rw [← e,h2] at h3
    simp at h3]
   exact j2m (by omega) h5
def drR (rs:List Ru) (nm:List UInt8):List Ru:=rs.filter fun r=>!(r.nm == nm)
theorem x9q (hlib:Lib E) (hc:Cs E) {ps:List Pc} {hs:List Hd} {rs:List Ru} {rule:Nat} {r:Ru} (h:Sp ps hs rs)(h0:chkE ps hs rs=0) (hr:rs[rule]?=some r) :
    Fn E P8 [.agg (Pb ps hs rs),.c (.i64 (rule:Nat))] (.tup [.agg (Pb ps hs (drR rs r.nm)),.c (.i64 0)]):=by
 have hC:=z7p hlib h
 have n1:=h.sh.np
 have n2:=h.sh.nh
 have n3:=h.nr
 have l3:=z5m rs
 have hlt:=C1 hr
 obtain ⟨w,k,d1,d2,d3⟩:=j0r (E:=E) (c1_0:=B r.nm) (l:=rs) (w0:=Rs rs) (fun i a ha=>z7c ha) (fun a=>a.nm == r.nm) (by omega) fun a _ objs ho=>by
  by_cases e:a.nm=r.nm
  · rw [show (a.nm == r.nm)=true by simp [e]]
    exact (q0h (E:=E) (i0:=a.kd) (r0:=R1 a.fs) (s1:=B a.lo) (s2:=B a.hi) (i1:=a.a) (i2:=a.b) (s3:=B r.nm) (by rw [e])).sub [1] (by decide) rfl (by intro i hi;match i,hi with | 0,_=>exact ho) (by simp [Ob.plain]) rfl rfl
  · rw [show (a.nm == r.nm)=false by simp [e]]
    exact (q0i (E:=E) (i0:=a.kd) (r0:=R1 a.fs) (s1:=B a.lo) (s2:=B a.hi) (i1:=a.a) (i2:=a.b) (s3:=B r.nm) (fun h=>e (y5o h))).sub [1] (by decide) rfl (by intro i hi;match i,hi with | 0,_=>exact ho) (by simp [Ob.plain]) rfl rfl
 have d2':w.take k=Rs (drR rs r.nm):=d2
 have hlen:(drR rs r.nm).length≤rs.length:=List.length_filter_le _ _
 have hget:∀ (i:Nat) a,i<k→(drR rs r.nm)[i]?=some a→w[i]?=some a.d:=fun i a hi ha=>by
  have:=z7c ha
  rw [← d2',List.getElem?_take,if_pos hi] at this
  exact this
 have hDk:(Rs (drR rs r.nm)).length=min k w.length:=by rw [← d2',List.length_take]
 have hDl:=z5m (drR rs r.nm)
 have big:∀ (v11 v13:RW),Rn E F2 [.vec 6 rs.length,.fn G0 [.ptr 2 0]] [some (.cells [.c (.list (Ps ps)),.c (.list (Hs hs)),.c (.list (Rs rs))]),some (.cells [.nils,.nils,.nils]),some (.cells [.c (.str (B r.nm))]),some (.fro v11),some (.fro v13),some (.cells [.c (.list (Ps ps)),.c (.list (Hs hs)),.c (.list [])]),some (.vec C7 (Rs rs))]
     (.vec 6 k) [some (.cells [.c (.list (Ps ps)),.c (.list (Hs hs)),.c (.list (Rs rs))]),some (.cells [.nils,.nils,.nils]),some (.cells [.c (.str (B r.nm))]),some (.fro v11),some (.fro v13),some (.cells [.c (.list (Ps ps)),.c (.list (Hs hs)),.c (.list [])]),some (.vec C7 w)]:=fun v11 v13 =>
  d1.put [6,2] (by decide) rfl rfl (by intro i hi;match i,hi with | 0,_=>rfl | 1,_=>rfl) (by intro i hi;match i,hi with | 0,_=>rfl | 1,_=>rfl) (by
   intro l hl
   match l with
   | 0=>rfl
   | 1=>rfl
   | 2=>exact absurd rfl (hl 1 (by simp))
   | 3=>rfl
   | 4=>rfl
   | 5=>rfl
   | 6=>exact absurd rfl (hl 0 (by simp))
   | l+7=>rfl) rfl rfl rfl rfl
 have hkl:k=(drR rs r.nm).length:=by omega
 have lp:=G5 (E:=E) (l:=drR rs r.nm) (n:=7) (F:=P8) (k:=0) (fun (b:Unit) _=>b) (fun _ _=>True) (fun i _=>z9x ((k:Nat):Int) (i:Nat) (Ps ps) (Hs hs) (Rs rs) (B r.nm) (Ps ps) (Hs hs) (Ps ps) (Hs hs) k w) (oe:=.exit 0) (fin:=fun _=>y6x (Ps ps) (Hs hs) (Rs rs) (B r.nm) (Ps ps) (Hs hs) (Ps ps) (Hs hs) k w) (fun _ _=>k4u (by omega))
  (fun i a b ha _=>⟨trivial,fun o s ih=>by
   have hi:=C1 ha
   have hw:=hget i a (by omega) ha
   have hm:a∈rs:=(List.mem_filter.1 (List.mem_of_getElem? ha)).1
   have hf:=(h.r a hm).1
   refine j2o (r11:=R1 a.fs) (r12:=w) (by omega) ⟨by omega,by omega⟩ (A5 hw) (hc.ra a.fs (by omega)) (by rw [← z0p a.fs,List.take_length]) ?_ (wi (by omega)) ih
   rw [Int.toNat_natCast]
   apply List.ext_getElem?
   intro j
   by_cases e:j=i
   · subst e
     rw [List.getElem?_set_self (List.getElem?_eq_some_iff.1 hw).1,hw];rfl
   · rw [List.getElem?_set_ne (by omega)]⟩)
  (drR rs r.nm).length 0 () (by omega) trivial
 exact v0w hC h0 (by omega) (by omega) (by omega) (A5 (z7c hr)) (hc.pc ps (by omega)) (hc.hd hs (by omega)) (hc.ru rs (by omega)) (big _ _) lp.2 (by rw [← z0z ps,List.take_length]) (by rw [← Z7 hs,List.take_length]) d2'
def rowF (of:Nat→Nat→List UInt8) (np nh:Nat):List (List UInt8):=(List.range np).flatMap fun i=>(List.range nh).map (of i)
theorem y0c {n j k:Nat} (h:(List.range n)[j]?=some k):k=j:=by
 obtain ⟨h1,h2⟩:=List.getElem?_eq_some_iff.1 h
 rw [List.getElem_range] at h2;exact h2.symm
theorem z6f {α β:Type} (f:α→β):∀ (l:List α) (b:List β),l.foldl (fun b a=>b++[f a]) b=b++l.map f
 | [],b=>by simp
 | a::l,b=>by rw [List.foldl_cons,z6f f l];simp
theorem y7w {α β:Type} (f:α→List β):∀ (l:List α) (b:List β),l.foldl (fun b a=>b++f a) b=b++l.flatMap f
 | [],b=>by simp
 | a::l,b=>by rw [List.foldl_cons,y7w f l];simp
theorem Y8 (b:List (List UInt8)) (x:List UInt8):((R1 b).take b.length)++[[.str (B x)]]=R1 (b++[x]):=by
 rw [show b.length=(R1 b).length from (z0p b).symm,List.take_length];unfold R1;rw [List.map_append];rfl
theorem w3l {a0:List UInt8} {ps:List Pc} {hs:List Hd} {c1_0:Int} {c4_0 c4_1:Nat} {w5 w6:RW} (of:Nat→Nat→List UInt8) (n1:ps.length≤1000) (n2:hs.length≤1000) (n3:c4_0≤1000) (n4:c4_1≤1000)
    (hf:∀ (i k:Nat) (objs:Objs),i<ps.length→k<hs.length→lk objs 0=some (.cells [.fn A1 []])→lk objs 1=some (.cells [.c (.i64 c1_0)])→Rn E U7 [.c (.i64 (i:Nat)),.c (.i64 (k:Nat)),.ptr 0 0,.ptr 1 0] objs (.c (.str (B (of i k)))) objs) :
    Rn E A2 [.c (.str (B a0)),.fn U7 [.ptr 0 0,.ptr 1 0],.ptr 2 0,.ptr 3 0,.ptr 4 0] [some (.cells [.fn A1 []]),some (.cells [.c (.i64 c1_0)]),some (.cells [.c (.list (Ps ps))]),some (.cells [.c (.list (Hs hs))]),some (.cells [.vec 5 c4_0,.vec 6 c4_1,.nils]),some (.vec A3 w5),some (.vec A0 w6)] (.tup [])
     [some (.cells [.fn A1 []]),some (.cells [.c (.i64 c1_0)]),some (.cells [.c (.list (Ps ps))]),some (.cells [.c (.list (Hs hs))]),some (.cells [.vec 7 (c4_0+1),.vec 8 (c4_1+1),.nils]),some .dead,some .dead,some (.vec A3 (w5.take c4_0++[[.list (R1 (rowF of ps.length hs.length))]])),some (.vec A0 (w6.take c4_1++[[.str (B a0)]]))]:=by
 have l1:=z0z ps
 have l2:=Z7 hs
 have r1:(List.range ps.length).length=ps.length:=List.length_range
 have r2:(List.range hs.length).length=hs.length:=List.length_range
 have inner:∀ (i:Nat) (b:List (List UInt8)),i<ps.length→b.length≤1000*i→Lp E 8 A2 1 (z1t (B a0) b.length (i:Nat) ((Ps ps).length:Int) (i:Nat) ((Hs hs).length:Int) 0 c1_0 (Ps ps) (Hs hs) c4_0 c4_1 w5 w6 (R1 b)) (.exit 2)
     (z6d (B a0) ((Ps ps).length:Int) (i:Nat) c1_0 (Ps ps) (Hs hs) c4_0 c4_1 w5 w6 (b++(List.range hs.length).map (of i)).length (R1 (b++(List.range hs.length).map (of i)))):=fun i b hi hb=>by
  have:=G5 (E:=E) (l:=List.range hs.length) (n:=8) (F:=A2) (k:=1) (fun (b:List (List UInt8)) k=>b++[of i k]) (fun k b'=>b'.length≤1000*i+k)
   (fun k b=>z1t (B a0) b.length (i:Nat) ((Ps ps).length:Int) (i:Nat) ((Hs hs).length:Int) (k:Nat) c1_0 (Ps ps) (Hs hs) c4_0 c4_1 w5 w6 (R1 b)) (oe:=.exit 2) (fin:=fun b=>z6d (B a0) ((Ps ps).length:Int) (i:Nat) c1_0 (Ps ps) (Hs hs) c4_0 c4_1 w5 w6 b.length (R1 b)) (fun b _=>x7d (by omega))
   (fun k x b hx hb=>by
    have hk:=C1 hx
    have e:=y0c hx
    subst e
    exact ⟨by rw [List.length_append];exact Nat.succ_le_succ hb,fun o s ih=>k1a (by omega) (hf i x _ hi (by omega) rfl rfl) (by omega) (Y8 b _) (by simp) (wi (by omega)) ih⟩)
   hs.length 0 b (by omega) (by omega)
  rw [List.drop_zero,z6f] at this
  exact this.2
 have:=G5 (E:=E) (l:=List.range ps.length) (n:=7) (F:=A2) (k:=0) (fun (b:List (List UInt8)) i=>b++(List.range hs.length).map (of i)) (fun i b=>b.length≤1000*i)
  (fun i b=>z5e (B a0) b.length ((Ps ps).length:Int) (i:Nat) c1_0 (Ps ps) (Hs hs) c4_0 c4_1 w5 w6 (R1 b)) (oe:=.exit 0) (fin:=fun b=>y2e (B a0) c1_0 (Ps ps) (Hs hs) c4_0 c4_1 w5 w6 b.length (R1 b)) (fun b _=>x7c (by omega))
  (fun i x b hx hb=>by
   have hi:=C1 hx
   have e:=y0c hx
   subst e
   exact ⟨by rw [List.length_append,List.length_map];omega,fun o s ih=>k0z (by omega) (inner x b (by omega) hb) (wi (by omega)) ih⟩)
  ps.length 0 [] (by omega) (by simp)
 rw [List.drop_zero,y7w,List.nil_append] at this
 exact y4s this.2 (by omega) (by omega) (by rw [show (List.flatMap _ _:List (List UInt8)).length=(R1 (rowF of ps.length hs.length)).length from (z0p _).symm];exact List.take_length) rfl rfl rfl rfl
theorem w3m {a0:List UInt8} {ps:List Pc} {hs:List Hd} {c1_0:Int} {c4_0 c4_1:Nat} {w5 w6:RW} (of:Nat→Nat→List UInt8) (n1:ps.length≤1000) (n2:hs.length≤1000) (n3:c4_0≤1000) (n4:c4_1≤1000)
    (hf:∀ (i k:Nat) (objs:Objs),i<ps.length→k<hs.length→lk objs 0=some (.cells [.fn A1 []])→lk objs 1=some (.cells [.c (.i64 c1_0)])→lk objs 2=some (.cells [.c (.list (Ps ps))])→Rn E U8 [.c (.i64 (i:Nat)),.c (.i64 (k:Nat)),.ptr 0 0,.ptr 1 0,.ptr 2 0] objs (.c (.str (B (of i k)))) objs) :
    Rn E A2 [.c (.str (B a0)),.fn U8 [.ptr 0 0,.ptr 1 0,.ptr 2 0],.ptr 2 0,.ptr 3 0,.ptr 4 0] [some (.cells [.fn A1 []]),some (.cells [.c (.i64 c1_0)]),some (.cells [.c (.list (Ps ps))]),some (.cells [.c (.list (Hs hs))]),some (.cells [.vec 5 c4_0,.vec 6 c4_1,.nils]),some (.vec A3 w5),some (.vec A0 w6)] (.tup [])
     [some (.cells [.fn A1 []]),some (.cells [.c (.i64 c1_0)]),some (.cells [.c (.list (Ps ps))]),some (.cells [.c (.list (Hs hs))]),some (.cells [.vec 7 (c4_0+1),.vec 8 (c4_1+1),.nils]),some .dead,some .dead,some (.vec A3 (w5.take c4_0++[[.list (R1 (rowF of ps.length hs.length))]])),some (.vec A0 (w6.take c4_1++[[.str (B a0)]]))]:=by
 have l1:=z0z ps
 have l2:=Z7 hs
 have r1:(List.range ps.length).length=ps.length:=List.length_range
 have r2:(List.range hs.length).length=hs.length:=List.length_range
 have inner:∀ (i:Nat) (b:List (List UInt8)),i<ps.length→b.length≤1000*i→Lp E 8 A2 1 (z1h (B a0) b.length (i:Nat) ((Ps ps).length:Int) (i:Nat) ((Hs hs).length:Int) 0 c1_0 (Ps ps) (Hs hs) c4_0 c4_1 w5 w6 (R1 b)) (.exit 2)
     (z5h (B a0) ((Ps ps).length:Int) (i:Nat) c1_0 (Ps ps) (Hs hs) c4_0 c4_1 w5 w6 (b++(List.range hs.length).map (of i)).length (R1 (b++(List.range hs.length).map (of i)))):=fun i b hi hb=>by
  have:=G5 (E:=E) (l:=List.range hs.length) (n:=8) (F:=A2) (k:=1) (fun (b:List (List UInt8)) k=>b++[of i k]) (fun k b'=>b'.length≤1000*i+k)
   (fun k b=>z1h (B a0) b.length (i:Nat) ((Ps ps).length:Int) (i:Nat) ((Hs hs).length:Int) (k:Nat) c1_0 (Ps ps) (Hs hs) c4_0 c4_1 w5 w6 (R1 b)) (oe:=.exit 2) (fin:=fun b=>z5h (B a0) ((Ps ps).length:Int) (i:Nat) c1_0 (Ps ps) (Hs hs) c4_0 c4_1 w5 w6 b.length (R1 b)) (fun b _=>x5i (by omega))
   (fun k x b hx hb=>by
    have hk:=C1 hx
    have e:=y0c hx
    subst e
    exact ⟨by rw [List.length_append];exact Nat.succ_le_succ hb,fun o s ih=>x8p (by omega) (hf i x _ hi (by omega) rfl rfl rfl) (by omega) (Y8 b _) (by simp) (wi (by omega)) ih⟩)
   hs.length 0 b (by omega) (by omega)
  rw [List.drop_zero,z6f] at this
  exact this.2
 have:=G5 (E:=E) (l:=List.range ps.length) (n:=7) (F:=A2) (k:=0) (fun (b:List (List UInt8)) i=>b++(List.range hs.length).map (of i)) (fun i b=>b.length≤1000*i)
  (fun i b=>z3k (B a0) b.length ((Ps ps).length:Int) (i:Nat) c1_0 (Ps ps) (Hs hs) c4_0 c4_1 w5 w6 (R1 b)) (oe:=.exit 0) (fin:=fun b=>y0r (B a0) c1_0 (Ps ps) (Hs hs) c4_0 c4_1 w5 w6 b.length (R1 b)) (fun b _=>x5e (by omega))
  (fun i x b hx hb=>by
   have hi:=C1 hx
   have e:=y0c hx
   subst e
   exact ⟨by rw [List.length_append,List.length_map];omega,fun o s ih=>x8l (by omega) (inner x b (by omega) hb) (wi (by omega)) ih⟩)
  ps.length 0 [] (by omega) (by simp)
 rw [List.drop_zero,y7w,List.nil_append] at this
 exact y4t this.2 (by omega) (by omega) (by rw [show (List.flatMap _ _:List (List UInt8)).length=(R1 (rowF of ps.length hs.length)).length from (z0p _).symm];exact List.take_length) rfl rfl rfl rfl
theorem w3n {a0:List UInt8} {ps:List Pc} {hs:List Hd} {c1_0:Int} {c4_0 c4_1:Nat} {w5 w6:RW} (of:Nat→Nat→List UInt8) (n1:ps.length≤1000) (n2:hs.length≤1000) (n3:c4_0≤1000) (n4:c4_1≤1000)
    (hf:∀ (i k:Nat) (objs:Objs),i<ps.length→k<hs.length→lk objs 0=some (.cells [.fn A1 []])→lk objs 1=some (.cells [.c (.i64 c1_0)])→lk objs 2=some (.cells [.c (.list (Ps ps))])→Rn E U9 [.c (.i64 (i:Nat)),.c (.i64 (k:Nat)),.ptr 0 0,.ptr 1 0,.ptr 2 0] objs (.c (.str (B (of i k)))) objs) :
    Rn E A2 [.c (.str (B a0)),.fn U9 [.ptr 0 0,.ptr 1 0,.ptr 2 0],.ptr 2 0,.ptr 3 0,.ptr 4 0] [some (.cells [.fn A1 []]),some (.cells [.c (.i64 c1_0)]),some (.cells [.c (.list (Ps ps))]),some (.cells [.c (.list (Hs hs))]),some (.cells [.vec 5 c4_0,.vec 6 c4_1,.nils]),some (.vec A3 w5),some (.vec A0 w6)] (.tup [])
     [some (.cells [.fn A1 []]),some (.cells [.c (.i64 c1_0)]),some (.cells [.c (.list (Ps ps))]),some (.cells [.c (.list (Hs hs))]),some (.cells [.vec 7 (c4_0+1),.vec 8 (c4_1+1),.nils]),some .dead,some .dead,some (.vec A3 (w5.take c4_0++[[.list (R1 (rowF of ps.length hs.length))]])),some (.vec A0 (w6.take c4_1++[[.str (B a0)]]))]:=by
 have l1:=z0z ps
 have l2:=Z7 hs
 have r1:(List.range ps.length).length=ps.length:=List.length_range
 have r2:(List.range hs.length).length=hs.length:=List.length_range
 have inner:∀ (i:Nat) (b:List (List UInt8)),i<ps.length→b.length≤1000*i→Lp E 8 A2 1 (z1i (B a0) b.length (i:Nat) ((Ps ps).length:Int) (i:Nat) ((Hs hs).length:Int) 0 c1_0 (Ps ps) (Hs hs) c4_0 c4_1 w5 w6 (R1 b)) (.exit 2)
     (z5i (B a0) ((Ps ps).length:Int) (i:Nat) c1_0 (Ps ps) (Hs hs) c4_0 c4_1 w5 w6 (b++(List.range hs.length).map (of i)).length (R1 (b++(List.range hs.length).map (of i)))):=fun i b hi hb=>by
  have:=G5 (E:=E) (l:=List.range hs.length) (n:=8) (F:=A2) (k:=1) (fun (b:List (List UInt8)) k=>b++[of i k]) (fun k b'=>b'.length≤1000*i+k)
   (fun k b=>z1i (B a0) b.length (i:Nat) ((Ps ps).length:Int) (i:Nat) ((Hs hs).length:Int) (k:Nat) c1_0 (Ps ps) (Hs hs) c4_0 c4_1 w5 w6 (R1 b)) (oe:=.exit 2) (fin:=fun b=>z5i (B a0) ((Ps ps).length:Int) (i:Nat) c1_0 (Ps ps) (Hs hs) c4_0 c4_1 w5 w6 b.length (R1 b)) (fun b _=>x5j (by omega))
   (fun k x b hx hb=>by
    have hk:=C1 hx
    have e:=y0c hx
    subst e
    exact ⟨by rw [List.length_append];exact Nat.succ_le_succ hb,fun o s ih=>x8q (by omega) (hf i x _ hi (by omega) rfl rfl rfl) (by omega) (Y8 b _) (by simp) (wi (by omega)) ih⟩)
   hs.length 0 b (by omega) (by omega)
  rw [List.drop_zero,z6f] at this
  exact this.2
 have:=G5 (E:=E) (l:=List.range ps.length) (n:=7) (F:=A2) (k:=0) (fun (b:List (List UInt8)) i=>b++(List.range hs.length).map (of i)) (fun i b=>b.length≤1000*i)
  (fun i b=>z3l (B a0) b.length ((Ps ps).length:Int) (i:Nat) c1_0 (Ps ps) (Hs hs) c4_0 c4_1 w5 w6 (R1 b)) (oe:=.exit 0) (fin:=fun b=>y0s (B a0) c1_0 (Ps ps) (Hs hs) c4_0 c4_1 w5 w6 b.length (R1 b)) (fun b _=>x5f (by omega))
  (fun i x b hx hb=>by
   have hi:=C1 hx
   have e:=y0c hx
   subst e
   exact ⟨by rw [List.length_append,List.length_map];omega,fun o s ih=>x8m (by omega) (inner x b (by omega) hb) (wi (by omega)) ih⟩)
  ps.length 0 [] (by omega) (by simp)
 rw [List.drop_zero,y7w,List.nil_append] at this
 exact y4u this.2 (by omega) (by omega) (by rw [show (List.flatMap _ _:List (List UInt8)).length=(R1 (rowF of ps.length hs.length)).length from (z0p _).symm];exact List.take_length) rfl rfl rfl rfl
theorem w3o {a0:List UInt8} {ps:List Pc} {hs:List Hd} {r:Ru} {c4_0 c4_1:Nat} {w5 w6:RW} (of:Nat→Nat→List UInt8) (n1:ps.length≤1000) (n2:hs.length≤1000) (n3:c4_0≤1000) (n4:c4_1≤1000)
    (hf:∀ (i k:Nat) (objs:Objs),i<ps.length→k<hs.length→lk objs 0=some (.cells [.c (.list (Ps ps))])→lk objs 1=some (.cells [.c (.str (B r.nm)),.c (.i64 r.kd),.c (.list (R1 r.fs)),.c (.str (B r.lo)),.c (.str (B r.hi)),.c (.i64 r.a),.c (.i64 r.b)])→Rn E K5 [.c (.i64 (i:Nat)),.c (.i64 (k:Nat)),.ptr 0 0,.ptr 1 0] objs (.c (.str (B (of i k)))) objs) :
    Rn E A2 [.c (.str (B a0)),.fn K5 [.ptr 0 0,.ptr 1 0],.ptr 0 0,.ptr 2 0,.ptr 3 0] [some (.cells [.c (.list (Ps ps))]),some (.cells [.c (.str (B r.nm)),.c (.i64 r.kd),.c (.list (R1 r.fs)),.c (.str (B r.lo)),.c (.str (B r.hi)),.c (.i64 r.a),.c (.i64 r.b)]),some (.cells [.c (.list (Hs hs))]),some (.cells [.vec 4 c4_0,.vec 5 c4_1,.nils]),some (.vec A3 w5),some (.vec A0 w6)] (.tup [])
     [some (.cells [.c (.list (Ps ps))]),some (.cells [.c (.str (B r.nm)),.c (.i64 r.kd),.c (.list (R1 r.fs)),.c (.str (B r.lo)),.c (.str (B r.hi)),.c (.i64 r.a),.c (.i64 r.b)]),some (.cells [.c (.list (Hs hs))]),some (.cells [.vec 6 (c4_0+1),.vec 7 (c4_1+1),.nils]),some .dead,some .dead,some (.vec A3 (w5.take c4_0++[[.list (R1 (rowF of ps.length hs.length))]])),some (.vec A0 (w6.take c4_1++[[.str (B a0)]]))]:=by
 have l1:=z0z ps
 have l2:=Z7 hs
 have r1:(List.range ps.length).length=ps.length:=List.length_range
 have r2:(List.range hs.length).length=hs.length:=List.length_range
 have inner:∀ (i:Nat) (b:List (List UInt8)),i<ps.length→b.length≤1000*i→Lp E 7 A2 1 (z1j (B a0) b.length (i:Nat) ((Ps ps).length:Int) (i:Nat) ((Hs hs).length:Int) 0 (Ps ps) (B r.nm) r.kd (R1 r.fs) (B r.lo) (B r.hi) r.a r.b (Hs hs) c4_0 c4_1 w5 w6 (R1 b)) (.exit 2)
     (z5j (B a0) ((Ps ps).length:Int) (i:Nat) (Ps ps) (B r.nm) r.kd (R1 r.fs) (B r.lo) (B r.hi) r.a r.b (Hs hs) c4_0 c4_1 w5 w6 (b++(List.range hs.length).map (of i)).length (R1 (b++(List.range hs.length).map (of i)))):=fun i b hi hb=>by
  have:=G5 (E:=E) (l:=List.range hs.length) (n:=7) (F:=A2) (k:=1) (fun (b:List (List UInt8)) k=>b++[of i k]) (fun k b'=>b'.length≤1000*i+k)
   (fun k b=>z1j (B a0) b.length (i:Nat) ((Ps ps).length:Int) (i:Nat) ((Hs hs).length:Int) (k:Nat) (Ps ps) (B r.nm) r.kd (R1 r.fs) (B r.lo) (B r.hi) r.a r.b (Hs hs) c4_0 c4_1 w5 w6 (R1 b)) (oe:=.exit 2) (fin:=fun b=>z5j (B a0) ((Ps ps).length:Int) (i:Nat) (Ps ps) (B r.nm) r.kd (R1 r.fs) (B r.lo) (B r.hi) r.a r.b (Hs hs) c4_0 c4_1 w5 w6 b.length (R1 b)) (fun b _=>x5k (by omega))
   (fun k x b hx hb=>by
    have hk:=C1 hx
    have e:=y0c hx
    subst e
    exact ⟨by rw [List.length_append];exact Nat.succ_le_succ hb,fun o s ih=>x8r (by omega) (hf i x _ hi (by omega) rfl rfl) (by omega) (Y8 b _) (by simp) (wi (by omega)) ih⟩)
   hs.length 0 b (by omega) (by omega)
  rw [List.drop_zero,z6f] at this
  exact this.2
 have:=G5 (E:=E) (l:=List.range ps.length) (n:=6) (F:=A2) (k:=0) (fun (b:List (List UInt8)) i=>b++(List.range hs.length).map (of i)) (fun i b=>b.length≤1000*i)
  (fun i b=>z3m (B a0) b.length ((Ps ps).length:Int) (i:Nat) (Ps ps) (B r.nm) r.kd (R1 r.fs) (B r.lo) (B r.hi) r.a r.b (Hs hs) c4_0 c4_1 w5 w6 (R1 b)) (oe:=.exit 0) (fin:=fun b=>y0t (B a0) (Ps ps) (B r.nm) r.kd (R1 r.fs) (B r.lo) (B r.hi) r.a r.b (Hs hs) c4_0 c4_1 w5 w6 b.length (R1 b)) (fun b _=>x5g (by omega))
  (fun i x b hx hb=>by
   have hi:=C1 hx
   have e:=y0c hx
   subst e
   exact ⟨by rw [List.length_append,List.length_map];omega,fun o s ih=>x8n (by omega) (inner x b (by omega) hb) (wi (by omega)) ih⟩)
  ps.length 0 [] (by omega) (by simp)
 rw [List.drop_zero,y7w,List.nil_append] at this
 exact y4v this.2 (by omega) (by omega) (by rw [show (List.flatMap _ _:List (List UInt8)).length=(R1 (rowF of ps.length hs.length)).length from (z0p _).symm];exact List.take_length) rfl rfl rfl rfl
theorem q2d {a0:List UInt8} {ps:List Pc} {hs:List Hd} {r:Ru} {c4_0 c4_1:Nat} {w5 w6:RW} (of:Nat→Nat→List UInt8) (n1:ps.length≤1000) (n2:hs.length≤1000) (n3:c4_0≤1000) (n4:c4_1≤1000)
    (hf:∀ (i k:Nat) (objs:Objs),i<ps.length→k<hs.length→lk objs 0=some (.cells [.c (.list (Ps ps))])→lk objs 1=some (.cells [.c (.str (B r.nm)),.c (.i64 r.kd),.c (.list (R1 r.fs)),.c (.str (B r.lo)),.c (.str (B r.hi)),.c (.i64 r.a),.c (.i64 r.b)])→Rn E J0 [.c (.i64 (i:Nat)),.c (.i64 (k:Nat)),.ptr 0 0,.ptr 1 0] objs (.c (.str (B (of i k)))) objs) :
    Rn E A2 [.c (.str (B a0)),.fn J0 [.ptr 0 0,.ptr 1 0],.ptr 0 0,.ptr 2 0,.ptr 3 0] [some (.cells [.c (.list (Ps ps))]),some (.cells [.c (.str (B r.nm)),.c (.i64 r.kd),.c (.list (R1 r.fs)),.c (.str (B r.lo)),.c (.str (B r.hi)),.c (.i64 r.a),.c (.i64 r.b)]),some (.cells [.c (.list (Hs hs))]),some (.cells [.vec 4 c4_0,.vec 5 c4_1,.nils]),some (.vec A3 w5),some (.vec A0 w6)] (.tup [])
     [some (.cells [.c (.list (Ps ps))]),some (.cells [.c (.str (B r.nm)),.c (.i64 r.kd),.c (.list (R1 r.fs)),.c (.str (B r.lo)),.c (.str (B r.hi)),.c (.i64 r.a),.c (.i64 r.b)]),some (.cells [.c (.list (Hs hs))]),some (.cells [.vec 6 (c4_0+1),.vec 7 (c4_1+1),.nils]),some .dead,some .dead,some (.vec A3 (w5.take c4_0++[[.list (R1 (rowF of ps.length hs.length))]])),some (.vec A0 (w6.take c4_1++[[.str (B a0)]]))]:=by
 have l1:=z0z ps
 have l2:=Z7 hs
 have r1:(List.range ps.length).length=ps.length:=List.length_range
 have r2:(List.range hs.length).length=hs.length:=List.length_range
 have inner:∀ (i:Nat) (b:List (List UInt8)),i<ps.length→b.length≤1000*i→Lp E 7 A2 1 (z1k (B a0) b.length (i:Nat) ((Ps ps).length:Int) (i:Nat) ((Hs hs).length:Int) 0 (Ps ps) (B r.nm) r.kd (R1 r.fs) (B r.lo) (B r.hi) r.a r.b (Hs hs) c4_0 c4_1 w5 w6 (R1 b)) (.exit 2)
     (z5k (B a0) ((Ps ps).length:Int) (i:Nat) (Ps ps) (B r.nm) r.kd (R1 r.fs) (B r.lo) (B r.hi) r.a r.b (Hs hs) c4_0 c4_1 w5 w6 (b++(List.range hs.length).map (of i)).length (R1 (b++(List.range hs.length).map (of i)))):=fun i b hi hb=>by
  have:=G5 (E:=E) (l:=List.range hs.length) (n:=7) (F:=A2) (k:=1) (fun (b:List (List UInt8)) k=>b++[of i k]) (fun k b'=>b'.length≤1000*i+k)
   (fun k b=>z1k (B a0) b.length (i:Nat) ((Ps ps).length:Int) (i:Nat) ((Hs hs).length:Int) (k:Nat) (Ps ps) (B r.nm) r.kd (R1 r.fs) (B r.lo) (B r.hi) r.a r.b (Hs hs) c4_0 c4_1 w5 w6 (R1 b)) (oe:=.exit 2) (fin:=fun b=>z5k (B a0) ((Ps ps).length:Int) (i:Nat) (Ps ps) (B r.nm) r.kd (R1 r.fs) (B r.lo) (B r.hi) r.a r.b (Hs hs) c4_0 c4_1 w5 w6 b.length (R1 b)) (fun b _=>x5l (by omega))
   (fun k x b hx hb=>by
    have hk:=C1 hx
    have e:=y0c hx
    subst e
    exact ⟨by rw [List.length_append];exact Nat.succ_le_succ hb,fun o s ih=>x8s (by omega) (hf i x _ hi (by omega) rfl rfl) (by omega) (Y8 b _) (by simp) (wi (by omega)) ih⟩)
   hs.length 0 b (by omega) (by omega)
  rw [List.drop_zero,z6f] at this
  exact this.2
 have:=G5 (E:=E) (l:=List.range ps.length) (n:=6) (F:=A2) (k:=0) (fun (b:List (List UInt8)) i=>b++(List.range hs.length).map (of i)) (fun i b=>b.length≤1000*i)
  (fun i b=>z3n (B a0) b.length ((Ps ps).length:Int) (i:Nat) (Ps ps) (B r.nm) r.kd (R1 r.fs) (B r.lo) (B r.hi) r.a r.b (Hs hs) c4_0 c4_1 w5 w6 (R1 b)) (oe:=.exit 0) (fin:=fun b=>y0u (B a0) (Ps ps) (B r.nm) r.kd (R1 r.fs) (B r.lo) (B r.hi) r.a r.b (Hs hs) c4_0 c4_1 w5 w6 b.length (R1 b)) (fun b _=>x5h (by omega))
  (fun i x b hx hb=>by
   have hi:=C1 hx
   have e:=y0c hx
   subst e
   exact ⟨by rw [List.length_append,List.length_map];omega,fun o s ih=>x8o (by omega) (inner x b (by omega) hb) (wi (by omega)) ih⟩)
  ps.length 0 [] (by omega) (by simp)
 rw [List.drop_zero,y7w,List.nil_append] at this
 exact y4w this.2 (by omega) (by omega) (by rw [show (List.flatMap _ _:List (List UInt8)).length=(R1 (rowF of ps.length hs.length)).length from (z0p _).symm];exact List.take_length) rfl rfl rfl rfl
def RA (l:List (List (List UInt8))):RW:=l.map fun r=>[.list (R1 r)]
theorem v6z (l:List (List (List UInt8))):(RA l).length=l.length:=by simp [RA]
theorem y2m (b:List (List (List UInt8))) (x:List (List UInt8)):((RA b).take b.length)++[[.list (R1 x)]]=RA (b++[x]):=by
 rw [show b.length=(RA b).length from (v6z b).symm,List.take_length];unfold RA;rw [List.map_append];rfl
def onT (b:Bool) (x:List UInt8):List UInt8:=bif b then x else [48]
theorem q0c (b:Bool) (x:List UInt8):Fn E A1 [.c (.bool b),.c (.str (B x))] (.c (.str (B (onT b x)))):=by
 cases b with
 | true=>exact j6t
 | false=>exact j6u
theorem clo_3 (i k j:Nat) (objs:Objs)(h0:lk objs 0=some (.cells [.fn A1 []]))(h1:lk objs 1=some (.cells [.c (.i64 (j:Nat))])):Rn E U7 [.c (.i64 (i:Nat)),.c (.i64 (k:Nat)),.ptr 0 0,.ptr 1 0] objs (.c (.str (B (onT (i == j) [49])))) objs:=by
 have e:((i:Int) == (j:Int))=(i == j):=by rw [Bool.eq_iff_iff];simp;omega
 have h:=j6v (E:=E) (i0:=(i:Nat)) (i1:=(k:Nat)) (i2:=(j:Nat)) (q0c (i == j) [49]) e
 exact h.put [0,1] (by decide) rfl rfl (big:=objs) (big':=objs) (by intro i hi;match i,hi with | 0,_=>exact h0 | 1,_=>exact h1) (by intro i hi;match i,hi with | 0,_=>exact h0 | 1,_=>exact h1) (fun _ _=>rfl) rfl rfl rfl rfl
def rlx0 (np nh:Nat) (b:List (List (List UInt8)) × List (List UInt8)) (x:Pc × Nat):List (List (List UInt8)) × List (List UInt8):=(b.1++[rowF (fun i _=>onT (i == x.2) [49]) np nh],b.2++[decZ x.1.un])
theorem j7i (hlib:Lib E) {z:Int} (h:-9223372036854775808≤z∧z≤9223372036854775807):Fn E y7k [.c (.i64 z)] (.c (.str (B (decZ z)))):=q1h (hlib.itoa z h)
theorem u2f (hlib:Lib E) {ps:List Pc} {hs:List Hd} {rs:RW} {n:Int} (n1:ps.length≤7) (n2:hs.length≤7) (hu:∀ p∈ps,1≤p.un∧p.un≤9) :
    Lp E 6 A9 0 (z4j n (Ps ps) ((Ps ps).length:Int) 0 (Ps ps) (Hs hs) rs (Ps ps) (Hs hs) 0 0 [] []) (.exit 0)
     (z9h n (Ps ps) (Hs hs) rs (Ps ps) (Hs hs) (ps.zipIdx.foldl (rlx0 ps.length hs.length) ([],[])).1.length (ps.zipIdx.foldl (rlx0 ps.length hs.length) ([],[])).2.length (RA (ps.zipIdx.foldl (rlx0 ps.length hs.length) ([],[])).1) (R1 (ps.zipIdx.foldl (rlx0 ps.length hs.length) ([],[])).2)):=by
 have l1:=z0z ps
 have hz:ps.zipIdx.length=ps.length:=by simp
 have:=G5 (E:=E) (l:=ps.zipIdx) (n:=6) (F:=A9) (k:=0) (rlx0 ps.length hs.length) (fun i b=>b.1.length=i∧b.2.length=i)
  (fun i b=>z4j n (Ps ps) ((Ps ps).length:Int) (i:Nat) (Ps ps) (Hs hs) rs (Ps ps) (Hs hs) b.1.length b.2.length (RA b.1) (R1 b.2)) (oe:=.exit 0)
  (fin:=fun b=>z9h n (Ps ps) (Hs hs) rs (Ps ps) (Hs hs) b.1.length b.2.length (RA b.1) (R1 b.2)) (fun b hb=>k1b (by omega))
  (fun i x b hx hb=>by
   have hi:=C1 hx
   obtain ⟨g1,g2⟩:=y5b hx
   have hun:=hu x.1 (List.mem_of_getElem? g1)
   refine ⟨⟨by simp [rlx0,hb.1],by simp [rlx0,hb.2]⟩,fun o s ih=>?_⟩
   have row:=w3l (E:=E) (a0:=decZ x.1.un) (ps:=ps) (hs:=hs) (c1_0:=(i:Nat)) (c4_0:=b.1.length) (c4_1:=b.2.length) (w5:=RA b.1) (w6:=R1 b.2) (fun i' _=>onT (i' == i) [49]) (by omega) (by omega) (by omega) (by omega) (fun i' k objs _ _ h0 h1=>clo_3 i' k i objs h0 h1)
   rw [y2m,Y8] at row
   unfold rlx0 at ih
   rw [g2] at ih
   have fr:=row.putN [5,8,2,3,4,6,7,10,11] (by decide) rfl (by simp)
    (big:=[some (.cells [.c (.list (Ps ps)),.c (.list (Hs hs)),.c (.list rs)]),some (.cells [.nils,.nils,.nils]),some (.cells [.c (.list (Ps ps))]),some (.cells [.c (.list (Hs hs))]),some (.cells [.vec 6 b.1.length,.vec 7 b.2.length,.nils]),some (.cells [.fn A1 []]),some (.vec A3 (RA b.1)),some (.vec A0 (R1 b.2)),some (.cells [.c (.i64 (i:Nat))]),some (.cells [.c (.i64 x.1.id),.c (.i64 x.1.un),.c (.i64 x.1.cl),.c (.str (B x.1.nm)),.c (.str (B x.1.ma)),.c (.str (B x.1.vo)),.c (.str (B x.1.wo))])])
    (big':=[some (.cells [.c (.list (Ps ps)),.c (.list (Hs hs)),.c (.list rs)]),some (.cells [.nils,.nils,.nils]),some (.cells [.c (.list (Ps ps))]),some (.cells [.c (.list (Hs hs))]),some (.cells [.vec 10 (b.1.length+1),.vec 11 (b.2.length+1),.nils]),some (.cells [.fn A1 []]),some .dead,some .dead,some (.cells [.c (.i64 (i:Nat))]),some (.cells [.c (.i64 x.1.id),.c (.i64 x.1.un),.c (.i64 x.1.cl),.c (.str (B x.1.nm)),.c (.str (B x.1.ma)),.c (.str (B x.1.vo)),.c (.str (B x.1.wo))]),some (.vec A3 (RA (b.1++[rowF (fun i' _=>onT (i' == i) [49]) ps.length hs.length]))),some (.vec A0 (R1 (b.2++[decZ x.1.un])))])
    (by intro i hi;match i,hi with | 0,_=>rfl | 1,_=>rfl | 2,_=>rfl | 3,_=>rfl | 4,_=>rfl | 5,_=>rfl | 6,_=>rfl)
    (by intro i hi hi';match i,hi,hi' with | 7,_,_=>rfl | 8,_,_=>rfl)
    (by intro i hi;match i,hi with | 0,_=>rfl | 1,_=>rfl | 2,_=>rfl | 3,_=>rfl | 4,_=>rfl | 5,_=>rfl | 6,_=>rfl | 7,_=>rfl | 8,_=>rfl)
    (by
     intro l hl
     match l with
     | 0=>rfl
     | 1=>rfl
     | 2=>exact absurd rfl (hl 2 (by simp))
     | 3=>exact absurd rfl (hl 3 (by simp))
     | 4=>exact absurd rfl (hl 4 (by simp))
     | 5=>exact absurd rfl (hl 0 (by simp))
     | 6=>exact absurd rfl (hl 5 (by simp))
     | 7=>exact absurd rfl (hl 6 (by simp))
     | 8=>exact absurd rfl (hl 1 (by simp))
     | 9=>rfl
     | 10=>exact absurd rfl (hl 7 (by simp))
     | 11=>exact absurd rfl (hl 8 (by simp))
     | l+12=>rfl) rfl rfl rfl rfl
   rw [List.length_append,List.length_append] at ih
   exact k9a (by omega) (by omega) (A5 (X5 g1)) (j7i hlib (by omega)) fr (wi (by omega)) ih)
  ps.zipIdx.length 0 ([],[]) (by omega) ⟨rfl,rfl⟩
 rw [List.drop_zero] at this
 exact this.2
theorem clo_4 {ps:List Pc} (i k j:Nat) (objs:Objs) (hi:i<ps.length)(h0:lk objs 0=some (.cells [.fn A1 []]))(h1:lk objs 1=some (.cells [.c (.i64 (j:Nat))]))(h2:lk objs 2=some (.cells [.c (.list (Ps ps))])):Rn E U8 [.c (.i64 (i:Nat)),.c (.i64 (k:Nat)),.ptr 0 0,.ptr 1 0,.ptr 2 0] objs (.c (.str (B (onT (k == j) (((ps[i]?).map Pc.ma).getD []))))) objs:=by
 have e:((k:Int) == (j:Int))=(k == j):=by rw [Bool.eq_iff_iff];simp;omega
 obtain ⟨p,hp⟩:=z0o hi
 rw [hp]
 have h:=j6w (E:=E) (i0:=(i:Nat)) (i1:=(k:Nat)) (i2:=(j:Nat)) (r0:=Ps ps) (by omega) (A5 (X5 hp)) (q0c (k == j) p.ma) e
 exact h.put [0,1,2] (by decide) rfl rfl (big:=objs) (big':=objs) (by intro i hi;match i,hi with | 0,_=>exact h0 | 1,_=>exact h1 | 2,_=>exact h2) (by intro i hi;match i,hi with | 0,_=>exact h0 | 1,_=>exact h1 | 2,_=>exact h2) (fun _ _=>rfl) rfl rfl rfl rfl
def rlx1 (ps:List Pc) (nh:Nat) (b:List (List (List UInt8)) × List (List UInt8)) (x:Hd × Nat):List (List (List UInt8)) × List (List UInt8):=(b.1++[rowF (fun i k=>onT (k == x.2) (((ps[i]?).map Pc.ma).getD [])) ps.length nh],b.2++[x.1.mo])
theorem u2g {ps:List Pc} {hs:List Hd} {rs:RW} {n:Int} {b0:List (List (List UInt8)) × List (List UInt8)} (n1:ps.length≤7) (n2:hs.length≤7) (m1:b0.1.length≤100) (m2:b0.2.length≤100) :
    Lp E 8 A9 1 (z4k n (Hs hs) ((Hs hs).length:Int) 0 (Ps ps) (Hs hs) rs (Ps ps) (Hs hs) b0.1.length b0.2.length (RA b0.1) (R1 b0.2)) (.exit 2)
     (z9i n (Ps ps) (Hs hs) rs (Ps ps) (Hs hs) (hs.zipIdx.foldl (rlx1 ps hs.length) b0).1.length (hs.zipIdx.foldl (rlx1 ps hs.length) b0).2.length (RA (hs.zipIdx.foldl (rlx1 ps hs.length) b0).1) (R1 (hs.zipIdx.foldl (rlx1 ps hs.length) b0).2)):=by
 have l2:=Z7 hs
 have hz:hs.zipIdx.length=hs.length:=by simp
 have:=G5 (E:=E) (l:=hs.zipIdx) (n:=8) (F:=A9) (k:=1) (rlx1 ps hs.length) (fun i b=>b.1.length≤100+i∧b.2.length≤100+i)
  (fun i b=>z4k n (Hs hs) ((Hs hs).length:Int) (i:Nat) (Ps ps) (Hs hs) rs (Ps ps) (Hs hs) b.1.length b.2.length (RA b.1) (R1 b.2)) (oe:=.exit 2)
  (fin:=fun b=>z9i n (Ps ps) (Hs hs) rs (Ps ps) (Hs hs) b.1.length b.2.length (RA b.1) (R1 b.2)) (fun b hb=>k1c (by omega))
  (fun i x b hx hb=>by
   have hi:=C1 hx
   obtain ⟨g1,g2⟩:=y5b hx
   refine ⟨⟨by unfold rlx1;rw [List.length_append];exact Nat.succ_le_succ hb.1,by unfold rlx1;rw [List.length_append];exact Nat.succ_le_succ hb.2⟩,fun o s ih=>?_⟩
   have row:=w3m (E:=E) (a0:=x.1.mo) (ps:=ps) (hs:=hs) (c1_0:=(i:Nat)) (c4_0:=b.1.length) (c4_1:=b.2.length) (w5:=RA b.1) (w6:=R1 b.2) (fun i' k'=>onT (k' == i) (((ps[i']?).map Pc.ma).getD [])) (by omega) (by omega) (by omega) (by omega) (fun i' k objs hi' _ h0 h1 h2=>clo_4 i' k i objs hi' h0 h1 h2)
   rw [y2m,Y8] at row
   unfold rlx1 at ih
   rw [g2] at ih
   have fr:=row.putN [5,10,2,3,4,8,9,12,13] (by decide) rfl (by simp)
    (big:=[some (.cells [.c (.list (Ps ps)),.c (.list (Hs hs)),.c (.list rs)]),some (.cells [.nils,.nils,.nils]),some (.cells [.c (.list (Ps ps))]),some (.cells [.c (.list (Hs hs))]),some (.cells [.vec 8 b.1.length,.vec 9 b.2.length,.nils]),some (.cells [.fn A1 []]),some .dead,some .dead,some (.vec A3 (RA b.1)),some (.vec A0 (R1 b.2)),some (.cells [.c (.i64 (i:Nat))]),some (.cells [.c (.i64 x.1.id),.c (.str (B x.1.nm)),.c (.str (B x.1.ro)),.c (.str (B x.1.mo)),.c (.str (B x.1.x)),.c (.str (B x.1.y)),.c (.str (B x.1.z))])])
    (big':=[some (.cells [.c (.list (Ps ps)),.c (.list (Hs hs)),.c (.list rs)]),some (.cells [.nils,.nils,.nils]),some (.cells [.c (.list (Ps ps))]),some (.cells [.c (.list (Hs hs))]),some (.cells [.vec 12 (b.1.length+1),.vec 13 (b.2.length+1),.nils]),some (.cells [.fn A1 []]),some .dead,some .dead,some .dead,some .dead,some (.cells [.c (.i64 (i:Nat))]),some (.cells [.c (.i64 x.1.id),.c (.str (B x.1.nm)),.c (.str (B x.1.ro)),.c (.str (B x.1.mo)),.c (.str (B x.1.x)),.c (.str (B x.1.y)),.c (.str (B x.1.z))]),some (.vec A3 (RA (b.1++[rowF (fun i' k'=>onT (k' == i) (((ps[i']?).map Pc.ma).getD [])) ps.length hs.length]))),some (.vec A0 (R1 (b.2++[x.1.mo])))])
    (by intro i hi;match i,hi with | 0,_=>rfl | 1,_=>rfl | 2,_=>rfl | 3,_=>rfl | 4,_=>rfl | 5,_=>rfl | 6,_=>rfl)
    (by intro i hi hi';match i,hi,hi' with | 7,_,_=>rfl | 8,_,_=>rfl)
    (by intro i hi;match i,hi with | 0,_=>rfl | 1,_=>rfl | 2,_=>rfl | 3,_=>rfl | 4,_=>rfl | 5,_=>rfl | 6,_=>rfl | 7,_=>rfl | 8,_=>rfl)
    (by
     intro l hl
     match l with
     | 0=>rfl
     | 1=>rfl
     | 2=>exact absurd rfl (hl 2 (by simp))
     | 3=>exact absurd rfl (hl 3 (by simp))
     | 4=>exact absurd rfl (hl 4 (by simp))
     | 5=>exact absurd rfl (hl 0 (by simp))
     | 6=>rfl
     | 7=>rfl
     | 8=>exact absurd rfl (hl 5 (by simp))
     | 9=>exact absurd rfl (hl 6 (by simp))
     | 10=>exact absurd rfl (hl 1 (by simp))
     | 11=>rfl
     | 12=>exact absurd rfl (hl 7 (by simp))
     | 13=>exact absurd rfl (hl 8 (by simp))
     | l+14=>rfl) rfl rfl rfl rfl
   rw [List.length_append,List.length_append] at ih
   exact k9b (by omega) (by omega) (A5 (z1m g1)) fr (wi (by omega)) ih)
  hs.zipIdx.length 0 b0 (by omega) ⟨m1,m2⟩
 rw [List.drop_zero] at this
 exact this.2
theorem clo_5 {ps:List Pc} (i k j:Nat) (objs:Objs) (hi:i<ps.length)(h0:lk objs 0=some (.cells [.fn A1 []]))(h1:lk objs 1=some (.cells [.c (.i64 (j:Nat))]))(h2:lk objs 2=some (.cells [.c (.list (Ps ps))])):Rn E U9 [.c (.i64 (i:Nat)),.c (.i64 (k:Nat)),.ptr 0 0,.ptr 1 0,.ptr 2 0] objs (.c (.str (B (onT (k == j) (((ps[i]?).map Pc.vo).getD []))))) objs:=by
 have e:((k:Int) == (j:Int))=(k == j):=by rw [Bool.eq_iff_iff];simp;omega
 obtain ⟨p,hp⟩:=z0o hi
 rw [hp]
 have h:=j6x (E:=E) (i0:=(i:Nat)) (i1:=(k:Nat)) (i2:=(j:Nat)) (r0:=Ps ps) (by omega) (A5 (X5 hp)) (q0c (k == j) p.vo) e
 exact h.put [0,1,2] (by decide) rfl rfl (big:=objs) (big':=objs) (by intro i hi;match i,hi with | 0,_=>exact h0 | 1,_=>exact h1 | 2,_=>exact h2) (by intro i hi;match i,hi with | 0,_=>exact h0 | 1,_=>exact h1 | 2,_=>exact h2) (fun _ _=>rfl) rfl rfl rfl rfl
def rlx2 (ps:List Pc) (nh:Nat) (b:List (List (List UInt8)) × List (List UInt8)) (x:Hd × Nat):List (List (List UInt8)) × List (List UInt8):=(b.1++[rowF (fun i k=>onT (k == x.2) (((ps[i]?).map Pc.vo).getD [])) ps.length nh],b.2++[x.1.ro])
theorem u2h {ps:List Pc} {hs:List Hd} {rs:RW} {n:Int} {b0:List (List (List UInt8)) × List (List UInt8)} (n1:ps.length≤7) (n2:hs.length≤7) (m1:b0.1.length≤100) (m2:b0.2.length≤100) :
    Lp E 10 A9 2 (z4l n (Hs hs) ((Hs hs).length:Int) 0 (Ps ps) (Hs hs) rs (Ps ps) (Hs hs) b0.1.length b0.2.length (RA b0.1) (R1 b0.2)) (.exit 4)
     (z9j n (Ps ps) (Hs hs) rs (Ps ps) (Hs hs) (hs.zipIdx.foldl (rlx2 ps hs.length) b0).1.length (hs.zipIdx.foldl (rlx2 ps hs.length) b0).2.length (RA (hs.zipIdx.foldl (rlx2 ps hs.length) b0).1) (R1 (hs.zipIdx.foldl (rlx2 ps hs.length) b0).2)):=by
 have l2:=Z7 hs
 have hz:hs.zipIdx.length=hs.length:=by simp
 have:=G5 (E:=E) (l:=hs.zipIdx) (n:=10) (F:=A9) (k:=2) (rlx2 ps hs.length) (fun i b=>b.1.length≤100+i∧b.2.length≤100+i)
  (fun i b=>z4l n (Hs hs) ((Hs hs).length:Int) (i:Nat) (Ps ps) (Hs hs) rs (Ps ps) (Hs hs) b.1.length b.2.length (RA b.1) (R1 b.2)) (oe:=.exit 4)
  (fin:=fun b=>z9j n (Ps ps) (Hs hs) rs (Ps ps) (Hs hs) b.1.length b.2.length (RA b.1) (R1 b.2)) (fun b hb=>k1d (by omega))
  (fun i x b hx hb=>by
   have hi:=C1 hx
   obtain ⟨g1,g2⟩:=y5b hx
   refine ⟨⟨by unfold rlx2;rw [List.length_append];exact Nat.succ_le_succ hb.1,by unfold rlx2;rw [List.length_append];exact Nat.succ_le_succ hb.2⟩,fun o s ih=>?_⟩
   have row:=w3n (E:=E) (a0:=x.1.ro) (ps:=ps) (hs:=hs) (c1_0:=(i:Nat)) (c4_0:=b.1.length) (c4_1:=b.2.length) (w5:=RA b.1) (w6:=R1 b.2) (fun i' k'=>onT (k' == i) (((ps[i']?).map Pc.vo).getD [])) (by omega) (by omega) (by omega) (by omega) (fun i' k objs hi' _ h0 h1 h2=>clo_5 i' k i objs hi' h0 h1 h2)
   rw [y2m,Y8] at row
   unfold rlx2 at ih
   rw [g2] at ih
   have fr:=row.putN [5,12,2,3,4,10,11,14,15] (by decide) rfl (by simp)
    (big:=[some (.cells [.c (.list (Ps ps)),.c (.list (Hs hs)),.c (.list rs)]),some (.cells [.nils,.nils,.nils]),some (.cells [.c (.list (Ps ps))]),some (.cells [.c (.list (Hs hs))]),some (.cells [.vec 10 b.1.length,.vec 11 b.2.length,.nils]),some (.cells [.fn A1 []]),some .dead,some .dead,some .dead,some .dead,some (.vec A3 (RA b.1)),some (.vec A0 (R1 b.2)),some (.cells [.c (.i64 (i:Nat))]),some (.cells [.c (.i64 x.1.id),.c (.str (B x.1.nm)),.c (.str (B x.1.ro)),.c (.str (B x.1.mo)),.c (.str (B x.1.x)),.c (.str (B x.1.y)),.c (.str (B x.1.z))])])
    (big':=[some (.cells [.c (.list (Ps ps)),.c (.list (Hs hs)),.c (.list rs)]),some (.cells [.nils,.nils,.nils]),some (.cells [.c (.list (Ps ps))]),some (.cells [.c (.list (Hs hs))]),some (.cells [.vec 14 (b.1.length+1),.vec 15 (b.2.length+1),.nils]),some (.cells [.fn A1 []]),some .dead,some .dead,some .dead,some .dead,some .dead,some .dead,some (.cells [.c (.i64 (i:Nat))]),some (.cells [.c (.i64 x.1.id),.c (.str (B x.1.nm)),.c (.str (B x.1.ro)),.c (.str (B x.1.mo)),.c (.str (B x.1.x)),.c (.str (B x.1.y)),.c (.str (B x.1.z))]),some (.vec A3 (RA (b.1++[rowF (fun i' k'=>onT (k' == i) (((ps[i']?).map Pc.vo).getD [])) ps.length hs.length]))),some (.vec A0 (R1 (b.2++[x.1.ro])))])
    (by intro i hi;match i,hi with | 0,_=>rfl | 1,_=>rfl | 2,_=>rfl | 3,_=>rfl | 4,_=>rfl | 5,_=>rfl | 6,_=>rfl)
    (by intro i hi hi';match i,hi,hi' with | 7,_,_=>rfl | 8,_,_=>rfl)
    (by intro i hi;match i,hi with | 0,_=>rfl | 1,_=>rfl | 2,_=>rfl | 3,_=>rfl | 4,_=>rfl | 5,_=>rfl | 6,_=>rfl | 7,_=>rfl | 8,_=>rfl)
    (by
     intro l hl
     match l with
     | 0=>rfl
     | 1=>rfl
     | 2=>exact absurd rfl (hl 2 (by simp))
     | 3=>exact absurd rfl (hl 3 (by simp))
     | 4=>exact absurd rfl (hl 4 (by simp))
     | 5=>exact absurd rfl (hl 0 (by simp))
     | 6=>rfl
     | 7=>rfl
     | 8=>rfl
     | 9=>rfl
     | 10=>exact absurd rfl (hl 5 (by simp))
     | 11=>exact absurd rfl (hl 6 (by simp))
     | 12=>exact absurd rfl (hl 1 (by simp))
     | 13=>rfl
     | 14=>exact absurd rfl (hl 7 (by simp))
     | 15=>exact absurd rfl (hl 8 (by simp))
     | l+16=>rfl) rfl rfl rfl rfl
   rw [List.length_append,List.length_append] at ih
   exact k9c (by omega) (by omega) (A5 (z1m g1)) fr (wi (by omega)) ih)
  hs.zipIdx.length 0 b0 (by omega) ⟨m1,m2⟩
 rw [List.drop_zero] at this
 exact this.2
theorem u2j {ps:List Pc} {hs:List Hd} {rs w12 w13:RW} {c0 c1:Nat} (n1:ps.length≤7) (n2:hs.length≤7) :
    Lp E 14 A9 4 (z4m (Ps ps) ((Ps ps).length:Int) 0 (Ps ps) (Hs hs) rs (Ps ps) (Hs hs) c0 c1 0 w12 w13 []) (.exit 8)
     (z9l (Ps ps) (Hs hs) rs (Ps ps) (Hs hs) c0 c1 w12 w13 (ps.flatMap fun p=>List.replicate hs.length p.wo).length (R1 (ps.flatMap fun p=>List.replicate hs.length p.wo))):=by
 have l1:=z0z ps
 have l2:=Z7 hs
 have r2:(List.range hs.length).length=hs.length:=List.length_range
 have inner:∀ (i:Nat) (p:Pc) (b:List (List UInt8)),i<ps.length→b.length≤100*i→Lp E 16 A9 5 (z2y (Ps ps) ((Ps ps).length:Int) (i:Nat) ((Hs hs).length:Int) 0 (Ps ps) (Hs hs) rs (Ps ps) (Hs hs) c0 c1 b.length w12 w13 p.id p.un p.cl (B p.nm) (B p.ma) (B p.vo) (B p.wo) (R1 b)) (.exit 10)
     (z6x (Ps ps) ((Ps ps).length:Int) (i:Nat) (Ps ps) (Hs hs) rs (Ps ps) (Hs hs) c0 c1 w12 w13 p.id p.un p.cl (B p.nm) (B p.ma) (B p.vo) (B p.wo) (b++List.replicate hs.length p.wo).length (R1 (b++List.replicate hs.length p.wo))):=fun i p b hi hb=>by
  have:=G5 (E:=E) (l:=List.range hs.length) (n:=16) (F:=A9) (k:=5) (fun (b:List (List UInt8)) _=>b++[p.wo]) (fun k b'=>b'.length≤100*i+k)
   (fun k b=>z2y (Ps ps) ((Ps ps).length:Int) (i:Nat) ((Hs hs).length:Int) (k:Nat) (Ps ps) (Hs hs) rs (Ps ps) (Hs hs) c0 c1 b.length w12 w13 p.id p.un p.cl (B p.nm) (B p.ma) (B p.vo) (B p.wo) (R1 b)) (oe:=.exit 10) (fin:=fun b=>z6x (Ps ps) ((Ps ps).length:Int) (i:Nat) (Ps ps) (Hs hs) rs (Ps ps) (Hs hs) c0 c1 w12 w13 p.id p.un p.cl (B p.nm) (B p.ma) (B p.vo) (B p.wo) b.length (R1 b)) (fun b _=>x8t (by omega))
   (fun k x b hx hb=>by
    have hk:=C1 hx
    exact ⟨by rw [List.length_append];exact Nat.succ_le_succ hb,fun o s ih=>k4v (by omega) (by omega) (Y8 b _) (by simp) (wi (by omega)) ih⟩)
   hs.length 0 b (by omega) (by omega)
  rw [List.drop_zero,z6f (fun _:Nat=>p.wo),List.map_const',r2] at this
  exact this.2
 have:=G5 (E:=E) (l:=ps) (n:=14) (F:=A9) (k:=4) (fun (b:List (List UInt8)) p=>b++List.replicate hs.length p.wo) (fun i b=>b.length≤100*i)
  (fun i b=>z4m (Ps ps) ((Ps ps).length:Int) (i:Nat) (Ps ps) (Hs hs) rs (Ps ps) (Hs hs) c0 c1 b.length w12 w13 (R1 b)) (oe:=.exit 8) (fin:=fun b=>z9l (Ps ps) (Hs hs) rs (Ps ps) (Hs hs) c0 c1 w12 w13 b.length (R1 b)) (fun b _=>k1f (by omega))
  (fun i p b hp hb=>by
   have hi:=C1 hp
   exact ⟨by rw [List.length_append,List.length_replicate];omega,fun o s ih=>k9i (by omega) (by omega) (A5 (X5 hp)) (inner i p b hi hb) (wi (by omega)) ih⟩)
  ps.length 0 [] (by omega) (by simp)
 rw [List.drop_zero,y7w,List.nil_append] at this
 exact this.2
abbrev RuO (r:Ru):Option Ob:=some (.cells [.c (.str (B r.nm)),.c (.i64 r.kd),.c (.list (R1 r.fs)),.c (.str (B r.lo)),.c (.str (B r.hi)),.c (.i64 r.a),.c (.i64 r.b)])
noncomputable def mfQ (ps:List Pc) (fs:List (List UInt8)) (i k:Nat):Rat:=rdv (((ps[i]?).map Pc.ma).getD [])*rdv ((fs[k]?).getD [])
theorem clo_6 (hlib:Lib E) {ps:List Pc} {r:Ru} (hp:∀ p∈ps,ok1 p.ma=true∧p.ma.length≤40) (hr:∀ x∈r.fs,ok1 x=true∧x.length≤40) (i k:Nat) (objs:Objs) (hi:i<ps.length) (hk:k<r.fs.length)(h0:lk objs 0=some (.cells [.c (.list (Ps ps))]))(h1:lk objs 1=RuO r) :
    Rn E K5 [.c (.i64 (i:Nat)),.c (.i64 (k:Nat)),.ptr 0 0,.ptr 1 0] objs (.c (.str (B (decQ (mfQ ps r.fs i k))))) objs:=by
 obtain ⟨p,hp'⟩:=z0o hi
 obtain ⟨x,hx⟩:=z0o hk
 have hL:=x1g
 have o1:=hp p (List.mem_of_getElem? hp')
 have o2:=hr x (List.mem_of_getElem? hx)
 have m:=x3d hlib (z3d o1.1 o1.2) (z3d o2.1 o2.2) (by omega)
 rw [y1l o1.1,y1l o2.1] at m
 unfold mfQ
 rw [hp',hx]
 have h:=j6y (E:=E) (i0:=(i:Nat)) (i1:=(k:Nat)) (r0:=Ps ps) (s0:=B r.nm) (i2:=r.kd) (r1:=R1 r.fs) (s1:=B r.lo) (s2:=B r.hi) (i3:=r.a) (i4:=r.b) (by omega) (A5 (X5 hp')) (by omega) (A5 (y0f hx)) m
 exact h.put [0,1] (by decide) rfl rfl (big:=objs) (big':=objs) (by intro i hi;match i,hi with | 0,_=>exact h0 | 1,_=>exact h1) (by intro i hi;match i,hi with | 0,_=>exact h0 | 1,_=>exact h1) (fun _ _=>rfl) rfl rfl rfl rfl
theorem clo_7 (hlib:Lib E) {ps:List Pc} {r:Ru} (hp:∀ p∈ps,ok1 p.ma=true∧p.ma.length≤40) (hr:∀ x∈r.fs,ok1 x=true∧x.length≤40) (i k:Nat) (objs:Objs) (hi:i<ps.length) (hk:k<r.fs.length)(h0:lk objs 0=some (.cells [.c (.list (Ps ps))]))(h1:lk objs 1=RuO r) :
    Rn E J0 [.c (.i64 (i:Nat)),.c (.i64 (k:Nat)),.ptr 0 0,.ptr 1 0] objs (.c (.str (B (decQ (0-mfQ ps r.fs i k))))) objs:=by
 obtain ⟨p,hp'⟩:=z0o hi
 obtain ⟨x,hx⟩:=z0o hk
 have hL:=x1g
 have o1:=hp p (List.mem_of_getElem? hp')
 have o2:=hr x (List.mem_of_getElem? hx)
 have s1:=z3d o1.1 o1.2
 have s2:=z3d o2.1 o2.2
 have m:=x3d hlib s1 s2 (by omega)
 rw [y1l o1.1,y1l o2.1] at m
 have n:=y6y hlib Sz.zero (s1.mul s2) (by omega)
 rw [← x5q] at n
 unfold mfQ
 rw [hp',hx]
 have h:=j6z (E:=E) (i0:=(i:Nat)) (i1:=(k:Nat)) (r0:=Ps ps) (s0:=B r.nm) (i2:=r.kd) (r1:=R1 r.fs) (s1:=B r.lo) (s2:=B r.hi) (i3:=r.a) (i4:=r.b) (by omega) (A5 (X5 hp')) (by omega) (A5 (y0f hx)) m n
 exact h.put [0,1] (by decide) rfl rfl (big:=objs) (big':=objs) (by intro i hi;match i,hi with | 0,_=>exact h0 | 1,_=>exact h1) (by intro i hi;match i,hi with | 0,_=>exact h0 | 1,_=>exact h1) (fun _ _=>rfl) rfl rfl rfl rfl
theorem u2c (hlib:Lib E) {ps:List Pc} {hs:List Hd} {rs:RW} {r:Ru} {b:List (List (List UInt8)) × List (List UInt8)} {a0:List UInt8} (n1:ps.length≤7) (n2:hs.length≤7) (m1:b.1.length≤900) (m2:b.2.length≤900) (hf:r.fs.length=hs.length) (hp:∀ p∈ps,ok1 p.ma=true∧p.ma.length≤40) (hr:∀ x∈r.fs,ok1 x=true∧x.length≤40) :
    Rn E A2 [.c (.str (B a0)),.fn K5 [.ptr 2 0,.ptr 14 0],.ptr 2 0,.ptr 3 0,.ptr 4 0] [some (.cells [.c (.list (Ps ps)),.c (.list (Hs hs)),.c (.list rs)]),some (.cells [.nils,.nils,.nils]),some (.cells [.c (.list (Ps ps))]),some (.cells [.c (.list (Hs hs))]),some (.cells [.vec 12 b.1.length,.vec 13 b.2.length,.nils]),some (.cells [.fn A1 []]),some .dead,some .dead,some .dead,some .dead,some .dead,some .dead,some (.vec A3 (RA b.1)),some (.vec A0 (R1 b.2)),RuO r] (.tup []) [some (.cells [.c (.list (Ps ps)),.c (.list (Hs hs)),.c (.list rs)]),some (.cells [.nils,.nils,.nils]),some (.cells [.c (.list (Ps ps))]),some (.cells [.c (.list (Hs hs))]),some (.cells [.vec 15 (b.1.length+1),.vec 16 (b.2.length+1),.nils]),some (.cells [.fn A1 []]),some .dead,some .dead,some .dead,some .dead,some .dead,some .dead,some .dead,some .dead,RuO r,some (.vec A3 (RA (b.1++[rowF (fun i k=>decQ (mfQ ps r.fs i k)) ps.length hs.length]))),some (.vec A0 (R1 (b.2++[a0])))]:=by
 have row:=w3o (E:=E) (a0:=a0) (ps:=ps) (hs:=hs) (r:=r) (c4_0:=b.1.length) (c4_1:=b.2.length) (w5:=RA b.1) (w6:=R1 b.2) (fun i k=>decQ (mfQ ps r.fs i k)) (by omega) (by omega) (by omega) (by omega) (fun i' k objs hi' hk' h0 h1=>clo_6 hlib hp hr i' k objs hi' (by omega) h0 h1)
 rw [y2m,Y8] at row
 exact row.putN [2,14,3,4,12,13,15,16] (by decide) rfl (by simp)
  (by intro i hi;match i,hi with | 0,_=>rfl | 1,_=>rfl | 2,_=>rfl | 3,_=>rfl | 4,_=>rfl | 5,_=>rfl)
  (by intro i hi hi';match i,hi,hi' with | 6,_,_=>rfl | 7,_,_=>rfl)
  (by intro i hi;match i,hi with | 0,_=>rfl | 1,_=>rfl | 2,_=>rfl | 3,_=>rfl | 4,_=>rfl | 5,_=>rfl | 6,_=>rfl | 7,_=>rfl)
  (by
   intro l hl
   match l with
    | 0=>rfl
    | 1=>rfl
    | 2=>exact absurd rfl (hl 0 (by simp))
    | 3=>exact absurd rfl (hl 2 (by simp))
    | 4=>exact absurd rfl (hl 3 (by simp))
    | 5=>rfl
    | 6=>rfl
    | 7=>rfl
    | 8=>rfl
    | 9=>rfl
    | 10=>rfl
    | 11=>rfl
    | 12=>exact absurd rfl (hl 4 (by simp))
    | 13=>exact absurd rfl (hl 5 (by simp))
    | 14=>exact absurd rfl (hl 1 (by simp))
    | 15=>exact absurd rfl (hl 6 (by simp))
    | 16=>exact absurd rfl (hl 7 (by simp))
    | l+17=>rfl) rfl rfl rfl rfl
theorem u2d (hlib:Lib E) {ps:List Pc} {hs:List Hd} {rs:RW} {r:Ru} {b:List (List (List UInt8)) × List (List UInt8)} {a0:List UInt8} (n1:ps.length≤7) (n2:hs.length≤7) (m1:b.1.length≤900) (m2:b.2.length≤900) (hf:r.fs.length=hs.length) (hp:∀ p∈ps,ok1 p.ma=true∧p.ma.length≤40) (hr:∀ x∈r.fs,ok1 x=true∧x.length≤40) :
    Rn E A2 [.c (.str (B a0)),.fn J0 [.ptr 2 0,.ptr 14 0],.ptr 2 0,.ptr 3 0,.ptr 4 0] [some (.cells [.c (.list (Ps ps)),.c (.list (Hs hs)),.c (.list rs)]),some (.cells [.nils,.nils,.nils]),some (.cells [.c (.list (Ps ps))]),some (.cells [.c (.list (Hs hs))]),some (.cells [.vec 12 b.1.length,.vec 13 b.2.length,.nils]),some (.cells [.fn A1 []]),some .dead,some .dead,some .dead,some .dead,some .dead,some .dead,some (.vec A3 (RA b.1)),some (.vec A0 (R1 b.2)),RuO r] (.tup []) [some (.cells [.c (.list (Ps ps)),.c (.list (Hs hs)),.c (.list rs)]),some (.cells [.nils,.nils,.nils]),some (.cells [.c (.list (Ps ps))]),some (.cells [.c (.list (Hs hs))]),some (.cells [.vec 15 (b.1.length+1),.vec 16 (b.2.length+1),.nils]),some (.cells [.fn A1 []]),some .dead,some .dead,some .dead,some .dead,some .dead,some .dead,some .dead,some .dead,RuO r,some (.vec A3 (RA (b.1++[rowF (fun i k=>decQ (0-mfQ ps r.fs i k)) ps.length hs.length]))),some (.vec A0 (R1 (b.2++[a0])))]:=by
 have row:=q2d (E:=E) (a0:=a0) (ps:=ps) (hs:=hs) (r:=r) (c4_0:=b.1.length) (c4_1:=b.2.length) (w5:=RA b.1) (w6:=R1 b.2) (fun i k=>decQ (0-mfQ ps r.fs i k)) (by omega) (by omega) (by omega) (by omega) (fun i' k objs hi' hk' h0 h1=>clo_7 hlib hp hr i' k objs hi' (by omega) h0 h1)
 rw [y2m,Y8] at row
 exact row.putN [2,14,3,4,12,13,15,16] (by decide) rfl (by simp)
  (by intro i hi;match i,hi with | 0,_=>rfl | 1,_=>rfl | 2,_=>rfl | 3,_=>rfl | 4,_=>rfl | 5,_=>rfl)
  (by intro i hi hi';match i,hi,hi' with | 6,_,_=>rfl | 7,_,_=>rfl)
  (by intro i hi;match i,hi with | 0,_=>rfl | 1,_=>rfl | 2,_=>rfl | 3,_=>rfl | 4,_=>rfl | 5,_=>rfl | 6,_=>rfl | 7,_=>rfl)
  (by
   intro l hl
   match l with
    | 0=>rfl
    | 1=>rfl
    | 2=>exact absurd rfl (hl 0 (by simp))
    | 3=>exact absurd rfl (hl 2 (by simp))
    | 4=>exact absurd rfl (hl 3 (by simp))
    | 5=>rfl
    | 6=>rfl
    | 7=>rfl
    | 8=>rfl
    | 9=>rfl
    | 10=>rfl
    | 11=>rfl
    | 12=>exact absurd rfl (hl 4 (by simp))
    | 13=>exact absurd rfl (hl 5 (by simp))
    | 14=>exact absurd rfl (hl 1 (by simp))
    | 15=>exact absurd rfl (hl 6 (by simp))
    | 16=>exact absurd rfl (hl 7 (by simp))
    | l+17=>rfl) rfl rfl rfl rfl
theorem u2e (hlib:Lib E) {ps:List Pc} {hs:List Hd} {rs:RW} {r:Ru} {b:List (List (List UInt8)) × List (List UInt8)} {a0:List UInt8} (n1:ps.length≤7) (n2:hs.length≤7) (m1:b.1.length≤900) (m2:b.2.length≤900) (hf:r.fs.length=hs.length) (hp:∀ p∈ps,ok1 p.ma=true∧p.ma.length≤40) (hr:∀ x∈r.fs,ok1 x=true∧x.length≤40) :
    Rn E A2 [.c (.str (B a0)),.fn J0 [.ptr 2 0,.ptr 14 0],.ptr 2 0,.ptr 3 0,.ptr 4 0] [some (.cells [.c (.list (Ps ps)),.c (.list (Hs hs)),.c (.list rs)]),some (.cells [.nils,.nils,.nils]),some (.cells [.c (.list (Ps ps))]),some (.cells [.c (.list (Hs hs))]),some (.cells [.vec 15 b.1.length,.vec 16 b.2.length,.nils]),some (.cells [.fn A1 []]),some .dead,some .dead,some .dead,some .dead,some .dead,some .dead,some .dead,some .dead,RuO r,some (.vec A3 (RA b.1)),some (.vec A0 (R1 b.2))] (.tup []) [some (.cells [.c (.list (Ps ps)),.c (.list (Hs hs)),.c (.list rs)]),some (.cells [.nils,.nils,.nils]),some (.cells [.c (.list (Ps ps))]),some (.cells [.c (.list (Hs hs))]),some (.cells [.vec 17 (b.1.length+1),.vec 18 (b.2.length+1),.nils]),some (.cells [.fn A1 []]),some .dead,some .dead,some .dead,some .dead,some .dead,some .dead,some .dead,some .dead,RuO r,some .dead,some .dead,some (.vec A3 (RA (b.1++[rowF (fun i k=>decQ (0-mfQ ps r.fs i k)) ps.length hs.length]))),some (.vec A0 (R1 (b.2++[a0])))]:=by
 have row:=q2d (E:=E) (a0:=a0) (ps:=ps) (hs:=hs) (r:=r) (c4_0:=b.1.length) (c4_1:=b.2.length) (w5:=RA b.1) (w6:=R1 b.2) (fun i k=>decQ (0-mfQ ps r.fs i k)) (by omega) (by omega) (by omega) (by omega) (fun i' k objs hi' hk' h0 h1=>clo_7 hlib hp hr i' k objs hi' (by omega) h0 h1)
 rw [y2m,Y8] at row
 exact row.putN [2,14,3,4,15,16,17,18] (by decide) rfl (by simp)
  (by intro i hi;match i,hi with | 0,_=>rfl | 1,_=>rfl | 2,_=>rfl | 3,_=>rfl | 4,_=>rfl | 5,_=>rfl)
  (by intro i hi hi';match i,hi,hi' with | 6,_,_=>rfl | 7,_,_=>rfl)
  (by intro i hi;match i,hi with | 0,_=>rfl | 1,_=>rfl | 2,_=>rfl | 3,_=>rfl | 4,_=>rfl | 5,_=>rfl | 6,_=>rfl | 7,_=>rfl)
  (by
   intro l hl
   match l with
    | 0=>rfl
    | 1=>rfl
    | 2=>exact absurd rfl (hl 0 (by simp))
    | 3=>exact absurd rfl (hl 2 (by simp))
    | 4=>exact absurd rfl (hl 3 (by simp))
    | 5=>rfl
    | 6=>rfl
    | 7=>rfl
    | 8=>rfl
    | 9=>rfl
    | 10=>rfl
    | 11=>rfl
    | 12=>rfl
    | 13=>rfl
    | 14=>exact absurd rfl (hl 1 (by simp))
    | 15=>exact absurd rfl (hl 4 (by simp))
    | 16=>exact absurd rfl (hl 5 (by simp))
    | 17=>exact absurd rfl (hl 6 (by simp))
    | 18=>exact absurd rfl (hl 7 (by simp))
    | l+19=>rfl) rfl rfl rfl rfl
noncomputable def rlxH (ps:List Pc) (nh:Nat) (b:List (List (List UInt8)) × List (List UInt8)) (r:Ru):List (List (List UInt8)) × List (List UInt8):=(b.1++[rowF (fun i k=>decQ (mfQ ps r.fs i k)) ps.length nh],b.2++[r.hi])
noncomputable def rlxL (ps:List Pc) (nh:Nat) (b:List (List (List UInt8)) × List (List UInt8)) (r:Ru):List (List (List UInt8)) × List (List UInt8):=(b.1++[rowF (fun i k=>decQ (0-mfQ ps r.fs i k)) ps.length nh],b.2++[decQ (0-rdv r.lo)])
noncomputable def rlx3 (ps:List Pc) (nh:Nat) (b:List (List (List UInt8)) × List (List UInt8)) (r:Ru):List (List (List UInt8)) × List (List UInt8) :=
 if r.kd=1 then (if r.hi=[] then (if r.lo=[] then b else rlxL ps nh b r) else (if r.lo=[] then rlxH ps nh b r else rlxL ps nh (rlxH ps nh b r) r)) else b
theorem u2i (hlib:Lib E) {ps:List Pc} {hs:List Hd} {rs:List Ru} {n:Int} {b0:List (List (List UInt8)) × List (List UInt8)} (n1:ps.length≤7) (n2:hs.length≤7) (n3:rs.length≤17) (m1:b0.1.length≤100) (m2:b0.2.length≤100) (hp:∀ p∈ps,ok1 p.ma=true∧p.ma.length≤40)
    (hR:∀ r∈rs,r.kd=1→Rr ps hs r) :
    Lp E 12 A9 3 (J2 n (Rs rs) ((Rs rs).length:Int) 0 (Ps ps) (Hs hs) (Rs rs) (Ps ps) (Hs hs) b0.1.length b0.2.length (RA b0.1) (R1 b0.2)) (.exit 6)
     (z9k n (Ps ps) (Hs hs) (Rs rs) (Ps ps) (Hs hs) (rs.foldl (rlx3 ps hs.length) b0).1.length (rs.foldl (rlx3 ps hs.length) b0).2.length (RA (rs.foldl (rlx3 ps hs.length) b0).1) (R1 (rs.foldl (rlx3 ps hs.length) b0).2)):=by
 have l3:=z5m rs
 have:=G5 (E:=E) (l:=rs) (n:=12) (F:=A9) (k:=3) (rlx3 ps hs.length) (fun i b=>b.1.length≤100+2*i∧b.2.length≤100+2*i)
  (fun i b=>J2 n (Rs rs) ((Rs rs).length:Int) (i:Nat) (Ps ps) (Hs hs) (Rs rs) (Ps ps) (Hs hs) b.1.length b.2.length (RA b.1) (R1 b.2)) (oe:=.exit 6)
  (fin:=fun b=>z9k n (Ps ps) (Hs hs) (Rs rs) (Ps ps) (Hs hs) b.1.length b.2.length (RA b.1) (R1 b.2)) (fun b hb=>k1e (by omega))
  (fun i r b hr hb=>by
   have hi:=C1 hr
   have g:=A5 (z7c hr)
   have b1:(i:Int)<((Rs rs).length:Int):=by omega
   have b2:(0:Int)≤(i:Nat):=by omega
   have hm:=List.mem_of_getElem? hr
   have hL:=x1g
   unfold rlx3
   by_cases k1:r.kd=1
   rotate_left
   · rw [if_neg k1];exact ⟨by omega,fun o s ih=>k9d b1 b2 g k1 (wi (by omega)) ih⟩
   rw [if_pos k1]
   have hrr:=hR r hm k1
   have hx:∀ x∈r.fs,ok1 x=true∧x.length≤40:=fun x h=>⟨hrr.o x h,hrr.s.2.1 x h⟩
   have sub:r.lo≠[]→Fn E Z6 [.c (.str ⟨#[48]⟩),.c (.str (B r.lo))] (.c (.str (B (decQ (0-rdv r.lo))))):=fun e=>by
    have o:=k2u hrr.lo e
    have m:=y6y hlib Sz.zero (z3d o hrr.s.2.2.1) (by omega)
    rw [← x5q,y1l o] at m
    exact m
   by_cases k2:r.hi=[]
   · rw [if_pos k2]
     by_cases k3:r.lo=[]
     · rw [if_pos k3];exact ⟨by omega,fun o s ih=>k9h b1 b2 g k1 (G6.2 k2) (G6.2 k3) (wi (by omega)) ih⟩
     · rw [if_neg k3]
       refine ⟨⟨by unfold rlxL;rw [List.length_append];simp;omega,by unfold rlxL;rw [List.length_append];simp;omega⟩,fun o s ih=>?_⟩
       have row:=u2d (E:=E) hlib (rs:=Rs rs) (b:=b) (a0:=decQ (0-rdv r.lo)) n1 n2 (by omega) (by omega) hrr.f hp hx
       unfold rlxL at ih
       rw [List.length_append,List.length_append] at ih
       exact k9g b1 b2 g k1 (G6.2 k2) (fun h=>k3 (G6.1 h)) (sub k3) row (wi (by omega)) ih
   · rw [if_neg k2]
     have row:=u2c (E:=E) hlib (rs:=Rs rs) (b:=b) (a0:=r.hi) n1 n2 (by omega) (by omega) hrr.f hp hx
     by_cases k3:r.lo=[]
     · rw [if_pos k3]
       refine ⟨⟨by unfold rlxH;rw [List.length_append];simp;omega,by unfold rlxH;rw [List.length_append];simp;omega⟩,fun o s ih=>?_⟩
       unfold rlxH at ih
       rw [List.length_append,List.length_append] at ih
       exact k9f b1 b2 g k1 (fun h=>k2 (G6.1 h)) row (G6.2 k3) (wi (by omega)) ih
     · rw [if_neg k3]
       refine ⟨⟨by unfold rlxL rlxH;rw [List.length_append,List.length_append];simp;omega,by unfold rlxL rlxH;rw [List.length_append,List.length_append];simp;omega⟩,fun o s ih=>?_⟩
       have row2:=u2e (E:=E) hlib (rs:=Rs rs) (b:=rlxH ps hs.length b r) (a0:=decQ (0-rdv r.lo)) n1 n2 (by unfold rlxH;rw [List.length_append];simp;omega) (by unfold rlxH;rw [List.length_append];simp;omega) hrr.f hp hx
       have e1:(rlxH ps hs.length b r).1.length=b.1.length+1:=by unfold rlxH;rw [List.length_append];rfl
       have e2:(rlxH ps hs.length b r).2.length=b.2.length+1:=by unfold rlxH;rw [List.length_append];rfl
       rw [e1,e2] at row2
       rw [show (rlxL ps hs.length (rlxH ps hs.length b r) r).1.length=b.1.length+1+1 by unfold rlxL;rw [List.length_append,e1];rfl,show (rlxL ps hs.length (rlxH ps hs.length b r) r).2.length=b.2.length+1+1 by unfold rlxL;rw [List.length_append,e2];rfl] at ih
       exact k9e b1 b2 g k1 (fun h=>k2 (G6.1 h)) row (fun h=>k3 (G6.1 h)) (sub k3) row2 (wi (by omega)) ih)
  rs.length 0 b0 (by omega) ⟨by omega,by omega⟩
 rw [List.drop_zero] at this
 exact this.2
theorem x2s {α:Type} (f:List (List (List UInt8)) × List (List UInt8)→α→List (List (List UInt8)) × List (List UInt8)) (hf:∀ b x,(f b x).1.length=b.1.length+1∧(f b x).2.length=b.2.length+1):∀ (l:List α) b,(l.foldl f b).1.length=b.1.length+l.length∧(l.foldl f b).2.length=b.2.length+l.length
 | [],b=>⟨rfl,rfl⟩
 | x::l,b=>by
  have h:=hf b x
  have:=x2s f hf l (f b x)
  rw [List.foldl_cons,List.length_cons];omega
noncomputable def y0x (ps:List Pc) (hs:List Hd) (rs:List Ru):List (List (List UInt8)) × List (List UInt8) :=
 rs.foldl (rlx3 ps hs.length) (hs.zipIdx.foldl (rlx2 ps hs.length) (hs.zipIdx.foldl (rlx1 ps hs.length) (ps.zipIdx.foldl (rlx0 ps.length hs.length) ([],[]))))
def rlxC (ps:List Pc) (hs:List Hd):List (List UInt8):=ps.flatMap fun p=>List.replicate hs.length p.wo
noncomputable def rlxE (ps:List Pc) (hs:List Hd) (rs:List Ru):Int:=if chkE ps hs rs=0 then (if ps.length*hs.length>12∨(y0x ps hs rs).2.length>12 then 8 else 0) else 1
theorem x7e (hlib:Lib E) {ps:List Pc} {hs:List Hd} {rs:List Ru} (h:Sp ps hs rs):Fn E A9 [.agg (Pb ps hs rs)]
    (if rlxE ps hs rs=0 then .tup [.agg [.list (RA (y0x ps hs rs).1),.list (R1 (y0x ps hs rs).2),.list (R1 (rlxC ps hs))],.c (.i64 0)] else .tup [.agg [.list [],.list [],.list []],.c (.i64 (rlxE ps hs rs))]):=by
 have hC:=z7p hlib h
 have n1:=h.sh.np
 have n2:=h.sh.nh
 have n3:=h.nr
 have l1:=z0z ps
 have l2:=Z7 hs
 unfold rlxE
 by_cases c0:chkE ps hs rs=0
 rotate_left
 · rw [if_neg c0,if_neg (by decide)];exact q4m hC c0
 rw [if_pos c0]
 have hcc:=(x5r c0).1
 have z1:=x2s (rlx0 ps.length hs.length) (fun b x=>by unfold rlx0;simp) ps.zipIdx ([],[])
 have z2:=x2s (rlx1 ps hs.length) (fun b x=>by unfold rlx1;simp) hs.zipIdx (ps.zipIdx.foldl (rlx0 ps.length hs.length) ([],[]))
 have z3:=x2s (rlx2 ps hs.length) (fun b x=>by unfold rlx2;simp) hs.zipIdx (hs.zipIdx.foldl (rlx1 ps hs.length) (ps.zipIdx.foldl (rlx0 ps.length hs.length) ([],[])))
 simp only [List.length_zipIdx,List.length_nil] at z1 z2 z3
 have q0:=u2f (E:=E) hlib (ps:=ps) (hs:=hs) (rs:=Rs rs) (n:=((ps.length*hs.length:Nat):Int)) n1 n2 fun p hp=>(j8b hcc hp).2.1
 have q1:=u2g (E:=E) (ps:=ps) (hs:=hs) (rs:=Rs rs) (n:=((ps.length*hs.length:Nat):Int)) (b0:=ps.zipIdx.foldl (rlx0 ps.length hs.length) ([],[])) n1 n2 (by omega) (by omega)
 have q2:=u2h (E:=E) (ps:=ps) (hs:=hs) (rs:=Rs rs) (n:=((ps.length*hs.length:Nat):Int)) (b0:=hs.zipIdx.foldl (rlx1 ps hs.length) (ps.zipIdx.foldl (rlx0 ps.length hs.length) ([],[]))) n1 n2 (by omega) (by omega)
 have q3:=u2i (E:=E) hlib (ps:=ps) (hs:=hs) (rs:=rs) (n:=((ps.length*hs.length:Nat):Int)) (b0:=hs.zipIdx.foldl (rlx2 ps hs.length) (hs.zipIdx.foldl (rlx1 ps hs.length) (ps.zipIdx.foldl (rlx0 ps.length hs.length) ([],[])))) n1 n2 n3 (by omega) (by omega) (fun p hp=>⟨(w5d hcc hp).1,(h.sh.p p hp).1⟩) fun r hr hk=>by
  obtain ⟨i,hi⟩:=List.mem_iff_getElem?.1 hr
  exact Rr.of h c0 hi hk
 have e:IntKind.i64.wrap (((Ps ps).length:Int)*((Hs hs).length:Int))=((ps.length*hs.length:Nat):Int):=by
  rw [l1,l2]
  have hm:ps.length*hs.length≤7*7:=Nat.mul_le_mul n1 n2
  exact wi ⟨by rw [Int.natCast_mul],by omega,by omega⟩
 by_cases c1:ps.length*hs.length>12
 · rw [show (if ps.length*hs.length>12∨(y0x ps hs rs).2.length>12 then (8:Int) else 0)=8 from if_pos (.inl c1),if_neg (by decide)];exact q4n hC c0 q0 q1 q2 q3 (by omega) e
 by_cases c2:(y0x ps hs rs).2.length>12
 · rw [show (if ps.length*hs.length>12∨(y0x ps hs rs).2.length>12 then (8:Int) else 0)=8 from if_pos (.inr c2),if_neg (by decide)];exact q4o hC c0 q0 q1 q2 q3 (by omega) (by unfold y0x at c2;omega) e
 rw [show (if ps.length*hs.length>12∨(y0x ps hs rs).2.length>12 then (8:Int) else 0)=0 from if_neg (fun h=>h.elim c1 c2),if_pos rfl]
 exact q4p hC c0 q0 q1 q2 q3 (by omega) (by unfold y0x at c2;omega) (u2j n1 n2) e (by rw [← v6z,List.take_length];rfl) (by rw [← z0p,List.take_length];rfl) (by rw [← z0p,List.take_length];rfl)
theorem q7w {α β:Type} (g:α→List β):∀ (l:List α) (b:List β),l.foldl (fun b x=>b++g x) b=b++l.flatMap g
 | [],b=>by simp
 | x::l,b=>by rw [List.foldl_cons,q7w g l,List.flatMap_cons,List.append_assoc]
theorem x2l (l:List (List UInt8)):(R1 l).take l.length=R1 l:=by rw [← z0p l,List.take_length]
def j3z (n:Nat) (f:Nat→Bool):List (List UInt8):=(List.range n).map fun i=>onT (f i) [49]
theorem k4a {n:Nat} {z:Int} (f:Nat→Bool) (hn:n≤1000) (hf:∀ i:Nat,i<n→f i=(decide ((i:Int)=z) || decide (z<0))):Fn E P4 [.c (.i64 (n:Nat)),.c (.i64 z)] (.c (.list (R1 (j3z n f)))):=by
 have h:=G5 (E:=E) (l:=List.range n) (n:=0) (F:=P4) (k:=0) (fun b i=>b++[onT (f i) [49]]) (fun i b=>b.length=i) (fun i b=>z2g (n:Nat) z b.length (i:Nat) (R1 b)) (oe:=.exit 0) (fin:=fun b=>x0p b.length (R1 b))
  (fun b hb=>j2i (by rw [List.length_range];omega))
  (fun i x b hx hb=>by
   have hi:i<n:=by have:=C1 hx;rw [List.length_range] at this;exact this
   have hxi:x=i:=by rw [List.getElem?_range hi] at hx;exact (Option.some.inj hx).symm
   subst hxi
   refine ⟨by rw [List.length_append,hb];rfl,fun o s ih=>?_⟩
   have c:=hf x hi
   rw [List.length_append] at ih
   by_cases c1:(x:Int)=z
   · rw [show f x=true by rw [c,decide_eq_true c1];rfl] at ih
     exact j9x (by omega) c1 ⟨by omega,by omega⟩ (Y8 b [49]) rfl (wi (by omega)) ih
   · by_cases c2:z<0
     · rw [show f x=true by rw [c,decide_eq_true c2,Bool.or_true]] at ih
       exact j9y (by omega) c1 c2 ⟨by omega,by omega⟩ (Y8 b [49]) rfl (wi (by omega)) ih
     · rw [show f x=false by rw [c,decide_eq_false c1,decide_eq_false c2];rfl] at ih
       exact j9z (by omega) c1 c2 ⟨by omega,by omega⟩ (Y8 b [48]) rfl (wi (by omega)) ih) n 0 [] (by rw [List.length_range];omega) rfl
 obtain ⟨_,h⟩:=h
 rw [List.drop_zero,z6f (fun i=>onT (f i) [49]),List.nil_append] at h
 exact w0d h (x2l _)
def OkT (K:Nat) (xs:List (List UInt8)):Prop:=∀ x∈xs,ok1 x=true∧x.length≤K
theorem w7f {xs ys:List (List UInt8)} {K L:Nat} (hx:OkT K xs) (hy:OkT L ys) (hK:K≤1000) (hL:L≤1000) (n1:xs.length≤1000) (n2:ys.length≤1000) :
    Fn E I2 [.c (.list (R1 xs)),.c (.list (R1 ys))] (.c (.list (R1 (xs.flatMap fun x=>ys.map fun y=>decQ (rdv x*rdv y))))):=by
 have hLim:=x1g
 have l1:=z0p xs
 have l2:=z0p ys
 have inner:∀ (i:Nat) (x:List UInt8) (b0:List (List UInt8)),xs[i]?=some x→b0.length≤1000000→Lp E 1 I2 1 (y0e (R1 xs) (R1 ys) b0.length (i:Nat) 0 (R1 b0)) (.exit 2) (y4h (R1 xs) (R1 ys) (i:Nat) (b0++ys.map fun y=>decQ (rdv x*rdv y)).length (R1 (b0++ys.map fun y=>decQ (rdv x*rdv y)))):=by
  intro i x b0 hxi hb0
  obtain ⟨o1,o2⟩:=hx x (List.mem_of_getElem? hxi)
  have z1:=z3d o1 o2
  have h:=G5 (E:=E) (l:=ys) (n:=1) (F:=I2) (k:=1) (fun b y=>b++[decQ (rdv x*rdv y)]) (fun k b=>b.length=b0.length+k) (fun k b=>y0e (R1 xs) (R1 ys) b.length (i:Nat) (k:Nat) (R1 b)) (oe:=.exit 2) (fin:=fun b=>y4h (R1 xs) (R1 ys) (i:Nat) b.length (R1 b))
   (fun b hb=>j2j (by omega))
   (fun k y b hyk hb=>by
    have hk:=C1 hyk
    obtain ⟨p1,p2⟩:=hy y (List.mem_of_getElem? hyk)
    have z2:=z3d p1 p2
    refine ⟨by rw [List.length_append,hb];rfl,fun o s ih=>?_⟩
    rw [List.length_append] at ih
    exact q0b (by omega) (by omega) (A5 (y0f hxi)) (q6f (by omega)) (by omega) (A5 (y0f hyk)) (q6f (by omega)) (r3_Mul z1 z2 (by omega)) (u1v (z1.mul z2) (by omega)) ⟨by omega,by omega⟩ (Y8 b _) rfl (wi (by omega)) ih) ys.length 0 b0 (by omega) rfl
  obtain ⟨_,h⟩:=h
  rw [List.drop_zero,z6f (fun y=>decQ (rdv x*rdv y))] at h
  exact h
 have h:=G5 (E:=E) (l:=xs) (n:=0) (F:=I2) (k:=0) (fun b x=>b++ys.map fun y=>decQ (rdv x*rdv y)) (fun i b=>b.length=i*ys.length) (fun i b=>y6p (R1 xs) (R1 ys) b.length (i:Nat) (R1 b)) (oe:=.exit 0) (fin:=fun b=>x3b b.length (R1 b))
  (fun b hb=>j6l (by omega))
  (fun i x b hxi hb=>by
   have hi:=C1 hxi
   have hm:i*ys.length≤1000*1000:=Nat.mul_le_mul (by omega) n2
   refine ⟨by rw [List.length_append,hb,List.length_map,Nat.add_mul,Nat.one_mul],fun o s ih=>?_⟩
   exact q4d (by omega) (inner i x b hxi (by omega)) (wi (by omega)) ih) xs.length 0 [] (by omega) (by simp)
 obtain ⟨_,h⟩:=h
 rw [List.drop_zero,q7w (fun x=>ys.map fun y=>decQ (rdv x*rdv y)),List.nil_append] at h
 exact w3k h (x2l _)
theorem j4j {xs:List (List UInt8)} {K:Nat} (hx:OkT K xs) (hK:K≤1000) (n1:xs.length≤1000):Fn E N4 [.c (.list (R1 xs))] (.c (.list (R1 (xs.map fun x=>decQ (-(rdv x)))))):=by
 have hLim:=x1g
 have l1:=z0p xs
 have h:=G5 (E:=E) (l:=xs) (n:=0) (F:=N4) (k:=0) (fun b x=>b++[decQ (-(rdv x))]) (fun i b=>b.length=i) (fun i b=>z6c (R1 xs) b.length (i:Nat) (R1 b)) (oe:=.exit 0) (fin:=fun b=>y3l b.length (R1 b))
  (fun b hb=>x8j (by omega))
  (fun i x b hxi hb=>by
   have hi:=C1 hxi
   obtain ⟨o1,o2⟩:=hx x (List.mem_of_getElem? hxi)
   have z1:=z3d o1 o2
   refine ⟨by rw [List.length_append,hb];rfl,fun o s ih=>?_⟩
   rw [List.length_append] at ih
   exact k4r (by omega) (by omega) (A5 (y0f hxi)) (q6f (by omega)) (r3_Neg _) (u1v z1.neg (by omega)) ⟨by omega,by omega⟩ (Y8 b _) rfl (wi (by omega)) ih) xs.length 0 [] (by omega) rfl
 obtain ⟨_,h⟩:=h
 rw [List.drop_zero,z6f (fun x=>decQ (-(rdv x))),List.nil_append] at h
 exact q0a h (x2l _)
theorem w2n {xs:List (List UInt8)}:(List.range xs.length).map (fun i=>(xs[i]?).getD [])=xs:=by
 apply List.ext_getElem
 · simp
 · intro i h1 h2
   simp [List.getElem?_eq_getElem h2]
theorem u4x (g:List UInt8→List UInt8→List UInt8) (xs ys:List (List UInt8)):(xs.flatMap fun x=>ys.map (g x))=rowF (fun i k=>g ((xs[i]?).getD []) ((ys[k]?).getD [])) xs.length ys.length:=by
 unfold rowF
 conv=>lhs;rw [← w2n (xs:=xs)]
 rw [List.flatMap_map]
 congr 1
 funext i
 conv=>lhs;rw [← w2n (xs:=ys)]
 rw [List.map_map];rfl
theorem w5u {f g:Nat→Nat→List UInt8} {np nh:Nat} (h:∀ i k,i<np→k<nh→f i k=g i k):rowF f np nh=rowF g np nh:=by
 unfold rowF
 rw [List.flatMap_def,List.flatMap_def]
 congr 1
 apply List.map_congr_left
 intro i hi
 apply List.map_congr_left
 intro k hk
 exact h i k (List.mem_range.1 hi) (List.mem_range.1 hk)
theorem w6z:ok1 [49]=true:=by kernel_rfl
theorem u1a:ok1 [48]=true:=by kernel_rfl
theorem v8q:rdv [49]=1:=by kernel_rfl
theorem u2a:rdv [48]=0:=by kernel_rfl
theorem x6r (n:Nat) (f:Nat→Bool):(j3z n f).length=n:=by simp [j3z]
theorem k3r (n:Nat) (f:Nat→Bool):OkT 1 (j3z n f):=by
 intro x hx
 obtain ⟨i,_,rfl⟩:=List.mem_map.1 hx
 cases f i with
 | true=>exact ⟨w6z,by decide⟩
 | false=>exact ⟨u1a,by decide⟩
theorem k5w {n:Nat} {f:Nat→Bool} {k:Nat} (h:k<n):rdv (((j3z n f)[k]?).getD [])=if f k=true then 1 else 0:=by
 unfold j3z
 rw [List.getElem?_map,List.getElem?_range h]
 show rdv (onT (f k) [49])=_
 cases f k with
 | true=>exact v8q
 | false=>exact u2a
def masL (ps:List Pc):List (List UInt8):=ps.map Pc.ma
def volL (ps:List Pc):List (List UInt8):=ps.map Pc.vo
def worL (ps:List Pc):List (List UInt8):=ps.map Pc.wo
theorem rfx_L0 {ps:List Pc} {hs rs:RW} {m:Int} (n1:ps.length≤7) :
    Lp E 2 B4 0 (z7k ((Ps ps).length:Int) m 0 0 0 0 (Ps ps) hs rs [] [] []) (.exit 0) (y2v ((Ps ps).length:Int) m (Ps ps) hs rs (masL ps).length (volL ps).length (worL ps).length (R1 (masL ps)) (R1 (volL ps)) (R1 (worL ps))):=by
 have l1:=z0z ps
 have h:=G5 (E:=E) (l:=ps) (n:=2) (F:=B4) (k:=0) (fun (b:List (List UInt8) × List (List UInt8) × List (List UInt8)) p=>(b.1++[p.ma],b.2.1++[p.vo],b.2.2++[p.wo])) (fun i b=>b.1.length=i∧b.2.1.length=i∧b.2.2.length=i)
  (fun i b=>z7k ((Ps ps).length:Int) m b.1.length b.2.1.length b.2.2.length (i:Nat) (Ps ps) hs rs (R1 b.1) (R1 b.2.1) (R1 b.2.2)) (oe:=.exit 0) (fin:=fun b=>y2v ((Ps ps).length:Int) m (Ps ps) hs rs b.1.length b.2.1.length b.2.2.length (R1 b.1) (R1 b.2.1) (R1 b.2.2))
  (fun b hb=>k8r (by omega))
  (fun i p b hp hb=>by
   have hi:=C1 hp
   refine ⟨⟨by rw [List.length_append,hb.1];rfl,by rw [List.length_append,hb.2.1];rfl,by rw [List.length_append,hb.2.2];rfl⟩,fun o s ih=>?_⟩
   rw [List.length_append,List.length_append,List.length_append] at ih
   exact j6b (by omega) (by omega) (A5 (X5 hp)) ⟨by omega,by omega⟩ ⟨by omega,by omega⟩ ⟨by omega,by omega⟩ (Y8 b.1 _) rfl (Y8 b.2.1 _) rfl (Y8 b.2.2 _) rfl (wi (by omega)) ih) ps.length 0 ([],[],[]) (by omega) ⟨rfl,rfl,rfl⟩
 obtain ⟨_,h⟩:=h
 have e:∀ (l:List Pc) (b:List (List UInt8) × List (List UInt8) × List (List UInt8)),l.foldl (fun b p=>(b.1++[p.ma],b.2.1++[p.vo],b.2.2++[p.wo])) b=(b.1++l.map Pc.ma,b.2.1++l.map Pc.vo,b.2.2++l.map Pc.wo):=by
  intro l
  induction l with
  | nil=>intro b;simp
  | cons p l ih=>intro b;rw [List.foldl_cons,ih];simp
 rw [List.drop_zero,e] at h
 exact h
theorem u2p {xs ys:List (List UInt8)} {f:Nat→Nat→List UInt8} {np nh:Nat} (h1:xs.length=np)(h2:ys.length=nh) (h:∀ i k,i<np→k<nh→decQ (rdv ((xs[i]?).getD [])*rdv ((ys[k]?).getD []))=f i k):(xs.flatMap fun x=>ys.map fun y=>decQ (rdv x*rdv y))=rowF f np nh:=by
 rw [u4x (fun x y=>decQ (rdv x*rdv y)),h1,h2]
 exact w5u h
theorem k4b {xs ys:List (List UInt8)} {K L:Nat} {f:Nat→Nat→List UInt8} {np nh:Nat} (hx:OkT K xs) (hy:OkT L ys) (hK:K≤1000) (hL:L≤1000)(h1:xs.length=np)(h2:ys.length=nh) (n1:np≤1000) (n2:nh≤1000) (h:∀ i k,i<np→k<nh→decQ (rdv ((xs[i]?).getD [])*rdv ((ys[k]?).getD []))=f i k) :
    Fn E I2 [.c (.list (R1 xs)),.c (.list (R1 ys))] (.c (.list (R1 (rowF f np nh)))):=by
 rw [← u2p h1 h2 h];exact w7f hx hy hK hL (by omega) (by omega)
theorem w6o {b:Bool} {x:List UInt8} (hx:ok1 x=true):decQ (rdv x*(if b=true then 1 else 0))=onT b x:=by
 cases b with
 | true=>rw [if_pos rfl,Rat.mul_one,k5m hx];rfl
 | false=>rw [if_neg (by decide),Rat.mul_zero,x5t];rfl
theorem rfx_L1 (hlib:Lib E) {ps:List Pc} {hs rs:RW} {r3 r4 r5 r6:RW} {nh a b':Nat} (n1:ps.length≤7) (n2:nh≤7) (hu:∀ p∈ps,1≤p.un∧p.un≤9) :
    Lp E 6 B4 1 (z7l ((Ps ps).length:Int) (nh:Nat) a b' 0 (Ps ps) hs rs r3 r4 r5 0 0 r6 [] []) (.exit 2)
     (y2w (nh:Nat) a b' (Ps ps) hs rs r3 r4 r5 r6 (ps.zipIdx.foldl (rlx0 ps.length nh) ([],[])).1.length (ps.zipIdx.foldl (rlx0 ps.length nh) ([],[])).2.length (RA (ps.zipIdx.foldl (rlx0 ps.length nh) ([],[])).1) (R1 (ps.zipIdx.foldl (rlx0 ps.length nh) ([],[])).2)):=by
 have l1:=z0z ps
 have hz:ps.zipIdx.length=ps.length:=by simp
 have hLim:=x1g
 have:=G5 (E:=E) (l:=ps.zipIdx) (n:=6) (F:=B4) (k:=1) (rlx0 ps.length nh) (fun i b=>b.1.length=i∧b.2.length=i)
  (fun i b=>z7l ((Ps ps).length:Int) (nh:Nat) a b' (i:Nat) (Ps ps) hs rs r3 r4 r5 b.1.length b.2.length r6 (RA b.1) (R1 b.2)) (oe:=.exit 2)
  (fin:=fun b=>y2w (nh:Nat) a b' (Ps ps) hs rs r3 r4 r5 r6 b.1.length b.2.length (RA b.1) (R1 b.2)) (fun b hb=>k8s (by omega))
  (fun i x b hx hb=>by
   have hi:=C1 hx
   obtain ⟨g1,g2⟩:=y5b hx
   have hun:=hu x.1 (List.mem_of_getElem? g1)
   refine ⟨⟨by simp [rlx0,hb.1],by simp [rlx0,hb.2]⟩,fun o s ih=>?_⟩
   unfold rlx0 at ih
   rw [g2,List.length_append,List.length_append] at ih
   have k1:=k4a (E:=E) (n:=ps.length) (z:=(i:Nat)) (fun i'=>i' == i) (by omega) (fun i' _=>by rw [decide_eq_false (show ¬ ((i:Int)<0) by omega),Bool.or_false,Bool.eq_iff_iff];simp;omega)
   have k2:=k4a (E:=E) (n:=nh) (z:=-1) (fun _=>true) (by omega) (fun _ _=>rfl)
   have k3:=k4b (E:=E) (f:=fun i' _=>onT (i' == i) [49]) (np:=ps.length) (nh:=nh) (k3r ps.length fun i'=>i' == i) (k3r nh fun _=>true) (by omega) (by omega) (x6r _ _) (x6r _ _) (by omega) (by omega) fun i' k hi' hk=>by
    rw [k5w hi',k5w hk]
    show decQ ((if (i' == i)=true then 1 else 0)*(if true=true then 1 else 0))=onT (i' == i) [49]
    cases i' == i with
    | true =>
     have:=k5m w6z
     rw [v8q] at this
     rw [if_pos rfl,Rat.mul_one];exact this
    | false=>rw [if_neg (by decide),Rat.zero_mul,x5t];rfl
   have k4:=u1u (E:=E) (z:=x.1.un) (by omega)
   have k5:=u1v (E:=E) (q:=(x.1.un:Rat)) (K:=10) (Sz.int (by omega) (by omega)) (by omega)
   rw [x1i] at k5
   rw [l1] at ih ⊢
   exact j6c (by omega) k1 k2 k3 ⟨by omega,by omega⟩ (by omega) (A5 (X5 g1)) k4 k5 ⟨by omega,by omega⟩ (y2m b.1 _) rfl (Y8 b.2 _) rfl (wi (by omega)) ih) ps.length 0 ([],[]) (by omega) ⟨rfl,rfl⟩
 obtain ⟨_,h⟩:=this
 rw [List.drop_zero] at h
 exact h
theorem rfx_L2 {ps:List Pc} {hs:List Hd} {rs:RW} {r4 r5 r6:RW} {b':Nat} {b0:List (List (List UInt8)) × List (List UInt8)} (n1:ps.length≤7) (n2:hs.length≤7) (m1:b0.1.length≤20) (m2:b0.2.length≤20) (hp:∀ p∈ps,ok1 p.ma=true∧p.ma.length≤40) :
    Lp E 8 B4 2 (z7m ((Hs hs).length:Int) (masL ps).length b' 0 (Ps ps) (Hs hs) rs (R1 (masL ps)) r4 r5 b0.1.length b0.2.length r6 (RA b0.1) (R1 b0.2)) (.exit 4)
     (y2x ((Hs hs).length:Int) (masL ps).length b' (Ps ps) (Hs hs) rs (R1 (masL ps)) r4 r5 r6 (hs.zipIdx.foldl (rlx1 ps hs.length) b0).1.length (hs.zipIdx.foldl (rlx1 ps hs.length) b0).2.length (RA (hs.zipIdx.foldl (rlx1 ps hs.length) b0).1) (R1 (hs.zipIdx.foldl (rlx1 ps hs.length) b0).2)):=by
 have l1:=Z7 hs
 have hz:hs.zipIdx.length=hs.length:=by simp
 have hM:OkT 40 (masL ps):=fun x hx=>by obtain ⟨p,h1,rfl⟩:=List.mem_map.1 hx;exact hp p h1
 have hMl:(masL ps).length=ps.length:=List.length_map _
 have:=G5 (E:=E) (l:=hs.zipIdx) (n:=8) (F:=B4) (k:=2) (rlx1 ps hs.length) (fun i b=>b.1.length≤20+i∧b.2.length≤20+i)
  (fun i b=>z7m ((Hs hs).length:Int) (masL ps).length b' (i:Nat) (Ps ps) (Hs hs) rs (R1 (masL ps)) r4 r5 b.1.length b.2.length r6 (RA b.1) (R1 b.2)) (oe:=.exit 4)
  (fin:=fun b=>y2x ((Hs hs).length:Int) (masL ps).length b' (Ps ps) (Hs hs) rs (R1 (masL ps)) r4 r5 r6 b.1.length b.2.length (RA b.1) (R1 b.2)) (fun b hb=>k8t (by omega))
  (fun i x b hx hb=>by
   have hi:=C1 hx
   obtain ⟨g1,g2⟩:=y5b hx
   refine ⟨⟨by simp [rlx1];omega,by simp [rlx1];omega⟩,fun o s ih=>?_⟩
   unfold rlx1 at ih
   rw [g2,List.length_append,List.length_append] at ih
   have k1:=k4a (E:=E) (n:=hs.length) (z:=(i:Nat)) (fun k=>k == i) (by omega) (fun k _=>by rw [decide_eq_false (show ¬ ((i:Int)<0) by omega),Bool.or_false,Bool.eq_iff_iff];simp;omega)
   have k3:=k4b (E:=E) (f:=fun i' k=>onT (k == i) (((ps[i']?).map Pc.ma).getD [])) (np:=ps.length) (nh:=hs.length) hM (k3r hs.length fun k=>k == i) (by omega) (by omega) hMl (x6r _ _) (by omega) (by omega) fun i' k hi' hk=>by
    rw [k5w hk,show ((masL ps)[i']?)=(ps[i']?).map Pc.ma from List.getElem?_map]
    obtain ⟨p,hpi⟩:=z0o (l:=ps) (i:=i') hi'
    rw [hpi]
    exact w6o (b:=k == i) (hp p (List.mem_of_getElem? hpi)).1
   rw [l1] at ih ⊢
   exact j6d (by omega) k1 k3 ⟨by omega,by omega⟩ (by omega) (A5 (z1m g1)) ⟨by omega,by omega⟩ (x2l _) (y2m b.1 _) rfl (Y8 b.2 _) rfl (wi (by omega)) ih) hs.length 0 b0 (by omega) ⟨by omega,by omega⟩
 obtain ⟨_,h⟩:=this
 rw [List.drop_zero] at h
 exact h
theorem rfx_L3 {ps:List Pc} {hs:List Hd} {rs:RW} {r3 r5 r6:RW} {a:Nat} {b0:List (List (List UInt8)) × List (List UInt8)} (n1:ps.length≤7) (n2:hs.length≤7) (m1:b0.1.length≤20) (m2:b0.2.length≤20) (hp:∀ p∈ps,ok1 p.vo=true∧p.vo.length≤40) :
    Lp E 10 B4 3 (z7n ((Hs hs).length:Int) a (volL ps).length 0 (Ps ps) (Hs hs) rs r3 (R1 (volL ps)) r5 b0.1.length b0.2.length r6 (RA b0.1) (R1 b0.2)) (.exit 6)
     (y2y a (Ps ps) (Hs hs) rs r3 (R1 (volL ps)) r5 r6 (hs.zipIdx.foldl (rlx2 ps hs.length) b0).1.length (hs.zipIdx.foldl (rlx2 ps hs.length) b0).2.length (RA (hs.zipIdx.foldl (rlx2 ps hs.length) b0).1) (R1 (hs.zipIdx.foldl (rlx2 ps hs.length) b0).2)):=by
 have l1:=Z7 hs
 have hz:hs.zipIdx.length=hs.length:=by simp
 have hM:OkT 40 (volL ps):=fun x hx=>by obtain ⟨p,h1,rfl⟩:=List.mem_map.1 hx;exact hp p h1
 have hMl:(volL ps).length=ps.length:=List.length_map _
 have:=G5 (E:=E) (l:=hs.zipIdx) (n:=10) (F:=B4) (k:=3) (rlx2 ps hs.length) (fun i b=>b.1.length≤20+i∧b.2.length≤20+i)
  (fun i b=>z7n ((Hs hs).length:Int) a (volL ps).length (i:Nat) (Ps ps) (Hs hs) rs r3 (R1 (volL ps)) r5 b.1.length b.2.length r6 (RA b.1) (R1 b.2)) (oe:=.exit 6)
  (fin:=fun b=>y2y a (Ps ps) (Hs hs) rs r3 (R1 (volL ps)) r5 r6 b.1.length b.2.length (RA b.1) (R1 b.2)) (fun b hb=>k8u (by omega))
  (fun i x b hx hb=>by
   have hi:=C1 hx
   obtain ⟨g1,g2⟩:=y5b hx
   refine ⟨⟨by simp [rlx2];omega,by simp [rlx2];omega⟩,fun o s ih=>?_⟩
   unfold rlx2 at ih
   rw [g2,List.length_append,List.length_append] at ih
   have k1:=k4a (E:=E) (n:=hs.length) (z:=(i:Nat)) (fun k=>k == i) (by omega) (fun k _=>by rw [decide_eq_false (show ¬ ((i:Int)<0) by omega),Bool.or_false,Bool.eq_iff_iff];simp;omega)
   have k3:=k4b (E:=E) (f:=fun i' k=>onT (k == i) (((ps[i']?).map Pc.vo).getD [])) (np:=ps.length) (nh:=hs.length) hM (k3r hs.length fun k=>k == i) (by omega) (by omega) hMl (x6r _ _) (by omega) (by omega) fun i' k hi' hk=>by
    rw [k5w hk,show ((volL ps)[i']?)=(ps[i']?).map Pc.vo from List.getElem?_map]
    obtain ⟨p,hpi⟩:=z0o (l:=ps) (i:=i') hi'
    rw [hpi]
    exact w6o (b:=k == i) (hp p (List.mem_of_getElem? hpi)).1
   rw [l1] at ih ⊢
   exact j6e (by omega) k1 k3 ⟨by omega,by omega⟩ (by omega) (A5 (z1m g1)) ⟨by omega,by omega⟩ (x2l _) (y2m b.1 _) rfl (Y8 b.2 _) rfl (wi (by omega)) ih) hs.length 0 b0 (by omega) ⟨by omega,by omega⟩
 obtain ⟨_,h⟩:=this
 rw [List.drop_zero] at h
 exact h
theorem w6w (q:Rat):-q=0-q:=by rw [Rat.sub_eq_add_neg,Rat.zero_add]
noncomputable def oppL (fs:List (List UInt8)):List (List UInt8):=fs.map fun x=>decQ (-(rdv x))
theorem u4j {fs:List (List UInt8)} (h:OkT 40 fs):OkT 82 (oppL fs):=by
 intro x hx
 obtain ⟨f,hf,rfl⟩:=List.mem_map.1 hx
 obtain ⟨o1,o2⟩:=h f hf
 exact ⟨u4d _,(z3d o1 o2).neg.len⟩
theorem u2k {ps:List Pc} {fs:List (List UInt8)} {nh:Nat} (n1:ps.length≤7) (n2:nh≤7) (hf:fs.length=nh) (hp:∀ p∈ps,ok1 p.ma=true∧p.ma.length≤40) (ho:OkT 40 fs) :
    Fn E I2 [.c (.list (R1 (masL ps))),.c (.list (R1 fs))] (.c (.list (R1 (rowF (fun i k=>decQ (mfQ ps fs i k)) ps.length nh)))):=by
 have hM:OkT 40 (masL ps):=fun x hx=>by obtain ⟨p,h1,rfl⟩:=List.mem_map.1 hx;exact hp p h1
 refine k4b hM ho (by omega) (by omega) (List.length_map _) hf (by omega) (by omega) fun i k hi hk=>?_
 rw [show ((masL ps)[i]?)=(ps[i]?).map Pc.ma from List.getElem?_map];rfl
theorem u2l {ps:List Pc} {fs:List (List UInt8)} {nh:Nat} (n1:ps.length≤7) (n2:nh≤7) (hf:fs.length=nh) (hp:∀ p∈ps,ok1 p.ma=true∧p.ma.length≤40) (ho:OkT 40 fs) :
    Fn E I2 [.c (.list (R1 (masL ps))),.c (.list (R1 (oppL fs)))] (.c (.list (R1 (rowF (fun i k=>decQ (0-mfQ ps fs i k)) ps.length nh)))):=by
 have hM:OkT 40 (masL ps):=fun x hx=>by obtain ⟨p,h1,rfl⟩:=List.mem_map.1 hx;exact hp p h1
 refine k4b hM (u4j ho) (by omega) (by omega) (List.length_map _) ((List.length_map _).trans hf) (by omega) (by omega) fun i k hi hk=>?_
 obtain ⟨f,hfk⟩:=z0o (l:=fs) (i:=k) (by omega)
 rw [show ((masL ps)[i]?)=(ps[i]?).map Pc.ma from List.getElem?_map,show ((oppL fs)[k]?)=(fs[k]?).map _ from List.getElem?_map,hfk]
 unfold mfQ
 rw [hfk]
 show decQ (_*rdv (decQ (-(rdv f))))=decQ (0-_*rdv f)
 rw [v8p,Rat.mul_neg,w6w]
theorem rfx_L4 {ps:List Pc} {hs:List Hd} {rs:List Ru} {r4 r5 r6:RW} {b0:List (List (List UInt8)) × List (List UInt8)} (n1:ps.length≤7) (n2:hs.length≤7) (n3:rs.length≤17) (m1:b0.1.length≤100) (m2:b0.2.length≤100) (hp:∀ p∈ps,ok1 p.ma=true∧p.ma.length≤40)
    (hR:∀ r∈rs,r.kd=1→Rr ps hs r) :
    Lp E 12 B4 4 (O5 (masL ps).length 0 (Ps ps) (Hs hs) (Rs rs) (R1 (masL ps)) r4 r5 b0.1.length b0.2.length r6 (RA b0.1) (R1 b0.2)) (.exit 8)
     (y2z (Ps ps) (Hs hs) (Rs rs) (R1 (masL ps)) r4 r5 r6 (rs.foldl (rlx3 ps hs.length) b0).1.length (rs.foldl (rlx3 ps hs.length) b0).2.length (RA (rs.foldl (rlx3 ps hs.length) b0).1) (R1 (rs.foldl (rlx3 ps hs.length) b0).2)):=by
 have l3:=z5m rs
 have:=G5 (E:=E) (l:=rs) (n:=12) (F:=B4) (k:=4) (rlx3 ps hs.length) (fun i b=>b.1.length≤100+2*i∧b.2.length≤100+2*i)
  (fun i b=>O5 (masL ps).length (i:Nat) (Ps ps) (Hs hs) (Rs rs) (R1 (masL ps)) r4 r5 b.1.length b.2.length r6 (RA b.1) (R1 b.2)) (oe:=.exit 8)
  (fin:=fun b=>y2z (Ps ps) (Hs hs) (Rs rs) (R1 (masL ps)) r4 r5 r6 b.1.length b.2.length (RA b.1) (R1 b.2)) (fun b hb=>k8v (by omega))
  (fun i r b hr hb=>by
   have hi:=C1 hr
   have g:=A5 (z7c hr)
   have b1:(i:Int)<((Rs rs).length:Int):=by omega
   have b2:(0:Int)≤(i:Nat):=by omega
   have hm:=List.mem_of_getElem? hr
   unfold rlx3
   by_cases k1:r.kd=1
   rotate_left
   · rw [if_neg k1];exact ⟨by omega,fun o s ih=>j6j b1 b2 g k1 (wi (by omega)) ih⟩
   rw [if_pos k1]
   have hrr:=hR r hm k1
   have ho:OkT 40 r.fs:=fun x h=>⟨hrr.o x h,hrr.s.2.1 x h⟩
   have rowH:=u2k (E:=E) n1 n2 hrr.f hp ho
   have rowL:=u2l (E:=E) n1 n2 hrr.f hp ho
   have opp:=j4j (E:=E) ho (by omega) (by have:=hrr.s.1;omega)
   have low:r.lo≠[]→Fn E N4 [.c (.list (R1 [r.lo]))] (.c (.list (R1 [decQ (0-rdv r.lo)]))):=fun e=>by
    have o:=k2u hrr.lo e
    have m:=j4j (E:=E) (xs:=[r.lo]) (K:=40) (fun x hx=>by rw [List.mem_singleton.1 hx];exact ⟨o,hrr.s.2.2.1⟩) (by omega) (by simp)
    rw [← w6w];exact m
   by_cases k2:r.hi=[]
   · rw [if_pos k2]
     by_cases k3:r.lo=[]
     · rw [if_pos k3];exact ⟨by omega,fun o s ih=>j6i b1 b2 g k1 (G6.2 k2) (G6.2 k3) (wi (by omega)) ih⟩
     · rw [if_neg k3]
       refine ⟨⟨by unfold rlxL;rw [List.length_append];simp;omega,by unfold rlxL;rw [List.length_append];simp;omega⟩,fun o s ih=>?_⟩
       unfold rlxL at ih
       rw [List.length_append,List.length_append] at ih
       exact j6h b1 b2 g k1 (G6.2 k2) (fun h=>k3 (G6.1 h)) opp rowL ⟨by omega,by omega⟩ (low k3) rfl ⟨by omega,by omega⟩ (x2l _) (y2m b.1 _) rfl rfl (Y8 b.2 _) rfl (wi (by omega)) ih
   · rw [if_neg k2]
     by_cases k3:r.lo=[]
     · rw [if_pos k3]
       refine ⟨⟨by unfold rlxH;rw [List.length_append];simp;omega,by unfold rlxH;rw [List.length_append];simp;omega⟩,fun o s ih=>?_⟩
       unfold rlxH at ih
       rw [List.length_append,List.length_append] at ih
       exact j6g b1 b2 g k1 (fun h=>k2 (G6.1 h)) rowH ⟨by omega,by omega⟩ ⟨by omega,by omega⟩ (G6.2 k3) (x2l _) (y2m b.1 _) rfl (Y8 b.2 _) rfl (wi (by omega)) ih
     · rw [if_neg k3]
       refine ⟨⟨by unfold rlxL rlxH;rw [List.length_append,List.length_append];simp;omega,by unfold rlxL rlxH;rw [List.length_append,List.length_append];simp;omega⟩,fun o s ih=>?_⟩
       have s1:=y2m (b.1++[rowF (fun i k=>decQ (mfQ ps r.fs i k)) ps.length hs.length]) (rowF (fun i k=>decQ (0-mfQ ps r.fs i k)) ps.length hs.length)
       have s2:=Y8 (b.2++[r.hi]) (decQ (0-rdv r.lo))
       rw [List.length_append] at s1 s2
       unfold rlxL rlxH at ih
       rw [List.length_append,List.length_append,List.length_append,List.length_append] at ih
       exact j6f b1 b2 g k1 (fun h=>k2 (G6.1 h)) rowH ⟨by omega,by omega⟩ ⟨by omega,by omega⟩ (fun h=>k3 (G6.1 h)) opp rowL ⟨by omega,by omega⟩ (low k3) rfl ⟨by omega,by omega⟩ (x2l _) (y2m b.1 _) rfl (Y8 b.2 _) rfl s1 rfl rfl s2 rfl (wi (by omega)) ih) rs.length 0 b0 (by omega) ⟨by omega,by omega⟩
 obtain ⟨_,h⟩:=this
 rw [List.drop_zero] at h
 exact h
def rlxC' (ps:List Pc) (nh:Nat):List (List UInt8):=ps.flatMap fun p=>List.replicate nh p.wo
theorem w9g {ps:List Pc} {nh:Nat} (n1:ps.length≤7) (n2:nh≤7) (hp:∀ p∈ps,ok1 p.wo=true∧p.wo.length≤40):Fn E I2 [.c (.list (R1 (worL ps))),.c (.list (R1 (j3z nh fun _=>true)))] (.c (.list (R1 (ps.flatMap fun p=>List.replicate nh p.wo)))):=by
 have hM:OkT 40 (worL ps):=fun x hx=>by obtain ⟨p,h1,rfl⟩:=List.mem_map.1 hx;exact hp p h1
 have h:=w7f (E:=E) hM (k3r nh fun _=>true) (by omega) (by omega) (by rw [show (worL ps).length=ps.length from List.length_map _];omega) (by rw [x6r];omega)
 have e:((worL ps).flatMap fun x=>(j3z nh fun _=>true).map fun y=>decQ (rdv x*rdv y))=ps.flatMap fun p=>List.replicate nh p.wo:=by
  unfold worL j3z
  rw [List.flatMap_map,List.flatMap_def,List.flatMap_def]
  congr 1
  apply List.map_congr_left
  intro p hpm
  rw [List.map_map]
  apply List.ext_getElem
  · simp
  · intro i h1 h2
    have e1:=v8q
    have e2:=k5m (hp p hpm).1
    simp only [List.getElem_map,List.getElem_replicate,Function.comp]
    show decQ (rdv p.wo*rdv [49])=p.wo
    rw [e1,Rat.mul_one];exact e2
 rw [e] at h;exact h
theorem w7q (ps:List Pc) (nh:Nat):(rlxC' ps nh).length=ps.length*nh:=by
 unfold rlxC'
 induction ps with
 | nil=>simp
 | cons p ps ih=>rw [List.flatMap_cons,List.length_append,List.length_replicate,ih,List.length_cons,Nat.add_mul];omega
theorem w8s (hlib:Lib E) {ps:List Pc} {hs:List Hd} {rs:List Ru} (h:Sp ps hs rs):Fn E B4 [.agg (Pb ps hs rs)]
    (if rlxE ps hs rs=0 then .tup [.agg [.list (RA (y0x ps hs rs).1),.list (R1 (y0x ps hs rs).2),.list (R1 (rlxC ps hs))],.c (.i64 0)] else .tup [.agg [.list [],.list [],.list []],.c (.i64 (rlxE ps hs rs))]):=by
 have hC:=v6e (E:=E) h
 have n1:=h.sh.np
 have n2:=h.sh.nh
 have n3:=h.nr
 have l1:=z0z ps
 have l2:=Z7 hs
 unfold rlxE
 by_cases c0:chkE ps hs rs=0
 rotate_left
 · rw [if_neg c0,if_neg (by decide)];exact v4f hC c0
 rw [if_pos c0]
 have hcc:=(x5r c0).1
 have z1:=x2s (rlx0 ps.length hs.length) (fun b x=>by unfold rlx0;simp) ps.zipIdx ([],[])
 have z2:=x2s (rlx1 ps hs.length) (fun b x=>by unfold rlx1;simp) hs.zipIdx (ps.zipIdx.foldl (rlx0 ps.length hs.length) ([],[]))
 have z3:=x2s (rlx2 ps hs.length) (fun b x=>by unfold rlx2;simp) hs.zipIdx (hs.zipIdx.foldl (rlx1 ps hs.length) (ps.zipIdx.foldl (rlx0 ps.length hs.length) ([],[])))
 simp only [List.length_zipIdx,List.length_nil] at z1 z2 z3
 have pP:∀ p∈ps,(ok1 p.ma=true∧p.ma.length≤40)∧(ok1 p.vo=true∧p.vo.length≤40)∧(ok1 p.wo=true∧p.wo.length≤40):=fun p hp=>by
  have a:=w5d hcc hp
  have b:=h.sh.p p hp
  exact ⟨⟨a.1,b.1⟩,⟨a.2.1,b.2.1⟩,a.2.2,b.2.2⟩
 have q0:=rfx_L0 (E:=E) (ps:=ps) (hs:=Hs hs) (rs:=Rs rs) (m:=((Hs hs).length:Int)) n1
 have qo:=k4a (E:=E) (n:=hs.length) (z:=-1) (fun _=>true) (by omega) (fun _ _=>rfl)
 have qc:=w9g (E:=E) n1 n2 fun p hp=>(pP p hp).2.2
 have q1:=rfx_L1 (E:=E) hlib (ps:=ps) (hs:=Hs hs) (rs:=Rs rs) (r3:=R1 (masL ps)) (r4:=R1 (volL ps)) (r5:=R1 (worL ps)) (r6:=R1 (rlxC ps hs)) (nh:=hs.length) (a:=(masL ps).length) (b':=(volL ps).length) n1 n2 fun p hp=>(j8b hcc hp).2.1
 have q2:=rfx_L2 (E:=E) (ps:=ps) (hs:=hs) (rs:=Rs rs) (r4:=R1 (volL ps)) (r5:=R1 (worL ps)) (r6:=R1 (rlxC ps hs)) (b':=(volL ps).length) (b0:=ps.zipIdx.foldl (rlx0 ps.length hs.length) ([],[])) n1 n2 (by omega) (by omega) fun p hp=>(pP p hp).1
 have q3:=rfx_L3 (E:=E) (ps:=ps) (hs:=hs) (rs:=Rs rs) (r3:=R1 (masL ps)) (r5:=R1 (worL ps)) (r6:=R1 (rlxC ps hs)) (a:=(masL ps).length) (b0:=hs.zipIdx.foldl (rlx1 ps hs.length) (ps.zipIdx.foldl (rlx0 ps.length hs.length) ([],[]))) n1 n2 (by omega) (by omega) fun p hp=>(pP p hp).2.1
 have q4:=rfx_L4 (E:=E) (ps:=ps) (hs:=hs) (rs:=rs) (r4:=R1 (volL ps)) (r5:=R1 (worL ps)) (r6:=R1 (rlxC ps hs)) (b0:=hs.zipIdx.foldl (rlx2 ps hs.length) (hs.zipIdx.foldl (rlx1 ps hs.length) (ps.zipIdx.foldl (rlx0 ps.length hs.length) ([],[])))) n1 n2 n3 (by omega) (by omega) (fun p hp=>(pP p hp).1) fun r hr hk=>by
  obtain ⟨i,hi⟩:=List.mem_iff_getElem?.1 hr
  exact Rr.of h c0 hi hk
 rw [show ((hs.length:Nat):Int)=(((Hs hs).length:Nat):Int) by rw [l2]] at qo q1
 have hCl:(R1 (rlxC ps hs)).length=ps.length*hs.length:=by
  rw [z0p];exact w7q ps hs.length
 by_cases c1:ps.length*hs.length>12
 · rw [show (if ps.length*hs.length>12∨(y0x ps hs rs).2.length>12 then (8:Int) else 0)=8 from if_pos (.inl c1),if_neg (by decide)];exact v4g hC c0 q0 qo qc q1 q2 q3 q4 (by show ((R1 (rlxC ps hs)).length:Int)>12;omega) (x2l _)
 by_cases c2:(y0x ps hs rs).2.length>12
 · rw [show (if ps.length*hs.length>12∨(y0x ps hs rs).2.length>12 then (8:Int) else 0)=8 from if_pos (.inr c2),if_neg (by decide)];exact v4h hC c0 q0 qo qc q1 q2 q3 q4 (by show ¬ ((R1 (rlxC ps hs)).length:Int)>12;omega) (by unfold y0x at c2;omega) (x2l _)
 rw [show (if ps.length*hs.length>12∨(y0x ps hs rs).2.length>12 then (8:Int) else 0)=0 from if_neg (fun h=>h.elim c1 c2),if_pos rfl]
 exact v4i hC c0 q0 qo qc q1 q2 q3 q4 (by show ¬ ((R1 (rlxC ps hs)).length:Int)>12;omega) (by unfold y0x at c2;omega) (x2l _) (by rw [← v6z,List.take_length];rfl) (by rw [← z0p,List.take_length];rfl)
theorem x2c {α:Type} {n F k:Nat} {l:List α} (st:Nat→St) {oe:Out} {fin:St} (hend:Lp E n F k (st l.length) oe fin) (hstep:∀ i a,l[i]?=some a→∀ o s,Lp E n F k (st (i+1)) o s→Lp E n F k (st i) o s):Lp E n F k (st 0) oe fin :=
 (G5 (E:=E) (l:=l) (β:=Unit) (fun _ _=>()) (fun _ _=>True) (fun i _=>st i) (fin:=fun _=>fin) (fun _ _=>hend) (fun i a _ ha _=>⟨trivial,hstep i a ha⟩) l.length 0 () (by omega) trivial).2
theorem x8d {l:List (List UInt8)} (n:l.length≤1000000):Fn E Y6 [.c (.list (R1 l)),.c (.list (R1 l))] (.c (.bool true)):=by
 have hl:=z0p l
 exact j9p rfl (x2c (l:=l) (fun i=>z6b (R1 l) (R1 l) (i:Nat)) (x8i (by omega)) fun i a ha o s ih=>by
  have hi:=C1 ha
  exact k4k (by omega) (by omega) (A5 (y0f ha)) (A5 (y0f ha)) rfl (wi (by omega)) ih)
theorem w9m {l:List (List (List UInt8))} {i:Nat} {x} (h:l[i]?=some x):(RA l)[i]?=some [.list (R1 x)]:=by simp [RA,h]
theorem w2i {A:List (List (List UInt8))} {b c:List (List UInt8)} (n1:A.length≤1000) (n2:b.length≤1000) (n3:c.length≤1000) (n4:∀ x∈A,x.length≤1000):Fn E z5s [.agg [.list (RA A),.list (R1 b),.list (R1 c)],.agg [.list (RA A),.list (R1 b),.list (R1 c)]] (.c (.bool true)):=by
 have hl:=v6z A
 exact v9q (x8d (by omega)) (x8d (by omega)) rfl (x2c (l:=A) (fun i=>y3y (i:Nat) (RA A) (R1 b) (R1 c) (RA A) (R1 b) (R1 c)) (j1z (by omega)) fun i a ha o s ih=>by
  have hi:=C1 ha
  have:=n4 a (List.mem_of_getElem? ha)
  exact j9q (by omega) (by omega) (A5 (w9m ha)) (A5 (w9m ha)) (x8d (by omega)) (wi (by omega)) ih)
theorem v6d:Fn E z5s [.agg [.list [],.list [],.list []],.agg [.list [],.list [],.list []]] (.c (.bool true)):=w2i (A:=[]) (b:=[]) (c:=[]) (by decide) (by decide) (by decide) fun x h=>by cases h
theorem w6g (x:BA):(x == x)=true:=by
 first | exact beq_self_eq_true x | (cases x;rename_i d;show (d == d)=true;simp)
theorem w2l {ps:List Pc} {hs:List Hd} {rs:List Ru} (n1:ps.length≤1000) (n2:hs.length≤1000) (n3:rs.length≤1000) (n4:∀ r∈rs,r.fs.length≤1000):Fn E G4 [.agg (Pb ps hs rs),.agg (Pb ps hs rs)] (.c (.bool true)):=by
 have l1:=z0z ps
 have l2:=Z7 hs
 have l3:=z5m rs
 have q0:=x2c (E:=E) (n:=2) (F:=G4) (k:=0) (l:=ps) (fun i=>y3z (i:Nat) (Ps ps) (Hs hs) (Rs rs) (Ps ps) (Hs hs) (Rs rs)) (j2e (by omega)) fun i a ha o s ih=>by
  have hi:=C1 ha
  exact j9t (by omega) (by omega) (A5 (X5 ha)) (A5 (X5 ha)) (by simp [w6g]) (wi (by omega)) ih
 have q1:=x2c (E:=E) (n:=2) (F:=G4) (k:=1) (l:=hs) (fun i=>y4a (i:Nat) (Ps ps) (Hs hs) (Rs rs) (Ps ps) (Hs hs) (Rs rs)) (j2f (by omega)) fun i a ha o s ih=>by
  have hi:=C1 ha
  exact j9u (by omega) (by omega) (A5 (z1m ha)) (A5 (z1m ha)) (by simp [w6g]) (wi (by omega)) ih
 have q2:=x2c (E:=E) (n:=2) (F:=G4) (k:=2) (l:=rs) (fun i=>y4b (i:Nat) (Ps ps) (Hs hs) (Rs rs) (Ps ps) (Hs hs) (Rs rs)) (j2g (by omega)) fun i a ha o s ih=>by
  have hi:=C1 ha
  have h4:=n4 a (List.mem_of_getElem? ha)
  have lf:=z0p a.fs
  have q3:=x2c (E:=E) (n:=4) (F:=G4) (k:=3) (l:=a.fs) (fun k=>y4c (i:Nat) (k:Nat) (Ps ps) (Hs hs) (Rs rs) (Ps ps) (Hs hs) (Rs rs) (B a.nm) a.kd (R1 a.fs) (B a.lo) (B a.hi) a.a a.b (B a.nm) a.kd (R1 a.fs) (B a.lo) (B a.hi) a.a a.b) (j2h (by omega)) fun k f hf o s ih=>by
   have hk:=C1 hf
   exact j9w (by omega) (by omega) (A5 (y0f hf)) (A5 (y0f hf)) rfl (wi (by omega)) ih
  exact j9v (by omega) (by omega) (A5 (z7c ha)) (A5 (z7c ha)) rfl rfl rfl rfl rfl rfl rfl q3 (wi (by omega)) ih
 exact w0c rfl rfl rfl q0 q1 q2
theorem v6g:Fn E G4 [.agg [.list [],.list [],.list []],.agg [.list [],.list [],.list []]] (.c (.bool true)):=w2l (ps:=[]) (hs:=[]) (rs:=[]) (by decide) (by decide) (by decide) fun x h=>by cases h
noncomputable def drE (ps:List Pc) (hs:List Hd) (rs:List Ru) (rule:Int):Int:=if chkE ps hs rs=0 then (if rule<0∨rule≥rs.length then 7 else 0) else 1
noncomputable def drV (ps:List Pc) (hs:List Hd) (rs:List Ru) (rule:Int):AV:=if drE ps hs rs rule=0 then .tup [.agg (Pb ps hs (rs.eraseIdx rule.toNat)),.c (.i64 0)] else .tup [.agg [.list [],.list [],.list []],.c (.i64 (drE ps hs rs rule))]
theorem u0e {ps:List Pc} {hs:List Hd} {rs:List Ru} (h0:chkE ps hs rs=0) {k:Nat} {r:Ru} (hr:rs[k]?=some r):drR rs r.nm=rs.eraseIdx k:=by
 have hz:=k5q (x5r h0).2.2
 have hd:∀ i x,rs[i]?=some x→(rs.take i).any (fun y=>y.nm == x.nm)=false:=fun i x hx=>by have:=(v7t (hz i x hx)).2.2.2.2;rw [Nat.zero_add] at this;exact this
 have hlt:=C1 hr
 unfold drR
 rw [List.eraseIdx_eq_take_drop_succ]
 conv=>lhs;rw [← List.take_append_drop k rs,k3h hr,List.filter_append,List.filter_cons_of_neg (by simp)]
 congr 1
 · rw [List.filter_eq_self]
   intro y hy
   have:=List.any_eq_false.1 (hd k r hr) y hy
   simpa using this
 · rw [List.filter_eq_self]
   intro y hy
   obtain ⟨j,hj⟩:=List.mem_iff_getElem?.1 hy
   rw [List.getElem?_drop] at hj
   have:=List.any_eq_false.1 (hd _ y hj) r (by
    rw [List.mem_iff_getElem?]
    exact ⟨k,by rw [List.getElem?_take,if_pos (by omega)];exact hr⟩)
   have hn:¬ r.nm=y.nm:=by simpa using this
   simp only [Bool.not_eq_true',beq_eq_false_iff_ne]
   exact fun e=>hn e.symm
theorem q0j (hlib:Lib E) (hc:Cs E) {ps:List Pc} {hs:List Hd} {rs:List Ru} {rule:Int} (h:Sp ps hs rs):Fn E P8 [.agg (Pb ps hs rs),.c (.i64 rule)] (drV ps hs rs rule):=by
 have hC:=z7p hlib h
 have l3:=z5m rs
 unfold drV drE
 by_cases c0:chkE ps hs rs=0
 rotate_left
 · rw [if_neg c0,if_neg (by decide)];exact v0t hC c0
 rw [if_pos c0]
 by_cases c1:rule<0
 · rw [if_pos (Or.inl c1),if_neg (by decide)];exact v0u hC c0 c1
 by_cases c2:rule≥rs.length
 · rw [if_pos (Or.inr c2),if_neg (by decide)];exact v0v hC c0 c1 (by omega)
 rw [show (if rule<0∨rule≥(rs.length:Int) then (7:Int) else 0)=0 from if_neg (fun e=>e.elim c1 c2),if_pos rfl]
 obtain ⟨r,hr⟩:=z0o (l:=rs) (i:=rule.toNat) (by omega)
 have k:=x9q hlib hc h c0 hr
 rw [u0e c0 hr,show ((rule.toNat:Nat):Int)=rule by omega] at k
 exact k
theorem u1z (hlib:Lib E) {ps:List Pc} {hs:List Hd} {rs:List Ru} {rule:Int} (h:Sp ps hs rs):Fn E y2k [.agg (Pb ps hs rs),.c (.i64 rule)] (drV ps hs rs rule):=by
 have hC:=v6e (E:=E) h
 have l3:=z5m rs
 have n1:=h.sh.np
 have n2:=h.sh.nh
 have n3:=h.nr
 unfold drV drE
 by_cases c0:chkE ps hs rs=0
 rotate_left
 · rw [if_neg c0,if_neg (by decide)];exact v9y hC c0
 rw [if_pos c0]
 by_cases c1:rule<0
 · rw [if_pos (Or.inl c1),if_neg (by decide)];exact v9z hC c0 c1
 by_cases c2:rule≥rs.length
 · rw [if_pos (Or.inr c2),if_neg (by decide)];exact w0a hC c0 c1 (by omega)
 rw [show (if rule<0∨rule≥(rs.length:Int) then (7:Int) else 0)=0 from if_neg (fun e=>e.elim c1 c2),if_pos rfl]
 have kc:Rn E V5 [.agg (Pb ps hs rs)] [] (.agv [.c (.list (Ps ps)),.c (.list (Hs hs)),.vec 0 rs.length]) [some (.vec C7 (Rs rs))] :=
  q9q (w2j (by omega) (by omega)) (v6f (by omega) fun r hr=>by have:=(h.r r hr).1;omega)
 have hw:IntKind.i64.wrap (rule+1)=((rule.toNat+1:Nat):Int):=wi (by omega)
 have e:(Rs rs).take rule.toNat++List.drop (Int.toNat ((rule.toNat+1:Nat):Int)) ((Rs rs).take rs.length)=Rs (rs.eraseIdx rule.toNat):=by
  rw [Int.toNat_natCast,show rs.length=(Rs rs).length from l3.symm,List.take_length,List.eraseIdx_eq_take_drop_succ]
  unfold Rs
  rw [List.map_append,List.map_take,List.map_drop]
 have hel:(rs.eraseIdx rule.toNat).length=rs.length-1:=by rw [List.length_eraseIdx,if_pos (by omega)]
 exact w0b hC c0 c1 (by omega) kc ⟨by omega,by omega⟩ ⟨by omega,by omega,by omega⟩ ⟨by rw [Int.toNat_natCast];omega,by rw [Int.toNat_natCast];omega⟩ rfl hw e rfl (by
  rw [Int.toNat_natCast,show rule.toNat+(rs.length-(rule.toNat+1))=(Rs (rs.eraseIdx rule.toNat)).length by rw [z5m,hel];omega,List.take_length])
end Gev
namespace Go.Proofs
open Go.Shelf
def Tryz.lays169_ren:Go.Shelf.Ren:=⟨fun | 169=>282 | n=>n,fun | 70=>271 | 9=>9 | 0=>0 | 72=>273 | 37=>190 | 127=>294 | 3=>3 | 5=>5 | n=>n,fun | n=>n⟩
theorem Tryz.lays169:Go.Proofs.Lays.n169 Tryz.prog Tryz.lays169_ren:={
 mixed:=by kernel_rfl
 f169:=Tryz.func282.trans (congrArg some (by kernel_rfl))
 t0:=Tryz.underlying0
 a0:=Tryz.isAgg0
 z0:=Tryz.sizeOf0
 v0:=Tryz.zeroValue0
 t3:=Tryz.underlying3
 a3:=Tryz.isAgg3
 z3:=Tryz.sizeOf3
 v3:=Tryz.zeroValue3
 t9:=Tryz.underlying9
 a9:=Tryz.isAgg9
 z9:=Tryz.sizeOf9
 v9:=Tryz.zeroValue9
 t37:=Tryz.underlying190
 a37:=Tryz.isAgg190
 z37:=Tryz.sizeOf190
 v37:=Tryz.zeroValue190
 t70:=Tryz.underlying271
 a70:=Tryz.isAgg271
 z70:=Tryz.sizeOf271
 v70:=Tryz.zeroValue271
 t72:=Tryz.underlying273
 a72:=Tryz.isAgg273
 z72:=Tryz.sizeOf273
 v72:=Tryz.zeroValue273
 t127:=Tryz.underlying294
 a127:=Tryz.isAgg294
 z127:=Tryz.sizeOf294
 v127:=Tryz.zeroValue294 }
theorem Tryz.Builder_Extra_169:Builder.Extra Tryz.prog Tryz.lays169_ren:={
 sizeBuilder:=by kernel_rfl
 liesBuilder:=by kernel_rfl
 t5:=Tryz.underlying5
 a5:=Tryz.isAgg5
 z5:=Tryz.sizeOf5
 v5:=Tryz.zeroValue5
 infoByte:=by kernel_rfl
 cellsByte:=by kernel_rfl
 sizeByte:=by kernel_rfl
 neB5:=by decide }
def Tryz.lays103_ren:Go.Shelf.Ren:=⟨fun | 103=>230 | 210=>256 | 206=>275 | n=>n,fun | 9=>9 | 4=>4 | 24=>232 | 3=>3 | n=>n,fun | n=>n⟩
theorem Tryz.lays103:Go.Proofs.Lays.n103 Tryz.prog Tryz.lays103_ren:={
 mixed:=by kernel_rfl
 f103:=Tryz.func230.trans (congrArg some (by kernel_rfl))
 f206:=Tryz.func275.trans (congrArg some (by kernel_rfl))
 f210:=Tryz.func256.trans (congrArg some (by kernel_rfl))
 t3:=Tryz.underlying3
 a3:=Tryz.isAgg3
 z3:=Tryz.sizeOf3
 v3:=Tryz.zeroValue3
 t4:=Tryz.underlying4
 a4:=Tryz.isAgg4
 z4:=Tryz.sizeOf4
 v4:=Tryz.zeroValue4
 t9:=Tryz.underlying9
 a9:=Tryz.isAgg9
 z9:=Tryz.sizeOf9
 v9:=Tryz.zeroValue9
 t24:=Tryz.underlying232
 a24:=Tryz.isAgg232
 z24:=Tryz.sizeOf232
 v24:=Tryz.zeroValue232 }
open Go.RowKit in
theorem Tryz.strings_CutPrefix (s p:ByteArray) (w:World) :
    Calls Tryz.prog 230 #[.string s,.string p] w fun e w'=>e=.returned (.tuple #[.string ⟨(Lib.trimPrefix s.data.toList p.data.toList).toArray⟩,.bool (Lib.hasPrefix s.data.toList p.data.toList)])∧w'=w:=Any.strings_CutPrefix Tryz.lays103 s p w
open Go.RowKit in
theorem Tryz.Builder_String_any_k (B b:Nat) (l:List UInt8) (w:World) (h:Lib.IsBuilderF 273 5 B b (Lib.byteCells l) w) (hBw:B≤w.heap.size) :
    Calls Tryz.prog 282 #[.pointer (some ⟨b,0,none⟩)] w fun e w'=>e=.returned (.string ⟨l.toArray⟩)∧(Lib.IsBuilderF 273 5 B b (Lib.byteCells l) w'∧Below B w w'∧Lib.OthersKept 5 (some b) w w'):=Any.Builder_String_any_k Tryz.lays169 Tryz.Builder_Extra_169 B b l w h hBw
def Tryz.lays283_ren:Go.Shelf.Ren:=⟨fun | 283=>224 | n=>n,fun | 3=>3 | 9=>9 | 4=>4 | n=>n,fun | n=>n⟩
theorem Tryz.lays283:Go.Proofs.Lays.n283 Tryz.prog Tryz.lays283_ren:={
 mixed:=by kernel_rfl
 f283:=Tryz.func224.trans (congrArg some (by kernel_rfl))
 t3:=Tryz.underlying3
 a3:=Tryz.isAgg3
 z3:=Tryz.sizeOf3
 v3:=Tryz.zeroValue3
 t4:=Tryz.underlying4
 a4:=Tryz.isAgg4
 z4:=Tryz.sizeOf4
 v4:=Tryz.zeroValue4
 t9:=Tryz.underlying9
 a9:=Tryz.isAgg9
 z9:=Tryz.sizeOf9
 v9:=Tryz.zeroValue9 }
open Go.Lib in
theorem Tryz.internal_strconv_small (i:Nat) (h:i<100) (w:World) :
    Calls Tryz.prog 224 #[.int .i64 i] w fun e w'=>e=.returned (.string ⟨(Lib.decDigits i).toArray⟩)∧w'=w:=Any.internal_strconv_small Tryz.lays283 i h w
def Tryz.laysM284_ren:Go.Shelf.Ren:=⟨fun | 284=>225 | 129=>242 | 317=>241 | 318=>243 | n=>n,fun | 53=>176 | 3=>3 | 212=>247 | 0=>0 | 4=>4 | 46=>170 | 5=>5 | 9=>9 | n=>n,fun | 17=>0 | n=>n⟩
theorem Tryz.laysM284:Go.Proofs.LaysM.n284 Tryz.prog Tryz.laysM284_ren:={
 mixed:=by kernel_rfl
 f129:=Tryz.func242.trans (congrArg some (by kernel_rfl))
 f284:=Tryz.func225.trans (congrArg some (by kernel_rfl))
 f317:=Tryz.func241.trans (congrArg some (by kernel_rfl))
 f318:=Tryz.func243.trans (congrArg some (by kernel_rfl))
 t0:=Tryz.underlying0
 a0:=Tryz.isAgg0
 z0:=Tryz.sizeOf0
 v0:=Tryz.zeroValue0
 t3:=Tryz.underlying3
 a3:=Tryz.isAgg3
 z3:=Tryz.sizeOf3
 v3:=Tryz.zeroValue3
 t4:=Tryz.underlying4
 a4:=Tryz.isAgg4
 z4:=Tryz.sizeOf4
 v4:=Tryz.zeroValue4
 t5:=Tryz.underlying5
 a5:=Tryz.isAgg5
 z5:=Tryz.sizeOf5
 v5:=Tryz.zeroValue5
 t9:=Tryz.underlying9
 a9:=Tryz.isAgg9
 z9:=Tryz.sizeOf9
 v9:=Tryz.zeroValue9
 t46:=Tryz.underlying170
 a46:=Tryz.isAgg170
 z46:=Tryz.sizeOf170
 v46:=Tryz.zeroValue170
 t53:=Tryz.underlying176
 a53:=Tryz.isAgg176
 z53:=Tryz.sizeOf176
 v53:=Tryz.zeroValue176
 t212:=Tryz.underlying247
 a212:=Tryz.isAgg247
 z212:=Tryz.sizeOf247
 v212:=Tryz.zeroValue247
 g17:=by kernel_rfl
 i0:=by kernel_rfl
 i3:=by kernel_rfl
 i4:=by kernel_rfl
 i5:=by kernel_rfl
 i9:=by kernel_rfl
 i46:=by kernel_rfl
 i53:=by kernel_rfl
 i212:=by kernel_rfl
 m17:=by kernel_rfl }
open Go.Lib in
theorem Tryz.internal_strconv_numDigits (u:Nat)(h1:1≤u)(h2:u<18446744073709551616) (w:World) (htab:Lib.TabIs Tryz.prog w "internal/strconv.uint64pow10" .u64 Lib.pow10Tab) :
    Calls Tryz.prog 225 #[.int .u64 u] w fun e w'=>e=.returned (.int .i64 (Lib.nDigits u))∧w'=w:=Any.internal_strconv_numDigits Tryz.laysM284 u h1 h2 w htab
def Tryz.lays285_ren:Go.Shelf.Ren:=⟨fun | 285=>226 | n=>n,fun | 37=>190 | 53=>176 | 3=>3 | 4=>4 | 51=>130 | 9=>9 | 5=>5 | 0=>0 | n=>n,fun | n=>n⟩
theorem Tryz.lays285:Go.Proofs.Lays.n285 Tryz.prog Tryz.lays285_ren:={
 mixed:=by kernel_rfl
 f285:=Tryz.func226.trans (congrArg some (by kernel_rfl))
 t0:=Tryz.underlying0
 a0:=Tryz.isAgg0
 z0:=Tryz.sizeOf0
 v0:=Tryz.zeroValue0
 t3:=Tryz.underlying3
 a3:=Tryz.isAgg3
 z3:=Tryz.sizeOf3
 v3:=Tryz.zeroValue3
 t4:=Tryz.underlying4
 a4:=Tryz.isAgg4
 z4:=Tryz.sizeOf4
 v4:=Tryz.zeroValue4
 t5:=Tryz.underlying5
 a5:=Tryz.isAgg5
 z5:=Tryz.sizeOf5
 v5:=Tryz.zeroValue5
 t9:=Tryz.underlying9
 a9:=Tryz.isAgg9
 z9:=Tryz.sizeOf9
 v9:=Tryz.zeroValue9
 t37:=Tryz.underlying190
 a37:=Tryz.isAgg190
 z37:=Tryz.sizeOf190
 v37:=Tryz.zeroValue190
 t51:=Tryz.underlying130
 a51:=Tryz.isAgg130
 z51:=Tryz.sizeOf130
 v51:=Tryz.zeroValue130
 t53:=Tryz.underlying176
 a53:=Tryz.isAgg176
 z53:=Tryz.sizeOf176
 v53:=Tryz.zeroValue176 }
open Go.RowKit Go.Sort Go.Lib in
theorem Tryz.internal_strconv_formatBase10 (blk off cap:Nat) (u:Nat) (d:Array UInt8) (w:World) (hH:Holds (fun (b:UInt8)=>Value.int .u8 (b.toNat:Int)) w blk off d) (hu:u<10 ^ d.size) (hu64:u<18446744073709551616) (hsz:d.size<4611686018427387904) :
    Calls Tryz.prog 226 #[.slice (some ⟨blk,off,none⟩) d.size cap,.int .u64 u] w fun e w' =>
     e=.returned (.tuple #[])∧∃ (n v':Nat) (dk:Array UInt8),w'=(putRow (fun (b:UInt8)=>Value.int .u8 (b.toNat:Int)) w blk off dk).drewN n∧FmtInv d.size u 0 v' dk:=Any.internal_strconv_formatBase10 Tryz.lays285 blk off cap u d w hH hu hu64 hsz
def Tryz.laysM171_ren:Go.Shelf.Ren:=⟨fun | 171=>146 | 243=>188 | 246=>209 | 283=>224 | 284=>225 | 285=>226 | 286=>227 | 129=>242 | 317=>241 | 318=>243 | 319=>244 | 320=>245 | 337=>266 | 338=>267 | n=>n,fun | 3=>3 | 9=>9 | 2=>2 | 4=>4 | 171=>226 | 0=>0 | 53=>176 | 37=>190 | 5=>5 | 173=>229 | 212=>247 | 51=>130 | 20=>20 | 213=>248 | 46=>170 | 232=>283 | 233=>284 | n=>n,fun | 17=>0 | 18=>2 | 19=>3 | n=>n⟩
theorem Tryz.laysM171:Go.Proofs.LaysM.n171 Tryz.prog Tryz.laysM171_ren:={
 mixed:=by kernel_rfl
 f129:=Tryz.func242.trans (congrArg some (by kernel_rfl))
 f171:=Tryz.func146.trans (congrArg some (by kernel_rfl))
 f243:=Tryz.func188.trans (congrArg some (by kernel_rfl))
 f246:=Tryz.func209.trans (congrArg some (by kernel_rfl))
 f283:=Tryz.func224.trans (congrArg some (by kernel_rfl))
 f284:=Tryz.func225.trans (congrArg some (by kernel_rfl))
 f285:=Tryz.func226.trans (congrArg some (by kernel_rfl))
 f286:=Tryz.func227.trans (congrArg some (by kernel_rfl))
 f317:=Tryz.func241.trans (congrArg some (by kernel_rfl))
 f318:=Tryz.func243.trans (congrArg some (by kernel_rfl))
 f319:=Tryz.func244.trans (congrArg some (by kernel_rfl))
 f320:=Tryz.func245.trans (congrArg some (by kernel_rfl))
 f337:=Tryz.func266.trans (congrArg some (by kernel_rfl))
 f338:=Tryz.func267.trans (congrArg some (by kernel_rfl))
 t0:=Tryz.underlying0
 a0:=Tryz.isAgg0
 z0:=Tryz.sizeOf0
 v0:=Tryz.zeroValue0
 t2:=Tryz.underlying2
 a2:=Tryz.isAgg2
 z2:=Tryz.sizeOf2
 v2:=Tryz.zeroValue2
 t3:=Tryz.underlying3
 a3:=Tryz.isAgg3
 z3:=Tryz.sizeOf3
 v3:=Tryz.zeroValue3
 t4:=Tryz.underlying4
 a4:=Tryz.isAgg4
 z4:=Tryz.sizeOf4
 v4:=Tryz.zeroValue4
 t5:=Tryz.underlying5
 a5:=Tryz.isAgg5
 z5:=Tryz.sizeOf5
 v5:=Tryz.zeroValue5
 t9:=Tryz.underlying9
 a9:=Tryz.isAgg9
 z9:=Tryz.sizeOf9
 v9:=Tryz.zeroValue9
 t20:=Tryz.underlying20
 a20:=Tryz.isAgg20
 z20:=Tryz.sizeOf20
 v20:=Tryz.zeroValue20
 t37:=Tryz.underlying190
 a37:=Tryz.isAgg190
 z37:=Tryz.sizeOf190
 v37:=Tryz.zeroValue190
 t46:=Tryz.underlying170
 a46:=Tryz.isAgg170
 z46:=Tryz.sizeOf170
 v46:=Tryz.zeroValue170
 t51:=Tryz.underlying130
 a51:=Tryz.isAgg130
 z51:=Tryz.sizeOf130
 v51:=Tryz.zeroValue130
 t53:=Tryz.underlying176
 a53:=Tryz.isAgg176
 z53:=Tryz.sizeOf176
 v53:=Tryz.zeroValue176
 t171:=Tryz.underlying226
 a171:=Tryz.isAgg226
 z171:=Tryz.sizeOf226
 v171:=Tryz.zeroValue226
 t173:=Tryz.underlying229
 a173:=Tryz.isAgg229
 z173:=Tryz.sizeOf229
 v173:=Tryz.zeroValue229
 t212:=Tryz.underlying247
 a212:=Tryz.isAgg247
 z212:=Tryz.sizeOf247
 v212:=Tryz.zeroValue247
 t213:=Tryz.underlying248
 a213:=Tryz.isAgg248
 z213:=Tryz.sizeOf248
 t232:=Tryz.underlying283
 a232:=Tryz.isAgg283
 z232:=Tryz.sizeOf283
 v232:=Tryz.zeroValue283
 t233:=Tryz.underlying284
 a233:=Tryz.isAgg284
 z233:=Tryz.sizeOf284
 v233:=Tryz.zeroValue284
 g17:=by kernel_rfl
 g18:=by kernel_rfl
 g19:=by kernel_rfl
 i0:=by kernel_rfl
 i2:=by kernel_rfl
 i3:=by kernel_rfl
 i4:=by kernel_rfl
 i5:=by kernel_rfl
 i9:=by kernel_rfl
 i20:=by kernel_rfl
 i37:=by kernel_rfl
 i46:=by kernel_rfl
 i51:=by kernel_rfl
 i53:=by kernel_rfl
 i171:=by kernel_rfl
 i173:=by kernel_rfl
 i212:=by kernel_rfl
 i232:=by kernel_rfl
 i233:=by kernel_rfl
 m17:=by kernel_rfl
 m18:=by kernel_rfl
 m19:=by kernel_rfl }
open Go.RowKit Go.Sort Go.Lib in
theorem Tryz.strconv_Itoa (n:Int)(h0:-9223372036854775808≤n)(h1:n≤9223372036854775807) (w:World) (htab:Lib.TabIs Tryz.prog w "internal/strconv.uint64pow10" .u64 Lib.pow10Tab) :
    Calls Tryz.prog 146 #[.int .i64 n] w fun e w'=>e=.returned (.string ⟨(Lib.itoa n).toArray⟩)∧∃ k os,w'=grow (w.drewN k) os:=Any.strconv_Itoa Tryz.laysM171 n h0 h1 w htab
def Tryz.laysM173_ren:Go.Shelf.Ren:=⟨fun | 173=>288 | 246=>209 | 283=>224 | 284=>225 | 285=>226 | 286=>227 | 129=>242 | 317=>241 | 318=>243 | 319=>244 | 320=>245 | 337=>266 | 338=>267 | n=>n,fun | 2=>2 | 3=>3 | 9=>9 | 4=>4 | 171=>226 | 0=>0 | 53=>176 | 37=>190 | 5=>5 | 173=>229 | 212=>247 | 51=>130 | 20=>20 | 213=>248 | 46=>170 | 232=>283 | 233=>284 | n=>n,fun | 17=>0 | 18=>2 | 19=>3 | n=>n⟩
theorem Tryz.laysM173:Go.Proofs.LaysM.n173 Tryz.prog Tryz.laysM173_ren:={
 mixed:=by kernel_rfl
 f129:=Tryz.func242.trans (congrArg some (by kernel_rfl))
 f173:=Tryz.func288.trans (congrArg some (by kernel_rfl))
 f246:=Tryz.func209.trans (congrArg some (by kernel_rfl))
 f283:=Tryz.func224.trans (congrArg some (by kernel_rfl))
 f284:=Tryz.func225.trans (congrArg some (by kernel_rfl))
 f285:=Tryz.func226.trans (congrArg some (by kernel_rfl))
 f286:=Tryz.func227.trans (congrArg some (by kernel_rfl))
 f317:=Tryz.func241.trans (congrArg some (by kernel_rfl))
 f318:=Tryz.func243.trans (congrArg some (by kernel_rfl))
 f319:=Tryz.func244.trans (congrArg some (by kernel_rfl))
 f320:=Tryz.func245.trans (congrArg some (by kernel_rfl))
 f337:=Tryz.func266.trans (congrArg some (by kernel_rfl))
 f338:=Tryz.func267.trans (congrArg some (by kernel_rfl))
 t0:=Tryz.underlying0
 a0:=Tryz.isAgg0
 z0:=Tryz.sizeOf0
 v0:=Tryz.zeroValue0
 t2:=Tryz.underlying2
 a2:=Tryz.isAgg2
 z2:=Tryz.sizeOf2
 v2:=Tryz.zeroValue2
 t3:=Tryz.underlying3
 a3:=Tryz.isAgg3
 z3:=Tryz.sizeOf3
 v3:=Tryz.zeroValue3
 t4:=Tryz.underlying4
 a4:=Tryz.isAgg4
 z4:=Tryz.sizeOf4
 v4:=Tryz.zeroValue4
 t5:=Tryz.underlying5
 a5:=Tryz.isAgg5
 z5:=Tryz.sizeOf5
 v5:=Tryz.zeroValue5
 t9:=Tryz.underlying9
 a9:=Tryz.isAgg9
 z9:=Tryz.sizeOf9
 v9:=Tryz.zeroValue9
 t20:=Tryz.underlying20
 a20:=Tryz.isAgg20
 z20:=Tryz.sizeOf20
 v20:=Tryz.zeroValue20
 t37:=Tryz.underlying190
 a37:=Tryz.isAgg190
 z37:=Tryz.sizeOf190
 v37:=Tryz.zeroValue190
 t46:=Tryz.underlying170
 a46:=Tryz.isAgg170
 z46:=Tryz.sizeOf170
 v46:=Tryz.zeroValue170
 t51:=Tryz.underlying130
 a51:=Tryz.isAgg130
 z51:=Tryz.sizeOf130
 v51:=Tryz.zeroValue130
 t53:=Tryz.underlying176
 a53:=Tryz.isAgg176
 z53:=Tryz.sizeOf176
 v53:=Tryz.zeroValue176
 t171:=Tryz.underlying226
 a171:=Tryz.isAgg226
 z171:=Tryz.sizeOf226
 v171:=Tryz.zeroValue226
 t173:=Tryz.underlying229
 a173:=Tryz.isAgg229
 z173:=Tryz.sizeOf229
 v173:=Tryz.zeroValue229
 t212:=Tryz.underlying247
 a212:=Tryz.isAgg247
 z212:=Tryz.sizeOf247
 v212:=Tryz.zeroValue247
 t213:=Tryz.underlying248
 a213:=Tryz.isAgg248
 z213:=Tryz.sizeOf248
 t232:=Tryz.underlying283
 a232:=Tryz.isAgg283
 z232:=Tryz.sizeOf283
 v232:=Tryz.zeroValue283
 t233:=Tryz.underlying284
 a233:=Tryz.isAgg284
 z233:=Tryz.sizeOf284
 v233:=Tryz.zeroValue284
 g17:=by kernel_rfl
 g18:=by kernel_rfl
 g19:=by kernel_rfl
 i0:=by kernel_rfl
 i2:=by kernel_rfl
 i3:=by kernel_rfl
 i4:=by kernel_rfl
 i5:=by kernel_rfl
 i9:=by kernel_rfl
 i20:=by kernel_rfl
 i37:=by kernel_rfl
 i46:=by kernel_rfl
 i51:=by kernel_rfl
 i53:=by kernel_rfl
 i171:=by kernel_rfl
 i173:=by kernel_rfl
 i212:=by kernel_rfl
 i232:=by kernel_rfl
 i233:=by kernel_rfl
 m17:=by kernel_rfl
 m18:=by kernel_rfl
 m19:=by kernel_rfl }
open Go.RowKit Go.Sort Go.Lib in
theorem Tryz.strconv_FormatInt_10 (n:Int)(h0:-9223372036854775808≤n)(h1:n≤9223372036854775807) (w:World) (htab:Lib.TabIs Tryz.prog w "internal/strconv.uint64pow10" .u64 Lib.pow10Tab) :
    Calls Tryz.prog 288 #[.int .i64 n,.int .i64 10] w fun e w'=>e=.returned (.string ⟨(Lib.itoa n).toArray⟩)∧∃ k os,w'=grow (w.drewN k) os:=Any.strconv_FormatInt_10 Tryz.laysM173 n h0 h1 w htab
def Tryz.laysC174_ren:Go.Shelf.Ren:=⟨fun | 174=>287 | 247=>302 | 245=>292 | 287=>291 | 279=>306 | 280=>307 | 281=>308 | 282=>309 | 321=>304 | 322=>305 | 316=>315 | 171=>146 | 205=>316 | 243=>188 | 246=>209 | 283=>224 | 284=>225 | 285=>226 | 286=>227 | 129=>242 | 317=>241 | 318=>243 | 319=>244 | 320=>245 | 337=>266 | 338=>267 | n=>n,fun | 9=>9 | 3=>3 | 2=>2 | 75=>267 | 85=>285 | 4=>4 | 167=>299 | 5=>5 | 53=>176 | 175=>268 | 46=>170 | 168=>301 | 37=>190 | 0=>0 | 210=>312 | 21=>21 | 127=>294 | 145=>317 | 143=>315 | 171=>226 | 173=>229 | 212=>247 | 51=>130 | 20=>20 | 213=>248 | 232=>283 | 233=>284 | 80=>224 | n=>n,fun | 15=>4 | 16=>5 | 17=>0 | 18=>2 | 19=>3 | n=>n⟩
theorem Tryz.laysC174:Go.Proofs.LaysC.n174 Tryz.prog Tryz.laysC174_ren:={
 mixed:=by kernel_rfl
 f129:=Tryz.func242.trans (congrArg some (by kernel_rfl))
 f171:=Tryz.func146.trans (congrArg some (by kernel_rfl))
 f174:=Tryz.func287.trans (congrArg some (by kernel_rfl))
 f205:=Tryz.func316.trans (congrArg some (by kernel_rfl))
 f243:=Tryz.func188.trans (congrArg some (by kernel_rfl))
 f245:=Tryz.func292.trans (congrArg some (by kernel_rfl))
 f246:=Tryz.func209.trans (congrArg some (by kernel_rfl))
 f247:=Tryz.func302.trans (congrArg some (by kernel_rfl))
 f279:=Tryz.func306.trans (congrArg some (by kernel_rfl))
 f280:=Tryz.func307.trans (congrArg some (by kernel_rfl))
 f281:=Tryz.func308.trans (congrArg some (by kernel_rfl))
 f282:=Tryz.func309.trans (congrArg some (by kernel_rfl))
 f283:=Tryz.func224.trans (congrArg some (by kernel_rfl))
 f284:=Tryz.func225.trans (congrArg some (by kernel_rfl))
 f285:=Tryz.func226.trans (congrArg some (by kernel_rfl))
 f286:=Tryz.func227.trans (congrArg some (by kernel_rfl))
 f287:=Tryz.func291.trans (congrArg some (by kernel_rfl))
 f316:=Tryz.func315.trans (congrArg some (by kernel_rfl))
 f317:=Tryz.func241.trans (congrArg some (by kernel_rfl))
 f318:=Tryz.func243.trans (congrArg some (by kernel_rfl))
 f319:=Tryz.func244.trans (congrArg some (by kernel_rfl))
 f320:=Tryz.func245.trans (congrArg some (by kernel_rfl))
 f321:=Tryz.func304.trans (congrArg some (by kernel_rfl))
 f322:=Tryz.func305.trans (congrArg some (by kernel_rfl))
 f337:=Tryz.func266.trans (congrArg some (by kernel_rfl))
 f338:=Tryz.func267.trans (congrArg some (by kernel_rfl))
 t0:=Tryz.underlying0
 a0:=Tryz.isAgg0
 z0:=Tryz.sizeOf0
 v0:=Tryz.zeroValue0
 t2:=Tryz.underlying2
 a2:=Tryz.isAgg2
 z2:=Tryz.sizeOf2
 v2:=Tryz.zeroValue2
 t3:=Tryz.underlying3
 a3:=Tryz.isAgg3
 z3:=Tryz.sizeOf3
 v3:=Tryz.zeroValue3
 t4:=Tryz.underlying4
 a4:=Tryz.isAgg4
 z4:=Tryz.sizeOf4
 v4:=Tryz.zeroValue4
 t5:=Tryz.underlying5
 a5:=Tryz.isAgg5
 z5:=Tryz.sizeOf5
 v5:=Tryz.zeroValue5
 t9:=Tryz.underlying9
 a9:=Tryz.isAgg9
 z9:=Tryz.sizeOf9
 v9:=Tryz.zeroValue9
 t20:=Tryz.underlying20
 a20:=Tryz.isAgg20
 z20:=Tryz.sizeOf20
 v20:=Tryz.zeroValue20
 t21:=Tryz.underlying21
 a21:=Tryz.isAgg21
 z21:=Tryz.sizeOf21
 v21:=Tryz.zeroValue21
 t37:=Tryz.underlying190
 a37:=Tryz.isAgg190
 z37:=Tryz.sizeOf190
 v37:=Tryz.zeroValue190
 t46:=Tryz.underlying170
 a46:=Tryz.isAgg170
 z46:=Tryz.sizeOf170
 v46:=Tryz.zeroValue170
 t51:=Tryz.underlying130
 a51:=Tryz.isAgg130
 z51:=Tryz.sizeOf130
 v51:=Tryz.zeroValue130
 t53:=Tryz.underlying176
 a53:=Tryz.isAgg176
 z53:=Tryz.sizeOf176
 v53:=Tryz.zeroValue176
 t75:=Tryz.underlying267
 a75:=Tryz.isAgg267
 z75:=Tryz.sizeOf267
 v75:=Tryz.zeroValue267
 t85:=Tryz.underlying285
 a85:=Tryz.isAgg285
 z85:=Tryz.sizeOf285
 v85:=Tryz.zeroValue285
 t127:=Tryz.underlying294
 a127:=Tryz.isAgg294
 z127:=Tryz.sizeOf294
 v127:=Tryz.zeroValue294
 t143:=Tryz.underlying315
 a143:=Tryz.isAgg315
 z143:=Tryz.sizeOf315
 v143:=Tryz.zeroValue315
 t145:=Tryz.underlying317
 a145:=Tryz.isAgg317
 z145:=Tryz.sizeOf317
 v145:=Tryz.zeroValue317
 t167:=Tryz.underlying299
 a167:=Tryz.isAgg299
 z167:=Tryz.sizeOf299
 v167:=Tryz.zeroValue299
 t168:=Tryz.underlying301
 a168:=Tryz.isAgg301
 z168:=Tryz.sizeOf301
 v168:=Tryz.zeroValue301
 t171:=Tryz.underlying226
 a171:=Tryz.isAgg226
 z171:=Tryz.sizeOf226
 v171:=Tryz.zeroValue226
 t173:=Tryz.underlying229
 a173:=Tryz.isAgg229
 z173:=Tryz.sizeOf229
 v173:=Tryz.zeroValue229
 t175:=Tryz.underlying268
 a175:=Tryz.isAgg268
 z175:=Tryz.sizeOf268
 v175:=Tryz.zeroValue268
 t210:=Tryz.underlying312
 a210:=Tryz.isAgg312
 z210:=Tryz.sizeOf312
 v210:=Tryz.zeroValue312
 t212:=Tryz.underlying247
 a212:=Tryz.isAgg247
 z212:=Tryz.sizeOf247
 v212:=Tryz.zeroValue247
 t213:=Tryz.underlying248
 a213:=Tryz.isAgg248
 z213:=Tryz.sizeOf248
 t232:=Tryz.underlying283
 a232:=Tryz.isAgg283
 z232:=Tryz.sizeOf283
 v232:=Tryz.zeroValue283
 t233:=Tryz.underlying284
 a233:=Tryz.isAgg284
 z233:=Tryz.sizeOf284
 v233:=Tryz.zeroValue284
 g15:=by kernel_rfl
 g16:=by kernel_rfl
 g17:=by kernel_rfl
 g18:=by kernel_rfl
 g19:=by kernel_rfl
 t80:=Tryz.underlying224
 a80:=Tryz.isAgg224
 z80:=Tryz.sizeOf224
 v80:=Tryz.zeroValue224
 i0:=by kernel_rfl
 i2:=by kernel_rfl
 i3:=by kernel_rfl
 i4:=by kernel_rfl
 i5:=by kernel_rfl
 i9:=by kernel_rfl
 i20:=by kernel_rfl
 i21:=by kernel_rfl
 i37:=by kernel_rfl
 i46:=by kernel_rfl
 i51:=by kernel_rfl
 i53:=by kernel_rfl
 i75:=by kernel_rfl
 i80:=by kernel_rfl
 i85:=by kernel_rfl
 i127:=by kernel_rfl
 i143:=by kernel_rfl
 i145:=by kernel_rfl
 i167:=by kernel_rfl
 i168:=by kernel_rfl
 i171:=by kernel_rfl
 i173:=by kernel_rfl
 i175:=by kernel_rfl
 i210:=by kernel_rfl
 i212:=by kernel_rfl
 i232:=by kernel_rfl
 i233:=by kernel_rfl
 m15:=by kernel_rfl
 m16:=by kernel_rfl
 m17:=by kernel_rfl
 m18:=by kernel_rfl
 m19:=by kernel_rfl
 c0:=by kernel_rfl
 c2:=by kernel_rfl
 c3:=by kernel_rfl
 c4:=by kernel_rfl
 c5:=by kernel_rfl
 c9:=by kernel_rfl
 c20:=by kernel_rfl
 c21:=by kernel_rfl
 c37:=by kernel_rfl
 c46:=by kernel_rfl
 c51:=by kernel_rfl
 c53:=by kernel_rfl
 c75:=by kernel_rfl
 c80:=by kernel_rfl
 c85:=by kernel_rfl
 c127:=by kernel_rfl
 c143:=by kernel_rfl
 c145:=by kernel_rfl
 c167:=by kernel_rfl
 c168:=by kernel_rfl
 c171:=by kernel_rfl
 c173:=by kernel_rfl
 c175:=by kernel_rfl
 c210:=by kernel_rfl
 c212:=by kernel_rfl
 c213:=by kernel_rfl
 c232:=by kernel_rfl
 c233:=by kernel_rfl }
open Go.RowKit in
theorem Tryz.strconv_ParseInt_10_at64_ok (s:ByteArray) (hmax:s.size≤9223372036854775806) (v:Int) (h:Lib.parseIntB 64 s.data.toList=.ok v) (w:World) :
    Calls Tryz.prog 287 #[.string s,.int .i64 10,.int .i64 64] w fun e w'=>e=.returned (.tuple #[.int .i64 v,.nilIface])∧(w'=w∨∃ t,w'=Lib.bytesWorld w 5 t):=Any.strconv_ParseInt_10_at64_ok Tryz.laysC174 s hmax v h w
def Tryz.laysPu14_ren:Go.Shelf.Ren:=⟨fun | 14=>276 | 16=>291 | 17=>292 | 19=>304 | 20=>305 | 21=>306 | 22=>307 | 23=>308 | 24=>309 | 25=>315 | 27=>146 | 26=>316 | 28=>188 | 29=>209 | 30=>224 | 31=>225 | 32=>226 | 33=>227 | 35=>242 | 34=>241 | 36=>243 | 37=>244 | 38=>245 | 39=>266 | 40=>267 | n=>n,fun | 9=>9 | 3=>3 | 22=>176 | 24=>267 | 25=>268 | 4=>4 | 34=>299 | 5=>5 | 36=>170 | 37=>190 | 0=>0 | 39=>301 | 21=>21 | 44=>312 | 47=>294 | 50=>317 | 48=>315 | 2=>2 | 52=>226 | 55=>229 | 59=>247 | 60=>130 | 20=>20 | 61=>248 | 65=>283 | 66=>284 | 67=>224 | n=>n,fun | 0=>4 | 1=>5 | 2=>0 | 3=>2 | 4=>3 | n=>n⟩
theorem Tryz.laysPu14:Go.Proofs.LaysPu.n14 Tryz.prog Tryz.laysPu14_ren:={
 mixed:=by kernel_rfl
 f14:=Tryz.func276.trans (congrArg some (by kernel_rfl))
 f16:=Tryz.func291.trans (congrArg some (by kernel_rfl))
 f17:=Tryz.func292.trans (congrArg some (by kernel_rfl))
 f19:=Tryz.func304.trans (congrArg some (by kernel_rfl))
 f20:=Tryz.func305.trans (congrArg some (by kernel_rfl))
 f21:=Tryz.func306.trans (congrArg some (by kernel_rfl))
 f22:=Tryz.func307.trans (congrArg some (by kernel_rfl))
 f23:=Tryz.func308.trans (congrArg some (by kernel_rfl))
 f24:=Tryz.func309.trans (congrArg some (by kernel_rfl))
 f25:=Tryz.func315.trans (congrArg some (by kernel_rfl))
 f26:=Tryz.func316.trans (congrArg some (by kernel_rfl))
 f27:=Tryz.func146.trans (congrArg some (by kernel_rfl))
 f28:=Tryz.func188.trans (congrArg some (by kernel_rfl))
 f29:=Tryz.func209.trans (congrArg some (by kernel_rfl))
 f30:=Tryz.func224.trans (congrArg some (by kernel_rfl))
 f31:=Tryz.func225.trans (congrArg some (by kernel_rfl))
 f32:=Tryz.func226.trans (congrArg some (by kernel_rfl))
 f33:=Tryz.func227.trans (congrArg some (by kernel_rfl))
 f34:=Tryz.func241.trans (congrArg some (by kernel_rfl))
 f35:=Tryz.func242.trans (congrArg some (by kernel_rfl))
 f36:=Tryz.func243.trans (congrArg some (by kernel_rfl))
 f37:=Tryz.func244.trans (congrArg some (by kernel_rfl))
 f38:=Tryz.func245.trans (congrArg some (by kernel_rfl))
 f39:=Tryz.func266.trans (congrArg some (by kernel_rfl))
 f40:=Tryz.func267.trans (congrArg some (by kernel_rfl))
 t0:=Tryz.underlying0
 a0:=Tryz.isAgg0
 z0:=Tryz.sizeOf0
 v0:=Tryz.zeroValue0
 i0:=by kernel_rfl
 t2:=Tryz.underlying2
 a2:=Tryz.isAgg2
 z2:=Tryz.sizeOf2
 v2:=Tryz.zeroValue2
 i2:=by kernel_rfl
 t3:=Tryz.underlying3
 a3:=Tryz.isAgg3
 z3:=Tryz.sizeOf3
 v3:=Tryz.zeroValue3
 i3:=by kernel_rfl
 t4:=Tryz.underlying4
 a4:=Tryz.isAgg4
 z4:=Tryz.sizeOf4
 v4:=Tryz.zeroValue4
 i4:=by kernel_rfl
 t5:=Tryz.underlying5
 a5:=Tryz.isAgg5
 z5:=Tryz.sizeOf5
 v5:=Tryz.zeroValue5
 i5:=by kernel_rfl
 t9:=Tryz.underlying9
 a9:=Tryz.isAgg9
 z9:=Tryz.sizeOf9
 v9:=Tryz.zeroValue9
 i9:=by kernel_rfl
 t20:=Tryz.underlying20
 a20:=Tryz.isAgg20
 z20:=Tryz.sizeOf20
 v20:=Tryz.zeroValue20
 i20:=by kernel_rfl
 t21:=Tryz.underlying21
 a21:=Tryz.isAgg21
 z21:=Tryz.sizeOf21
 v21:=Tryz.zeroValue21
 i21:=by kernel_rfl
 t22:=Tryz.underlying176
 a22:=Tryz.isAgg176
 z22:=Tryz.sizeOf176
 v22:=Tryz.zeroValue176
 i22:=by kernel_rfl
 t24:=Tryz.underlying267
 a24:=Tryz.isAgg267
 z24:=Tryz.sizeOf267
 v24:=Tryz.zeroValue267
 i24:=by kernel_rfl
 t25:=Tryz.underlying268
 a25:=Tryz.isAgg268
 z25:=Tryz.sizeOf268
 v25:=Tryz.zeroValue268
 i25:=by kernel_rfl
 t34:=Tryz.underlying299
 a34:=Tryz.isAgg299
 z34:=Tryz.sizeOf299
 v34:=Tryz.zeroValue299
 i34:=by kernel_rfl
 c34:=by kernel_rfl
 t36:=Tryz.underlying170
 a36:=Tryz.isAgg170
 z36:=Tryz.sizeOf170
 v36:=Tryz.zeroValue170
 i36:=by kernel_rfl
 t37:=Tryz.underlying190
 a37:=Tryz.isAgg190
 z37:=Tryz.sizeOf190
 v37:=Tryz.zeroValue190
 i37:=by kernel_rfl
 t39:=Tryz.underlying301
 a39:=Tryz.isAgg301
 z39:=Tryz.sizeOf301
 v39:=Tryz.zeroValue301
 i39:=by kernel_rfl
 t44:=Tryz.underlying312
 a44:=Tryz.isAgg312
 z44:=Tryz.sizeOf312
 v44:=Tryz.zeroValue312
 i44:=by kernel_rfl
 t47:=Tryz.underlying294
 a47:=Tryz.isAgg294
 z47:=Tryz.sizeOf294
 v47:=Tryz.zeroValue294
 i47:=by kernel_rfl
 t48:=Tryz.underlying315
 a48:=Tryz.isAgg315
 z48:=Tryz.sizeOf315
 v48:=Tryz.zeroValue315
 i48:=by kernel_rfl
 t50:=Tryz.underlying317
 a50:=Tryz.isAgg317
 z50:=Tryz.sizeOf317
 v50:=Tryz.zeroValue317
 i50:=by kernel_rfl
 t52:=Tryz.underlying226
 a52:=Tryz.isAgg226
 z52:=Tryz.sizeOf226
 v52:=Tryz.zeroValue226
 i52:=by kernel_rfl
 t55:=Tryz.underlying229
 a55:=Tryz.isAgg229
 z55:=Tryz.sizeOf229
 v55:=Tryz.zeroValue229
 i55:=by kernel_rfl
 t59:=Tryz.underlying247
 a59:=Tryz.isAgg247
 z59:=Tryz.sizeOf247
 v59:=Tryz.zeroValue247
 i59:=by kernel_rfl
 t60:=Tryz.underlying130
 a60:=Tryz.isAgg130
 z60:=Tryz.sizeOf130
 v60:=Tryz.zeroValue130
 i60:=by kernel_rfl
 t61:=Tryz.underlying248
 a61:=Tryz.isAgg248
 z61:=Tryz.sizeOf248
 t65:=Tryz.underlying283
 a65:=Tryz.isAgg283
 z65:=Tryz.sizeOf283
 v65:=Tryz.zeroValue283
 i65:=by kernel_rfl
 t66:=Tryz.underlying284
 a66:=Tryz.isAgg284
 z66:=Tryz.sizeOf284
 v66:=Tryz.zeroValue284
 i66:=by kernel_rfl
 t67:=Tryz.underlying224
 a67:=Tryz.isAgg224
 z67:=Tryz.sizeOf224
 v67:=Tryz.zeroValue224
 i67:=by kernel_rfl
 g0:=by kernel_rfl
 m0:=by kernel_rfl
 g1:=by kernel_rfl
 m1:=by kernel_rfl
 g2:=by kernel_rfl
 m2:=by kernel_rfl
 g3:=by kernel_rfl
 m3:=by kernel_rfl
 g4:=by kernel_rfl
 m4:=by kernel_rfl }
open Go.RowKit in
theorem Tryz.strconv_ParseUint_10_at32_ok (s:ByteArray) (hmax:s.size≤9223372036854775806) (u:Nat) (h:Lib.parseUintB 32 s.data.toList=.ok u) (w:World) :
    Calls Tryz.prog 276 #[.string s,.int .i64 10,.int .i64 32] w fun e w'=>e=.returned (.tuple #[.int .u64 u,.nilIface])∧(w'=w∨w'=Lib.bytesWorld w 5 s):=Any.strconv_ParseUint_10_at32_ok Tryz.laysPu14 s hmax u h w
def Tryz.lays145_ren:Go.Shelf.Ren:=⟨fun | 145=>198 | 220=>213 | 219=>229 | 217=>252 | 225=>253 | 224=>254 | 267=>255 | 266=>273 | 314=>274 | n=>n,fun | 9=>9 | 4=>4 | 59=>124 | 3=>3 | 5=>5 | 46=>170 | 146=>263 | 51=>130 | n=>n,fun | 1=>1 | n=>n⟩
theorem Tryz.lays145:Go.Proofs.Lays.n145 Tryz.prog Tryz.lays145_ren:={
 mixed:=by kernel_rfl
 f145:=Tryz.func198.trans (congrArg some (by kernel_rfl))
 f217:=Tryz.func252.trans (congrArg some (by kernel_rfl))
 f219:=Tryz.func229.trans (congrArg some (by kernel_rfl))
 f220:=Tryz.func213.trans (congrArg some (by kernel_rfl))
 f224:=Tryz.func254.trans (congrArg some (by kernel_rfl))
 f225:=Tryz.func253.trans (congrArg some (by kernel_rfl))
 f266:=Tryz.func273.trans (congrArg some (by kernel_rfl))
 f267:=Tryz.func255.trans (congrArg some (by kernel_rfl))
 f314:=Tryz.func274.trans (congrArg some (by kernel_rfl))
 t3:=Tryz.underlying3
 a3:=Tryz.isAgg3
 z3:=Tryz.sizeOf3
 v3:=Tryz.zeroValue3
 t4:=Tryz.underlying4
 a4:=Tryz.isAgg4
 z4:=Tryz.sizeOf4
 v4:=Tryz.zeroValue4
 t5:=Tryz.underlying5
 a5:=Tryz.isAgg5
 z5:=Tryz.sizeOf5
 v5:=Tryz.zeroValue5
 t9:=Tryz.underlying9
 a9:=Tryz.isAgg9
 z9:=Tryz.sizeOf9
 v9:=Tryz.zeroValue9
 t46:=Tryz.underlying170
 a46:=Tryz.isAgg170
 z46:=Tryz.sizeOf170
 v46:=Tryz.zeroValue170
 t51:=Tryz.underlying130
 a51:=Tryz.isAgg130
 z51:=Tryz.sizeOf130
 v51:=Tryz.zeroValue130
 t59:=Tryz.underlying124
 a59:=Tryz.isAgg124
 z59:=Tryz.sizeOf124
 v59:=Tryz.zeroValue124
 t146:=Tryz.underlying263
 a146:=Tryz.isAgg263
 z146:=Tryz.sizeOf263
 v146:=Tryz.zeroValue263
 g1:=by kernel_rfl }
open Go.RowKit Go.Lib in
theorem Tryz.strings_Cut (s sep:ByteArray) (m:Int) (w:World) (hs:s.size<4294967281) (hm:w.cell? ⟨1,0,none⟩=some (.int .i64 m)) :
    Calls Tryz.prog 198 #[.string s,.string sep] w fun e w'=>e=.returned (.tuple #[.string ⟨(Lib.cut s.data.toList sep.data.toList).1.toArray⟩,.string ⟨(Lib.cut s.data.toList sep.data.toList).2.1.toArray⟩,.bool (Lib.cut s.data.toList sep.data.toList).2.2])∧∃ n,w'=w.drewN n:=Any.strings_Cut Tryz.lays145 s sep m w hs hm
def Tryz.laysM145_ren:Go.Shelf.Ren:=⟨fun | 145=>198 | 220=>213 | 219=>229 | 217=>252 | 225=>253 | 224=>254 | 267=>255 | 266=>273 | 314=>274 | n=>n,fun | 9=>9 | 4=>4 | 59=>124 | 3=>3 | 5=>5 | 46=>170 | 146=>263 | 51=>130 | n=>n,fun | 1=>1 | n=>n⟩
theorem Tryz.laysM145:Go.Proofs.LaysM.n145 Tryz.prog Tryz.laysM145_ren:={
 mixed:=by kernel_rfl
 f145:=Tryz.func198.trans (congrArg some (by kernel_rfl))
 f217:=Tryz.func252.trans (congrArg some (by kernel_rfl))
 f219:=Tryz.func229.trans (congrArg some (by kernel_rfl))
 f220:=Tryz.func213.trans (congrArg some (by kernel_rfl))
 f224:=Tryz.func254.trans (congrArg some (by kernel_rfl))
 f225:=Tryz.func253.trans (congrArg some (by kernel_rfl))
 f266:=Tryz.func273.trans (congrArg some (by kernel_rfl))
 f267:=Tryz.func255.trans (congrArg some (by kernel_rfl))
 f314:=Tryz.func274.trans (congrArg some (by kernel_rfl))
 t3:=Tryz.underlying3
 a3:=Tryz.isAgg3
 z3:=Tryz.sizeOf3
 v3:=Tryz.zeroValue3
 t4:=Tryz.underlying4
 a4:=Tryz.isAgg4
 z4:=Tryz.sizeOf4
 v4:=Tryz.zeroValue4
 t5:=Tryz.underlying5
 a5:=Tryz.isAgg5
 z5:=Tryz.sizeOf5
 v5:=Tryz.zeroValue5
 t9:=Tryz.underlying9
 a9:=Tryz.isAgg9
 z9:=Tryz.sizeOf9
 v9:=Tryz.zeroValue9
 t46:=Tryz.underlying170
 a46:=Tryz.isAgg170
 z46:=Tryz.sizeOf170
 v46:=Tryz.zeroValue170
 t51:=Tryz.underlying130
 a51:=Tryz.isAgg130
 z51:=Tryz.sizeOf130
 v51:=Tryz.zeroValue130
 t59:=Tryz.underlying124
 a59:=Tryz.isAgg124
 z59:=Tryz.sizeOf124
 v59:=Tryz.zeroValue124
 t146:=Tryz.underlying263
 a146:=Tryz.isAgg263
 z146:=Tryz.sizeOf263
 v146:=Tryz.zeroValue263
 g1:=by kernel_rfl
 i3:=by kernel_rfl
 i4:=by kernel_rfl
 i5:=by kernel_rfl
 i9:=by kernel_rfl
 i46:=by kernel_rfl
 i51:=by kernel_rfl
 i59:=by kernel_rfl
 i146:=by kernel_rfl
 m1:=by kernel_rfl
 s1_3:=fun w h=>Go.Proofs.cell_of_shapedOpen_int (zero:=#[.int .i64 0]) (t:=3) h (of_decide_eq_true (by kernel_rfl)) (by kernel_rfl) rfl (by kernel_rfl) (by kernel_rfl) Tryz.underlying3 }
def Tryz.lays105_ren:Go.Shelf.Ren:=⟨fun | 105=>281 | 212=>296 | 99=>297 | 165=>298 | 166=>280 | 170=>299 | 169=>282 | 263=>311 | 264=>312 | 206=>275 | 240=>295 | 241=>313 | 276=>310 | 277=>317 | n=>n,fun | 9=>9 | 3=>3 | 4=>4 | 20=>20 | 0=>0 | 46=>170 | 109=>291 | 5=>5 | 72=>273 | 76=>278 | 51=>130 | 146=>263 | 53=>176 | 148=>307 | 70=>271 | 37=>190 | 75=>267 | 127=>294 | 164=>304 | 80=>224 | n=>n,fun | n=>n⟩
theorem Tryz.lays105:Go.Proofs.Lays.n105 Tryz.prog Tryz.lays105_ren:={
 mixed:=by kernel_rfl
 f99:=Tryz.func297.trans (congrArg some (by kernel_rfl))
 f105:=Tryz.func281.trans (congrArg some (by kernel_rfl))
 f165:=Tryz.func298.trans (congrArg some (by kernel_rfl))
 f166:=Tryz.func280.trans (congrArg some (by kernel_rfl))
 f169:=Tryz.func282.trans (congrArg some (by kernel_rfl))
 f170:=Tryz.func299.trans (congrArg some (by kernel_rfl))
 f206:=Tryz.func275.trans (congrArg some (by kernel_rfl))
 f212:=Tryz.func296.trans (congrArg some (by kernel_rfl))
 f240:=Tryz.func295.trans (congrArg some (by kernel_rfl))
 f241:=Tryz.func313.trans (congrArg some (by kernel_rfl))
 f263:=Tryz.func311.trans (congrArg some (by kernel_rfl))
 f264:=Tryz.func312.trans (congrArg some (by kernel_rfl))
 f276:=Tryz.func310.trans (congrArg some (by kernel_rfl))
 f277:=Tryz.func317.trans (congrArg some (by kernel_rfl))
 t0:=Tryz.underlying0
 a0:=Tryz.isAgg0
 z0:=Tryz.sizeOf0
 v0:=Tryz.zeroValue0
 t3:=Tryz.underlying3
 a3:=Tryz.isAgg3
 z3:=Tryz.sizeOf3
 v3:=Tryz.zeroValue3
 t4:=Tryz.underlying4
 a4:=Tryz.isAgg4
 z4:=Tryz.sizeOf4
 v4:=Tryz.zeroValue4
 t5:=Tryz.underlying5
 a5:=Tryz.isAgg5
 z5:=Tryz.sizeOf5
 v5:=Tryz.zeroValue5
 t9:=Tryz.underlying9
 a9:=Tryz.isAgg9
 z9:=Tryz.sizeOf9
 v9:=Tryz.zeroValue9
 t20:=Tryz.underlying20
 a20:=Tryz.isAgg20
 z20:=Tryz.sizeOf20
 v20:=Tryz.zeroValue20
 t37:=Tryz.underlying190
 a37:=Tryz.isAgg190
 z37:=Tryz.sizeOf190
 v37:=Tryz.zeroValue190
 t46:=Tryz.underlying170
 a46:=Tryz.isAgg170
 z46:=Tryz.sizeOf170
 v46:=Tryz.zeroValue170
 t51:=Tryz.underlying130
 a51:=Tryz.isAgg130
 z51:=Tryz.sizeOf130
 v51:=Tryz.zeroValue130
 t53:=Tryz.underlying176
 a53:=Tryz.isAgg176
 z53:=Tryz.sizeOf176
 v53:=Tryz.zeroValue176
 t70:=Tryz.underlying271
 a70:=Tryz.isAgg271
 z70:=Tryz.sizeOf271
 v70:=Tryz.zeroValue271
 t72:=Tryz.underlying273
 a72:=Tryz.isAgg273
 z72:=Tryz.sizeOf273
 v72:=Tryz.zeroValue273
 t75:=Tryz.underlying267
 a75:=Tryz.isAgg267
 z75:=Tryz.sizeOf267
 v75:=Tryz.zeroValue267
 t76:=Tryz.underlying278
 a76:=Tryz.isAgg278
 z76:=Tryz.sizeOf278
 v76:=Tryz.zeroValue278
 t109:=Tryz.underlying291
 a109:=Tryz.isAgg291
 z109:=Tryz.sizeOf291
 v109:=Tryz.zeroValue291
 t127:=Tryz.underlying294
 a127:=Tryz.isAgg294
 z127:=Tryz.sizeOf294
 v127:=Tryz.zeroValue294
 t146:=Tryz.underlying263
 a146:=Tryz.isAgg263
 z146:=Tryz.sizeOf263
 v146:=Tryz.zeroValue263
 t148:=Tryz.underlying307
 a148:=Tryz.isAgg307
 z148:=Tryz.sizeOf307
 v148:=Tryz.zeroValue307
 t164:=Tryz.underlying304
 a164:=Tryz.isAgg304
 z164:=Tryz.sizeOf304
 v164:=Tryz.zeroValue304 }
theorem Tryz.Builder_Extra_105:Builder.Extra Tryz.prog Tryz.lays105_ren:={
 sizeBuilder:=by kernel_rfl
 liesBuilder:=by kernel_rfl
 t5:=Tryz.underlying5
 a5:=Tryz.isAgg5
 z5:=Tryz.sizeOf5
 v5:=Tryz.zeroValue5
 infoByte:=by kernel_rfl
 cellsByte:=by kernel_rfl
 sizeByte:=by kernel_rfl
 neB5:=by decide }
open Go.RowKit Go.Lib in
theorem Tryz.strings_Repeat (s:ByteArray) (c:Nat) (w:World) (hc:c≤9223372036854775807) (hlen:s.size*c≤140737488355328) :
    Calls Tryz.prog 281 #[.string s,.int .i64 c] w fun e w'=>e=.returned (.string ⟨(Lib.repeatL s.data.toList c).toArray⟩)∧Below w.heap.size w w':=Any.strings_Repeat Tryz.lays105 Tryz.Builder_Extra_105 s c w hc hlen
end Go.Proofs
namespace Go.Proofs
open Go.Shelf Go.RowKit
theorem Tryz.WriteString_k (B b:Nat) (bs:List Value) (s:ByteArray) (w:World) (h:Lib.IsBuilderF 273 5 B b bs w) (hlen:bs.length+s.size≤140737488355328) (hBw:B≤w.heap.size) :
    Calls Tryz.prog 280 #[.pointer (some ⟨b,0,none⟩),.string s] w fun e w'=>e=.returned (.tuple #[.int .i64 s.size,.nilIface])∧(Lib.BuilderAtF 273 5 B b (.pointer (some ⟨b,0,none⟩)) (bs++Lib.strCells s) w'∧Below B w w'∧Lib.OthersKept 5 (some b) w w'):=Any.Builder_WriteString_k { Tryz.lays105 with } Tryz.Builder_Extra_105 B b bs s w h hlen hBw
end Go.Proofs
