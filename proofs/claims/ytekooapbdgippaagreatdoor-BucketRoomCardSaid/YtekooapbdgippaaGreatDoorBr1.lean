/- BucketRoom holds for every input: a bucket never has more octets than may be; a version for which there is no room is refused. The conditions are those of the row: every bucket, key and data that the types of the program allow. Part 22 of 26. -/
import Derived.Test.YtekooapbdgippaaGreatDoorProg
import Derived.Below
import Derived.Deep.Draws
import Derived.Deep.AppendLies
import Derived.Maps.AppendAt
import Derived.OwnWalk
import Derived.Laws.BytesArg
import Derived.Laws.MakeOwn
import Derived.Laws.OwnMore
import Derived.Deep.OwnRows
import Derived.Tactics
import Derived.Lib.ConvBytes
import Derived.Laws.Slices
import Derived.WalkKit
import Derived.KernelRfl
import Derived.RowKit3
import Derived.Deep.LoopGhost
import Derived.Deep.QuietTactic
import Derived.BigQuiet
import Derived.WideLaws
import Derived.Deep.DeepCutAuto
import Derived.Deep.CutBlock
import Derived.Deep.RegionHeld3
import Derived.Laws.Rows
import Derived.Lib.AppendStr
import Derived.ArgAppend
import Derived.Laws.IdiomCopy
import Derived.OrdersHeld
import Derived.Laws.BitsLemmas
import Derived.RowKit
import Derived.Test.YtekooapbdgippaaGreatDoorBrWWords
import Derived.Test.YtekooapbdgippaaGreatDoorBrWLast
import Derived.Test.YtekooapbdgippaaGreatDoorBrWTab
import Derived.Test.YtekooapbdgippaaGreatDoorBrWFour
import Derived.Test.YtekooapbdgippaaGreatDoorBrWQPut
import Derived.Test.YtekooapbdgippaaGreatDoorBrWApart
import Derived.Test.YtekooapbdgippaaGreatDoorBrWArr
import Derived.Test.YtekooapbdgippaaGreatDoorBrWZeros
import Derived.Test.YtekooapbdgippaaGreatDoorBrWFoot
import Derived.Test.YtekooapbdgippaaGreatDoorBrWKept
import Derived.Test.YtekooapbdgippaaGreatDoorBrWShare
import Derived.Test.YtekooapbdgippaaGreatDoorBrWN
import Derived.Test.YtekooapbdgippaaGreatDoorBrWFootNe
import Derived.Test.YtekooapbdgippaaGreatDoorBrWAt
import Derived.Test.YtekooapbdgippaaGreatDoorBrWEqStruct
import Derived.Test.YtekooapbdgippaaGreatDoorBrWRepsOne
import Derived.Test.YtekooapbdgippaaGreatDoorBrWInv
import Derived.Test.YtekooapbdgippaaGreatDoorBrWInvWords
import Derived.Test.YtekooapbdgippaaGreatDoorBrWGuard
import Derived.Test.YtekooapbdgippaaGreatDoorBrWNEv
import Derived.Test.YtekooapbdgippaaGreatDoorBrWMore
import Derived.Deep.DeepMust
import Derived.Maps.OwnSet
import Derived.Maps.RangeWalk
import Derived.Lib.BufferMore
import Derived.Laws.CopyOwn
import Derived.Lib.Overlaps
import Derived.Deep.RegionLaw
import Derived.StillTailTactics
import Derived.WalkSpells
import Derived.Outline
import Derived.Tactics2
import Derived.Defers
import Derived.Laws.Pointers
import Derived.Laws.LoneSync
import Derived.RegionTactic
import Derived.RegionCalls
import Derived.ChangeAlike
import Derived.Lib.Builder
import Derived.Shelf.Strings.Builder1
import Derived.Shelf.Strings.BuilderF
import Derived.Shelf.Strconv.Itoa0
import Derived.Shelf.Strconv.Itoa1
import Derived.Shelf.LaysM
import Derived.Shelf.Strconv.Itoa2
import Derived.Shelf.Strconv.Itoa3
namespace Go.Proofs.YtekooapbdgippaaGreatDoor.Q
open Go.RowKit Go.Proofs.YtekooapbdgippaaGreatDoorW.PrintWords Go.Proofs.YtekooapbdgippaaGreatDoorW.PrintLast
def zy (n b : Nat) : Array Bool := ((List.range n).map (fun i => b.testBit i)).toArray
section
variable {P : Program} {ops : Array Oper} {Q : Exit → Go.Act → World → Prop} {md : Region.Mode} {S : World → Prop} {ds : List Nat} {oi : Oper} {v : Value} {fuel : Nat} {l : Array Bool} {a a' : Go.Act} {w : World} {T : Bool × List (List Nat × List Nat)} {B : List Nat}
theorem zpu (i : Nat) (N : Option Tmp) (l' : Array Bool) (hT : Aside0 (rtab md ops = T)) (h : wpAnyLast P md ops Q S ds fuel l' a' w) (hi : ops[i]? = some oi := by rfl) (hN : oi.dst = N := by rfl) (hw : Region.wanted oi (yielded ops a.tmps) = true := by rfl)
 (hy : ∀ w, (execOp a.eval oi).run P w = .ok (.value v) w := by (intro w'; go_simp; with_reducible rfl)) (ha : a.put N v = a' := by (simp only [Go.Act.put, List.setIfInBounds_toArray, List.set_cons_zero, List.set_cons_succ, i64_w, i32_w]; rfl))
 (hc : anyT T l.toList l'.toList i = true := by kernel_rfl) (hQ : ∀ c a w, Q (.panic c) (a.put oi.dst v) w → Q (.panic c) a w := by exact fun _ _ _ h => h) : wpAnyLast P md ops Q S ds (fuel + 1) l a w := pure_ l' hi hN (any_of hT.out hc) hQ (Or.inl ⟨hw, hy⟩) ha h
theorem zun (i : Nat) (N : Option Tmp) (l' : Array Bool) (hT : Aside0 (rtab md ops = T)) (h : wpAnyLast P md ops Q S ds fuel l' a' w) (hi : ops[i]? = some oi := by rfl) (hN : oi.dst = N := by rfl) (hw : Region.wanted oi (yielded ops a.tmps) = false := by rfl)
 (ha : a.put N undef = a' := by (simp only [Go.Act.put, List.setIfInBounds_toArray, List.set_cons_zero, List.set_cons_succ, i64_w, i32_w]; rfl))
 (hc : anyT T l.toList l'.toList i = true := by kernel_rfl) (hQ : ∀ c a w, Q (.panic c) (a.put oi.dst undef) w → Q (.panic c) a w := by exact fun _ _ _ h => h) : wpAnyLast P md ops Q S ds (fuel + 1) l a w := pure_ l' hi hN (any_of hT.out hc) hQ (Or.inr ⟨hw, rfl⟩) ha h
theorem ztk (i : Nat) (N : Option Tmp) (l' : Array Bool) (hT : Aside0 (rtab md ops = T)) (hB : Aside0 (waitsOk T.2 B = true)) (hS : S w) (h : wpAnyLast P md ops Q S ds fuel l' a' w) (hi : ops[i]? = some oi := by rfl) (hN : oi.dst = N := by rfl) (hw : Region.wanted oi (yielded ops a.tmps) = true := by rfl)
 (hy : ∀ w, S w → (execOp a.eval oi).run P w = .ok (.value v) w := by (intro w' h; (repeat (with_reducible refine And.elim ?_ h; clear h; intro _ h)); go_simp; with_reducible rfl)) (ha : a.put N v = a' := by (simp only [Go.Act.put, List.setIfInBounds_toArray, List.set_cons_zero, List.set_cons_succ, i64_w, i32_w]; rfl))
 (hc : takeW T B ds l.toList l'.toList i = true := by kernel_rfl) (hQ : ∀ c a w, Q (.panic c) (a.put oi.dst v) w → Q (.panic c) a w := by exact fun _ _ _ h => h) : wpAnyLast P md ops Q S ds (fuel + 1) l a w := take_ l' hi hN (take_ofW hT.out hB.out hc) hQ (Or.inl ⟨hw, hy⟩) hS ha h
end
section
variable {P : Program} {w w' : World} {ops : Array Oper} {rest : List Oper} {o : Oper} {a : Go.Act} {Q : Exit → Go.Act → World → Prop}
theorem zbe {B : Nat} (h : Below B w w' := by (repeat (first | (with_reducible first | exact Aside0.out (by assumption) | apply below_alloc | apply pw_below_drewN | apply below_drew1 | refine below_set ?_ (Aside0.out (by assumption))) | exact Aside0.out (by assumption)))) : Below B w w' := h
theorem zbk {g : Nat} {o : Obj} (h : w.heap[g]? = some o := by ((with_reducible repeat (first | refine blk_drewN ?_ _ | refine blk_drew ?_ | refine blk_alloc ?_ _)); exact Aside0.out (by assumption))) : w.heap[g]? = some o := h
theorem zcl (HB : Aside0 (Below w.heap.size w w')) {p : Addr} {v : Value} (h : w.cell? p = some v) : w'.cell? p = some v := (HB.out.cell (World.block_lt_of_cell? w _ h)).trans h
theorem zbx (N : Tmp) (cs : Array Value) (t : TypeId) (h : ∀ g, g = w.heap.size → ∀ w1, w1.heap[g]? = some (.cells cs t (0, 0)) → Below w.heap.size w w1 → wpList P ops Q rest (a.put o.dst (.pointer (some ⟨g, 0, none⟩))) w1)
 (hgd : o.guard = none := by rfl) (hd : o.dst = some N := by rfl) (hr : (execOp a.eval o).run P w = .ok (.value (.pointer (some ⟨w.heap.size, 0, none⟩))) (w.alloc (.cells cs t (0, 0))) := by first | (go_simp; done) | (go_simp; rfl)) : wpList P ops Q (o :: rest) a w := box_event hgd hd hr h
end
end Go.Proofs.YtekooapbdgippaaGreatDoor.Q
namespace Go.Proofs.YtekooapbdgippaaGreatDoor.Q
open Go.RowKit Go.Proofs.YtekooapbdgippaaGreatDoorW.PrintWords Go.Proofs.YtekooapbdgippaaGreatDoorW.PrintLast Go.Proofs.YtekooapbdgippaaGreatDoorW.PrintMore
attribute [local go_sem] max2_int min2_int max_two min_two max_three min_three max_four min_four
set_option linter.unusedVariables false
set_option linter.unusedSimpArgs false



def errW : Option Int → Value
 | none=>.nilIface
 | some c=>.iface 0 (.int .i64 c)
theorem errW_none : errW none = .nilIface:=rfl
theorem errW_some (c : Int) : errW (some c) = .iface 0 (.int .i64 c):=rfl

theorem info40 : (Tryz.prog.info? 40).map (fun i=>(i.zero,i.size,i.bytes)) = some (some (.agg #[(.int .i64 0),(.string ⟨#[]⟩)]),2,24):=by kernel_rfl
theorem info47 : (Tryz.prog.info? 47).map (fun i=>(i.zero,i.size,i.bytes)) = some (some (.agg #[(.int .u64 0),(.string ⟨#[]⟩),(.bool false),(.int .i64 0)]),4,40):=by kernel_rfl
theorem info56 : (Tryz.prog.info? 56).map (fun i=>(i.zero,i.size,i.bytes)) = some (some (.agg #[(.string ⟨#[]⟩),(.slice none 0 0)]),2,40):=by kernel_rfl
theorem info101 : (Tryz.prog.info? 101).map (fun i=>(i.zero,i.size,i.bytes)) = some (some (.agg #[(.int .u64 0),(.string ⟨#[]⟩),(.slice none 0 0)]),3,48):=by kernel_rfl
-- the values' own types
/-! #### struct type 47 -/
structure S47 where
 f0 : Int
 f1 : ByteArray
 f2 : Bool
 f3 : Int
def z47 : S47:=⟨(0 : Int),(⟨#[]⟩ : ByteArray),false,(0 : Int)⟩
def k47 : Kd S47:=Kd.iso (Kd.pair (Kd.int .u64) (Kd.pair Kd.string (Kd.pair Kd.bool (Kd.int .i64)))) (fun x : S47=>(x.f0,x.f1,x.f2,x.f3))
theorem k47_open {w : World} {x : S47} {cs : List Value} (h : k47.K w x cs) : cs = [.int .u64 x.f0,.string x.f1,.bool x.f2,.int .i64 x.f3]:=by
 obtain ⟨_,_,rfl,rfl,⟨_,_,rfl,rfl,⟨_,_,rfl,rfl,rfl⟩⟩⟩:=h
 exact rfl
theorem k47_mk (w : World) (x : S47)  : k47.K w x [.int .u64 x.f0,.string x.f1,.bool x.f2,.int .i64 x.f3]:=⟨[.int .u64 x.f0],[.string x.f1,.bool x.f2,.int .i64 x.f3],rfl,rfl,⟨[.string x.f1],[.bool x.f2,.int .i64 x.f3],rfl,rfl,⟨[.bool x.f2],[.int .i64 x.f3],rfl,rfl,rfl⟩⟩⟩
theorem k47_mkM (w : World) (base : Nat) (ok : Nat → Prop) (x : S47)  : k47.M w base ok x [.int .u64 x.f0,.string x.f1,.bool x.f2,.int .i64 x.f3]:=⟨[.int .u64 x.f0],[.string x.f1,.bool x.f2,.int .i64 x.f3],rfl,rfl,⟨[.string x.f1],[.bool x.f2,.int .i64 x.f3],rfl,rfl,⟨[.bool x.f2],[.int .i64 x.f3],rfl,rfl,rfl⟩⟩⟩
def rd_T47 (xs : List S47) (i : Int) : S47:=xs.getD i.toNat z47
theorem at_T47 {w : World} {A : Option Addr} {n : Nat} {xs : List S47} (h : Kd.C k47 w A n xs) (i : Int) (h0 : 0 ≤ i) (h1 : i < n) : ∃ ad ,A = some ad ∧ w.cell? (ad.add (i.toNat * 4)) = some (.int .u64 (rd_T47 xs i).f0) ∧ w.cell? ⟨(ad.add (i.toNat * 4)).block,(ad.add (i.toNat * 4)).off + 1,none⟩ = some (.string (rd_T47 xs i).f1) ∧ w.cell? ⟨(ad.add (i.toNat * 4)).block,(ad.add (i.toNat * 4)).off + 2,none⟩ = some (.bool (rd_T47 xs i).f2) ∧ w.cell? ⟨(ad.add (i.toNat * 4)).block,(ad.add (i.toNat * 4)).off + 3,none⟩ = some (.int .i64 (rd_T47 xs i).f3):=by
 obtain ⟨ad,c,e,_,hK,hc0⟩:=Kd.C_get h z47 i h0 h1
 have hc : ∀ j u,c[j]? = some u → w.cell? (ad.add (i.toNat * 4 + j)) = some u:=hc0
 obtain rfl:=k47_open hK
 exact ⟨ad,e,hc 0 _ rfl,by rw [← add_field _ _ 1 (by omega)];exact hc 1 _ rfl,by rw [← add_field _ _ 2 (by omega)];exact hc 2 _ rfl,by rw [← add_field _ _ 3 (by omega)];exact hc 3 _ rfl⟩

/-! #### struct type 56 -/
structure S56 where
 f0 : ByteArray
 f1 : (List S47)
def z56 : S56:=⟨(⟨#[]⟩ : ByteArray),([] : List S47)⟩
def k56 : Kd S56:=Kd.iso (Kd.pair Kd.string (Kd.slice 47 k47)) (fun x : S56=>(x.f0,x.f1))
theorem k56_open {w : World} {x : S56} {cs : List Value} (h : k56.K w x cs) : ∃ A1 c1,cs = [.string x.f0,.slice A1 x.f1.length c1] ∧ x.f1.length ≤ c1 ∧ k47.C w A1 x.f1.length x.f1:=by
 obtain ⟨_,_,rfl,rfl,⟨A1,c1,rfl,l1,g1⟩⟩:=h
 exact ⟨A1,c1,rfl,l1,g1⟩
theorem k56_mk (w : World) (x : S56) {A1 : Option Addr} {c1 : Nat} (l1 : x.f1.length ≤ c1) (g1 : k47.C w A1 x.f1.length x.f1) : k56.K w x [.string x.f0,.slice A1 x.f1.length c1]:=⟨[.string x.f0],[.slice A1 x.f1.length c1],rfl,rfl,⟨A1,c1,rfl,l1,g1⟩⟩
theorem k56_mkM (w : World) (base : Nat) (ok : Nat → Prop) (x : S56) {v1 : Value} (g1 : k47.R 47 w base ok v1 x.f1) : k56.M w base ok x [.string x.f0,v1]:=⟨[.string x.f0],[v1],rfl,rfl,⟨v1,rfl,g1⟩⟩
def rd_T56 (xs : List S56) (i : Int) : S56:=xs.getD i.toNat z56
theorem at_T56 {w : World} {A : Option Addr} {n : Nat} {xs : List S56} (h : Kd.C k56 w A n xs) (i : Int) (h0 : 0 ≤ i) (h1 : i < n) : ∃ ad A1 c1,A = some ad ∧ w.cell? (ad.add (i.toNat * 2)) = some (.string (rd_T56 xs i).f0) ∧ w.cell? ⟨(ad.add (i.toNat * 2)).block,(ad.add (i.toNat * 2)).off + 1,none⟩ = some (.slice A1 (rd_T56 xs i).f1.length c1) ∧ (rd_T56 xs i).f1.length ≤ c1 ∧ k47.C w A1 (rd_T56 xs i).f1.length (rd_T56 xs i).f1:=by
 obtain ⟨ad,c,e,_,hK,hc0⟩:=Kd.C_get h z56 i h0 h1
 have hc : ∀ j u,c[j]? = some u → w.cell? (ad.add (i.toNat * 2 + j)) = some u:=hc0
 obtain ⟨A1,c1,rfl,l1,g1⟩:=k56_open hK
 exact ⟨ad,A1,c1,e,hc 0 _ rfl,by rw [← add_field _ _ 1 (by omega)];exact hc 1 _ rfl,l1,g1⟩

/-! #### struct type 40 -/
structure S40 where
 f0 : Int
 f1 : ByteArray
def z40 : S40:=⟨(0 : Int),(⟨#[]⟩ : ByteArray)⟩
def k40 : Kd S40:=Kd.iso (Kd.pair (Kd.int .i64) Kd.string) (fun x : S40=>(x.f0,x.f1))
theorem k40_open {w : World} {x : S40} {cs : List Value} (h : k40.K w x cs) : cs = [.int .i64 x.f0,.string x.f1]:=by
 obtain ⟨_,_,rfl,rfl,rfl⟩:=h
 exact rfl
theorem k40_mk (w : World) (x : S40)  : k40.K w x [.int .i64 x.f0,.string x.f1]:=⟨[.int .i64 x.f0],[.string x.f1],rfl,rfl,rfl⟩
theorem k40_mkM (w : World) (base : Nat) (ok : Nat → Prop) (x : S40)  : k40.M w base ok x [.int .i64 x.f0,.string x.f1]:=⟨[.int .i64 x.f0],[.string x.f1],rfl,rfl,rfl⟩
def rd_T40 (xs : List S40) (i : Int) : S40:=xs.getD i.toNat z40
theorem at_T40 {w : World} {A : Option Addr} {n : Nat} {xs : List S40} (h : Kd.C k40 w A n xs) (i : Int) (h0 : 0 ≤ i) (h1 : i < n) : ∃ ad ,A = some ad ∧ w.cell? (ad.add (i.toNat * 2)) = some (.int .i64 (rd_T40 xs i).f0) ∧ w.cell? ⟨(ad.add (i.toNat * 2)).block,(ad.add (i.toNat * 2)).off + 1,none⟩ = some (.string (rd_T40 xs i).f1):=by
 obtain ⟨ad,c,e,_,hK,hc0⟩:=Kd.C_get h z40 i h0 h1
 have hc : ∀ j u,c[j]? = some u → w.cell? (ad.add (i.toNat * 2 + j)) = some u:=hc0
 obtain rfl:=k40_open hK
 exact ⟨ad,e,hc 0 _ rfl,by rw [← add_field _ _ 1 (by omega)];exact hc 1 _ rfl⟩

/-! #### struct type 101 -/
structure S101 where
 f0 : Int
 f1 : ByteArray
 f2 : (List S40)
def z101 : S101:=⟨(0 : Int),(⟨#[]⟩ : ByteArray),([] : List S40)⟩
def k101 : Kd S101:=Kd.iso (Kd.pair (Kd.int .u64) (Kd.pair Kd.string (Kd.slice 40 k40))) (fun x : S101=>(x.f0,x.f1,x.f2))
theorem k101_open {w : World} {x : S101} {cs : List Value} (h : k101.K w x cs) : ∃ A2 c2,cs = [.int .u64 x.f0,.string x.f1,.slice A2 x.f2.length c2] ∧ x.f2.length ≤ c2 ∧ k40.C w A2 x.f2.length x.f2:=by
 obtain ⟨_,_,rfl,rfl,⟨_,_,rfl,rfl,⟨A2,c2,rfl,l2,g2⟩⟩⟩:=h
 exact ⟨A2,c2,rfl,l2,g2⟩
theorem k101_mk (w : World) (x : S101) {A2 : Option Addr} {c2 : Nat} (l2 : x.f2.length ≤ c2) (g2 : k40.C w A2 x.f2.length x.f2) : k101.K w x [.int .u64 x.f0,.string x.f1,.slice A2 x.f2.length c2]:=⟨[.int .u64 x.f0],[.string x.f1,.slice A2 x.f2.length c2],rfl,rfl,⟨[.string x.f1],[.slice A2 x.f2.length c2],rfl,rfl,⟨A2,c2,rfl,l2,g2⟩⟩⟩
theorem k101_mkM (w : World) (base : Nat) (ok : Nat → Prop) (x : S101) {v2 : Value} (g2 : k40.R 40 w base ok v2 x.f2) : k101.M w base ok x [.int .u64 x.f0,.string x.f1,v2]:=⟨[.int .u64 x.f0],[.string x.f1,v2],rfl,rfl,⟨[.string x.f1],[v2],rfl,rfl,⟨v2,rfl,g2⟩⟩⟩
def rd_T101 (xs : List S101) (i : Int) : S101:=xs.getD i.toNat z101
theorem at_T101 {w : World} {A : Option Addr} {n : Nat} {xs : List S101} (h : Kd.C k101 w A n xs) (i : Int) (h0 : 0 ≤ i) (h1 : i < n) : ∃ ad A2 c2,A = some ad ∧ w.cell? (ad.add (i.toNat * 3)) = some (.int .u64 (rd_T101 xs i).f0) ∧ w.cell? ⟨(ad.add (i.toNat * 3)).block,(ad.add (i.toNat * 3)).off + 1,none⟩ = some (.string (rd_T101 xs i).f1) ∧ w.cell? ⟨(ad.add (i.toNat * 3)).block,(ad.add (i.toNat * 3)).off + 2,none⟩ = some (.slice A2 (rd_T101 xs i).f2.length c2) ∧ (rd_T101 xs i).f2.length ≤ c2 ∧ k40.C w A2 (rd_T101 xs i).f2.length (rd_T101 xs i).f2:=by
 obtain ⟨ad,c,e,_,hK,hc0⟩:=Kd.C_get h z101 i h0 h1
 have hc : ∀ j u,c[j]? = some u → w.cell? (ad.add (i.toNat * 3 + j)) = some u:=hc0
 obtain ⟨A2,c2,rfl,l2,g2⟩:=k101_open hK
 exact ⟨ad,A2,c2,e,hc 0 _ rfl,by rw [← add_field _ _ 1 (by omega)];exact hc 1 _ rfl,by rw [← add_field _ _ 2 (by omega)];exact hc 2 _ rfl,l2,g2⟩

end Go.Proofs.YtekooapbdgippaaGreatDoor.Q
namespace Go.Proofs.YtekooapbdgippaaGreatDoor.Q
open Go.RowKit Go.Proofs.YtekooapbdgippaaGreatDoorW.PrintWords Go.Proofs.YtekooapbdgippaaGreatDoorW.PrintLast Go.Proofs.YtekooapbdgippaaGreatDoorW.PrintMore
attribute [local go_sem] max2_int min2_int max_two min_two max_three min_three max_four min_four
set_option linter.unusedVariables false
set_option linter.unusedSimpArgs false

theorem eqA40 (d : Nat) (w : World) (x0 y0 : Int) (x1 y1 : ByteArray) :
  (Op.equalIn (d + 2) 40 (.agg #[.int .i64 x0,.string x1]) (.agg #[.int .i64 y0,.string y1])).run Tryz.prog w = .ok (x0 == y0 && (x1.toList == y1.toList)) w:=by
 refine eqA_of Tryz.underlying40 (by kernel_rfl) ?_
 refine eqf_cons (by rfl) (by go_simp;rfl) (by go_simp;rfl) (by go_simp) ?_
 exact eqf_last (by rfl) (by go_simp;rfl) (by go_simp;rfl) (by go_simp)
end Go.Proofs.YtekooapbdgippaaGreatDoor.Q
namespace Go.Proofs.YtekooapbdgippaaGreatDoor.Q
open Go.RowKit Go.Proofs.YtekooapbdgippaaGreatDoorW.PrintWords Go.Proofs.YtekooapbdgippaaGreatDoorW.PrintLast Go.Proofs.YtekooapbdgippaaGreatDoorW.PrintMore
attribute [local go_sem] max2_int min2_int max_two min_two max_three min_three max_four min_four
set_option linter.unusedVariables false
set_option linter.unusedSimpArgs false

theorem eqA47 (d : Nat) (w : World) (x0 y0 : Int) (x1 y1 : ByteArray) (x2 y2 : Bool) (x3 y3 : Int) :
  (Op.equalIn (d + 2) 47 (.agg #[.int .u64 x0,.string x1,.bool x2,.int .i64 x3]) (.agg #[.int .u64 y0,.string y1,.bool y2,.int .i64 y3])).run Tryz.prog w = .ok (x0 == y0 && (x1.toList == y1.toList && (x2 == y2 && (x3 == y3)))) w:=by
 refine eqA_of Tryz.underlying47 (by kernel_rfl) ?_
 refine eqf_cons (by rfl) (by go_simp;rfl) (by go_simp;rfl) (by go_simp) ?_
 refine eqf_cons (by rfl) (by go_simp;rfl) (by go_simp;rfl) (by go_simp) ?_
 refine eqf_cons (by rfl) (by go_simp;rfl) (by go_simp;rfl) (by go_simp) ?_
 exact eqf_last (by rfl) (by go_simp;rfl) (by go_simp;rfl) (by go_simp)
end Go.Proofs.YtekooapbdgippaaGreatDoor.Q
namespace Go.Proofs.YtekooapbdgippaaGreatDoor.Q
open Go.RowKit Go.Proofs.YtekooapbdgippaaGreatDoorW.PrintWords Go.Proofs.YtekooapbdgippaaGreatDoorW.PrintLast Go.Proofs.YtekooapbdgippaaGreatDoorW.PrintMore
attribute [local go_sem] max2_int min2_int max_two min_two max_three min_three max_four min_four
set_option linter.unusedVariables false
set_option linter.unusedSimpArgs false

/-! ### cellarerlaw01_Few: function 11 -/
def cellarerlaw01_Few.f (a0 : ByteArray) : Option (ByteArray):=if (a0.size : Int) > 80 then (if 0 ≤ 80 then (if 80 ≤ (a0.size : Int) then (some (a0.extract 0 80)) else (none)) else (none)) else (some a0)
set_option maxHeartbeats 8000000 in
set_option maxRecDepth 100000 in
theorem cellarerlaw01_Few.calls (a0 : ByteArray) (r : ByteArray) (w : World) (h : cellarerlaw01_Few.f a0 = some r) :
  Calls Tryz.prog 11 #[.string a0] w fun e w'=>e = .returned (.string r) ∧ Drawn0 w w':=by
 have H : (if (a0.size : Int) > 80 then (if 0 ≤ 80 then (if 80 ≤ (a0.size : Int) then (some (a0.extract 0 80)) else (none)) else (none)) else (some a0)) = some r:=h
 clear h
 by_cases c2 : (a0.size : Int) > 80
 ·rw [if_pos c2] at H
  have c2b0 : decide (80 < (a0.size : Int)) = true:=decide_eq_true c2
  have c2b1 : decide (80 < a0.size) = true:=decide_eq_true (by omega)
  clear c2
  by_cases c3 : 0 ≤ 80
  ·rw [if_pos c3] at H
   have c3b0:=eq_true c3
   have c3b1 : decide (0 ≤ 80) = true:=decide_eq_true c3
   clear c3
   by_cases c4 : 80 ≤ (a0.size : Int)
   ·rw [if_pos c4] at H
    have c4b0:=eq_true c4
    have c4b1 : decide (80 ≤ (a0.size : Int)) = true:=decide_eq_true c4
    clear c4
    obtain rfl:=Option.some.inj H
    go_enter Tryz.func11,Tryz.ntmps11
    go_wp2
    go_ret
    exact ⟨by first | rfl | (simp;done) | (simp [*];done),by repeat (first | exact Drawn0.refl _ | apply Drawn0.step)⟩
   ·rw [if_neg c4] at H
    exact absurd H (by simp)
  ·rw [if_neg c3] at H
   exact absurd H (by simp)
 ·rw [if_neg c2] at H
  have c2b0 : decide (80 < (a0.size : Int)) = false:=decide_eq_false c2
  have c2b1 : decide (80 < a0.size) = false:=decide_eq_false (by omega)
  clear c2
  obtain rfl:=Option.some.inj H
  go_enter Tryz.func11,Tryz.ntmps11
  go_wp2
  go_ret
  exact ⟨by first | rfl | (simp;done) | (simp [*];done),by repeat (first | exact Drawn0.refl _ | apply Drawn0.step)⟩

/-! ### cellarerlaw05_One: function 28 -/
def cellarerlaw05_One.f (a0_0 : Int) (a0_1 : ByteArray) (a0_2 : Bool) (a0_3 : Int) : Option (Int × ByteArray × Bool × Int):=if (a0_1.size : Int) > 2001 then (if 0 ≤ 2001 then (if 2001 ≤ (a0_1.size : Int) then (some (a0_0,a0_1.extract 0 2001,a0_2,a0_3)) else (none)) else (none)) else (some (a0_0,a0_1,a0_2,a0_3))
set_option maxHeartbeats 8000000 in
set_option maxRecDepth 100000 in
theorem cellarerlaw05_One.calls (a0_0 : Int) (a0_1 : ByteArray) (a0_2 : Bool) (a0_3 : Int) (r1 : Int) (r2 : ByteArray) (r3 : Bool) (r4 : Int) (w : World) (h : cellarerlaw05_One.f a0_0 a0_1 a0_2 a0_3 = some (r1,r2,r3,r4)) :
  Calls Tryz.prog 28 #[.agg #[.int .u64 a0_0,.string a0_1,.bool a0_2,.int .i64 a0_3]] w fun e w'=>e = .returned (.agg #[.int .u64 r1,.string r2,.bool r3,.int .i64 r4]) ∧ Below w.heap.size w w':=by
 have hu47:=Tryz.underlying47
 have HB:=Aside0.mk (Below.refl w.heap.size w)
 have H : (if (a0_1.size : Int) > 2001 then (if 0 ≤ 2001 then (if 2001 ≤ (a0_1.size : Int) then (some (a0_0,a0_1.extract 0 2001,a0_2,a0_3)) else (none)) else (none)) else (some (a0_0,a0_1,a0_2,a0_3))) = some (r1,r2,r3,r4):=h
 clear h
 by_cases c2 : (a0_1.size : Int) > 2001
 ·rw [if_pos c2] at H
  have c2b0 : decide (2001 < (a0_1.size : Int)) = true:=decide_eq_true c2
  have c2b1 : decide (2001 < a0_1.size) = true:=decide_eq_true (by omega)
  clear c2
  by_cases c3 : 0 ≤ 2001
  ·rw [if_pos c3] at H
   have c3b0:=eq_true c3
   have c3b1 : decide (0 ≤ 2001) = true:=decide_eq_true c3
   clear c3
   by_cases c4 : 2001 ≤ (a0_1.size : Int)
   ·rw [if_pos c4] at H
    have c4b0:=eq_true c4
    have c4b1 : decide (2001 ≤ (a0_1.size : Int)) = true:=decide_eq_true c4
    clear c4
    simp only [Option.some.injEq,Prod.mk.injEq] at H
    obtain ⟨rfl,rfl,rfl,rfl⟩:=H
    go_enter Tryz.func28,Tryz.ntmps28
    go_wp2_with (first | ((with_reducible refine gate_dst (N:=1) rfl ?_);refine zbx 1 #[.int .u64 a0_0,.string a0_1,.bool a0_2,.int .i64 a0_3] 47 ?_;intro gb101 hg w5 hbox hb;have n0_:=Aside0.mk (below_step zbe hb);have n1_:=Aside0.mk (hbox);have n2_:=Aside0.mk ((by rw [hg];exact (below_size zbe) : w.heap.size ≤ gb101));have n3_:=Aside0.mk ((by rw [hg];exact (below_size zbe) : w.heap.size ≤ gb101));clear HB;have HB:=n0_;have BK101:=n1_;have GW101:=n2_;have GE101:=n3_;clear n0_ n1_ n2_ n3_;clear hb hbox hg) | ((with_reducible refine gate_dst (N:=2) rfl ?_);refine zbx 2 #[.int .u64 0,.string (⟨#[]⟩ : ByteArray),.bool false,.int .i64 0] 47 ?_;intro gb102 hg w6 hbox hb;have n0_:=Aside0.mk (blk_below (g:=gb101) (o:=.cells #[.int .u64 a0_0,.string a0_1,.bool a0_2,.int .i64 a0_3] 47 (0,0)) zbk hb);have n1_:=Aside0.mk (below_step zbe hb);have n2_:=Aside0.mk (hbox);have n3_:=Aside0.mk ((by rw [hg];exact (below_size zbe) : w.heap.size ≤ gb102));have n4_:=Aside0.mk ((by rw [hg];exact (below_size zbe) : w.heap.size ≤ gb102));have n5_:=Aside0.mk ((by rw [hg];exact Nat.ne_of_lt (blk_lt (g:=gb101) (o:=.cells #[.int .u64 a0_0,.string a0_1,.bool a0_2,.int .i64 a0_3] 47 (0,0)) zbk) : gb101 ≠ gb102));have n6_:=Aside0.mk ((by rw [hg];exact Nat.ne_of_gt (blk_lt (g:=gb101) (o:=.cells #[.int .u64 a0_0,.string a0_1,.bool a0_2,.int .i64 a0_3] 47 (0,0)) zbk) : gb102 ≠ gb101));clear BK101;clear HB;have BK101:=n0_;have HB:=n1_;have BK102:=n2_;have GW102:=n3_;have GE102:=n4_;have NB101_102:=n5_;have NB102_101:=n6_;clear n0_ n1_ n2_ n3_ n4_ n5_ n6_;clear hb hbox hg;have hnb7:=NB101_102.out;have hnc7:=NB102_101.out;have hcz8_0 : w6.cell? ⟨gb101,0,none⟩ = some (.int .u64 a0_0):=(blk_cell BK101.out 0).trans rfl;have hcz8_1 : w6.cell? ⟨gb101,1,none⟩ = some (.string a0_1):=(blk_cell BK101.out 1).trans rfl;have hcz8_2 : w6.cell? ⟨gb101,2,none⟩ = some (.bool a0_2):=(blk_cell BK101.out 2).trans rfl;have hcz8_3 : w6.cell? ⟨gb101,3,none⟩ = some (.int .i64 a0_3):=(blk_cell BK101.out 3).trans rfl;have hfz8_0:=blk_frozen BK101.out 0;have hfz8_1:=blk_frozen BK101.out 1;have hfz8_2:=blk_frozen BK101.out 2;have hfz8_3:=blk_frozen BK101.out 3;have hcz9_0 : w6.cell? ⟨gb102,0,none⟩ = some (.int .u64 0):=(blk_cell BK102.out 0).trans rfl;have hcz9_1 : w6.cell? ⟨gb102,1,none⟩ = some (.string (⟨#[]⟩ : ByteArray)):=(blk_cell BK102.out 1).trans rfl;have hcz9_2 : w6.cell? ⟨gb102,2,none⟩ = some (.bool false):=(blk_cell BK102.out 2).trans rfl;have hcz9_3 : w6.cell? ⟨gb102,3,none⟩ = some (.int .i64 0):=(blk_cell BK102.out 3).trans rfl;have hfz9_0:=blk_frozen BK102.out 0;have hfz9_1:=blk_frozen BK102.out 1;have hfz9_2:=blk_frozen BK102.out 2;have hfz9_3:=blk_frozen BK102.out 3))
    refine bodyPost_ret (results_cell_row rfl _ _ gb102 47 #[.int .u64 a0_0,.string (a0_1.extract 0 2001),.bool a0_2,.int .i64 a0_3] (0,0) _ rfl (by (with_reducible repeat (first | refine blk_drewN ?_ _ | refine blk_drew ?_ | refine blk_alloc ?_ _));refine blk_put (cs:=#[.int .u64 a0_0,.string (a0_1.extract 0 2001),.bool a0_2,.int .i64 0]) ?_ 3 _ rfl;(with_reducible repeat (first | refine blk_drewN ?_ _ | refine blk_drew ?_ | refine blk_alloc ?_ _));refine blk_put (cs:=#[.int .u64 a0_0,.string (a0_1.extract 0 2001),.bool false,.int .i64 0]) ?_ 2 _ rfl;(with_reducible repeat (first | refine blk_drewN ?_ _ | refine blk_drew ?_ | refine blk_alloc ?_ _));refine blk_put (cs:=#[.int .u64 a0_0,.string (⟨#[]⟩ : ByteArray),.bool false,.int .i64 0]) ?_ 1 _ rfl;(with_reducible repeat (first | refine blk_drewN ?_ _ | refine blk_drew ?_ | refine blk_alloc ?_ _));refine blk_put (cs:=#[.int .u64 0,.string (⟨#[]⟩ : ByteArray),.bool false,.int .i64 0]) ?_ 0 _ rfl;(with_reducible repeat (first | refine blk_drewN ?_ _ | refine blk_drew ?_ | refine blk_alloc ?_ _));refine blk_far ?_ NB102_101.out _;(with_reducible repeat (first | refine blk_drewN ?_ _ | refine blk_drew ?_ | refine blk_alloc ?_ _));exact BK102.out) Tryz.underlying47 rfl (by kernel_rfl)) rfl ?_
    exact ⟨by first | rfl | (simp [errW_none,errW_some] <;> rfl) | (simp [*,errW_none,errW_some] <;> rfl),by repeat (first | (with_reducible first | exact HB.out | apply below_alloc | apply pw_below_drewN | apply below_drew1 | refine below_set ?_ GE101.out | refine below_set ?_ GE102.out) | exact HB.out)⟩
   ·rw [if_neg c4] at H
    exact absurd H (by simp)
  ·rw [if_neg c3] at H
   exact absurd H (by simp)
 ·rw [if_neg c2] at H
  have c2b0 : decide (2001 < (a0_1.size : Int)) = false:=decide_eq_false c2
  have c2b1 : decide (2001 < a0_1.size) = false:=decide_eq_false (by omega)
  clear c2
  simp only [Option.some.injEq,Prod.mk.injEq] at H
  obtain ⟨rfl,rfl,rfl,rfl⟩:=H
  go_enter Tryz.func28,Tryz.ntmps28
  go_wp2_with (first | ((with_reducible refine gate_dst (N:=1) rfl ?_);refine zbx 1 #[.int .u64 a0_0,.string a0_1,.bool a0_2,.int .i64 a0_3] 47 ?_;intro gb101 hg w10 hbox hb;have n0_:=Aside0.mk (below_step zbe hb);have n1_:=Aside0.mk (hbox);have n2_:=Aside0.mk ((by rw [hg];exact (below_size zbe) : w.heap.size ≤ gb101));have n3_:=Aside0.mk ((by rw [hg];exact (below_size zbe) : w.heap.size ≤ gb101));clear HB;have HB:=n0_;have BK101:=n1_;have GW101:=n2_;have GE101:=n3_;clear n0_ n1_ n2_ n3_;clear hb hbox hg) | ((with_reducible refine gate_dst (N:=2) rfl ?_);refine zbx 2 #[.int .u64 0,.string (⟨#[]⟩ : ByteArray),.bool false,.int .i64 0] 47 ?_;intro gb102 hg w11 hbox hb;have n0_:=Aside0.mk (blk_below (g:=gb101) (o:=.cells #[.int .u64 a0_0,.string a0_1,.bool a0_2,.int .i64 a0_3] 47 (0,0)) zbk hb);have n1_:=Aside0.mk (below_step zbe hb);have n2_:=Aside0.mk (hbox);have n3_:=Aside0.mk ((by rw [hg];exact (below_size zbe) : w.heap.size ≤ gb102));have n4_:=Aside0.mk ((by rw [hg];exact (below_size zbe) : w.heap.size ≤ gb102));have n5_:=Aside0.mk ((by rw [hg];exact Nat.ne_of_lt (blk_lt (g:=gb101) (o:=.cells #[.int .u64 a0_0,.string a0_1,.bool a0_2,.int .i64 a0_3] 47 (0,0)) zbk) : gb101 ≠ gb102));have n6_:=Aside0.mk ((by rw [hg];exact Nat.ne_of_gt (blk_lt (g:=gb101) (o:=.cells #[.int .u64 a0_0,.string a0_1,.bool a0_2,.int .i64 a0_3] 47 (0,0)) zbk) : gb102 ≠ gb101));clear BK101;clear HB;have BK101:=n0_;have HB:=n1_;have BK102:=n2_;have GW102:=n3_;have GE102:=n4_;have NB101_102:=n5_;have NB102_101:=n6_;clear n0_ n1_ n2_ n3_ n4_ n5_ n6_;clear hb hbox hg;have hnb12:=NB101_102.out;have hnc12:=NB102_101.out;have hcz13_0 : w11.cell? ⟨gb101,0,none⟩ = some (.int .u64 a0_0):=(blk_cell BK101.out 0).trans rfl;have hcz13_1 : w11.cell? ⟨gb101,1,none⟩ = some (.string a0_1):=(blk_cell BK101.out 1).trans rfl;have hcz13_2 : w11.cell? ⟨gb101,2,none⟩ = some (.bool a0_2):=(blk_cell BK101.out 2).trans rfl;have hcz13_3 : w11.cell? ⟨gb101,3,none⟩ = some (.int .i64 a0_3):=(blk_cell BK101.out 3).trans rfl;have hfz13_0:=blk_frozen BK101.out 0;have hfz13_1:=blk_frozen BK101.out 1;have hfz13_2:=blk_frozen BK101.out 2;have hfz13_3:=blk_frozen BK101.out 3;have hcz14_0 : w11.cell? ⟨gb102,0,none⟩ = some (.int .u64 0):=(blk_cell BK102.out 0).trans rfl;have hcz14_1 : w11.cell? ⟨gb102,1,none⟩ = some (.string (⟨#[]⟩ : ByteArray)):=(blk_cell BK102.out 1).trans rfl;have hcz14_2 : w11.cell? ⟨gb102,2,none⟩ = some (.bool false):=(blk_cell BK102.out 2).trans rfl;have hcz14_3 : w11.cell? ⟨gb102,3,none⟩ = some (.int .i64 0):=(blk_cell BK102.out 3).trans rfl;have hfz14_0:=blk_frozen BK102.out 0;have hfz14_1:=blk_frozen BK102.out 1;have hfz14_2:=blk_frozen BK102.out 2;have hfz14_3:=blk_frozen BK102.out 3))
  refine bodyPost_ret (results_cell_row rfl _ _ gb102 47 #[.int .u64 a0_0,.string a0_1,.bool a0_2,.int .i64 a0_3] (0,0) _ rfl (by (with_reducible repeat (first | refine blk_drewN ?_ _ | refine blk_drew ?_ | refine blk_alloc ?_ _));refine blk_put (cs:=#[.int .u64 a0_0,.string a0_1,.bool a0_2,.int .i64 0]) ?_ 3 _ rfl;(with_reducible repeat (first | refine blk_drewN ?_ _ | refine blk_drew ?_ | refine blk_alloc ?_ _));refine blk_put (cs:=#[.int .u64 a0_0,.string a0_1,.bool false,.int .i64 0]) ?_ 2 _ rfl;(with_reducible repeat (first | refine blk_drewN ?_ _ | refine blk_drew ?_ | refine blk_alloc ?_ _));refine blk_put (cs:=#[.int .u64 a0_0,.string (⟨#[]⟩ : ByteArray),.bool false,.int .i64 0]) ?_ 1 _ rfl;(with_reducible repeat (first | refine blk_drewN ?_ _ | refine blk_drew ?_ | refine blk_alloc ?_ _));refine blk_put (cs:=#[.int .u64 0,.string (⟨#[]⟩ : ByteArray),.bool false,.int .i64 0]) ?_ 0 _ rfl;(with_reducible repeat (first | refine blk_drewN ?_ _ | refine blk_drew ?_ | refine blk_alloc ?_ _));exact BK102.out) Tryz.underlying47 rfl (by kernel_rfl)) rfl ?_
  exact ⟨by first | rfl | (simp [errW_none,errW_some] <;> rfl) | (simp [*,errW_none,errW_some] <;> rfl),by repeat (first | (with_reducible first | exact HB.out | apply below_alloc | apply pw_below_drewN | apply below_drew1 | refine below_set ?_ GE101.out | refine below_set ?_ GE102.out) | exact HB.out)⟩

/-! ### cellarerlaw05_Few: function 75 -/
/-! ### cellarerlaw06_Few: function 30 -/
/-! ### cellarerlaw08_One: function 76 -/
def cellarerlaw08_One.f (a0_0 : Int) (a0_1 : ByteArray) : Option (Int × ByteArray):=if (a0_1.size : Int) > 2001 then (if 0 ≤ 2001 then (if 2001 ≤ (a0_1.size : Int) then (some (a0_0,a0_1.extract 0 2001)) else (none)) else (none)) else (some (a0_0,a0_1))
set_option maxHeartbeats 8000000 in
set_option maxRecDepth 100000 in
theorem cellarerlaw08_One.calls (a0_0 : Int) (a0_1 : ByteArray) (r1 : Int) (r2 : ByteArray) (w : World) (h : cellarerlaw08_One.f a0_0 a0_1 = some (r1,r2)) :
  Calls Tryz.prog 76 #[.agg #[.int .i64 a0_0,.string a0_1]] w fun e w'=>e = .returned (.agg #[.int .i64 r1,.string r2]) ∧ Below w.heap.size w w':=by
 have hu40:=Tryz.underlying40
 have HB:=Aside0.mk (Below.refl w.heap.size w)
 have H : (if (a0_1.size : Int) > 2001 then (if 0 ≤ 2001 then (if 2001 ≤ (a0_1.size : Int) then (some (a0_0,a0_1.extract 0 2001)) else (none)) else (none)) else (some (a0_0,a0_1))) = some (r1,r2):=h
 clear h
 by_cases c2 : (a0_1.size : Int) > 2001
 ·rw [if_pos c2] at H
  have c2b0 : decide (2001 < (a0_1.size : Int)) = true:=decide_eq_true c2
  have c2b1 : decide (2001 < a0_1.size) = true:=decide_eq_true (by omega)
  clear c2
  by_cases c3 : 0 ≤ 2001
  ·rw [if_pos c3] at H
   have c3b0:=eq_true c3
   have c3b1 : decide (0 ≤ 2001) = true:=decide_eq_true c3
   clear c3
   by_cases c4 : 2001 ≤ (a0_1.size : Int)
   ·rw [if_pos c4] at H
    have c4b0:=eq_true c4
    have c4b1 : decide (2001 ≤ (a0_1.size : Int)) = true:=decide_eq_true c4
    clear c4
    simp only [Option.some.injEq,Prod.mk.injEq] at H
    obtain ⟨rfl,rfl⟩:=H
    go_enter Tryz.func76,Tryz.ntmps76
    go_wp2_with (first | ((with_reducible refine gate_dst (N:=1) rfl ?_);refine zbx 1 #[.int .i64 a0_0,.string a0_1] 40 ?_;intro gb120 hg w5 hbox hb;have n0_:=Aside0.mk (below_step zbe hb);have n1_:=Aside0.mk (hbox);have n2_:=Aside0.mk ((by rw [hg];exact (below_size zbe) : w.heap.size ≤ gb120));have n3_:=Aside0.mk ((by rw [hg];exact (below_size zbe) : w.heap.size ≤ gb120));clear HB;have HB:=n0_;have BK120:=n1_;have GW120:=n2_;have GE120:=n3_;clear n0_ n1_ n2_ n3_;clear hb hbox hg) | ((with_reducible refine gate_dst (N:=2) rfl ?_);refine zbx 2 #[.int .i64 0,.string (⟨#[]⟩ : ByteArray)] 40 ?_;intro gb121 hg w6 hbox hb;have n0_:=Aside0.mk (blk_below (g:=gb120) (o:=.cells #[.int .i64 a0_0,.string a0_1] 40 (0,0)) zbk hb);have n1_:=Aside0.mk (below_step zbe hb);have n2_:=Aside0.mk (hbox);have n3_:=Aside0.mk ((by rw [hg];exact (below_size zbe) : w.heap.size ≤ gb121));have n4_:=Aside0.mk ((by rw [hg];exact (below_size zbe) : w.heap.size ≤ gb121));have n5_:=Aside0.mk ((by rw [hg];exact Nat.ne_of_lt (blk_lt (g:=gb120) (o:=.cells #[.int .i64 a0_0,.string a0_1] 40 (0,0)) zbk) : gb120 ≠ gb121));have n6_:=Aside0.mk ((by rw [hg];exact Nat.ne_of_gt (blk_lt (g:=gb120) (o:=.cells #[.int .i64 a0_0,.string a0_1] 40 (0,0)) zbk) : gb121 ≠ gb120));clear BK120;clear HB;have BK120:=n0_;have HB:=n1_;have BK121:=n2_;have GW121:=n3_;have GE121:=n4_;have NB120_121:=n5_;have NB121_120:=n6_;clear n0_ n1_ n2_ n3_ n4_ n5_ n6_;clear hb hbox hg;have hnb7:=NB120_121.out;have hnc7:=NB121_120.out;have hcz8_0 : w6.cell? ⟨gb120,0,none⟩ = some (.int .i64 a0_0):=(blk_cell BK120.out 0).trans rfl;have hcz8_1 : w6.cell? ⟨gb120,1,none⟩ = some (.string a0_1):=(blk_cell BK120.out 1).trans rfl;have hfz8_0:=blk_frozen BK120.out 0;have hfz8_1:=blk_frozen BK120.out 1;have hcz9_0 : w6.cell? ⟨gb121,0,none⟩ = some (.int .i64 0):=(blk_cell BK121.out 0).trans rfl;have hcz9_1 : w6.cell? ⟨gb121,1,none⟩ = some (.string (⟨#[]⟩ : ByteArray)):=(blk_cell BK121.out 1).trans rfl;have hfz9_0:=blk_frozen BK121.out 0;have hfz9_1:=blk_frozen BK121.out 1))
    refine bodyPost_ret (results_cell_row rfl _ _ gb121 40 #[.int .i64 a0_0,.string (a0_1.extract 0 2001)] (0,0) _ rfl (by (with_reducible repeat (first | refine blk_drewN ?_ _ | refine blk_drew ?_ | refine blk_alloc ?_ _));refine blk_put (cs:=#[.int .i64 a0_0,.string (⟨#[]⟩ : ByteArray)]) ?_ 1 _ rfl;(with_reducible repeat (first | refine blk_drewN ?_ _ | refine blk_drew ?_ | refine blk_alloc ?_ _));refine blk_put (cs:=#[.int .i64 0,.string (⟨#[]⟩ : ByteArray)]) ?_ 0 _ rfl;(with_reducible repeat (first | refine blk_drewN ?_ _ | refine blk_drew ?_ | refine blk_alloc ?_ _));refine blk_far ?_ NB121_120.out _;(with_reducible repeat (first | refine blk_drewN ?_ _ | refine blk_drew ?_ | refine blk_alloc ?_ _));exact BK121.out) Tryz.underlying40 rfl (by kernel_rfl)) rfl ?_
    exact ⟨by first | rfl | (simp [errW_none,errW_some] <;> rfl) | (simp [*,errW_none,errW_some] <;> rfl),by repeat (first | (with_reducible first | exact HB.out | apply below_alloc | apply pw_below_drewN | apply below_drew1 | refine below_set ?_ GE120.out | refine below_set ?_ GE121.out) | exact HB.out)⟩
   ·rw [if_neg c4] at H
    exact absurd H (by simp)
  ·rw [if_neg c3] at H
   exact absurd H (by simp)
 ·rw [if_neg c2] at H
  have c2b0 : decide (2001 < (a0_1.size : Int)) = false:=decide_eq_false c2
  have c2b1 : decide (2001 < a0_1.size) = false:=decide_eq_false (by omega)
  clear c2
  simp only [Option.some.injEq,Prod.mk.injEq] at H
  obtain ⟨rfl,rfl⟩:=H
  go_enter Tryz.func76,Tryz.ntmps76
  go_wp2_with (first | ((with_reducible refine gate_dst (N:=1) rfl ?_);refine zbx 1 #[.int .i64 a0_0,.string a0_1] 40 ?_;intro gb120 hg w10 hbox hb;have n0_:=Aside0.mk (below_step zbe hb);have n1_:=Aside0.mk (hbox);have n2_:=Aside0.mk ((by rw [hg];exact (below_size zbe) : w.heap.size ≤ gb120));have n3_:=Aside0.mk ((by rw [hg];exact (below_size zbe) : w.heap.size ≤ gb120));clear HB;have HB:=n0_;have BK120:=n1_;have GW120:=n2_;have GE120:=n3_;clear n0_ n1_ n2_ n3_;clear hb hbox hg) | ((with_reducible refine gate_dst (N:=2) rfl ?_);refine zbx 2 #[.int .i64 0,.string (⟨#[]⟩ : ByteArray)] 40 ?_;intro gb121 hg w11 hbox hb;have n0_:=Aside0.mk (blk_below (g:=gb120) (o:=.cells #[.int .i64 a0_0,.string a0_1] 40 (0,0)) zbk hb);have n1_:=Aside0.mk (below_step zbe hb);have n2_:=Aside0.mk (hbox);have n3_:=Aside0.mk ((by rw [hg];exact (below_size zbe) : w.heap.size ≤ gb121));have n4_:=Aside0.mk ((by rw [hg];exact (below_size zbe) : w.heap.size ≤ gb121));have n5_:=Aside0.mk ((by rw [hg];exact Nat.ne_of_lt (blk_lt (g:=gb120) (o:=.cells #[.int .i64 a0_0,.string a0_1] 40 (0,0)) zbk) : gb120 ≠ gb121));have n6_:=Aside0.mk ((by rw [hg];exact Nat.ne_of_gt (blk_lt (g:=gb120) (o:=.cells #[.int .i64 a0_0,.string a0_1] 40 (0,0)) zbk) : gb121 ≠ gb120));clear BK120;clear HB;have BK120:=n0_;have HB:=n1_;have BK121:=n2_;have GW121:=n3_;have GE121:=n4_;have NB120_121:=n5_;have NB121_120:=n6_;clear n0_ n1_ n2_ n3_ n4_ n5_ n6_;clear hb hbox hg;have hnb12:=NB120_121.out;have hnc12:=NB121_120.out;have hcz13_0 : w11.cell? ⟨gb120,0,none⟩ = some (.int .i64 a0_0):=(blk_cell BK120.out 0).trans rfl;have hcz13_1 : w11.cell? ⟨gb120,1,none⟩ = some (.string a0_1):=(blk_cell BK120.out 1).trans rfl;have hfz13_0:=blk_frozen BK120.out 0;have hfz13_1:=blk_frozen BK120.out 1;have hcz14_0 : w11.cell? ⟨gb121,0,none⟩ = some (.int .i64 0):=(blk_cell BK121.out 0).trans rfl;have hcz14_1 : w11.cell? ⟨gb121,1,none⟩ = some (.string (⟨#[]⟩ : ByteArray)):=(blk_cell BK121.out 1).trans rfl;have hfz14_0:=blk_frozen BK121.out 0;have hfz14_1:=blk_frozen BK121.out 1))
  refine bodyPost_ret (results_cell_row rfl _ _ gb121 40 #[.int .i64 a0_0,.string a0_1] (0,0) _ rfl (by (with_reducible repeat (first | refine blk_drewN ?_ _ | refine blk_drew ?_ | refine blk_alloc ?_ _));refine blk_put (cs:=#[.int .i64 a0_0,.string (⟨#[]⟩ : ByteArray)]) ?_ 1 _ rfl;(with_reducible repeat (first | refine blk_drewN ?_ _ | refine blk_drew ?_ | refine blk_alloc ?_ _));refine blk_put (cs:=#[.int .i64 0,.string (⟨#[]⟩ : ByteArray)]) ?_ 0 _ rfl;(with_reducible repeat (first | refine blk_drewN ?_ _ | refine blk_drew ?_ | refine blk_alloc ?_ _));exact BK121.out) Tryz.underlying40 rfl (by kernel_rfl)) rfl ?_
  exact ⟨by first | rfl | (simp [errW_none,errW_some] <;> rfl) | (simp [*,errW_none,errW_some] <;> rfl),by repeat (first | (with_reducible first | exact HB.out | apply below_alloc | apply pw_below_drewN | apply below_drew1 | refine below_set ?_ GE120.out | refine below_set ?_ GE121.out) | exact HB.out)⟩

end Go.Proofs.YtekooapbdgippaaGreatDoor.Q
namespace Go.Proofs.YtekooapbdgippaaGreatDoor.Q
open Go.RowKit Go.Proofs.YtekooapbdgippaaGreatDoorW.PrintWords Go.Proofs.YtekooapbdgippaaGreatDoorW.PrintLast Go.Proofs.YtekooapbdgippaaGreatDoorW.PrintMore
attribute [local go_sem] max2_int min2_int max_two min_two max_three min_three max_four min_four
set_option linter.unusedVariables false
set_option linter.unusedSimpArgs false

/-! ### cellarerlaw08_Few: function 31 -/
end Go.Proofs.YtekooapbdgippaaGreatDoor.Q
namespace Go.Proofs.YtekooapbdgippaaGreatDoor.Q
open Go.RowKit Go.Proofs.YtekooapbdgippaaGreatDoorW.PrintWords Go.Proofs.YtekooapbdgippaaGreatDoorW.PrintLast Go.Proofs.YtekooapbdgippaaGreatDoorW.PrintMore
attribute [local go_sem] max2_int min2_int max_two min_two max_three min_three max_four min_four
set_option linter.unusedVariables false
set_option linter.unusedSimpArgs false

/-! ### cellarerlaw09_Few: function 10 -/
/-! ### name_word: function 124 -/
def name_word.f (a0 : Int) : Option (Bool):=if a0 ≥ 97 then (if a0 ≤ 122 then (some true) else (if a0 ≥ 48 then (if a0 ≤ 57 then (some true) else (some (a0 == 45))) else (some (a0 == 45)))) else (if a0 ≥ 48 then (if a0 ≤ 57 then (some true) else (some (a0 == 45))) else (some (a0 == 45)))
set_option maxHeartbeats 8000000 in
set_option maxRecDepth 100000 in
theorem name_word.calls (a0 : Int) (r : Bool) (w : World) (h : name_word.f a0 = some r) :
  Calls Tryz.prog 124 #[.int .u8 a0] w fun e w'=>e = .returned (.bool r) ∧ Drawn0 w w':=by
 have H : (if a0 ≥ 97 then (if a0 ≤ 122 then (some true) else (if a0 ≥ 48 then (if a0 ≤ 57 then (some true) else (some (a0 == 45))) else (some (a0 == 45)))) else (if a0 ≥ 48 then (if a0 ≤ 57 then (some true) else (some (a0 == 45))) else (some (a0 == 45)))) = some r:=h
 clear h
 by_cases c2 : a0 ≥ 97
 ·rw [if_pos c2] at H
  have c2b0 : decide (97 ≤ a0) = true:=decide_eq_true c2
  clear c2
  by_cases c3 : a0 ≤ 122
  ·rw [if_pos c3] at H
   have c3b0 : decide (a0 ≤ 122) = true:=decide_eq_true c3
   clear c3
   obtain rfl:=Option.some.inj H
   go_enter Tryz.func124,Tryz.ntmps124
   go_wp2
   go_ret
   exact ⟨by first | rfl | (simp;done) | (simp [*];done),by repeat (first | exact Drawn0.refl _ | apply Drawn0.step)⟩
  ·rw [if_neg c3] at H
   have c3b0 : decide (a0 ≤ 122) = false:=decide_eq_false c3
   clear c3
   by_cases c4 : a0 ≥ 48
   ·rw [if_pos c4] at H
    have c4b0 : decide (48 ≤ a0) = true:=decide_eq_true c4
    clear c4
    by_cases c5 : a0 ≤ 57
    ·rw [if_pos c5] at H
     have c5b0 : decide (a0 ≤ 57) = true:=decide_eq_true c5
     clear c5
     obtain rfl:=Option.some.inj H
     go_enter Tryz.func124,Tryz.ntmps124
     go_wp2
     go_ret
     exact ⟨by first | rfl | (simp;done) | (simp [*];done),by repeat (first | exact Drawn0.refl _ | apply Drawn0.step)⟩
    ·rw [if_neg c5] at H
     have c5b0 : decide (a0 ≤ 57) = false:=decide_eq_false c5
     clear c5
     obtain rfl:=Option.some.inj H
     go_enter Tryz.func124,Tryz.ntmps124
     go_wp2
     go_ret
     exact ⟨by first | rfl | (simp;done) | (simp [*];done),by repeat (first | exact Drawn0.refl _ | apply Drawn0.step)⟩
   ·rw [if_neg c4] at H
    have c4b0 : decide (48 ≤ a0) = false:=decide_eq_false c4
    clear c4
    obtain rfl:=Option.some.inj H
    go_enter Tryz.func124,Tryz.ntmps124
    go_wp2
    go_ret
    exact ⟨by first | rfl | (simp;done) | (simp [*];done),by repeat (first | exact Drawn0.refl _ | apply Drawn0.step)⟩
 ·rw [if_neg c2] at H
  have c2b0 : decide (97 ≤ a0) = false:=decide_eq_false c2
  clear c2
  by_cases c6 : a0 ≥ 48
  ·rw [if_pos c6] at H
   have c6b0 : decide (48 ≤ a0) = true:=decide_eq_true c6
   clear c6
   by_cases c7 : a0 ≤ 57
   ·rw [if_pos c7] at H
    have c7b0 : decide (a0 ≤ 57) = true:=decide_eq_true c7
    clear c7
    obtain rfl:=Option.some.inj H
    go_enter Tryz.func124,Tryz.ntmps124
    go_wp2
    go_ret
    exact ⟨by first | rfl | (simp;done) | (simp [*];done),by repeat (first | exact Drawn0.refl _ | apply Drawn0.step)⟩
   ·rw [if_neg c7] at H
    have c7b0 : decide (a0 ≤ 57) = false:=decide_eq_false c7
    clear c7
    obtain rfl:=Option.some.inj H
    go_enter Tryz.func124,Tryz.ntmps124
    go_wp2
    go_ret
    exact ⟨by first | rfl | (simp;done) | (simp [*];done),by repeat (first | exact Drawn0.refl _ | apply Drawn0.step)⟩
  ·rw [if_neg c6] at H
   have c6b0 : decide (48 ≤ a0) = false:=decide_eq_false c6
   clear c6
   obtain rfl:=Option.some.inj H
   go_enter Tryz.func124,Tryz.ntmps124
   go_wp2
   go_ret
   exact ⟨by first | rfl | (simp;done) | (simp [*];done),by repeat (first | exact Drawn0.refl _ | apply Drawn0.step)⟩

-- NOT PRINTED: function 125 (name_kind_is)

-- NOT PRINTED: function 66 (name_Bucket)

/-! ### name_plain: function 131 -/
def name_plain.f (a0 : Int) : Option (Bool):=if a0 ≥ 32 then (some (decide (a0 ≤ 126))) else (some false)
set_option maxHeartbeats 8000000 in
set_option maxRecDepth 100000 in
theorem name_plain.calls (a0 : Int) (r : Bool) (w : World) (h : name_plain.f a0 = some r) :
  Calls Tryz.prog 131 #[.int .u8 a0] w fun e w'=>e = .returned (.bool r) ∧ Drawn0 w w':=by
 have H : (if a0 ≥ 32 then (some (decide (a0 ≤ 126))) else (some false)) = some r:=h
 clear h
 by_cases c2 : a0 ≥ 32
 ·rw [if_pos c2] at H
  have c2b0 : decide (32 ≤ a0) = true:=decide_eq_true c2
  clear c2
  obtain rfl:=Option.some.inj H
  go_enter Tryz.func131,Tryz.ntmps131
  go_wp2
  go_ret
  exact ⟨by first | rfl | (simp;done) | (simp [*];done),by repeat (first | exact Drawn0.refl _ | apply Drawn0.step)⟩
 ·rw [if_neg c2] at H
  have c2b0 : decide (32 ≤ a0) = false:=decide_eq_false c2
  clear c2
  obtain rfl:=Option.some.inj H
  go_enter Tryz.func131,Tryz.ntmps131
  go_wp2
  go_ret
  exact ⟨by first | rfl | (simp;done) | (simp [*];done),by repeat (first | exact Drawn0.refl _ | apply Drawn0.step)⟩

-- NOT PRINTED: function 77 (name_Key)

-- NOT PRINTED: function 128 (api_Version_128)

-- NOT PRINTED: function 71 (api_Version_71)

-- NOT PRINTED: function 109 (chain_Check)

-- NOT PRINTED: function 67 (index_Check)

/-! ### parts_numbered: function 78 -/
def parts_numbered.f (a0 : Int) : Option (Bool):=if a0 ≥ 1 then (some (decide (a0 ≤ 281474976710655))) else (some false)
set_option maxHeartbeats 8000000 in
set_option maxRecDepth 100000 in
theorem parts_numbered.calls (a0 : Int) (r : Bool) (w : World) (h : parts_numbered.f a0 = some r) :
  Calls Tryz.prog 78 #[.int .u64 a0] w fun e w'=>e = .returned (.bool r) ∧ Drawn0 w w':=by
 have H : (if a0 ≥ 1 then (some (decide (a0 ≤ 281474976710655))) else (some false)) = some r:=h
 clear h
 by_cases c2 : a0 ≥ 1
 ·rw [if_pos c2] at H
  have c2b0 : decide (1 ≤ a0) = true:=decide_eq_true c2
  clear c2
  obtain rfl:=Option.some.inj H
  go_enter Tryz.func78,Tryz.ntmps78
  go_wp2
  go_ret
  exact ⟨by first | rfl | (simp;done) | (simp [*];done),by repeat (first | exact Drawn0.refl _ | apply Drawn0.step)⟩
 ·rw [if_neg c2] at H
  have c2b0 : decide (1 ≤ a0) = false:=decide_eq_false c2
  clear c2
  obtain rfl:=Option.some.inj H
  go_enter Tryz.func78,Tryz.ntmps78
  go_wp2
  go_ret
  exact ⟨by first | rfl | (simp;done) | (simp [*];done),by repeat (first | exact Drawn0.refl _ | apply Drawn0.step)⟩

/-! ### parts_may: function 88 -/
def parts_may.f (a0_0 : Int) (a0_1 : ByteArray) : Option (Bool):=if a0_0 ≥ 1 then (if a0_0 ≤ 1000 then (some (decide ((a0_1.size : Int) ≤ 2000))) else (some false)) else (some false)
set_option maxHeartbeats 8000000 in
set_option maxRecDepth 100000 in
theorem parts_may.calls (a0_0 : Int) (a0_1 : ByteArray) (r : Bool) (w : World) (h : parts_may.f a0_0 a0_1 = some r) :
  Calls Tryz.prog 88 #[.agg #[.int .i64 a0_0,.string a0_1]] w fun e w'=>e = .returned (.bool r) ∧ Below w.heap.size w w':=by
 have hu40:=Tryz.underlying40
 have HB:=Aside0.mk (Below.refl w.heap.size w)
 have H : (if a0_0 ≥ 1 then (if a0_0 ≤ 1000 then (some (decide ((a0_1.size : Int) ≤ 2000))) else (some false)) else (some false)) = some r:=h
 clear h
 by_cases c2 : a0_0 ≥ 1
 ·rw [if_pos c2] at H
  have c2b0 : decide (1 ≤ a0_0) = true:=decide_eq_true c2
  clear c2
  by_cases c3 : a0_0 ≤ 1000
  ·rw [if_pos c3] at H
   have c3b0 : decide (a0_0 ≤ 1000) = true:=decide_eq_true c3
   clear c3
   obtain rfl:=Option.some.inj H
   go_enter Tryz.func88,Tryz.ntmps88
   go_wp2_with (first | ((with_reducible refine gate_dst (N:=1) rfl ?_);(try (refine gate_guard (by rfl) ?_;dsimp only));refine zbx 1 #[.int .i64 a0_0,.string a0_1] 40 ?_;intro gb151 hg w4 hbox hb;have n0_:=Aside0.mk (below_step zbe hb);have n1_:=Aside0.mk (hbox);have n2_:=Aside0.mk ((by rw [hg];exact (below_size zbe) : w.heap.size ≤ gb151));have n3_:=Aside0.mk ((by rw [hg];exact (below_size zbe) : w.heap.size ≤ gb151));clear HB;have HB:=n0_;have BK151:=n1_;have GW151:=n2_;have GE151:=n3_;clear n0_ n1_ n2_ n3_;clear hb hbox hg;have hcz5_0 : w4.cell? ⟨gb151,0,none⟩ = some (.int .i64 a0_0):=(blk_cell BK151.out 0).trans rfl;have hcz5_1 : w4.cell? ⟨gb151,1,none⟩ = some (.string a0_1):=(blk_cell BK151.out 1).trans rfl;have hfz5_0:=blk_frozen BK151.out 0;have hfz5_1:=blk_frozen BK151.out 1))
   go_ret
   exact ⟨by first | rfl | (simp [errW_none,errW_some] <;> rfl) | (simp [*,errW_none,errW_some] <;> rfl),by repeat (first | (with_reducible first | exact HB.out | apply below_alloc | apply pw_below_drewN | apply below_drew1 | refine below_set ?_ GE151.out) | exact HB.out)⟩
  ·rw [if_neg c3] at H
   have c3b0 : decide (a0_0 ≤ 1000) = false:=decide_eq_false c3
   clear c3
   obtain rfl:=Option.some.inj H
   go_enter Tryz.func88,Tryz.ntmps88
   go_wp2_with (first | ((with_reducible refine gate_dst (N:=1) rfl ?_);(try (refine gate_guard (by rfl) ?_;dsimp only));refine zbx 1 #[.int .i64 a0_0,.string a0_1] 40 ?_;intro gb151 hg w6 hbox hb;have n0_:=Aside0.mk (below_step zbe hb);have n1_:=Aside0.mk (hbox);have n2_:=Aside0.mk ((by rw [hg];exact (below_size zbe) : w.heap.size ≤ gb151));have n3_:=Aside0.mk ((by rw [hg];exact (below_size zbe) : w.heap.size ≤ gb151));clear HB;have HB:=n0_;have BK151:=n1_;have GW151:=n2_;have GE151:=n3_;clear n0_ n1_ n2_ n3_;clear hb hbox hg;have hcz7_0 : w6.cell? ⟨gb151,0,none⟩ = some (.int .i64 a0_0):=(blk_cell BK151.out 0).trans rfl;have hcz7_1 : w6.cell? ⟨gb151,1,none⟩ = some (.string a0_1):=(blk_cell BK151.out 1).trans rfl;have hfz7_0:=blk_frozen BK151.out 0;have hfz7_1:=blk_frozen BK151.out 1))
   go_ret
   exact ⟨by first | rfl | (simp [errW_none,errW_some] <;> rfl) | (simp [*,errW_none,errW_some] <;> rfl),by repeat (first | (with_reducible first | exact HB.out | apply below_alloc | apply pw_below_drewN | apply below_drew1 | refine below_set ?_ GE151.out) | exact HB.out)⟩
 ·rw [if_neg c2] at H
  have c2b0 : decide (1 ≤ a0_0) = false:=decide_eq_false c2
  clear c2
  obtain rfl:=Option.some.inj H
  go_enter Tryz.func88,Tryz.ntmps88
  go_wp2_with (first | ((with_reducible refine gate_dst (N:=1) rfl ?_);(try (refine gate_guard (by rfl) ?_;dsimp only));refine zbx 1 #[.int .i64 a0_0,.string a0_1] 40 ?_;intro gb151 hg w8 hbox hb;have n0_:=Aside0.mk (below_step zbe hb);have n1_:=Aside0.mk (hbox);have n2_:=Aside0.mk ((by rw [hg];exact (below_size zbe) : w.heap.size ≤ gb151));have n3_:=Aside0.mk ((by rw [hg];exact (below_size zbe) : w.heap.size ≤ gb151));clear HB;have HB:=n0_;have BK151:=n1_;have GW151:=n2_;have GE151:=n3_;clear n0_ n1_ n2_ n3_;clear hb hbox hg;have hcz9_0 : w8.cell? ⟨gb151,0,none⟩ = some (.int .i64 a0_0):=(blk_cell BK151.out 0).trans rfl;have hcz9_1 : w8.cell? ⟨gb151,1,none⟩ = some (.string a0_1):=(blk_cell BK151.out 1).trans rfl;have hfz9_0:=blk_frozen BK151.out 0;have hfz9_1:=blk_frozen BK151.out 1))
  go_ret
  exact ⟨by first | rfl | (simp [errW_none,errW_some] <;> rfl) | (simp [*,errW_none,errW_some] <;> rfl),by repeat (first | (with_reducible first | exact HB.out | apply below_alloc | apply pw_below_drewN | apply below_drew1 | refine below_set ?_ GE151.out) | exact HB.out)⟩

-- NOT PRINTED: function 94 (parts_upload_fine)

-- NOT PRINTED: function 68 (parts_Check)

/-! ### index_Count: function 126 -/
mutual
def index_Count.l0 : Nat → Int → Int → List (S56) → Int → Int → Option (Int × Int)
 | 0,_,_,_,_,_=>none
 | k + 1,x4,x5,x10,x11,x12=>if x12 < x11 then (if 0 ≤ x12 then (if x12 < (x10.length : Int) then (index_Count.l1 k (wrap64 (x4 + (((rd_T56 x10 x12).f1).length : Int))) x5 x10 x11 x12 ((rd_T56 x10 x12).f1) (((rd_T56 x10 x12).f1).length : Int) 0) else (none)) else (none)) else (some (x4,x5))
def index_Count.l1 : Nat → Int → Int → List (S56) → Int → Int → List (S47) → Int → Int → Option (Int × Int)
 | 0,_,_,_,_,_,_,_,_=>none
 | k + 1,x4,x5,x10,x11,x12,x22,x23,x24=>if x24 < x23 then (if 0 ≤ x24 then (if x24 < (x22.length : Int) then (index_Count.l1 k x4 (wrap64 (x5 + (((rd_T47 x22 x24).f1).size : Int))) x10 x11 x12 x22 x23 (wrap64 (x24 + 1))) else (none)) else (none)) else (index_Count.l0 k x4 x5 x10 x11 (wrap64 (x12 + 1)))
end
def index_Count.f (k : Nat) (l0 : List (S56)) : Option (Int × Int):=index_Count.l0 k 0 0 l0 (l0.length : Int) 0
theorem index_Count.mono_l : ∀ k,(∀ y0 y1 y2 y3 y4,LeO (index_Count.l0 k y0 y1 y2 y3 y4) (index_Count.l0 (k + 1) y0 y1 y2 y3 y4)) ∧ (∀ y0 y1 y2 y3 y4 y5 y6 y7,LeO (index_Count.l1 k y0 y1 y2 y3 y4 y5 y6 y7) (index_Count.l1 (k + 1) y0 y1 y2 y3 y4 y5 y6 y7))
 | 0=>⟨fun _ _ _ _ _ r h=>by simp [index_Count.l0] at h,fun _ _ _ _ _ _ _ _ r h=>by simp [index_Count.l1] at h⟩
 | k + 1=>by
  obtain ⟨ih0,ih1⟩:=index_Count.mono_l k
  refine ⟨?_,?_⟩
  ·intro y0 y1 y2 y3 y4
   unfold index_Count.l0
   repeat' first
   | (with_reducible exact ih0 _ _ _ _ _)
   | (with_reducible exact ih1 _ _ _ _ _ _ _ _)
   | (with_reducible exact LeO.refl _)
   | (with_reducible exact LeO.none _)
   | (with_reducible refine LeO.ite ?_ ?_)
   | (with_reducible refine LeO.bind ?_ (fun _=>?_))
   | exact ih0 _ _ _ _ _
   | exact ih1 _ _ _ _ _ _ _ _
   | exact LeO.none _
   | refine LeO.ite ?_ ?_
   | refine LeO.bind ?_ (fun _=>?_)
  ·intro y0 y1 y2 y3 y4 y5 y6 y7
   unfold index_Count.l1
   repeat' first
   | (with_reducible exact ih0 _ _ _ _ _)
   | (with_reducible exact ih1 _ _ _ _ _ _ _ _)
   | (with_reducible exact LeO.refl _)
   | (with_reducible exact LeO.none _)
   | (with_reducible refine LeO.ite ?_ ?_)
   | (with_reducible refine LeO.bind ?_ (fun _=>?_))
   | exact ih0 _ _ _ _ _
   | exact ih1 _ _ _ _ _ _ _ _
   | exact LeO.none _
   | refine LeO.ite ?_ ?_
   | refine LeO.bind ?_ (fun _=>?_)
theorem index_Count.mono : ∀ a0 k,LeO (index_Count.f k a0) (index_Count.f (k + 1) a0):=by
 intro a0 k
 obtain ⟨ih0,ih1⟩:=index_Count.mono_l k
 unfold index_Count.f
 repeat' first
   | (with_reducible exact ih0 _ _ _ _ _)
   | (with_reducible exact ih1 _ _ _ _ _ _ _ _)
   | (with_reducible exact LeO.refl _)
   | (with_reducible exact LeO.none _)
   | (with_reducible refine LeO.ite ?_ ?_)
   | (with_reducible refine LeO.bind ?_ (fun _=>?_))
   | exact ih0 _ _ _ _ _
   | exact ih1 _ _ _ _ _ _ _ _
   | exact LeO.none _
   | refine LeO.ite ?_ ?_
   | refine LeO.bind ?_ (fun _=>?_)
set_option maxHeartbeats 8000000 in
set_option maxRecDepth 100000 in
theorem index_Count.calls (k : Nat) (A0 : Option Addr) (c0 : Nat) (l0 : List (S56)) (r1 : Int) (r2 : Int) (w : World) (hr0 : Kd.C k56 w A0 l0.length l0) (hc0 : l0.length ≤ c0) (h : index_Count.f k l0 = some (r1,r2)) :
  Calls Tryz.prog 126 #[.slice A0 l0.length c0] w fun e w'=>e = .returned (.tuple #[.int .i64 r1,.int .i64 r2]) ∧ Below w.heap.size w w':=by
 have hu56:=Tryz.underlying56
 have hu47:=Tryz.underlying47
 have HR0:=Aside0.mk hr0
 have HC0:=Aside0.mk hc0
 clear hr0 hc0
 have HB:=Aside0.mk (Below.refl w.heap.size w)
 have H : (index_Count.l0 k 0 0 l0 (l0.length : Int) 0) = some (r1,r2):=h
 clear h
 have H':=Aside0.mk H
 clear H
 go_enter Tryz.func126,Tryz.ntmps126
 go_wp2
 go_loopg [4,5,12] k (fun kq v4 v5 v12 w'=>∃ (x4_1 : Int) (x5_1 : Int) (x12_1 : Int),v4 = .int .i64 x4_1 ∧ v5 = .int .i64 x5_1 ∧ v12 = .int .i64 x12_1 ∧ Aside0 (index_Count.l0 kq x4_1 x5_1 l0 (l0.length : Int) x12_1 = some (r1,r2)) ∧ Aside0 (kq ≤ k) ∧ Aside0 (Below w.heap.size w w'))
 case atStart=>exact ⟨(0),(0),(0),(by first | rfl | (simp;done) | (simp [*];done)),(by first | rfl | (simp;done) | (simp [*];done)),(by first | rfl | (simp;done) | (simp [*];done)),H',⟨Nat.le_refl _⟩,⟨by repeat (first | (with_reducible first | exact HB.out | apply below_alloc | apply pw_below_drewN | apply below_drew1) | exact HB.out)⟩⟩
 case round =>
  clear H'
  try clear c1
  obtain ⟨x4_1,x5_1,x12_1,rfl,rfl,rfl,HA,HK1,HB⟩:=hrel
  cases gk with
  | zero=>exact absurd HA.out (by simp [index_Count.l0])
  | succ k1 =>
   have H:=HA.out
   clear HA
   simp only [index_Count.l0] at H
   by_cases c2 : x12_1 < (l0.length : Int)
   ·rw [if_pos c2] at H
    have c2b0 : decide (x12_1 < (l0.length : Int)) = true:=decide_eq_true c2
    clear c2
    by_cases c3 : 0 ≤ x12_1
    ·rw [if_pos c3] at H
     have c3b0 : decide (0 ≤ x12_1) = true:=decide_eq_true c3
     clear c3
     by_cases c4 : x12_1 < (l0.length : Int)
     ·rw [if_pos c4] at H
      have c4b0 : decide (x12_1 < (l0.length : Int)) = true:=decide_eq_true c4
      clear c4
      have H':=Aside0.mk H
      clear H
      have p156 : 0 ≤ (x12_1 : Int):=of_decide_eq_true (by first | (with_reducible assumption) | assumption)
      have q156 : x12_1 < (l0.length : Int):=of_decide_eq_true (by first | (with_reducible assumption) | assumption)
      obtain ⟨ad156,A156_1,c156_1,e156,hx156_0,hx156_1,hl156_1,hi156_1⟩:=at_T56 HR0.out x12_1 p156 q156
      cases e156
      replace hx156_0:=zcl HB hx156_0
      replace hx156_1:=zcl HB hx156_1
      have HR156_1:=Aside0.mk hi156_1
      have HC156_1:=Aside0.mk hl156_1
      clear hi156_1 hl156_1
      replace p156:=eq_true p156
      replace q156:=eq_true q156
      go_wp2_with (first | ((with_reducible refine gate_dst (N:=7) rfl ?_);refine zbx 7 #[.string (⟨#[]⟩ : ByteArray),.slice none 0 0] 56 ?_;intro gb157 hg w5 hbox hb;have n0_:=Aside0.mk (below_step zbe hb);have n1_:=Aside0.mk (hbox);have n2_:=Aside0.mk ((by rw [hg];exact (below_size zbe) : w.heap.size ≤ gb157));have n3_:=Aside0.mk ((by rw [hg];exact (below_size zbe) : w.heap.size ≤ gb157));clear HB;have HB:=n0_;have BK157:=n1_;have GW157:=n2_;have GE157:=n3_;clear n0_ n1_ n2_ n3_;clear hb hbox hg;have hcz6_0 : w5.cell? ⟨gb157,0,none⟩ = some (.string (⟨#[]⟩ : ByteArray)):=(blk_cell BK157.out 0).trans rfl;have hcz6_1 : w5.cell? ⟨gb157,1,none⟩ = some (.slice none 0 0):=(blk_cell BK157.out 1).trans rfl;have hfz6_0:=blk_frozen BK157.out 0;have hfz6_1:=blk_frozen BK157.out 1))
      go_loopg [5,24] k1 (fun kq v5 v24 w'=>∃ (x5_2 : Int) (x24_2 : Int),v5 = .int .i64 x5_2 ∧ v24 = .int .i64 x24_2 ∧ Aside0 (index_Count.l1 kq (wrap64 (x4_1 + (((rd_T56 l0 x12_1).f1).length : Int))) x5_2 l0 (l0.length : Int) x12_1 ((rd_T56 l0 x12_1).f1) (((rd_T56 l0 x12_1).f1).length : Int) x24_2 = some (r1,r2)) ∧ Aside0 (kq ≤ k1) ∧ Aside0 (w'.heap[gb157]? = some (.cells #[.string ((rd_T56 l0 x12_1).f0),(.slice A156_1 ((rd_T56 l0 x12_1).f1).length c156_1)] 56 (0,0))) ∧ Aside0 (Below w.heap.size w w'))
      case atStart=>exact ⟨(x5_1),(0),(by first | rfl | (simp;done) | (simp [*];done)),(by first | rfl | (simp;done) | (simp [*];done)),H',⟨Nat.le_refl _⟩,⟨by (with_reducible repeat (first | refine blk_drewN ?_ _ | refine blk_drew ?_ | refine blk_alloc ?_ _));refine blk_put (cs:=#[.string ((rd_T56 l0 x12_1).f0),.slice none 0 0]) ?_ 1 _ rfl;(with_reducible repeat (first | refine blk_drewN ?_ _ | refine blk_drew ?_ | refine blk_alloc ?_ _));refine blk_put (cs:=#[.string (⟨#[]⟩ : ByteArray),.slice none 0 0]) ?_ 0 _ rfl;(with_reducible repeat (first | refine blk_drewN ?_ _ | refine blk_drew ?_ | refine blk_alloc ?_ _));exact BK157.out⟩,⟨by repeat (first | (with_reducible first | exact HB.out | apply below_alloc | apply pw_below_drewN | apply below_drew1 | refine below_set ?_ GE157.out) | exact HB.out)⟩⟩
      case round =>
       clear H'
       try clear c1
       try clear p1
       try clear q1
       try clear hx1
       try clear c2
       try clear c2b0
       try clear p2
       try clear c3
       try clear c3b0
       try clear c4
       try clear c4b0
       try clear p6
       try clear hcz6_0
       try clear hcz6_1
       try clear hfz6_0
       try clear hfz6_1
       try clear hx156_0
       try clear hx156_1
       try clear p156
       try clear q156
       obtain ⟨x5_2,x24_2,rfl,rfl,HA,HK2,BK157,HB⟩:=hrel
       cases gk with
       | zero=>exact absurd HA.out (by simp [index_Count.l1])
       | succ k2 =>
        have H:=HA.out
        clear HA
        simp only [index_Count.l1] at H
        by_cases c7 : x24_2 < (((rd_T56 l0 x12_1).f1).length : Int)
        ·rw [if_pos c7] at H
         have c7b0 : decide (x24_2 < (((rd_T56 l0 x12_1).f1).length : Int)) = true:=decide_eq_true c7
         clear c7
         by_cases c8 : 0 ≤ x24_2
         ·rw [if_pos c8] at H
          have c8b0 : decide (0 ≤ x24_2) = true:=decide_eq_true c8
          clear c8
          by_cases c9 : x24_2 < (((rd_T56 l0 x12_1).f1).length : Int)
          ·rw [if_pos c9] at H
           have c9b0 : decide (x24_2 < (((rd_T56 l0 x12_1).f1).length : Int)) = true:=decide_eq_true c9
           clear c9
           have H':=Aside0.mk H
           clear H
           have p158 : 0 ≤ (x24_2 : Int):=of_decide_eq_true (by first | (with_reducible assumption) | assumption)
           have q158 : x24_2 < (((rd_T56 l0 x12_1).f1).length : Int):=of_decide_eq_true (by first | (with_reducible assumption) | assumption)
           obtain ⟨ad158,e158,hx158_0,hx158_1,hx158_2,hx158_3⟩:=at_T47 HR156_1.out x24_2 p158 q158
           cases e158
           replace hx158_0:=zcl HB hx158_0
           replace hx158_1:=zcl HB hx158_1
           replace hx158_2:=zcl HB hx158_2
           replace hx158_3:=zcl HB hx158_3
           replace p158:=eq_true p158
           replace q158:=eq_true q158
           go_wp2_with (first | ((with_reducible refine gate_dst (N:=9) rfl ?_);refine zbx 9 #[.int .u64 0,.string (⟨#[]⟩ : ByteArray),.bool false,.int .i64 0] 47 ?_;intro gb159 hg w10 hbox hb;have n0_:=Aside0.mk (blk_below (g:=gb157) (o:=.cells #[.string ((rd_T56 l0 x12_1).f0),.slice (some ad158) ((rd_T56 l0 x12_1).f1).length c156_1] 56 (0,0)) zbk hb);have n1_:=Aside0.mk (below_step zbe hb);have n2_:=Aside0.mk (hbox);have n3_:=Aside0.mk ((by rw [hg];exact (below_size zbe) : w.heap.size ≤ gb159));have n4_:=Aside0.mk ((by rw [hg];exact (below_size zbe) : w.heap.size ≤ gb159));have n5_:=Aside0.mk ((by rw [hg];exact Nat.ne_of_lt (blk_lt (g:=gb157) (o:=.cells #[.string ((rd_T56 l0 x12_1).f0),.slice (some ad158) ((rd_T56 l0 x12_1).f1).length c156_1] 56 (0,0)) zbk) : gb157 ≠ gb159));have n6_:=Aside0.mk ((by rw [hg];exact Nat.ne_of_gt (blk_lt (g:=gb157) (o:=.cells #[.string ((rd_T56 l0 x12_1).f0),.slice (some ad158) ((rd_T56 l0 x12_1).f1).length c156_1] 56 (0,0)) zbk) : gb159 ≠ gb157));clear BK157;clear HB;have BK157:=n0_;have HB:=n1_;have BK159:=n2_;have GW159:=n3_;have GE159:=n4_;have NB157_159:=n5_;have NB159_157:=n6_;clear n0_ n1_ n2_ n3_ n4_ n5_ n6_;clear hb hbox hg;have hnb11:=NB159_157.out;have hnc11:=NB157_159.out;have hcz12_0 : w10.cell? ⟨gb159,0,none⟩ = some (.int .u64 0):=(blk_cell BK159.out 0).trans rfl;have hcz12_1 : w10.cell? ⟨gb159,1,none⟩ = some (.string (⟨#[]⟩ : ByteArray)):=(blk_cell BK159.out 1).trans rfl;have hcz12_2 : w10.cell? ⟨gb159,2,none⟩ = some (.bool false):=(blk_cell BK159.out 2).trans rfl;have hcz12_3 : w10.cell? ⟨gb159,3,none⟩ = some (.int .i64 0):=(blk_cell BK159.out 3).trans rfl;have hfz12_0:=blk_frozen BK159.out 0;have hfz12_1:=blk_frozen BK159.out 1;have hfz12_2:=blk_frozen BK159.out 2;have hfz12_3:=blk_frozen BK159.out 3))
           go_roundg k2
           case measure=>have:=HK1.out;have:=HK2.out;omega
           case rel=>exact ⟨(wrap64 (x5_2 + (((rd_T47 ((rd_T56 l0 x12_1).f1) x24_2).f1).size : Int))),(wrap64 (x24_2 + 1)),(by first | rfl | (simp;done) | (simp [*];done)),(by first | rfl | (simp;done) | (simp [*];done)),H',⟨by have:=HK1.out;have:=HK2.out;omega⟩,⟨by (with_reducible repeat (first | refine blk_drewN ?_ _ | refine blk_drew ?_ | refine blk_alloc ?_ _));refine blk_far ?_ NB157_159.out _;(with_reducible repeat (first | refine blk_drewN ?_ _ | refine blk_drew ?_ | refine blk_alloc ?_ _));refine blk_far ?_ NB157_159.out _;(with_reducible repeat (first | refine blk_drewN ?_ _ | refine blk_drew ?_ | refine blk_alloc ?_ _));refine blk_far ?_ NB157_159.out _;(with_reducible repeat (first | refine blk_drewN ?_ _ | refine blk_drew ?_ | refine blk_alloc ?_ _));refine blk_far ?_ NB157_159.out _;(with_reducible repeat (first | refine blk_drewN ?_ _ | refine blk_drew ?_ | refine blk_alloc ?_ _));exact BK157.out⟩,⟨by repeat (first | (with_reducible first | exact HB.out | apply below_alloc | apply pw_below_drewN | apply below_drew1 | refine below_set ?_ GE157.out | refine below_set ?_ GE159.out) | exact HB.out)⟩⟩
          ·rw [if_neg c9] at H
           exact absurd H (by simp)
         ·rw [if_neg c8] at H
          exact absurd H (by simp)
        ·rw [if_neg c7] at H
         have c7b0 : decide (x24_2 < (((rd_T56 l0 x12_1).f1).length : Int)) = false:=decide_eq_false c7
         clear c7
         have H':=Aside0.mk H
         clear H
         go_wp2
         go_roundg k2
         case measure=>have:=HK1.out;have:=HK2.out;omega
         case rel=>exact ⟨((wrap64 (x4_1 + (((rd_T56 l0 x12_1).f1).length : Int)))),(x5_2),(wrap64 (x12_1 + 1)),(by first | rfl | (simp;done) | (simp [*];done)),(by first | rfl | (simp;done) | (simp [*];done)),(by first | rfl | (simp;done) | (simp [*];done)),H',⟨by have:=HK1.out;have:=HK2.out;omega⟩,⟨by repeat (first | (with_reducible first | exact HB.out | apply below_alloc | apply pw_below_drewN | apply below_drew1 | refine below_set ?_ GE157.out) | exact HB.out)⟩⟩
     ·rw [if_neg c4] at H
      exact absurd H (by simp)
    ·rw [if_neg c3] at H
     exact absurd H (by simp)
   ·rw [if_neg c2] at H
    have c2b0 : decide (x12_1 < (l0.length : Int)) = false:=decide_eq_false c2
    clear c2
    simp only [Option.some.injEq,Prod.mk.injEq] at H
    obtain ⟨rfl,rfl⟩:=H
    go_wp2
    go_ret2
    exact ⟨by first | rfl | (simp [errW_none,errW_some] <;> rfl) | (simp [*,errW_none,errW_some] <;> rfl),by repeat (first | (with_reducible first | exact HB.out | apply below_alloc | apply pw_below_drewN | apply below_drew1) | exact HB.out)⟩

/-! ### parts_Octets: function 127 -/
mutual
def parts_Octets.l0 : Nat → Int → List (S101) → Int → Int → Option (Int)
 | 0,_,_,_,_=>none
 | k + 1,x3,x8,x9,x10=>if x10 < x9 then (if 0 ≤ x10 then (if x10 < (x8.length : Int) then (parts_Octets.l1 k x3 x8 x9 x10 ((rd_T101 x8 x10).f2) (((rd_T101 x8 x10).f2).length : Int) 0) else (none)) else (none)) else (some x3)
def parts_Octets.l1 : Nat → Int → List (S101) → Int → Int → List (S40) → Int → Int → Option (Int)
 | 0,_,_,_,_,_,_,_=>none
 | k + 1,x3,x8,x9,x10,x15,x16,x17=>if x17 < x16 then (if 0 ≤ x17 then (if x17 < (x15.length : Int) then (parts_Octets.l1 k (wrap64 (x3 + (((rd_T40 x15 x17).f1).size : Int))) x8 x9 x10 x15 x16 (wrap64 (x17 + 1))) else (none)) else (none)) else (parts_Octets.l0 k x3 x8 x9 (wrap64 (x10 + 1)))
end
def parts_Octets.f (k : Nat) (l0 : List (S101)) : Option (Int):=parts_Octets.l0 k 0 l0 (l0.length : Int) 0
theorem parts_Octets.mono_l : ∀ k,(∀ y0 y1 y2 y3,LeO (parts_Octets.l0 k y0 y1 y2 y3) (parts_Octets.l0 (k + 1) y0 y1 y2 y3)) ∧ (∀ y0 y1 y2 y3 y4 y5 y6,LeO (parts_Octets.l1 k y0 y1 y2 y3 y4 y5 y6) (parts_Octets.l1 (k + 1) y0 y1 y2 y3 y4 y5 y6))
 | 0=>⟨fun _ _ _ _ r h=>by simp [parts_Octets.l0] at h,fun _ _ _ _ _ _ _ r h=>by simp [parts_Octets.l1] at h⟩
 | k + 1=>by
  obtain ⟨ih0,ih1⟩:=parts_Octets.mono_l k
  refine ⟨?_,?_⟩
  ·intro y0 y1 y2 y3
   unfold parts_Octets.l0
   repeat' first
   | (with_reducible exact ih0 _ _ _ _)
   | (with_reducible exact ih1 _ _ _ _ _ _ _)
   | (with_reducible exact LeO.refl _)
   | (with_reducible exact LeO.none _)
   | (with_reducible refine LeO.ite ?_ ?_)
   | (with_reducible refine LeO.bind ?_ (fun _=>?_))
   | exact ih0 _ _ _ _
   | exact ih1 _ _ _ _ _ _ _
   | exact LeO.none _
   | refine LeO.ite ?_ ?_
   | refine LeO.bind ?_ (fun _=>?_)
  ·intro y0 y1 y2 y3 y4 y5 y6
   unfold parts_Octets.l1
   repeat' first
   | (with_reducible exact ih0 _ _ _ _)
   | (with_reducible exact ih1 _ _ _ _ _ _ _)
   | (with_reducible exact LeO.refl _)
   | (with_reducible exact LeO.none _)
   | (with_reducible refine LeO.ite ?_ ?_)
   | (with_reducible refine LeO.bind ?_ (fun _=>?_))
   | exact ih0 _ _ _ _
   | exact ih1 _ _ _ _ _ _ _
   | exact LeO.none _
   | refine LeO.ite ?_ ?_
   | refine LeO.bind ?_ (fun _=>?_)
theorem parts_Octets.mono : ∀ a0 k,LeO (parts_Octets.f k a0) (parts_Octets.f (k + 1) a0):=by
 intro a0 k
 obtain ⟨ih0,ih1⟩:=parts_Octets.mono_l k
 unfold parts_Octets.f
 repeat' first
   | (with_reducible exact ih0 _ _ _ _)
   | (with_reducible exact ih1 _ _ _ _ _ _ _)
   | (with_reducible exact LeO.refl _)
   | (with_reducible exact LeO.none _)
   | (with_reducible refine LeO.ite ?_ ?_)
   | (with_reducible refine LeO.bind ?_ (fun _=>?_))
   | exact ih0 _ _ _ _
   | exact ih1 _ _ _ _ _ _ _
   | exact LeO.none _
   | refine LeO.ite ?_ ?_
   | refine LeO.bind ?_ (fun _=>?_)
set_option maxHeartbeats 8000000 in
set_option maxRecDepth 100000 in
theorem parts_Octets.calls (k : Nat) (A0 : Option Addr) (c0 : Nat) (l0 : List (S101)) (r : Int) (w : World) (hr0 : Kd.C k101 w A0 l0.length l0) (hc0 : l0.length ≤ c0) (h : parts_Octets.f k l0 = some r) :
  Calls Tryz.prog 127 #[.slice A0 l0.length c0] w fun e w'=>e = .returned (.int .i64 r) ∧ Below w.heap.size w w':=by
 have hu101:=Tryz.underlying101
 have hu40:=Tryz.underlying40
 have HR0:=Aside0.mk hr0
 have HC0:=Aside0.mk hc0
 clear hr0 hc0
 have HB:=Aside0.mk (Below.refl w.heap.size w)
 have H : (parts_Octets.l0 k 0 l0 (l0.length : Int) 0) = some r:=h
 clear h
 have H':=Aside0.mk H
 clear H
 go_enter Tryz.func127,Tryz.ntmps127
 go_wp2
 go_loopg [3,10] k (fun kq v3 v10 w'=>∃ (x3_1 : Int) (x10_1 : Int),v3 = .int .i64 x3_1 ∧ v10 = .int .i64 x10_1 ∧ Aside0 (parts_Octets.l0 kq x3_1 l0 (l0.length : Int) x10_1 = some r) ∧ Aside0 (kq ≤ k) ∧ Aside0 (Below w.heap.size w w'))
 case atStart=>exact ⟨(0),(0),(by first | rfl | (simp;done) | (simp [*];done)),(by first | rfl | (simp;done) | (simp [*];done)),H',⟨Nat.le_refl _⟩,⟨by repeat (first | (with_reducible first | exact HB.out | apply below_alloc | apply pw_below_drewN | apply below_drew1) | exact HB.out)⟩⟩
 case round =>
  clear H'
  try clear c1
  obtain ⟨x3_1,x10_1,rfl,rfl,HA,HK1,HB⟩:=hrel
  cases gk with
  | zero=>exact absurd HA.out (by simp [parts_Octets.l0])
  | succ k1 =>
   have H:=HA.out
   clear HA
   simp only [parts_Octets.l0] at H
   by_cases c2 : x10_1 < (l0.length : Int)
   ·rw [if_pos c2] at H
    have c2b0 : decide (x10_1 < (l0.length : Int)) = true:=decide_eq_true c2
    clear c2
    by_cases c3 : 0 ≤ x10_1
    ·rw [if_pos c3] at H
     have c3b0 : decide (0 ≤ x10_1) = true:=decide_eq_true c3
     clear c3
     by_cases c4 : x10_1 < (l0.length : Int)
     ·rw [if_pos c4] at H
      have c4b0 : decide (x10_1 < (l0.length : Int)) = true:=decide_eq_true c4
      clear c4
      have H':=Aside0.mk H
      clear H
      have p160 : 0 ≤ (x10_1 : Int):=of_decide_eq_true (by first | (with_reducible assumption) | assumption)
      have q160 : x10_1 < (l0.length : Int):=of_decide_eq_true (by first | (with_reducible assumption) | assumption)
      obtain ⟨ad160,A160_2,c160_2,e160,hx160_0,hx160_1,hx160_2,hl160_2,hi160_2⟩:=at_T101 HR0.out x10_1 p160 q160
      cases e160
      replace hx160_0:=zcl HB hx160_0
      replace hx160_1:=zcl HB hx160_1
      replace hx160_2:=zcl HB hx160_2
      have HR160_2:=Aside0.mk hi160_2
      have HC160_2:=Aside0.mk hl160_2
      clear hi160_2 hl160_2
      replace p160:=eq_true p160
      replace q160:=eq_true q160
      go_wp2_with (first | ((with_reducible refine gate_dst (N:=5) rfl ?_);refine zbx 5 #[.int .u64 0,.string (⟨#[]⟩ : ByteArray),.slice none 0 0] 101 ?_;intro gb161 hg w5 hbox hb;have n0_:=Aside0.mk (below_step zbe hb);have n1_:=Aside0.mk (hbox);have n2_:=Aside0.mk ((by rw [hg];exact (below_size zbe) : w.heap.size ≤ gb161));have n3_:=Aside0.mk ((by rw [hg];exact (below_size zbe) : w.heap.size ≤ gb161));clear HB;have HB:=n0_;have BK161:=n1_;have GW161:=n2_;have GE161:=n3_;clear n0_ n1_ n2_ n3_;clear hb hbox hg;have hcz6_0 : w5.cell? ⟨gb161,0,none⟩ = some (.int .u64 0):=(blk_cell BK161.out 0).trans rfl;have hcz6_1 : w5.cell? ⟨gb161,1,none⟩ = some (.string (⟨#[]⟩ : ByteArray)):=(blk_cell BK161.out 1).trans rfl;have hcz6_2 : w5.cell? ⟨gb161,2,none⟩ = some (.slice none 0 0):=(blk_cell BK161.out 2).trans rfl;have hfz6_0:=blk_frozen BK161.out 0;have hfz6_1:=blk_frozen BK161.out 1;have hfz6_2:=blk_frozen BK161.out 2))
      go_loopg [3,17] k1 (fun kq v3 v17 w'=>∃ (x3_2 : Int) (x17_2 : Int),v3 = .int .i64 x3_2 ∧ v17 = .int .i64 x17_2 ∧ Aside0 (parts_Octets.l1 kq x3_2 l0 (l0.length : Int) x10_1 ((rd_T101 l0 x10_1).f2) (((rd_T101 l0 x10_1).f2).length : Int) x17_2 = some r) ∧ Aside0 (kq ≤ k1) ∧ Aside0 (w'.heap[gb161]? = some (.cells #[.int .u64 ((rd_T101 l0 x10_1).f0),.string ((rd_T101 l0 x10_1).f1),(.slice A160_2 ((rd_T101 l0 x10_1).f2).length c160_2)] 101 (0,0))) ∧ Aside0 (Below w.heap.size w w'))
      case atStart=>exact ⟨(x3_1),(0),(by first | rfl | (simp;done) | (simp [*];done)),(by first | rfl | (simp;done) | (simp [*];done)),H',⟨Nat.le_refl _⟩,⟨by (with_reducible repeat (first | refine blk_drewN ?_ _ | refine blk_drew ?_ | refine blk_alloc ?_ _));refine blk_put (cs:=#[.int .u64 ((rd_T101 l0 x10_1).f0),.string ((rd_T101 l0 x10_1).f1),.slice none 0 0]) ?_ 2 _ rfl;(with_reducible repeat (first | refine blk_drewN ?_ _ | refine blk_drew ?_ | refine blk_alloc ?_ _));refine blk_put (cs:=#[.int .u64 ((rd_T101 l0 x10_1).f0),.string (⟨#[]⟩ : ByteArray),.slice none 0 0]) ?_ 1 _ rfl;(with_reducible repeat (first | refine blk_drewN ?_ _ | refine blk_drew ?_ | refine blk_alloc ?_ _));refine blk_put (cs:=#[.int .u64 0,.string (⟨#[]⟩ : ByteArray),.slice none 0 0]) ?_ 0 _ rfl;(with_reducible repeat (first | refine blk_drewN ?_ _ | refine blk_drew ?_ | refine blk_alloc ?_ _));exact BK161.out⟩,⟨by repeat (first | (with_reducible first | exact HB.out | apply below_alloc | apply pw_below_drewN | apply below_drew1 | refine below_set ?_ GE161.out) | exact HB.out)⟩⟩
      case round =>
       clear H'
       try clear c1
       try clear p1
       try clear q1
       try clear hx1
       try clear c2
       try clear c2b0
       try clear p2
       try clear c3
       try clear c3b0
       try clear c4
       try clear c4b0
       try clear hcz6_0
       try clear hcz6_1
       try clear hcz6_2
       try clear hfz6_0
       try clear hfz6_1
       try clear hfz6_2
       try clear hx160_0
       try clear hx160_1
       try clear hx160_2
       try clear p160
       try clear q160
       obtain ⟨x3_2,x17_2,rfl,rfl,HA,HK2,BK161,HB⟩:=hrel
       cases gk with
       | zero=>exact absurd HA.out (by simp [parts_Octets.l1])
       | succ k2 =>
        have H:=HA.out
        clear HA
        simp only [parts_Octets.l1] at H
        by_cases c7 : x17_2 < (((rd_T101 l0 x10_1).f2).length : Int)
        ·rw [if_pos c7] at H
         have c7b0 : decide (x17_2 < (((rd_T101 l0 x10_1).f2).length : Int)) = true:=decide_eq_true c7
         clear c7
         by_cases c8 : 0 ≤ x17_2
         ·rw [if_pos c8] at H
          have c8b0 : decide (0 ≤ x17_2) = true:=decide_eq_true c8
          clear c8
          by_cases c9 : x17_2 < (((rd_T101 l0 x10_1).f2).length : Int)
          ·rw [if_pos c9] at H
           have c9b0 : decide (x17_2 < (((rd_T101 l0 x10_1).f2).length : Int)) = true:=decide_eq_true c9
           clear c9
           have H':=Aside0.mk H
           clear H
           have p162 : 0 ≤ (x17_2 : Int):=of_decide_eq_true (by first | (with_reducible assumption) | assumption)
           have q162 : x17_2 < (((rd_T101 l0 x10_1).f2).length : Int):=of_decide_eq_true (by first | (with_reducible assumption) | assumption)
           obtain ⟨ad162,e162,hx162_0,hx162_1⟩:=at_T40 HR160_2.out x17_2 p162 q162
           cases e162
           replace hx162_0:=zcl HB hx162_0
           replace hx162_1:=zcl HB hx162_1
           replace p162:=eq_true p162
           replace q162:=eq_true q162
           go_wp2_with (first | ((with_reducible refine gate_dst (N:=7) rfl ?_);refine zbx 7 #[.int .i64 0,.string (⟨#[]⟩ : ByteArray)] 40 ?_;intro gb163 hg w10 hbox hb;have n0_:=Aside0.mk (blk_below (g:=gb161) (o:=.cells #[.int .u64 ((rd_T101 l0 x10_1).f0),.string ((rd_T101 l0 x10_1).f1),.slice (some ad162) ((rd_T101 l0 x10_1).f2).length c160_2] 101 (0,0)) zbk hb);have n1_:=Aside0.mk (below_step zbe hb);have n2_:=Aside0.mk (hbox);have n3_:=Aside0.mk ((by rw [hg];exact (below_size zbe) : w.heap.size ≤ gb163));have n4_:=Aside0.mk ((by rw [hg];exact (below_size zbe) : w.heap.size ≤ gb163));have n5_:=Aside0.mk ((by rw [hg];exact Nat.ne_of_lt (blk_lt (g:=gb161) (o:=.cells #[.int .u64 ((rd_T101 l0 x10_1).f0),.string ((rd_T101 l0 x10_1).f1),.slice (some ad162) ((rd_T101 l0 x10_1).f2).length c160_2] 101 (0,0)) zbk) : gb161 ≠ gb163));have n6_:=Aside0.mk ((by rw [hg];exact Nat.ne_of_gt (blk_lt (g:=gb161) (o:=.cells #[.int .u64 ((rd_T101 l0 x10_1).f0),.string ((rd_T101 l0 x10_1).f1),.slice (some ad162) ((rd_T101 l0 x10_1).f2).length c160_2] 101 (0,0)) zbk) : gb163 ≠ gb161));clear BK161;clear HB;have BK161:=n0_;have HB:=n1_;have BK163:=n2_;have GW163:=n3_;have GE163:=n4_;have NB161_163:=n5_;have NB163_161:=n6_;clear n0_ n1_ n2_ n3_ n4_ n5_ n6_;clear hb hbox hg;have hnb11:=NB163_161.out;have hnc11:=NB161_163.out;have hcz12_0 : w10.cell? ⟨gb163,0,none⟩ = some (.int .i64 0):=(blk_cell BK163.out 0).trans rfl;have hcz12_1 : w10.cell? ⟨gb163,1,none⟩ = some (.string (⟨#[]⟩ : ByteArray)):=(blk_cell BK163.out 1).trans rfl;have hfz12_0:=blk_frozen BK163.out 0;have hfz12_1:=blk_frozen BK163.out 1))
           go_roundg k2
           case measure=>have:=HK1.out;have:=HK2.out;omega
           case rel=>exact ⟨(wrap64 (x3_2 + (((rd_T40 ((rd_T101 l0 x10_1).f2) x17_2).f1).size : Int))),(wrap64 (x17_2 + 1)),(by first | rfl | (simp;done) | (simp [*];done)),(by first | rfl | (simp;done) | (simp [*];done)),H',⟨by have:=HK1.out;have:=HK2.out;omega⟩,⟨by (with_reducible repeat (first | refine blk_drewN ?_ _ | refine blk_drew ?_ | refine blk_alloc ?_ _));refine blk_far ?_ NB161_163.out _;(with_reducible repeat (first | refine blk_drewN ?_ _ | refine blk_drew ?_ | refine blk_alloc ?_ _));refine blk_far ?_ NB161_163.out _;(with_reducible repeat (first | refine blk_drewN ?_ _ | refine blk_drew ?_ | refine blk_alloc ?_ _));exact BK161.out⟩,⟨by repeat (first | (with_reducible first | exact HB.out | apply below_alloc | apply pw_below_drewN | apply below_drew1 | refine below_set ?_ GE161.out | refine below_set ?_ GE163.out) | exact HB.out)⟩⟩
          ·rw [if_neg c9] at H
           exact absurd H (by simp)
         ·rw [if_neg c8] at H
          exact absurd H (by simp)
        ·rw [if_neg c7] at H
         have c7b0 : decide (x17_2 < (((rd_T101 l0 x10_1).f2).length : Int)) = false:=decide_eq_false c7
         clear c7
         have H':=Aside0.mk H
         clear H
         go_wp2
         go_roundg k2
         case measure=>have:=HK1.out;have:=HK2.out;omega
         case rel=>exact ⟨(x3_2),(wrap64 (x10_1 + 1)),(by first | rfl | (simp;done) | (simp [*];done)),(by first | rfl | (simp;done) | (simp [*];done)),H',⟨by have:=HK1.out;have:=HK2.out;omega⟩,⟨by repeat (first | (with_reducible first | exact HB.out | apply below_alloc | apply pw_below_drewN | apply below_drew1 | refine below_set ?_ GE161.out) | exact HB.out)⟩⟩
     ·rw [if_neg c4] at H
      exact absurd H (by simp)
    ·rw [if_neg c3] at H
     exact absurd H (by simp)
   ·rw [if_neg c2] at H
    have c2b0 : decide (x10_1 < (l0.length : Int)) = false:=decide_eq_false c2
    clear c2
    obtain rfl:=Option.some.inj H
    go_wp2
    go_ret
    exact ⟨by first | rfl | (simp [errW_none,errW_some] <;> rfl) | (simp [*,errW_none,errW_some] <;> rfl),by repeat (first | (with_reducible first | exact HB.out | apply below_alloc | apply pw_below_drewN | apply below_drew1) | exact HB.out)⟩

/-! ### bucket_octets: function 69 -/
def bucket_octets.f (k : Nat) (a0_0 : ByteArray) (a0_1 : Int) (l0_2 : List (S56)) (l0_3 : List (S101)) (a0_4 : Int) : Option (Int):=(index_Count.f k l0_2).bind fun bt165=>((parts_Octets.f k l0_3).bind fun t167=>(some (wrap64 (bt165.2 + t167))))
set_option maxHeartbeats 8000000 in
set_option maxRecDepth 100000 in
theorem bucket_octets.calls (k : Nat) (a0_0 : ByteArray) (a0_1 : Int) (A0_2 : Option Addr) (c0_2 : Nat) (l0_2 : List (S56)) (A0_3 : Option Addr) (c0_3 : Nat) (l0_3 : List (S101)) (a0_4 : Int) (r : Int) (w : World) (hr0_2 : Kd.C k56 w A0_2 l0_2.length l0_2) (hc0_2 : l0_2.length ≤ c0_2) (hr0_3 : Kd.C k101 w A0_3 l0_3.length l0_3) (hc0_3 : l0_3.length ≤ c0_3) (h : bucket_octets.f k a0_0 a0_1 l0_2 l0_3 a0_4 = some r) :
  Calls Tryz.prog 69 #[.agg #[.string a0_0,.int .i64 a0_1,.slice A0_2 l0_2.length c0_2,.slice A0_3 l0_3.length c0_3,.int .u64 a0_4]] w fun e w'=>e = .returned (.int .i64 r) ∧ Below w.heap.size w w':=by
 have hu26:=Tryz.underlying26
 have HR0_2:=Aside0.mk hr0_2
 have HC0_2:=Aside0.mk hc0_2
 clear hr0_2 hc0_2
 have HR0_3:=Aside0.mk hr0_3
 have HC0_3:=Aside0.mk hc0_3
 clear hr0_3 hc0_3
 have HB:=Aside0.mk (Below.refl w.heap.size w)
 have H : ((index_Count.f k l0_2).bind fun bt165=>((parts_Octets.f k l0_3).bind fun t167=>(some (wrap64 (bt165.2 + t167))))) = some r:=h
 clear h
 replace H:=Option.bind_eq_some_iff.mp H
 obtain ⟨⟨t165,t166⟩,A20,H⟩:=H
 replace H : ((parts_Octets.f k l0_3).bind fun t167=>(some (wrap64 (t166 + t167)))) = some r:=H
 have A2:=Aside0.mk A20
 clear A20
 replace H:=Option.bind_eq_some_iff.mp H
 obtain ⟨t167,A30,H⟩:=H
 replace H : (some (wrap64 (t166 + t167))) = some r:=H
 have A3:=Aside0.mk A30
 clear A30
 obtain rfl:=Option.some.inj H
 go_enter Tryz.func69,Tryz.ntmps69
 go_wp2_with (first | ((with_reducible refine gate_dst (N:=1) rfl ?_);refine zbx 1 #[.string a0_0,.int .i64 a0_1,.slice A0_2 l0_2.length c0_2,.slice A0_3 l0_3.length c0_3,.int .u64 a0_4] 26 ?_;intro gb164 hg w4 hbox hb;have n0_:=Aside0.mk (below_step zbe hb);have n1_:=Aside0.mk (hbox);have n2_:=Aside0.mk ((by rw [hg];exact (below_size zbe) : w.heap.size ≤ gb164));have n3_:=Aside0.mk ((by rw [hg];exact (below_size zbe) : w.heap.size ≤ gb164));clear HB;have HB:=n0_;have BK164:=n1_;have GW164:=n2_;have GE164:=n3_;clear n0_ n1_ n2_ n3_;clear hb hbox hg;have hcz5_0 : w4.cell? ⟨gb164,0,none⟩ = some (.string a0_0):=(blk_cell BK164.out 0).trans rfl;have hcz5_1 : w4.cell? ⟨gb164,1,none⟩ = some (.int .i64 a0_1):=(blk_cell BK164.out 1).trans rfl;have hcz5_2 : w4.cell? ⟨gb164,2,none⟩ = some (.slice A0_2 l0_2.length c0_2):=(blk_cell BK164.out 2).trans rfl;have hcz5_3 : w4.cell? ⟨gb164,3,none⟩ = some (.slice A0_3 l0_3.length c0_3):=(blk_cell BK164.out 3).trans rfl;have hcz5_4 : w4.cell? ⟨gb164,4,none⟩ = some (.int .u64 a0_4):=(blk_cell BK164.out 4).trans rfl;have hfz5_0:=blk_frozen BK164.out 0;have hfz5_1:=blk_frozen BK164.out 1;have hfz5_2:=blk_frozen BK164.out 2;have hfz5_3:=blk_frozen BK164.out 3;have hfz5_4:=blk_frozen BK164.out 4) | ((with_reducible refine gate_callee (f:=126) rfl ?_);refine goesL_ (some 8) rfl rfl Tryz.func126 (by kernel_rfl) rfl #[.slice A0_2 l0_2.length c0_2] rfl (by (try simp only [List.map_toArray,List.map_cons,List.map_nil]);first | done | rfl | (simp only [List.length_drop,List.length_take];rfl)) ?_;(with_reducible refine (index_Count.calls k _ _ l0_2 t165 t166 _ ?side1 ?side2 A2.out).mono ?_);(case side1=>repeat (first | exact (Kd.C_below HR0_2.out HB.out) | (with_reducible refine Kd.C_alloc ?_ _) | (with_reducible refine Kd.C_drewN ?_ _) | (with_reducible refine Kd.C_drew ?_)));(case side2=>exact HC0_2.out);rintro e w6 ⟨rfl,hb⟩;refine ⟨_,rfl,?_⟩;have n0_:=Aside0.mk (blk_below (g:=gb164) (o:=.cells #[.string a0_0,.int .i64 a0_1,.slice A0_2 l0_2.length c0_2,.slice A0_3 l0_3.length c0_3,.int .u64 a0_4] 26 (0,0)) zbk hb);have n1_:=Aside0.mk (below_step zbe hb);clear BK164;clear HB;have BK164:=n0_;have HB:=n1_;clear n0_ n1_;(try clear hb);(try clear hb2);(try clear hk);(try clear hi);have hcz7_0 : w6.cell? ⟨gb164,0,none⟩ = some (.string a0_0):=(blk_cell BK164.out 0).trans rfl;have hcz7_1 : w6.cell? ⟨gb164,1,none⟩ = some (.int .i64 a0_1):=(blk_cell BK164.out 1).trans rfl;have hcz7_2 : w6.cell? ⟨gb164,2,none⟩ = some (.slice A0_2 l0_2.length c0_2):=(blk_cell BK164.out 2).trans rfl;have hcz7_3 : w6.cell? ⟨gb164,3,none⟩ = some (.slice A0_3 l0_3.length c0_3):=(blk_cell BK164.out 3).trans rfl;have hcz7_4 : w6.cell? ⟨gb164,4,none⟩ = some (.int .u64 a0_4):=(blk_cell BK164.out 4).trans rfl;have hfz7_0:=blk_frozen BK164.out 0;have hfz7_1:=blk_frozen BK164.out 1;have hfz7_2:=blk_frozen BK164.out 2;have hfz7_3:=blk_frozen BK164.out 3;have hfz7_4:=blk_frozen BK164.out 4) | ((with_reducible refine gate_callee (f:=127) rfl ?_);refine goesL_ (some 14) rfl rfl Tryz.func127 (by kernel_rfl) rfl #[.slice A0_3 l0_3.length c0_3] rfl (by (try simp only [List.map_toArray,List.map_cons,List.map_nil]);first | done | rfl | (simp only [List.length_drop,List.length_take];rfl)) ?_;(with_reducible refine (parts_Octets.calls k _ _ l0_3 t167 _ ?side1 ?side2 A3.out).mono ?_);(case side1=>repeat (first | exact (Kd.C_below HR0_3.out HB.out) | (with_reducible refine Kd.C_alloc ?_ _) | (with_reducible refine Kd.C_drewN ?_ _) | (with_reducible refine Kd.C_drew ?_)));(case side2=>exact HC0_3.out);rintro e w8 ⟨rfl,hb⟩;refine ⟨_,rfl,?_⟩;have n0_:=Aside0.mk (blk_below (g:=gb164) (o:=.cells #[.string a0_0,.int .i64 a0_1,.slice A0_2 l0_2.length c0_2,.slice A0_3 l0_3.length c0_3,.int .u64 a0_4] 26 (0,0)) zbk hb);have n1_:=Aside0.mk (below_step zbe hb);clear BK164;clear HB;have BK164:=n0_;have HB:=n1_;clear n0_ n1_;(try clear hb);(try clear hb2);(try clear hk);(try clear hi)))
 go_ret
 exact ⟨by first | rfl | (simp [errW_none,errW_some] <;> rfl) | (simp [*,errW_none,errW_some] <;> rfl),by repeat (first | (with_reducible first | exact HB.out | apply below_alloc | apply pw_below_drewN | apply below_drew1 | refine below_set ?_ GE164.out) | exact HB.out)⟩

-- NOT PRINTED: function 129 (api_Upload_129)

-- NOT PRINTED: function 72 (api_Upload_72)

-- NOT PRINTED: function 25 (bucket_Check)

-- NOT PRINTED: function 45 (bucket_work_no)

-- NOT PRINTED: function 32 (bucket_open)

-- NOT PRINTED: function 33 (bucket_work_next)

-- NOT PRINTED: function 34 (bucket_work_uploads)

-- NOT PRINTED: function 79 (api_Upload_79)

-- NOT PRINTED: function 35 (parts_Begin)

-- NOT PRINTED: function 36 (bucket_work_close)

-- NOT PRINTED: function 12 (bucket_Begin)

end Go.Proofs.YtekooapbdgippaaGreatDoor.Q
namespace Go.Proofs.YtekooapbdgippaaGreatDoor.Q
open Go.RowKit Go.Proofs.YtekooapbdgippaaGreatDoorW.PrintWords Go.Proofs.YtekooapbdgippaaGreatDoorW.PrintLast Go.Proofs.YtekooapbdgippaaGreatDoorW.PrintMore
attribute [local go_sem] max2_int min2_int max_two min_two max_three min_three max_four min_four
set_option linter.unusedVariables false
set_option linter.unusedSimpArgs false

attribute [local go_sem high] eqA47
/-! ### cellarerref05_Same: function 81 -/
/-! ### cellarerref06_Same: function 37 -/
end Go.Proofs.YtekooapbdgippaaGreatDoor.Q
namespace Go.Proofs.YtekooapbdgippaaGreatDoor.Q
open Go.RowKit Go.Proofs.YtekooapbdgippaaGreatDoorW.PrintWords Go.Proofs.YtekooapbdgippaaGreatDoorW.PrintLast Go.Proofs.YtekooapbdgippaaGreatDoorW.PrintMore
attribute [local go_sem] max2_int min2_int max_two min_two max_three min_three max_four min_four
set_option linter.unusedVariables false
set_option linter.unusedSimpArgs false

attribute [local go_sem high] eqA40
/-! ### cellarerref08_Same: function 38 -/
/-! ### cellarerref09_Same: function 13 -/
-- NOT PRINTED: function 87 (parts_place)

-- NOT PRINTED: function 89 (api_Part_int)

-- NOT PRINTED: function 91 (api_Part_91)

-- NOT PRINTED: function 135 (api_Part_135)

-- NOT PRINTED: function 173 (api_Part_173)

-- NOT PRINTED: function 164 (api_Part_164)

-- NOT PRINTED: function 136 (api_Part_136)

-- NOT PRINTED: function 92 (api_Part_92)

-- NOT PRINTED: function 185 (atomic_LoadUint32)

-- NOT PRINTED: function 178 (atomic_Bool_Load)

-- NOT PRINTED: function 200 (race_Disable)

-- NOT PRINTED: function 201 (atomic_CompareAndSwapInt32)

-- NOT PRINTED: function 202 (race_Enable)

-- NOT PRINTED: function 203 (race_Acquire)

-- NOT PRINTED: function 206 (atomic_AddInt32)

-- NOT PRINTED: function 208 (sync_runtime_canSpin)

-- NOT PRINTED: function 209 (sync_runtime_doSpin)

-- NOT PRINTED: function 210 (sync_throw)

-- NOT PRINTED: function 211 (sync_runtime_nanotime)

-- NOT PRINTED: function 212 (sync_runtime_SemacquireMutex)

-- NOT PRINTED: function 204 (sync_Mutex_lockSlow)

-- NOT PRINTED: function 194 (sync_Mutex_Lock_194)

-- NOT PRINTED: function 186 (sync_Mutex_Lock_186)

-- NOT PRINTED: function 205 (race_ReleaseMerge)

-- NOT PRINTED: function 213 (sync_fatal)

-- NOT PRINTED: function 214 (sync_runtime_Semrelease)

-- NOT PRINTED: function 207 (sync_Mutex_unlockSlow)

-- NOT PRINTED: function 195 (sync_Mutex_Unlock_195)

-- NOT PRINTED: function 187 (sync_Mutex_Unlock_187)

-- NOT PRINTED: function 196 (atomic_StoreUint32)

-- NOT PRINTED: function 197 (atomic_b32)

-- NOT PRINTED: function 188 (atomic_Bool_Store)

-- NOT PRINTED: function 179 (sync_Once_doSlow)

-- NOT PRINTED: function 174 (sync_Once_Do)

-- NOT PRINTED: function 165 (tag_table_made)

-- NOT PRINTED: function 137 (tag_More)

-- NOT PRINTED: function 93 (tag_Of)

-- NOT PRINTED: function 42 (parts_Lay)

-- NOT PRINTED: function 15 (bucket_Lay)

-- NOT PRINTED: function 145 (api_Entry)

-- NOT PRINTED: function 104 (index_find)

-- NOT PRINTED: function 105 (api_Version_105)

-- NOT PRINTED: function 49 (index_Get)

-- NOT PRINTED: function 161 (index_At)

-- NOT PRINTED: function 132 (index_Put)

-- NOT PRINTED: function 84 (bucket_work_versions)

-- NOT PRINTED: function 50 (bucket_laid)

-- NOT PRINTED: function 19 (bucket_Put)

-- NOT PRINTED: function 44 (parts_Find)

-- NOT PRINTED: function 138 (api_Piece_138)

-- NOT PRINTED: function 95 (api_Piece_95)

-- NOT PRINTED: function 97 (parts_upload_data)

-- NOT PRINTED: function 167 (abi_NoEscape)

-- NOT PRINTED: function 141 (strings_Builder_copyCheck)

-- NOT PRINTED: function 98 (strings_Builder_WriteString)

-- NOT PRINTED: function 99 (strings_Builder_Len)

/-! ### tag_octets: function 142 -/
def tag_octets.f (a0 : Int) : Option (ByteArray):=some (strOfNums (([(a0 / 16777216) % 256,(a0 / 65536) % 256,(a0 / 256) % 256,(a0) % 256] : List Int)))
set_option maxHeartbeats 8000000 in
set_option maxRecDepth 100000 in
theorem tag_octets.calls (a0 : Int) (r : ByteArray) (w : World) (h : tag_octets.f a0 = some r) :
  Calls Tryz.prog 142 #[.int .u32 a0] w fun e w'=>e = .returned (.string r) ∧ Below w.heap.size w w':=by
 have HB:=Aside0.mk (Below.refl w.heap.size w)
 have H : (some (strOfNums (([(a0 / 16777216) % 256,(a0 / 65536) % 256,(a0 / 256) % 256,(a0) % 256] : List Int)))) = some r:=h
 clear h
 obtain ⟨y214,hy214⟩ : ∃ y_ : List Int,y_ = (([(a0 / 16777216) % 256,(a0 / 65536) % 256,(a0 / 256) % 256,(a0) % 256] : List Int)):=⟨_,rfl⟩
 replace H : (some (strOfNums y214)) = some r:=by first | (rw [hy214];with_reducible exact H) | (have H2_:=(Option.bind_some _ _).symm.trans H;rw [hy214];with_reducible exact H2_) | (have H2_:=(Option.bind_some _ _).symm.trans H;with_reducible exact H2_) | with_reducible exact H | (rw [hy214];exact H) | exact H
 have Ny214:=Aside0.mk hy214
 clear hy214
 obtain rfl:=Option.some.inj H
 go_enter Tryz.func142,Tryz.ntmps142
 go_wp2_with (first | ((with_reducible refine gate_dst (N:=14) rfl ?_);refine Kd.R_lit (Kd.int .u8) _ 5 ?hg (N:=14) ?hd (xs:=([(a0 / 16777216) % 256,(a0 / 65536) % 256,(a0 / 256) % 256,(a0) % 256] : List Int)) (inner:=[.int .u8 ((a0 / 16777216) % 256),.int .u8 ((a0 / 65536) % 256),.int .u8 ((a0 / 256) % 256),.int .u8 ((a0) % 256)]) (ok:=fun _=>True) (okp:=fun _=>True) ?hr ?hp (fun _ hk=>hk) trivial (Below.refl _ _) (Nat.le_refl _) (by simp) ?_;(case hd=>rfl);(case hg=>rfl);(case hr=>first | (go_simp;done) | (go_simp;rfl));(case hp=>exact (Reps.one (show Kd.M (Kd.int .u8) _ _ _ ((a0 / 16777216) % 256) [.int .u8 ((a0 / 16777216) % 256)] from rfl) (Reps.one (show Kd.M (Kd.int .u8) _ _ _ ((a0 / 65536) % 256) [.int .u8 ((a0 / 65536) % 256)] from rfl) (Reps.one (show Kd.M (Kd.int .u8) _ _ _ ((a0 / 256) % 256) [.int .u8 ((a0 / 256) % 256)] from rfl) (Reps.one (show Kd.M (Kd.int .u8) _ _ _ ((a0) % 256) [.int .u8 ((a0) % 256)] from rfl) (Reps.none _ _))))));intro v215 w2 ho3 hb hg_ hnew_;clear hg_ hnew_;(first | rw [← Ny214.out] at ho3 | (simp only [Int.reduceToNat] at ho3;rw [← Ny214.out] at ho3));have n0_:=Aside0.mk (Kd.R_lower ho3 (below_size zbe));have n1_:=Aside0.mk (below_step zbe hb);clear HB;have HO216:=n0_;have HB:=n1_;clear n0_ n1_;clear hb ho3;have hcv4:=own_string (P:=Tryz.prog) Tryz.underlying157 Tryz.underlying5 Tryz.underlying9 (Kd.own_of_R HO216.out)))
 go_ret
 exact ⟨by first | rfl | (simp [errW_none,errW_some] <;> rfl) | (simp [*,errW_none,errW_some] <;> rfl),by repeat (first | (with_reducible first | exact HB.out | apply below_alloc | apply pw_below_drewN | apply below_drew1) | exact HB.out)⟩

-- NOT PRINTED: function 143 (tag_Text)

-- NOT PRINTED: function 180 (strconv_small)

-- NOT PRINTED: function 189 (strconv_log10Pow2)

-- NOT PRINTED: function 190 (bits_Len64)

-- NOT PRINTED: function 191 (strconv_bool2_int)

-- NOT PRINTED: function 181 (strconv_numDigits)

-- NOT PRINTED: function 182 (strconv_formatBase10)

-- NOT PRINTED: function 192 (strconv_isPowerOfTwo)

-- NOT PRINTED: function 198 (bits_TrailingZeros32)

-- NOT PRINTED: function 199 (bits_TrailingZeros64)

-- NOT PRINTED: function 193 (bits_TrailingZeros)

-- NOT PRINTED: function 183 (strconv_formatBits)

-- NOT PRINTED: function 176 (strconv_FormatInt)

-- NOT PRINTED: function 168 (strconv_Itoa_168)

-- NOT PRINTED: function 144 (strconv_Itoa_144)

-- NOT PRINTED: function 100 (tag_Many)

-- NOT PRINTED: function 101 (strings_Builder_String)

-- NOT PRINTED: function 46 (parts_Whole)

-- NOT PRINTED: function 102 (api_Upload_102)

-- NOT PRINTED: function 47 (parts_Abort)

-- NOT PRINTED: function 17 (bucket_Whole)

-- NOT PRINTED: function 103 (chain_at)

-- NOT PRINTED: function 48 (chain_Get)

-- NOT PRINTED: function 18 (bucket_Get)

-- NOT PRINTED: function 26 (bucket_New)

-- NOT PRINTED: function 27 (bucket_Turn)

-- NOT PRINTED: function 39 (bucket_Delete)

-- NOT PRINTED: function 40 (bucket_Drop)

/-! ### bucket_Empty: function 41 -/
def bucket_Empty.f (a0_0 : ByteArray) (a0_1 : Int) (l0_2 : List (S56)) (l0_3 : List (S101)) (a0_4 : Int) : Option (Bool):=if (l0_2.length : Int) = 0 then (some ((l0_3.length : Int) == 0)) else (some false)
set_option maxHeartbeats 8000000 in
set_option maxRecDepth 100000 in
theorem bucket_Empty.calls (a0_0 : ByteArray) (a0_1 : Int) (A0_2 : Option Addr) (c0_2 : Nat) (l0_2 : List (S56)) (A0_3 : Option Addr) (c0_3 : Nat) (l0_3 : List (S101)) (a0_4 : Int) (r : Bool) (w : World) (hr0_2 : Kd.C k56 w A0_2 l0_2.length l0_2) (hc0_2 : l0_2.length ≤ c0_2) (hr0_3 : Kd.C k101 w A0_3 l0_3.length l0_3) (hc0_3 : l0_3.length ≤ c0_3) (h : bucket_Empty.f a0_0 a0_1 l0_2 l0_3 a0_4 = some r) :
  Calls Tryz.prog 41 #[.agg #[.string a0_0,.int .i64 a0_1,.slice A0_2 l0_2.length c0_2,.slice A0_3 l0_3.length c0_3,.int .u64 a0_4]] w fun e w'=>e = .returned (.bool r) ∧ Below w.heap.size w w':=by
 have hu26:=Tryz.underlying26
 have HR0_2:=Aside0.mk hr0_2
 have HC0_2:=Aside0.mk hc0_2
 clear hr0_2 hc0_2
 have HR0_3:=Aside0.mk hr0_3
 have HC0_3:=Aside0.mk hc0_3
 clear hr0_3 hc0_3
 have HB:=Aside0.mk (Below.refl w.heap.size w)
 have H : (if (l0_2.length : Int) = 0 then (some ((l0_3.length : Int) == 0)) else (some false)) = some r:=h
 clear h
 by_cases c2 : (l0_2.length : Int) = 0
 ·rw [if_pos c2] at H
  have c2b0 : ((l0_2.length : Int) == 0) = true:=beq_iff_eq.mpr c2
  have c2b1 : ((l0_2.length : Int) != 0) = false:=bne_eq_false_iff_eq.mpr c2
  clear c2
  obtain rfl:=Option.some.inj H
  go_enter Tryz.func41,Tryz.ntmps41
  go_wp2_with (first | ((with_reducible refine gate_dst (N:=1) rfl ?_);(try (refine gate_guard (by rfl) ?_;dsimp only));refine zbx 1 #[.string a0_0,.int .i64 a0_1,.slice A0_2 l0_2.length c0_2,.slice A0_3 l0_3.length c0_3,.int .u64 a0_4] 26 ?_;intro gb248 hg w3 hbox hb;have n0_:=Aside0.mk (below_step zbe hb);have n1_:=Aside0.mk (hbox);have n2_:=Aside0.mk ((by rw [hg];exact (below_size zbe) : w.heap.size ≤ gb248));have n3_:=Aside0.mk ((by rw [hg];exact (below_size zbe) : w.heap.size ≤ gb248));clear HB;have HB:=n0_;have BK248:=n1_;have GW248:=n2_;have GE248:=n3_;clear n0_ n1_ n2_ n3_;clear hb hbox hg;have hcz4_0 : w3.cell? ⟨gb248,0,none⟩ = some (.string a0_0):=(blk_cell BK248.out 0).trans rfl;have hcz4_1 : w3.cell? ⟨gb248,1,none⟩ = some (.int .i64 a0_1):=(blk_cell BK248.out 1).trans rfl;have hcz4_2 : w3.cell? ⟨gb248,2,none⟩ = some (.slice A0_2 l0_2.length c0_2):=(blk_cell BK248.out 2).trans rfl;have hcz4_3 : w3.cell? ⟨gb248,3,none⟩ = some (.slice A0_3 l0_3.length c0_3):=(blk_cell BK248.out 3).trans rfl;have hcz4_4 : w3.cell? ⟨gb248,4,none⟩ = some (.int .u64 a0_4):=(blk_cell BK248.out 4).trans rfl;have hfz4_0:=blk_frozen BK248.out 0;have hfz4_1:=blk_frozen BK248.out 1;have hfz4_2:=blk_frozen BK248.out 2;have hfz4_3:=blk_frozen BK248.out 3;have hfz4_4:=blk_frozen BK248.out 4))
  go_ret
  exact ⟨by first | rfl | (simp [errW_none,errW_some] <;> rfl) | (simp [*,errW_none,errW_some] <;> rfl),by repeat (first | (with_reducible first | exact HB.out | apply below_alloc | apply pw_below_drewN | apply below_drew1 | refine below_set ?_ GE248.out) | exact HB.out)⟩
 ·rw [if_neg c2] at H
  have c2b0 : ((l0_2.length : Int) == 0) = false:=beq_eq_false_iff_ne.mpr c2
  have c2b1 : ((l0_2.length : Int) != 0) = true:=bne_iff_ne.mpr c2
  have c2b2 : ¬ (l0_2 = []):=fun h_=>c2 (by rw [h_];rfl)
  obtain rfl:=Option.some.inj H
  go_enter Tryz.func41,Tryz.ntmps41
  go_wp2_with (first | ((with_reducible refine gate_dst (N:=1) rfl ?_);(try (refine gate_guard (by rfl) ?_;dsimp only));refine zbx 1 #[.string a0_0,.int .i64 a0_1,.slice A0_2 l0_2.length c0_2,.slice A0_3 l0_3.length c0_3,.int .u64 a0_4] 26 ?_;intro gb248 hg w5 hbox hb;have n0_:=Aside0.mk (below_step zbe hb);have n1_:=Aside0.mk (hbox);have n2_:=Aside0.mk ((by rw [hg];exact (below_size zbe) : w.heap.size ≤ gb248));have n3_:=Aside0.mk ((by rw [hg];exact (below_size zbe) : w.heap.size ≤ gb248));clear HB;have HB:=n0_;have BK248:=n1_;have GW248:=n2_;have GE248:=n3_;clear n0_ n1_ n2_ n3_;clear hb hbox hg;have hcz6_0 : w5.cell? ⟨gb248,0,none⟩ = some (.string a0_0):=(blk_cell BK248.out 0).trans rfl;have hcz6_1 : w5.cell? ⟨gb248,1,none⟩ = some (.int .i64 a0_1):=(blk_cell BK248.out 1).trans rfl;have hcz6_2 : w5.cell? ⟨gb248,2,none⟩ = some (.slice A0_2 l0_2.length c0_2):=(blk_cell BK248.out 2).trans rfl;have hcz6_3 : w5.cell? ⟨gb248,3,none⟩ = some (.slice A0_3 l0_3.length c0_3):=(blk_cell BK248.out 3).trans rfl;have hcz6_4 : w5.cell? ⟨gb248,4,none⟩ = some (.int .u64 a0_4):=(blk_cell BK248.out 4).trans rfl;have hfz6_0:=blk_frozen BK248.out 0;have hfz6_1:=blk_frozen BK248.out 1;have hfz6_2:=blk_frozen BK248.out 2;have hfz6_3:=blk_frozen BK248.out 3;have hfz6_4:=blk_frozen BK248.out 4))
  go_ret
  exact ⟨by first | rfl | (simp [errW_none,errW_some] <;> rfl) | (simp [*,errW_none,errW_some] <;> rfl),by repeat (first | (with_reducible first | exact HB.out | apply below_alloc | apply pw_below_drewN | apply below_drew1 | refine below_set ?_ GE248.out) | exact HB.out)⟩

-- NOT PRINTED: function 14 (cellarerlaw09_awake)

end Go.Proofs.YtekooapbdgippaaGreatDoor.Q
namespace Go.Proofs.YtekooapbdgippaaGreatDoor.Q
open Go.RowKit Go.Proofs.YtekooapbdgippaaGreatDoorW.PrintWords Go.Proofs.YtekooapbdgippaaGreatDoorW.PrintLast Go.Proofs.YtekooapbdgippaaGreatDoorW.PrintMore
attribute [local go_sem] max2_int min2_int max_two min_two max_three min_three max_four min_four
set_option linter.unusedVariables false
set_option linter.unusedSimpArgs false

/-! ### cellarerref04_step: function 43 -/
/-! ### cellarerref04_Of: function 16 -/
-- NOT PRINTED: function 3 (cellarerlaw09_BucketParts)

/-! ### cellarerref06_Octets: function 53 -/
mutual
def cellarerref06_Octets.l0 : Nat → List (S56) → Int → Int → Option (Int)
 | 0,_,_,_=>none
 | k + 1,x0,x3,x4=>if x4 < (x0.length : Int) then (cellarerref06_Octets.l1 k x0 x3 x4 0) else (some x3)
def cellarerref06_Octets.l1 : Nat → List (S56) → Int → Int → Int → Option (Int)
 | 0,_,_,_,_=>none
 | k + 1,x0,x3,x4,x5=>if 0 ≤ x4 then (if x4 < (x0.length : Int) then (if x5 < (((rd_T56 x0 x4).f1).length : Int) then (if 0 ≤ x5 then (cellarerref06_Octets.l1 k x0 (wrap64 (x3 + (((rd_T47 ((rd_T56 x0 x4).f1) x5).f1).size : Int))) x4 (wrap64 (x5 + 1))) else (none)) else (cellarerref06_Octets.l0 k x0 x3 (wrap64 (x4 + 1)))) else (none)) else (none)
end
def cellarerref06_Octets.f (k : Nat) (l0 : List (S56)) : Option (Int):=cellarerref06_Octets.l0 k l0 0 0
theorem cellarerref06_Octets.mono_l : ∀ k,(∀ y0 y1 y2,LeO (cellarerref06_Octets.l0 k y0 y1 y2) (cellarerref06_Octets.l0 (k + 1) y0 y1 y2)) ∧ (∀ y0 y1 y2 y3,LeO (cellarerref06_Octets.l1 k y0 y1 y2 y3) (cellarerref06_Octets.l1 (k + 1) y0 y1 y2 y3))
 | 0=>⟨fun _ _ _ r h=>by simp [cellarerref06_Octets.l0] at h,fun _ _ _ _ r h=>by simp [cellarerref06_Octets.l1] at h⟩
 | k + 1=>by
  obtain ⟨ih0,ih1⟩:=cellarerref06_Octets.mono_l k
  refine ⟨?_,?_⟩
  ·intro y0 y1 y2
   unfold cellarerref06_Octets.l0
   repeat' first
   | (with_reducible exact ih0 _ _ _)
   | (with_reducible exact ih1 _ _ _ _)
   | (with_reducible exact LeO.refl _)
   | (with_reducible exact LeO.none _)
   | (with_reducible refine LeO.ite ?_ ?_)
   | (with_reducible refine LeO.bind ?_ (fun _=>?_))
   | exact ih0 _ _ _
   | exact ih1 _ _ _ _
   | exact LeO.none _
   | refine LeO.ite ?_ ?_
   | refine LeO.bind ?_ (fun _=>?_)
  ·intro y0 y1 y2 y3
   unfold cellarerref06_Octets.l1
   repeat' first
   | (with_reducible exact ih0 _ _ _)
   | (with_reducible exact ih1 _ _ _ _)
   | (with_reducible exact LeO.refl _)
   | (with_reducible exact LeO.none _)
   | (with_reducible refine LeO.ite ?_ ?_)
   | (with_reducible refine LeO.bind ?_ (fun _=>?_))
   | exact ih0 _ _ _
   | exact ih1 _ _ _ _
   | exact LeO.none _
   | refine LeO.ite ?_ ?_
   | refine LeO.bind ?_ (fun _=>?_)
theorem cellarerref06_Octets.mono : ∀ a0 k,LeO (cellarerref06_Octets.f k a0) (cellarerref06_Octets.f (k + 1) a0):=by
 intro a0 k
 obtain ⟨ih0,ih1⟩:=cellarerref06_Octets.mono_l k
 unfold cellarerref06_Octets.f
 repeat' first
   | (with_reducible exact ih0 _ _ _)
   | (with_reducible exact ih1 _ _ _ _)
   | (with_reducible exact LeO.refl _)
   | (with_reducible exact LeO.none _)
   | (with_reducible refine LeO.ite ?_ ?_)
   | (with_reducible refine LeO.bind ?_ (fun _=>?_))
   | exact ih0 _ _ _
   | exact ih1 _ _ _ _
   | exact LeO.none _
   | refine LeO.ite ?_ ?_
   | refine LeO.bind ?_ (fun _=>?_)
set_option maxHeartbeats 8000000 in
set_option maxRecDepth 100000 in
theorem cellarerref06_Octets.calls (k : Nat) (A0 : Option Addr) (c0 : Nat) (l0 : List (S56)) (r : Int) (w : World) (hr0 : Kd.C k56 w A0 l0.length l0) (hc0 : l0.length ≤ c0) (h : cellarerref06_Octets.f k l0 = some r) :
  Calls Tryz.prog 53 #[.slice A0 l0.length c0] w fun e w'=>e = .returned (.int .i64 r) ∧ Drawn0 w w':=by
 have HR0:=Aside0.mk hr0
 have HC0:=Aside0.mk hc0
 clear hr0 hc0
 have H : (cellarerref06_Octets.l0 k l0 0 0) = some r:=h
 clear h
 have H':=Aside0.mk H
 clear H
 go_enter Tryz.func53,Tryz.ntmps53
 go_wp2
 go_loopg [3,4] k (fun kq v3 v4 w'=>∃ (x3_1 : Int) (x4_1 : Int),v3 = .int .i64 x3_1 ∧ v4 = .int .i64 x4_1 ∧ Aside0 (cellarerref06_Octets.l0 kq l0 x3_1 x4_1 = some r) ∧ Aside0 (kq ≤ k) ∧ Drawn0 w w')
 case atStart=>exact ⟨(0),(0),(by first | rfl | (simp;done) | (simp [*];done)),(by first | rfl | (simp;done) | (simp [*];done)),H',⟨Nat.le_refl _⟩,by repeat (first | exact Drawn0.refl _ | apply Drawn0.step)⟩
 case round =>
  clear H'
  obtain ⟨x3_1,x4_1,rfl,rfl,HA,HK1,⟨m1,rfl⟩⟩:=hrel
  cases gk with
  | zero=>exact absurd HA.out (by simp [cellarerref06_Octets.l0])
  | succ k1 =>
   have H:=HA.out
   clear HA
   simp only [cellarerref06_Octets.l0] at H
   by_cases c2 : x4_1 < (l0.length : Int)
   ·rw [if_pos c2] at H
    have c2b0 : decide (x4_1 < (l0.length : Int)) = true:=decide_eq_true c2
    clear c2
    have H':=Aside0.mk H
    clear H
    go_wp2
    go_loopg [3,5] k1 (fun kq v3 v5 w'=>∃ (x3_2 : Int) (x5_2 : Int),v3 = .int .i64 x3_2 ∧ v5 = .int .i64 x5_2 ∧ Aside0 (cellarerref06_Octets.l1 kq l0 x3_2 x4_1 x5_2 = some r) ∧ Aside0 (kq ≤ k1) ∧ Drawn0 w w')
    case atStart=>exact ⟨(x3_1),(0),(by first | rfl | (simp;done) | (simp [*];done)),(by first | rfl | (simp;done) | (simp [*];done)),H',⟨Nat.le_refl _⟩,by repeat (first | exact Drawn0.refl _ | apply Drawn0.step)⟩
    case round =>
     clear H'
     try clear c2
     try clear c2b0
     try clear p2
     obtain ⟨x3_2,x5_2,rfl,rfl,HA,HK2,⟨m2,rfl⟩⟩:=hrel
     cases gk with
     | zero=>exact absurd HA.out (by simp [cellarerref06_Octets.l1])
     | succ k2 =>
      have H:=HA.out
      clear HA
      simp only [cellarerref06_Octets.l1] at H
      by_cases c3 : 0 ≤ x4_1
      ·rw [if_pos c3] at H
       have c3b0 : decide (0 ≤ x4_1) = true:=decide_eq_true c3
       clear c3
       by_cases c4 : x4_1 < (l0.length : Int)
       ·rw [if_pos c4] at H
        have c4b0 : decide (x4_1 < (l0.length : Int)) = true:=decide_eq_true c4
        clear c4
        by_cases c5 : x5_2 < (((rd_T56 l0 x4_1).f1).length : Int)
        ·rw [if_pos c5] at H
         have c5b0 : decide (x5_2 < (((rd_T56 l0 x4_1).f1).length : Int)) = true:=decide_eq_true c5
         clear c5
         by_cases c6 : 0 ≤ x5_2
         ·rw [if_pos c6] at H
          have c6b0 : decide (0 ≤ x5_2) = true:=decide_eq_true c6
          clear c6
          have H':=Aside0.mk H
          clear H
          have p261 : 0 ≤ (x4_1 : Int):=of_decide_eq_true (by first | (with_reducible assumption) | assumption)
          have q261 : x4_1 < (l0.length : Int):=of_decide_eq_true (by first | (with_reducible assumption) | assumption)
          obtain ⟨ad261,A261_1,c261_1,e261,hx261_0,hx261_1,hl261_1,hi261_1⟩:=at_T56 HR0.out x4_1 p261 q261
          cases e261
          have HR261_1:=Aside0.mk hi261_1
          have HC261_1:=Aside0.mk hl261_1
          clear hi261_1 hl261_1
          replace p261:=eq_true p261
          replace q261:=eq_true q261
          have p262 : 0 ≤ (x4_1 : Int):=of_decide_eq_true (by first | (with_reducible assumption) | assumption)
          have q262 : x4_1 < (l0.length : Int):=of_decide_eq_true (by first | (with_reducible assumption) | assumption)
          obtain ⟨ad262,A262_1,c262_1,e262,hx262_0,hx262_1,hl262_1,hi262_1⟩:=at_T56 HR0.out x4_1 p262 q262
          obtain rfl : ad261 = ad262:=(by injection e262)
          have HR262_1:=Aside0.mk hi262_1
          have HC262_1:=Aside0.mk hl262_1
          clear hi262_1 hl262_1
          replace p262:=eq_true p262
          replace q262:=eq_true q262
          have ea_:=Option.some.inj (hx261_1.symm.trans hx262_1)
          injection ea_ with ea_ en_ ec_
          subst ea_
          subst ec_
          clear en_
          have p263 : 0 ≤ (x5_2 : Int):=of_decide_eq_true (by first | (with_reducible assumption) | assumption)
          have q263 : x5_2 < (((rd_T56 l0 x4_1).f1).length : Int):=of_decide_eq_true (by first | (with_reducible assumption) | assumption)
          obtain ⟨ad263,e263,hx263_0,hx263_1,hx263_2,hx263_3⟩:=at_T47 HR262_1.out x5_2 p263 q263
          cases e263
          replace p263:=eq_true p263
          replace q263:=eq_true q263
          go_wp2
          go_roundg k2
          case measure=>have:=HK1.out;have:=HK2.out;omega
          case rel=>exact ⟨(wrap64 (x3_2 + (((rd_T47 ((rd_T56 l0 x4_1).f1) x5_2).f1).size : Int))),(wrap64 (x5_2 + 1)),(by first | rfl | (simp;done) | (simp [*];done)),(by first | rfl | (simp;done) | (simp [*];done)),H',⟨by have:=HK1.out;have:=HK2.out;omega⟩,by repeat (first | exact Drawn0.refl _ | apply Drawn0.step)⟩
         ·rw [if_neg c6] at H
          exact absurd H (by simp)
        ·rw [if_neg c5] at H
         have c5b0 : decide (x5_2 < (((rd_T56 l0 x4_1).f1).length : Int)) = false:=decide_eq_false c5
         clear c5
         have H':=Aside0.mk H
         clear H
         have p261 : 0 ≤ (x4_1 : Int):=of_decide_eq_true (by first | (with_reducible assumption) | assumption)
         have q261 : x4_1 < (l0.length : Int):=of_decide_eq_true (by first | (with_reducible assumption) | assumption)
         obtain ⟨ad261,A261_1,c261_1,e261,hx261_0,hx261_1,hl261_1,hi261_1⟩:=at_T56 HR0.out x4_1 p261 q261
         cases e261
         have HR261_1:=Aside0.mk hi261_1
         have HC261_1:=Aside0.mk hl261_1
         clear hi261_1 hl261_1
         replace p261:=eq_true p261
         replace q261:=eq_true q261
         go_wp2
         go_roundg k2
         case measure=>have:=HK1.out;have:=HK2.out;omega
         case rel=>exact ⟨(x3_2),(wrap64 (x4_1 + 1)),(by first | rfl | (simp;done) | (simp [*];done)),(by first | rfl | (simp;done) | (simp [*];done)),H',⟨by have:=HK1.out;have:=HK2.out;omega⟩,by repeat (first | exact Drawn0.refl _ | apply Drawn0.step)⟩
       ·rw [if_neg c4] at H
        exact absurd H (by simp)
      ·rw [if_neg c3] at H
       exact absurd H (by simp)
   ·rw [if_neg c2] at H
    have c2b0 : decide (x4_1 < (l0.length : Int)) = false:=decide_eq_false c2
    clear c2
    obtain rfl:=Option.some.inj H
    go_wp2
    go_ret
    exact ⟨by first | rfl | (simp;done) | (simp [*];done),by repeat (first | exact Drawn0.refl _ | apply Drawn0.step)⟩

/-! ### cellarerref08_Octets: function 54 -/
mutual
def cellarerref08_Octets.l0 : Nat → List (S101) → Int → Int → Option (Int)
 | 0,_,_,_=>none
 | k + 1,x0,x3,x4=>if x4 < (x0.length : Int) then (cellarerref08_Octets.l1 k x0 x3 x4 0) else (some x3)
def cellarerref08_Octets.l1 : Nat → List (S101) → Int → Int → Int → Option (Int)
 | 0,_,_,_,_=>none
 | k + 1,x0,x3,x4,x5=>if 0 ≤ x4 then (if x4 < (x0.length : Int) then (if x5 < (((rd_T101 x0 x4).f2).length : Int) then (if 0 ≤ x5 then (cellarerref08_Octets.l1 k x0 (wrap64 (x3 + (((rd_T40 ((rd_T101 x0 x4).f2) x5).f1).size : Int))) x4 (wrap64 (x5 + 1))) else (none)) else (cellarerref08_Octets.l0 k x0 x3 (wrap64 (x4 + 1)))) else (none)) else (none)
end
def cellarerref08_Octets.f (k : Nat) (l0 : List (S101)) : Option (Int):=cellarerref08_Octets.l0 k l0 0 0
theorem cellarerref08_Octets.mono_l : ∀ k,(∀ y0 y1 y2,LeO (cellarerref08_Octets.l0 k y0 y1 y2) (cellarerref08_Octets.l0 (k + 1) y0 y1 y2)) ∧ (∀ y0 y1 y2 y3,LeO (cellarerref08_Octets.l1 k y0 y1 y2 y3) (cellarerref08_Octets.l1 (k + 1) y0 y1 y2 y3))
 | 0=>⟨fun _ _ _ r h=>by simp [cellarerref08_Octets.l0] at h,fun _ _ _ _ r h=>by simp [cellarerref08_Octets.l1] at h⟩
 | k + 1=>by
  obtain ⟨ih0,ih1⟩:=cellarerref08_Octets.mono_l k
  refine ⟨?_,?_⟩
  ·intro y0 y1 y2
   unfold cellarerref08_Octets.l0
   repeat' first
   | (with_reducible exact ih0 _ _ _)
   | (with_reducible exact ih1 _ _ _ _)
   | (with_reducible exact LeO.refl _)
   | (with_reducible exact LeO.none _)
   | (with_reducible refine LeO.ite ?_ ?_)
   | (with_reducible refine LeO.bind ?_ (fun _=>?_))
   | exact ih0 _ _ _
   | exact ih1 _ _ _ _
   | exact LeO.none _
   | refine LeO.ite ?_ ?_
   | refine LeO.bind ?_ (fun _=>?_)
  ·intro y0 y1 y2 y3
   unfold cellarerref08_Octets.l1
   repeat' first
   | (with_reducible exact ih0 _ _ _)
   | (with_reducible exact ih1 _ _ _ _)
   | (with_reducible exact LeO.refl _)
   | (with_reducible exact LeO.none _)
   | (with_reducible refine LeO.ite ?_ ?_)
   | (with_reducible refine LeO.bind ?_ (fun _=>?_))
   | exact ih0 _ _ _
   | exact ih1 _ _ _ _
   | exact LeO.none _
   | refine LeO.ite ?_ ?_
   | refine LeO.bind ?_ (fun _=>?_)
theorem cellarerref08_Octets.mono : ∀ a0 k,LeO (cellarerref08_Octets.f k a0) (cellarerref08_Octets.f (k + 1) a0):=by
 intro a0 k
 obtain ⟨ih0,ih1⟩:=cellarerref08_Octets.mono_l k
 unfold cellarerref08_Octets.f
 repeat' first
   | (with_reducible exact ih0 _ _ _)
   | (with_reducible exact ih1 _ _ _ _)
   | (with_reducible exact LeO.refl _)
   | (with_reducible exact LeO.none _)
   | (with_reducible refine LeO.ite ?_ ?_)
   | (with_reducible refine LeO.bind ?_ (fun _=>?_))
   | exact ih0 _ _ _
   | exact ih1 _ _ _ _
   | exact LeO.none _
   | refine LeO.ite ?_ ?_
   | refine LeO.bind ?_ (fun _=>?_)
set_option maxHeartbeats 8000000 in
set_option maxRecDepth 100000 in
theorem cellarerref08_Octets.calls (k : Nat) (A0 : Option Addr) (c0 : Nat) (l0 : List (S101)) (r : Int) (w : World) (hr0 : Kd.C k101 w A0 l0.length l0) (hc0 : l0.length ≤ c0) (h : cellarerref08_Octets.f k l0 = some r) :
  Calls Tryz.prog 54 #[.slice A0 l0.length c0] w fun e w'=>e = .returned (.int .i64 r) ∧ Drawn0 w w':=by
 have HR0:=Aside0.mk hr0
 have HC0:=Aside0.mk hc0
 clear hr0 hc0
 have H : (cellarerref08_Octets.l0 k l0 0 0) = some r:=h
 clear h
 have H':=Aside0.mk H
 clear H
 go_enter Tryz.func54,Tryz.ntmps54
 go_wp2
 go_loopg [3,4] k (fun kq v3 v4 w'=>∃ (x3_1 : Int) (x4_1 : Int),v3 = .int .i64 x3_1 ∧ v4 = .int .i64 x4_1 ∧ Aside0 (cellarerref08_Octets.l0 kq l0 x3_1 x4_1 = some r) ∧ Aside0 (kq ≤ k) ∧ Drawn0 w w')
 case atStart=>exact ⟨(0),(0),(by first | rfl | (simp;done) | (simp [*];done)),(by first | rfl | (simp;done) | (simp [*];done)),H',⟨Nat.le_refl _⟩,by repeat (first | exact Drawn0.refl _ | apply Drawn0.step)⟩
 case round =>
  clear H'
  obtain ⟨x3_1,x4_1,rfl,rfl,HA,HK1,⟨m1,rfl⟩⟩:=hrel
  cases gk with
  | zero=>exact absurd HA.out (by simp [cellarerref08_Octets.l0])
  | succ k1 =>
   have H:=HA.out
   clear HA
   simp only [cellarerref08_Octets.l0] at H
   by_cases c2 : x4_1 < (l0.length : Int)
   ·rw [if_pos c2] at H
    have c2b0 : decide (x4_1 < (l0.length : Int)) = true:=decide_eq_true c2
    clear c2
    have H':=Aside0.mk H
    clear H
    go_wp2
    go_loopg [3,5] k1 (fun kq v3 v5 w'=>∃ (x3_2 : Int) (x5_2 : Int),v3 = .int .i64 x3_2 ∧ v5 = .int .i64 x5_2 ∧ Aside0 (cellarerref08_Octets.l1 kq l0 x3_2 x4_1 x5_2 = some r) ∧ Aside0 (kq ≤ k1) ∧ Drawn0 w w')
    case atStart=>exact ⟨(x3_1),(0),(by first | rfl | (simp;done) | (simp [*];done)),(by first | rfl | (simp;done) | (simp [*];done)),H',⟨Nat.le_refl _⟩,by repeat (first | exact Drawn0.refl _ | apply Drawn0.step)⟩
    case round =>
     clear H'
     try clear c2
     try clear c2b0
     try clear p2
     obtain ⟨x3_2,x5_2,rfl,rfl,HA,HK2,⟨m2,rfl⟩⟩:=hrel
     cases gk with
     | zero=>exact absurd HA.out (by simp [cellarerref08_Octets.l1])
     | succ k2 =>
      have H:=HA.out
      clear HA
      simp only [cellarerref08_Octets.l1] at H
      by_cases c3 : 0 ≤ x4_1
      ·rw [if_pos c3] at H
       have c3b0 : decide (0 ≤ x4_1) = true:=decide_eq_true c3
       clear c3
       by_cases c4 : x4_1 < (l0.length : Int)
       ·rw [if_pos c4] at H
        have c4b0 : decide (x4_1 < (l0.length : Int)) = true:=decide_eq_true c4
        clear c4
        by_cases c5 : x5_2 < (((rd_T101 l0 x4_1).f2).length : Int)
        ·rw [if_pos c5] at H
         have c5b0 : decide (x5_2 < (((rd_T101 l0 x4_1).f2).length : Int)) = true:=decide_eq_true c5
         clear c5
         by_cases c6 : 0 ≤ x5_2
         ·rw [if_pos c6] at H
          have c6b0 : decide (0 ≤ x5_2) = true:=decide_eq_true c6
          clear c6
          have H':=Aside0.mk H
          clear H
          have p264 : 0 ≤ (x4_1 : Int):=of_decide_eq_true (by first | (with_reducible assumption) | assumption)
          have q264 : x4_1 < (l0.length : Int):=of_decide_eq_true (by first | (with_reducible assumption) | assumption)
          obtain ⟨ad264,A264_2,c264_2,e264,hx264_0,hx264_1,hx264_2,hl264_2,hi264_2⟩:=at_T101 HR0.out x4_1 p264 q264
          cases e264
          have HR264_2:=Aside0.mk hi264_2
          have HC264_2:=Aside0.mk hl264_2
          clear hi264_2 hl264_2
          replace p264:=eq_true p264
          replace q264:=eq_true q264
          have p265 : 0 ≤ (x4_1 : Int):=of_decide_eq_true (by first | (with_reducible assumption) | assumption)
          have q265 : x4_1 < (l0.length : Int):=of_decide_eq_true (by first | (with_reducible assumption) | assumption)
          obtain ⟨ad265,A265_2,c265_2,e265,hx265_0,hx265_1,hx265_2,hl265_2,hi265_2⟩:=at_T101 HR0.out x4_1 p265 q265
          obtain rfl : ad264 = ad265:=(by injection e265)
          have HR265_2:=Aside0.mk hi265_2
          have HC265_2:=Aside0.mk hl265_2
          clear hi265_2 hl265_2
          replace p265:=eq_true p265
          replace q265:=eq_true q265
          have ea_:=Option.some.inj (hx264_2.symm.trans hx265_2)
          injection ea_ with ea_ en_ ec_
          subst ea_
          subst ec_
          clear en_
          have p266 : 0 ≤ (x5_2 : Int):=of_decide_eq_true (by first | (with_reducible assumption) | assumption)
          have q266 : x5_2 < (((rd_T101 l0 x4_1).f2).length : Int):=of_decide_eq_true (by first | (with_reducible assumption) | assumption)
          obtain ⟨ad266,e266,hx266_0,hx266_1⟩:=at_T40 HR265_2.out x5_2 p266 q266
          cases e266
          replace p266:=eq_true p266
          replace q266:=eq_true q266
          go_wp2
          go_roundg k2
          case measure=>have:=HK1.out;have:=HK2.out;omega
          case rel=>exact ⟨(wrap64 (x3_2 + (((rd_T40 ((rd_T101 l0 x4_1).f2) x5_2).f1).size : Int))),(wrap64 (x5_2 + 1)),(by first | rfl | (simp;done) | (simp [*];done)),(by first | rfl | (simp;done) | (simp [*];done)),H',⟨by have:=HK1.out;have:=HK2.out;omega⟩,by repeat (first | exact Drawn0.refl _ | apply Drawn0.step)⟩
         ·rw [if_neg c6] at H
          exact absurd H (by simp)
        ·rw [if_neg c5] at H
         have c5b0 : decide (x5_2 < (((rd_T101 l0 x4_1).f2).length : Int)) = false:=decide_eq_false c5
         clear c5
         have H':=Aside0.mk H
         clear H
         have p264 : 0 ≤ (x4_1 : Int):=of_decide_eq_true (by first | (with_reducible assumption) | assumption)
         have q264 : x4_1 < (l0.length : Int):=of_decide_eq_true (by first | (with_reducible assumption) | assumption)
         obtain ⟨ad264,A264_2,c264_2,e264,hx264_0,hx264_1,hx264_2,hl264_2,hi264_2⟩:=at_T101 HR0.out x4_1 p264 q264
         cases e264
         have HR264_2:=Aside0.mk hi264_2
         have HC264_2:=Aside0.mk hl264_2
         clear hi264_2 hl264_2
         replace p264:=eq_true p264
         replace q264:=eq_true q264
         go_wp2
         go_roundg k2
         case measure=>have:=HK1.out;have:=HK2.out;omega
         case rel=>exact ⟨(x3_2),(wrap64 (x4_1 + 1)),(by first | rfl | (simp;done) | (simp [*];done)),(by first | rfl | (simp;done) | (simp [*];done)),H',⟨by have:=HK1.out;have:=HK2.out;omega⟩,by repeat (first | exact Drawn0.refl _ | apply Drawn0.step)⟩
       ·rw [if_neg c4] at H
        exact absurd H (by simp)
      ·rw [if_neg c3] at H
       exact absurd H (by simp)
   ·rw [if_neg c2] at H
    have c2b0 : decide (x4_1 < (l0.length : Int)) = false:=decide_eq_false c2
    clear c2
    obtain rfl:=Option.some.inj H
    go_wp2
    go_ret
    exact ⟨by first | rfl | (simp;done) | (simp [*];done),by repeat (first | exact Drawn0.refl _ | apply Drawn0.step)⟩

/-! ### cellarerref09_Octets: function 20 -/
def cellarerref09_Octets.f (k : Nat) (a0_0 : ByteArray) (a0_1 : Int) (l0_2 : List (S56)) (l0_3 : List (S101)) (a0_4 : Int) : Option (Int):=(cellarerref06_Octets.f k l0_2).bind fun t268=>((cellarerref08_Octets.f k l0_3).bind fun t269=>(some (wrap64 (t268 + t269))))
set_option maxHeartbeats 8000000 in
set_option maxRecDepth 100000 in
theorem cellarerref09_Octets.calls (k : Nat) (a0_0 : ByteArray) (a0_1 : Int) (A0_2 : Option Addr) (c0_2 : Nat) (l0_2 : List (S56)) (A0_3 : Option Addr) (c0_3 : Nat) (l0_3 : List (S101)) (a0_4 : Int) (r : Int) (w : World) (hr0_2 : Kd.C k56 w A0_2 l0_2.length l0_2) (hc0_2 : l0_2.length ≤ c0_2) (hr0_3 : Kd.C k101 w A0_3 l0_3.length l0_3) (hc0_3 : l0_3.length ≤ c0_3) (h : cellarerref09_Octets.f k a0_0 a0_1 l0_2 l0_3 a0_4 = some r) :
  Calls Tryz.prog 20 #[.agg #[.string a0_0,.int .i64 a0_1,.slice A0_2 l0_2.length c0_2,.slice A0_3 l0_3.length c0_3,.int .u64 a0_4]] w fun e w'=>e = .returned (.int .i64 r) ∧ Below w.heap.size w w':=by
 have hu26:=Tryz.underlying26
 have HR0_2:=Aside0.mk hr0_2
 have HC0_2:=Aside0.mk hc0_2
 clear hr0_2 hc0_2
 have HR0_3:=Aside0.mk hr0_3
 have HC0_3:=Aside0.mk hc0_3
 clear hr0_3 hc0_3
 have HB:=Aside0.mk (Below.refl w.heap.size w)
 have H : ((cellarerref06_Octets.f k l0_2).bind fun t268=>((cellarerref08_Octets.f k l0_3).bind fun t269=>(some (wrap64 (t268 + t269))))) = some r:=h
 clear h
 replace H:=Option.bind_eq_some_iff.mp H
 obtain ⟨t268,A20,H⟩:=H
 replace H : ((cellarerref08_Octets.f k l0_3).bind fun t269=>(some (wrap64 (t268 + t269)))) = some r:=H
 have A2:=Aside0.mk A20
 clear A20
 replace H:=Option.bind_eq_some_iff.mp H
 obtain ⟨t269,A30,H⟩:=H
 replace H : (some (wrap64 (t268 + t269))) = some r:=H
 have A3:=Aside0.mk A30
 clear A30
 obtain rfl:=Option.some.inj H
 go_enter Tryz.func20,Tryz.ntmps20
 go_wp2_with (first | ((with_reducible refine gate_dst (N:=1) rfl ?_);refine zbx 1 #[.string a0_0,.int .i64 a0_1,.slice A0_2 l0_2.length c0_2,.slice A0_3 l0_3.length c0_3,.int .u64 a0_4] 26 ?_;intro gb267 hg w4 hbox hb;have n0_:=Aside0.mk (below_step zbe hb);have n1_:=Aside0.mk (hbox);have n2_:=Aside0.mk ((by rw [hg];exact (below_size zbe) : w.heap.size ≤ gb267));have n3_:=Aside0.mk ((by rw [hg];exact (below_size zbe) : w.heap.size ≤ gb267));clear HB;have HB:=n0_;have BK267:=n1_;have GW267:=n2_;have GE267:=n3_;clear n0_ n1_ n2_ n3_;clear hb hbox hg;have hcz5_0 : w4.cell? ⟨gb267,0,none⟩ = some (.string a0_0):=(blk_cell BK267.out 0).trans rfl;have hcz5_1 : w4.cell? ⟨gb267,1,none⟩ = some (.int .i64 a0_1):=(blk_cell BK267.out 1).trans rfl;have hcz5_2 : w4.cell? ⟨gb267,2,none⟩ = some (.slice A0_2 l0_2.length c0_2):=(blk_cell BK267.out 2).trans rfl;have hcz5_3 : w4.cell? ⟨gb267,3,none⟩ = some (.slice A0_3 l0_3.length c0_3):=(blk_cell BK267.out 3).trans rfl;have hcz5_4 : w4.cell? ⟨gb267,4,none⟩ = some (.int .u64 a0_4):=(blk_cell BK267.out 4).trans rfl;have hfz5_0:=blk_frozen BK267.out 0;have hfz5_1:=blk_frozen BK267.out 1;have hfz5_2:=blk_frozen BK267.out 2;have hfz5_3:=blk_frozen BK267.out 3;have hfz5_4:=blk_frozen BK267.out 4) | (go_at_call 53;(with_reducible refine (cellarerref06_Octets.calls k _ _ l0_2 t268 _ ?side1 ?side2 A2.out).mono ?_);(case side1=>repeat (first | exact (Kd.C_below HR0_2.out HB.out) | (with_reducible refine Kd.C_alloc ?_ _) | (with_reducible refine Kd.C_drewN ?_ _) | (with_reducible refine Kd.C_drew ?_)));(case side2=>exact HC0_2.out);rintro e w' ⟨rfl,⟨nd,rfl⟩⟩;(try first | exact ⟨rfl,_,World.drewN_drewN _ _ _⟩ | exact ⟨rfl,_,Eq.trans (World.drewN_drewN _ _ _) (congrArg (World.drewN _) (Nat.add_assoc _ _ _))⟩)) | (go_at_call 54;(with_reducible refine (cellarerref08_Octets.calls k _ _ l0_3 t269 _ ?side1 ?side2 A3.out).mono ?_);(case side1=>repeat (first | exact (Kd.C_below HR0_3.out zbe) | (with_reducible refine Kd.C_alloc ?_ _) | (with_reducible refine Kd.C_drewN ?_ _) | (with_reducible refine Kd.C_drew ?_)));(case side2=>exact HC0_3.out);rintro e w' ⟨rfl,⟨nd,rfl⟩⟩;(try first | exact ⟨rfl,_,World.drewN_drewN _ _ _⟩ | exact ⟨rfl,_,Eq.trans (World.drewN_drewN _ _ _) (congrArg (World.drewN _) (Nat.add_assoc _ _ _))⟩)))
 repeat (go_quiet (first | ((with_reducible refine gate_dst (N:=1) rfl ?_);refine zbx 1 #[.string a0_0,.int .i64 a0_1,.slice A0_2 l0_2.length c0_2,.slice A0_3 l0_3.length c0_3,.int .u64 a0_4] 26 ?_;intro gb267 hg w4 hbox hb;have n0_:=Aside0.mk (below_step zbe hb);have n1_:=Aside0.mk (hbox);have n2_:=Aside0.mk ((by rw [hg];exact (below_size zbe) : w.heap.size ≤ gb267));have n3_:=Aside0.mk ((by rw [hg];exact (below_size zbe) : w.heap.size ≤ gb267));clear HB;have HB:=n0_;have BK267:=n1_;have GW267:=n2_;have GE267:=n3_;clear n0_ n1_ n2_ n3_;clear hb hbox hg;have hcz5_0 : w4.cell? ⟨gb267,0,none⟩ = some (.string a0_0):=(blk_cell BK267.out 0).trans rfl;have hcz5_1 : w4.cell? ⟨gb267,1,none⟩ = some (.int .i64 a0_1):=(blk_cell BK267.out 1).trans rfl;have hcz5_2 : w4.cell? ⟨gb267,2,none⟩ = some (.slice A0_2 l0_2.length c0_2):=(blk_cell BK267.out 2).trans rfl;have hcz5_3 : w4.cell? ⟨gb267,3,none⟩ = some (.slice A0_3 l0_3.length c0_3):=(blk_cell BK267.out 3).trans rfl;have hcz5_4 : w4.cell? ⟨gb267,4,none⟩ = some (.int .u64 a0_4):=(blk_cell BK267.out 4).trans rfl;have hfz5_0:=blk_frozen BK267.out 0;have hfz5_1:=blk_frozen BK267.out 1;have hfz5_2:=blk_frozen BK267.out 2;have hfz5_3:=blk_frozen BK267.out 3;have hfz5_4:=blk_frozen BK267.out 4) | (go_at_call 53;(with_reducible refine (cellarerref06_Octets.calls k _ _ l0_2 t268 _ ?side1 ?side2 A2.out).mono ?_);(case side1=>repeat (first | exact (Kd.C_below HR0_2.out HB.out) | (with_reducible refine Kd.C_alloc ?_ _) | (with_reducible refine Kd.C_drewN ?_ _) | (with_reducible refine Kd.C_drew ?_)));(case side2=>exact HC0_2.out);rintro e w' ⟨rfl,⟨nd,rfl⟩⟩;(try first | exact ⟨rfl,_,World.drewN_drewN _ _ _⟩ | exact ⟨rfl,_,Eq.trans (World.drewN_drewN _ _ _) (congrArg (World.drewN _) (Nat.add_assoc _ _ _))⟩)) | (go_at_call 54;(with_reducible refine (cellarerref08_Octets.calls k _ _ l0_3 t269 _ ?side1 ?side2 A3.out).mono ?_);(case side1=>repeat (first | exact (Kd.C_below HR0_3.out zbe) | (with_reducible refine Kd.C_alloc ?_ _) | (with_reducible refine Kd.C_drewN ?_ _) | (with_reducible refine Kd.C_drew ?_)));(case side2=>exact HC0_3.out);rintro e w' ⟨rfl,⟨nd,rfl⟩⟩;(try first | exact ⟨rfl,_,World.drewN_drewN _ _ _⟩ | exact ⟨rfl,_,Eq.trans (World.drewN_drewN _ _ _) (congrArg (World.drewN _) (Nat.add_assoc _ _ _))⟩)));try go_wp2_with (first | ((with_reducible refine gate_dst (N:=1) rfl ?_);refine zbx 1 #[.string a0_0,.int .i64 a0_1,.slice A0_2 l0_2.length c0_2,.slice A0_3 l0_3.length c0_3,.int .u64 a0_4] 26 ?_;intro gb267 hg w4 hbox hb;have n0_:=Aside0.mk (below_step zbe hb);have n1_:=Aside0.mk (hbox);have n2_:=Aside0.mk ((by rw [hg];exact (below_size zbe) : w.heap.size ≤ gb267));have n3_:=Aside0.mk ((by rw [hg];exact (below_size zbe) : w.heap.size ≤ gb267));clear HB;have HB:=n0_;have BK267:=n1_;have GW267:=n2_;have GE267:=n3_;clear n0_ n1_ n2_ n3_;clear hb hbox hg;have hcz5_0 : w4.cell? ⟨gb267,0,none⟩ = some (.string a0_0):=(blk_cell BK267.out 0).trans rfl;have hcz5_1 : w4.cell? ⟨gb267,1,none⟩ = some (.int .i64 a0_1):=(blk_cell BK267.out 1).trans rfl;have hcz5_2 : w4.cell? ⟨gb267,2,none⟩ = some (.slice A0_2 l0_2.length c0_2):=(blk_cell BK267.out 2).trans rfl;have hcz5_3 : w4.cell? ⟨gb267,3,none⟩ = some (.slice A0_3 l0_3.length c0_3):=(blk_cell BK267.out 3).trans rfl;have hcz5_4 : w4.cell? ⟨gb267,4,none⟩ = some (.int .u64 a0_4):=(blk_cell BK267.out 4).trans rfl;have hfz5_0:=blk_frozen BK267.out 0;have hfz5_1:=blk_frozen BK267.out 1;have hfz5_2:=blk_frozen BK267.out 2;have hfz5_3:=blk_frozen BK267.out 3;have hfz5_4:=blk_frozen BK267.out 4) | (go_at_call 53;(with_reducible refine (cellarerref06_Octets.calls k _ _ l0_2 t268 _ ?side1 ?side2 A2.out).mono ?_);(case side1=>repeat (first | exact (Kd.C_below HR0_2.out HB.out) | (with_reducible refine Kd.C_alloc ?_ _) | (with_reducible refine Kd.C_drewN ?_ _) | (with_reducible refine Kd.C_drew ?_)));(case side2=>exact HC0_2.out);rintro e w' ⟨rfl,⟨nd,rfl⟩⟩;(try first | exact ⟨rfl,_,World.drewN_drewN _ _ _⟩ | exact ⟨rfl,_,Eq.trans (World.drewN_drewN _ _ _) (congrArg (World.drewN _) (Nat.add_assoc _ _ _))⟩)) | (go_at_call 54;(with_reducible refine (cellarerref08_Octets.calls k _ _ l0_3 t269 _ ?side1 ?side2 A3.out).mono ?_);(case side1=>repeat (first | exact (Kd.C_below HR0_3.out zbe) | (with_reducible refine Kd.C_alloc ?_ _) | (with_reducible refine Kd.C_drewN ?_ _) | (with_reducible refine Kd.C_drew ?_)));(case side2=>exact HC0_3.out);rintro e w' ⟨rfl,⟨nd,rfl⟩⟩;(try first | exact ⟨rfl,_,World.drewN_drewN _ _ _⟩ | exact ⟨rfl,_,Eq.trans (World.drewN_drewN _ _ _) (congrArg (World.drewN _) (Nat.add_assoc _ _ _))⟩))))
 go_ret
 exact ⟨by first | rfl | (simp [errW_none,errW_some] <;> rfl) | (simp [*,errW_none,errW_some] <;> rfl),by repeat (first | (with_reducible first | exact HB.out | apply below_alloc | apply pw_below_drewN | apply below_drew1 | refine below_set ?_ GE267.out) | exact HB.out)⟩

-- NOT PRINTED: function 55 (cellarerref01_Bucket)

-- NOT PRINTED: function 152 (cellarerref01_keys)

-- NOT PRINTED: function 111 (cellarerref01_Key)

-- NOT PRINTED: function 153 (cellarerref05_May)

-- NOT PRINTED: function 112 (cellarerref05_Check)

-- NOT PRINTED: function 56 (cellarerref06_May)

-- NOT PRINTED: function 154 (cellarerref08_part)

-- NOT PRINTED: function 155 (cellarerref08_number)

-- NOT PRINTED: function 113 (cellarerref08_One)

-- NOT PRINTED: function 57 (cellarerref08_May)

-- NOT PRINTED: function 21 (cellarerref09_May)

-- NOT PRINTED: function 4 (cellarerlaw09_BucketRoom)

-- NOT PRINTED: function 22 (cellarerlaw09_Cut)

-- NOT PRINTED: function 58 (bucket_Abort)

-- NOT PRINTED: function 23 (cellarerlaw09_Do)

-- NOT PRINTED: function 114 (cellarerref06_Get)

-- NOT PRINTED: function 156 (cellarerref05_without)

-- NOT PRINTED: function 115 (cellarerref05_Put)

-- NOT PRINTED: function 118 (cellarerref05_Drop)

-- NOT PRINTED: function 116 (cellarerref05_Delete)

-- NOT PRINTED: function 157 (cellarerref06_Put)

-- NOT PRINTED: function 117 (cellarerref09_with)

-- NOT PRINTED: function 59 (cellarerref09_Laid)

-- NOT PRINTED: function 60 (cellarerref09_Drop)

-- NOT PRINTED: function 61 (cellarerref09_Turn)

-- NOT PRINTED: function 119 (cellarerref08_Begin)

-- NOT PRINTED: function 62 (cellarerref09_Begin)

-- NOT PRINTED: function 122 (cellarerref08_Find)

-- NOT PRINTED: function 120 (cellarerref08_Lay)

-- NOT PRINTED: function 63 (cellarerref09_Lay)

-- NOT PRINTED: function 121 (cellarerref08_Abort)

-- NOT PRINTED: function 64 (cellarerref09_Abort)

-- NOT PRINTED: function 171 (cellarerref04_Text)

-- NOT PRINTED: function 172 (cellarerref04_Count)

-- NOT PRINTED: function 158 (cellarerref04_Many)

-- NOT PRINTED: function 123 (cellarerref08_Whole)

-- NOT PRINTED: function 65 (cellarerref09_Whole)

-- NOT PRINTED: function 24 (cellarerlaw09_Own)

-- NOT PRINTED: function 5 (cellarerlaw09_BucketDoes)

-- NOT PRINTED: function 6 (cellarerlaw09_BucketStays)

-- NOT PRINTED: function 7 (cellarerlaw09_BucketOff)

-- NOT PRINTED: function 8 (cellarerlaw09_BucketTurns)

-- NOT PRINTED: function 159 (api_Version_159)

-- NOT PRINTED: function 130 (chain_versions_find)

-- NOT PRINTED: function 74 (chain_Find)

-- NOT PRINTED: function 29 (bucket_Find)

-- NOT PRINTED: function 9 (cellarerlaw09_BucketKeeps)

end Go.Proofs.YtekooapbdgippaaGreatDoor.Q
namespace Go.Proofs.YtekooapbdgippaaGreatDoor.Q
open Go.RowKit Go.Proofs.YtekooapbdgippaaGreatDoorW.PrintWords Go.Proofs.YtekooapbdgippaaGreatDoorW.PrintLast Go.Proofs.YtekooapbdgippaaGreatDoorW.PrintMore
open List renaming getElem_toArray → zA, getElem_cons_zero → zB, getElem_cons_succ → zC, setIfInBounds_toArray → zD, set_cons_zero → zE, set_cons_succ → zF
set_option linter.unusedVariables false
set_option linter.unusedSimpArgs false
set_option maxHeartbeats 8000000
set_option maxRecDepth 100000
theorem zh {p : Prop} (h : p) : Hid p := h
theorem zb {w : World} {g : Nat} {t : TypeId} {cs : Array Value} (h : w.heap[g]? = some (.cells cs t (0, 0))) (i : Nat) (v : Value) (e : cs[i]? = some v := by rfl) : w.cell? ⟨g, i, none⟩ = some v := (blk_cell h i).trans e
theorem zk {w w1 : World} {g : Nat} {o : Obj} (h : Hid (w.heap[g]? = some o)) (hb : Below w.heap.size w w1) : Hid (w1.heap[g]? = some o) := blk_below h.out hb
theorem zc {α : Type} {d : Kd α} {w w1 : World} {A : Option Addr} {n : Nat} {xs : List α} (h : Hid (Kd.C d w A n xs)) (hb : Below w.heap.size w w1) : Hid (Kd.C d w1 A n xs) := Kd.C_below h.out hb
theorem zj {w : World} {g : Nat} {t : TypeId} {cs : Array Value} (h : Hid (w.heap[g]? = some (.cells cs t (0, 0)))) (i : Nat) : w.cell? ⟨g, i, none⟩ = cs[i]? := blk_cell h.out i
theorem zz2 {w : World} {g : Nat} {t : TypeId} {x0 x1 : Value} {r : List Value} (h : w.heap[g]? = some (.cells (x0 :: x1 :: r).toArray t (0, 0))) : w.cell? ⟨g, 0, none⟩ = some x0 ∧ w.cell? ⟨g, 1, none⟩ = some x1 :=
 ⟨(blk_cell h 0).trans rfl, (blk_cell h 1).trans rfl⟩
theorem zz3 {w : World} {g : Nat} {t : TypeId} {x0 x1 x2 : Value} {r : List Value} (h : w.heap[g]? = some (.cells (x0 :: x1 :: x2 :: r).toArray t (0, 0))) : w.cell? ⟨g, 0, none⟩ = some x0 ∧ w.cell? ⟨g, 1, none⟩ = some x1 ∧ w.cell? ⟨g, 2, none⟩ = some x2 :=
 ⟨(blk_cell h 0).trans rfl, (blk_cell h 1).trans rfl, (blk_cell h 2).trans rfl⟩
theorem zz4 {w : World} {g : Nat} {t : TypeId} {x0 x1 x2 x3 : Value} {r : List Value} (h : w.heap[g]? = some (.cells (x0 :: x1 :: x2 :: x3 :: r).toArray t (0, 0))) : w.cell? ⟨g, 0, none⟩ = some x0 ∧ w.cell? ⟨g, 1, none⟩ = some x1 ∧ w.cell? ⟨g, 2, none⟩ = some x2 ∧ w.cell? ⟨g, 3, none⟩ = some x3 :=
 ⟨(blk_cell h 0).trans rfl, (blk_cell h 1).trans rfl, (blk_cell h 2).trans rfl, (blk_cell h 3).trans rfl⟩
theorem zz5 {w : World} {g : Nat} {t : TypeId} {x0 x1 x2 x3 x4 : Value} {r : List Value} (h : w.heap[g]? = some (.cells (x0 :: x1 :: x2 :: x3 :: x4 :: r).toArray t (0, 0))) : w.cell? ⟨g, 0, none⟩ = some x0 ∧ w.cell? ⟨g, 1, none⟩ = some x1 ∧ w.cell? ⟨g, 2, none⟩ = some x2 ∧ w.cell? ⟨g, 3, none⟩ = some x3 ∧ w.cell? ⟨g, 4, none⟩ = some x4 :=
 ⟨(blk_cell h 0).trans rfl, (blk_cell h 1).trans rfl, (blk_cell h 2).trans rfl, (blk_cell h 3).trans rfl, (blk_cell h 4).trans rfl⟩
theorem zz6 {w : World} {g : Nat} {t : TypeId} {x0 x1 x2 x3 x4 x5 : Value} {r : List Value} (h : w.heap[g]? = some (.cells (x0 :: x1 :: x2 :: x3 :: x4 :: x5 :: r).toArray t (0, 0))) : w.cell? ⟨g, 0, none⟩ = some x0 ∧ w.cell? ⟨g, 1, none⟩ = some x1 ∧ w.cell? ⟨g, 2, none⟩ = some x2 ∧ w.cell? ⟨g, 3, none⟩ = some x3 ∧ w.cell? ⟨g, 4, none⟩ = some x4 ∧ w.cell? ⟨g, 5, none⟩ = some x5 :=
 ⟨(blk_cell h 0).trans rfl, (blk_cell h 1).trans rfl, (blk_cell h 2).trans rfl, (blk_cell h 3).trans rfl, (blk_cell h 4).trans rfl, (blk_cell h 5).trans rfl⟩
theorem zz7 {w : World} {g : Nat} {t : TypeId} {x0 x1 x2 x3 x4 x5 x6 : Value} {r : List Value} (h : w.heap[g]? = some (.cells (x0 :: x1 :: x2 :: x3 :: x4 :: x5 :: x6 :: r).toArray t (0, 0))) : w.cell? ⟨g, 0, none⟩ = some x0 ∧ w.cell? ⟨g, 1, none⟩ = some x1 ∧ w.cell? ⟨g, 2, none⟩ = some x2 ∧ w.cell? ⟨g, 3, none⟩ = some x3 ∧ w.cell? ⟨g, 4, none⟩ = some x4 ∧ w.cell? ⟨g, 5, none⟩ = some x5 ∧ w.cell? ⟨g, 6, none⟩ = some x6 :=
 ⟨(blk_cell h 0).trans rfl, (blk_cell h 1).trans rfl, (blk_cell h 2).trans rfl, (blk_cell h 3).trans rfl, (blk_cell h 4).trans rfl, (blk_cell h 5).trans rfl, (blk_cell h 6).trans rfl⟩
theorem zz8 {w : World} {g : Nat} {t : TypeId} {x0 x1 x2 x3 x4 x5 x6 x7 : Value} {r : List Value} (h : w.heap[g]? = some (.cells (x0 :: x1 :: x2 :: x3 :: x4 :: x5 :: x6 :: x7 :: r).toArray t (0, 0))) : w.cell? ⟨g, 0, none⟩ = some x0 ∧ w.cell? ⟨g, 1, none⟩ = some x1 ∧ w.cell? ⟨g, 2, none⟩ = some x2 ∧ w.cell? ⟨g, 3, none⟩ = some x3 ∧ w.cell? ⟨g, 4, none⟩ = some x4 ∧ w.cell? ⟨g, 5, none⟩ = some x5 ∧ w.cell? ⟨g, 6, none⟩ = some x6 ∧ w.cell? ⟨g, 7, none⟩ = some x7 :=
 ⟨(blk_cell h 0).trans rfl, (blk_cell h 1).trans rfl, (blk_cell h 2).trans rfl, (blk_cell h 3).trans rfl, (blk_cell h 4).trans rfl, (blk_cell h 5).trans rfl, (blk_cell h 6).trans rfl, (blk_cell h 7).trans rfl⟩
section
open Go.WideMaps Go.Maps
theorem keepc {w w' : World} {p : Addr} {v : Value} (hb : Below w.heap.size w w') (h : w.cell? p = some v) : w'.cell? p = some v:=pw_cell_below hb h
theorem keepB {w w1 w2 : World} (h : Hid (Below w.heap.size w w1)) (hb : Below w1.heap.size w1 w2) : Hid (Below w.heap.size w w2):=h.out.trans (hb.mono h.out.size)
theorem outB {B : Nat} {w w1 : World} (h : Hid (Below B w w1)) : Below B w w1:=h
theorem keepD {B : Nat} {w w1 : World} (h : Hid (Below B w w1)) : Hid (Below B w w1.drew):=h.out.drew
theorem below_drewN (B : Nat) (w : World) (n : Nat) : Below B w (w.drewN n):=pw_below_drewN (Below.refl _ _) _
theorem keepN {B : Nat} {w w1 : World} (h : Hid (Below B w w1)) (n : Nat) : Hid (Below B w (w1.drewN n)):=h.out.trans (below_drewN _ _ _)
theorem quiet0 {P : Program} {f : FuncId} {args : Array Value} {w : World} {n : Nat} {v : Value} (h : Calls P f args (w.drewN n) fun e w'=>e = .returned v ∧ Drawn0 (w.drewN n) w') :
  Calls P f args (w.drewN n) fun e w''=>e = .returned v ∧ ∃ m,w'' = w.drewN m :=
 Calls.quiet_of (h.mono fun _ _ h=>⟨h.1,h.2.out⟩)
section
variable {P : Program} {w : World} {ops : Array Oper} {rest : List Oper} {o : Oper} {a : Go.Act} {Q : Exit → Go.Act → World → Prop}
theorem zx {B0 : World} (HB : Hid (Below B0.heap.size B0 w)) {N : Tmp} {cs : Array Value} {t : TypeId}
 (hr : (execOp a.eval o).run P w = .ok (.value (.pointer (some ⟨w.heap.size,0,none⟩))) (w.alloc (.cells cs t (0,0))))
 (h : ∀ g w1,Hid (w1.heap[g]? = some (.cells cs t (0,0))) → Hid (B0.heap.size ≤ g) → Hid (Below B0.heap.size B0 w1) → Below w.heap.size w w1 → g = w.heap.size → wpList P ops Q rest (a.put o.dst (.pointer (some ⟨g,0,none⟩))) w1)
 (hgd : o.guard = none:=by rfl) (hd : o.dst = some N:=by rfl) : wpList P ops Q (o :: rest) a w :=
 box_event hgd hd hr fun g hg w1 hb hbel=>h g w1 hb (by unfold Hid;rw [hg];exact HB.out.size) (keepB HB hbel) hbel hg
end
end
section
open Go.WideMaps Go.Maps
/-- a call of a function of Go code enters it -/
theorem enters {P : Program} {f : FuncId} {fn : Func} (hf : P.funcs[f]? = some fn) (hname : (fn.name == "runtime.NumGoroutine") = false) (hb : fn.body.isSome = true) : ∀ (args : Array Value) (w : World), (callFunc f args).run P w = .ok (.enter f args) w := by
 intro args w
 have h1 : fn.name ≠ "runtime.NumGoroutine" := by simpa using hname
 obtain ⟨c,hc⟩:=Option.isSome_iff_exists.1 hb
 simp [callFunc,hf,h1,hc,mark]
theorem grown_cell {w w' : World} {row : Option Nat} {p : Addr} {v : Value} (hg : w.grownBy w' row) (hne : some p.block ≠ row) (hc : w.cell? p = some v) : w'.cell? p = some v :=
 (World.cell?_of_block (hg.block p.block (World.block_lt_of_cell? w _ hc) hne)).trans hc
structure Only (g : Nat) (w w' : World) : Prop where
 os : w'.os = w.os
 tape : w'.tape = w.tape
 output : w'.output = w.output
 size : w.heap.size ≤ w'.heap.size
 block : ∀ k,k < w.heap.size → k ≠ g → w'.heap[k]? = w.heap[k]?
theorem Only.refl (g : Nat) (w : World) : Only g w w:=⟨rfl,rfl,rfl,Nat.le_refl _,fun _ _ _=>rfl⟩
theorem Only.set {g : Nat} {w w' : World} (h : Only g w w') (j : Nat) (v : Value) : Only g w (w'.setCell ⟨g,j,none⟩ v) :=
 ⟨h.os,h.tape,h.output,by simpa [World.setCell] using h.size,fun k hk hg=>(Below.heap_setCell _ _ _ _ hg).trans (h.block k hk hg)⟩
theorem Only.drewN {g : Nat} {w w' : World} (h : Only g w w') (n : Nat) : Only g w (w'.drewN n):=⟨h.os,h.tape,h.output,h.size,h.block⟩
theorem Only.cell {g : Nat} {w w' : World} (h : Only g w w') {p : Addr} {v : Value} (hp : p.block ≠ g) (hc : w.cell? p = some v) : w'.cell? p = some v :=
 (World.cell?_of_block (w:=w) (h.block p.block (World.block_lt_of_cell? w _ hc) hp)).trans hc
theorem Only.below {g B : Nat} {w0 w w' : World} (h : Only g w w') (hb : Below B w0 w) (hB : B ≤ w.heap.size) (hg : B ≤ g) : Below B w0 w' :=
 hb.trans ⟨h.os,h.tape,h.output,h.size,fun k hk=>h.block k (by omega) (by omega)⟩
theorem Only.trans {g : Nat} {w w1 w2 : World} (h : Only g w w1) (k : Only g w1 w2) : Only g w w2 :=
 ⟨k.os.trans h.os,k.tape.trans h.tape,k.output.trans h.output,Nat.le_trans h.size k.size,fun i hi hg=>(k.block i (Nat.lt_of_lt_of_le hi h.size) hg).trans (h.block i hi hg)⟩
def RawAt (w : World) (ad : Addr) (cs : List Value) : Prop:=∀ (j : Nat) (u : Value),cs[j]? = some u → w.cell? (ad.add j) = some u
structure RowsOf {α : Type} (d : Kd α) (w : World) (l : List α) (rows : List (List Value)) : Prop where
 len : rows.length = l.length
 at_ : ∀ (j : Nat) (x : α) (c : List Value),l[j]? = some x → rows[j]? = some c → d.K w x c
theorem flat_len {rows : List (List Value)} {sz : Nat} (h : ∀ c ∈ rows,c.length = sz) : rows.flatten.length = rows.length * sz:=by
 induction rows with
 | nil=>simp
 | cons c rows ih =>
  rw [List.flatten_cons,List.length_append,ih (fun d hd=>h d (List.mem_cons_of_mem _ hd)),h c List.mem_cons_self,List.length_cons,Nat.add_mul]
  omega
theorem flat_at {rows : List (List Value)} {sz : Nat} (h : ∀ c ∈ rows,c.length = sz) (j i : Nat) (hi : i < sz) : rows.flatten[j * sz + i]? = (rows[j]?).bind (fun c=>c[i]?):=by
 induction rows generalizing j with
 | nil=>simp
 | cons c rows ih =>
  have hc:=h c List.mem_cons_self
  rw [List.flatten_cons]
  rcases j with _ | j
  ·rw [List.getElem?_append_left (by omega)];simp
  ·rw [List.getElem?_append_right (by rw [hc,Nat.add_mul];omega),hc,show (j + 1) * sz + i - sz = j * sz + i by rw [Nat.add_mul];omega,ih (fun d hd=>h d (List.mem_cons_of_mem _ hd))]
   simp
section
variable {α : Type} {d : Kd α} {w w1 : World} {l : List α} {rows : List (List Value)} {ad : Addr}
theorem RowsOf.lens (h : RowsOf d w l rows) : ∀ c ∈ rows,c.length = d.sz:=by
 intro c hc
 obtain ⟨j,hj,rfl⟩:=List.getElem_of_mem hc
 exact d.K_len (h.at_ j _ _ (List.getElem?_eq_getElem (by have:=h.len;omega)) (List.getElem?_eq_getElem hj))
theorem RowsOf.one (h : RowsOf d w l rows) : ∀ u ∈ rows.flatten,u.oneCell' = true:=by
 intro u hu
 obtain ⟨c,hc,hu⟩:=List.mem_flatten.1 hu
 obtain ⟨j,hj,rfl⟩:=List.getElem_of_mem hc
 exact d.K_one (h.at_ j _ _ (List.getElem?_eq_getElem (by have:=h.len;omega)) (List.getElem?_eq_getElem hj)) u hu
theorem RowsOf.below (h : RowsOf d w l rows) (hb : Below w.heap.size w w1) : RowsOf d w1 l rows:=⟨h.len,fun j x c h1 h2=>d.K_below hb (h.at_ j x c h1 h2)⟩
theorem RowsOf.set (h : RowsOf d w l rows) (i : Nat) (x : α) (c : List Value) (hx : d.K w x c) : RowsOf d w (l.set i x) (rows.set i c):=by
 refine ⟨by simpa using h.len,fun j y c' h1 h2=>?_⟩
 rw [List.getElem?_set] at h1 h2
 by_cases e : i = j
 ·subst e
  rw [if_pos rfl] at h1 h2
  by_cases hl : i < l.length
  ·rw [if_pos hl] at h1;rw [if_pos (by have:=h.len;omega)] at h2
   injection h1 with h1;injection h2 with h2;subst h1;subst h2;exact hx
  ·rw [if_neg hl] at h1;cases h1
 ·rw [if_neg e] at h1 h2;exact h.at_ j y c' h1 h2
theorem RowsOf.append {l2 : List α} {rows2 : List (List Value)} (h : RowsOf d w l rows) (h2 : RowsOf d w l2 rows2) : RowsOf d w (l ++ l2) (rows ++ rows2):=by
 refine ⟨by simp [h.len,h2.len],fun j x c hx hc=>?_⟩
 rcases Nat.lt_or_ge j l.length with hj | hj
 ·rw [List.getElem?_append_left hj] at hx
  rw [List.getElem?_append_left (by have:=h.len;omega)] at hc
  exact h.at_ j x c hx hc
 ·rw [List.getElem?_append_right hj] at hx
  rw [List.getElem?_append_right (by have:=h.len;omega),h.len] at hc
  exact h2.at_ _ x c hx hc
theorem RowsOf.take (h : RowsOf d w l rows) (n : Nat) : RowsOf d w (l.take n) (rows.take n):=by
 refine ⟨by simp [h.len],fun j x c hx hc=>?_⟩
 rw [List.getElem?_take] at hx hc
 split at hx
 ·rename_i hj;rw [if_pos hj] at hc;exact h.at_ j x c hx hc
 ·cases hx
theorem RowsOf.drop (h : RowsOf d w l rows) (n : Nat) : RowsOf d w (l.drop n) (rows.drop n):=by
 refine ⟨by simp [h.len],fun j x c hx hc=>?_⟩
 rw [List.getElem?_drop] at hx hc
 exact h.at_ _ x c hx hc
theorem RowsOf.one_ (x : α) (c : List Value) (h : d.K w x c) : RowsOf d w [x] [c]:=by
 refine ⟨rfl,fun j y e hy he=>?_⟩
 rcases j with _ | j
 ·simp at hy he;subst hy;subst he;exact h
 ·simp at hy
theorem RowsOf.nil_ : RowsOf d w ([] : List α) []:=⟨rfl,fun j y e hy he=>by simp at hy⟩
/-- What a slice that is read holds, cell by cell. -/
theorem C_rows (h : Kd.C d w (some ad) l.length l) : ∃ rows,RowsOf d w l rows ∧ RawAt w ad rows.flatten:=by
 obtain ⟨h1,h2,h3⟩:=h
 rcases Nat.eq_zero_or_pos l.length with h0 | h0
 ·have : l = []:=List.length_eq_zero_iff.1 h0
  subst this
  exact ⟨[],RowsOf.nil_,fun j u hu=>by simp at hu⟩
 ·obtain ⟨ad',e,hc⟩:=h3 h0
  obtain rfl : ad = ad':=by injection e
  have : ∀ j : Nat,∃ c : List Value,∀ x,l[j]? = some x → c.length = d.sz ∧ d.K w x c ∧ ∀ i u,c[i]? = some u → w.cell? (ad.add (j * d.sz + i)) = some u:=fun j=>by
   cases hx : l[j]? with
   | none=>exact ⟨[],fun x hx'=>by cases hx'⟩
   | some x=>obtain ⟨c,hc'⟩:=hc j x hx;exact ⟨c,fun y hy=>by injection hy with hy;subst hy;exact hc'⟩
  obtain ⟨f,hf⟩:=Classical.skolem.1 this
  have hr : RowsOf d w l ((List.range l.length).map f):=by
   refine ⟨by simp,fun j x c hx hcj=>?_⟩
   rw [List.getElem?_map] at hcj
   have hj:=(List.getElem?_eq_some_iff.1 hx).1
   rw [List.getElem?_range hj] at hcj
   injection hcj with hcj
   subst hcj
   exact (hf j x hx).2.1
  refine ⟨_,hr,fun k u hu=>?_⟩
  have hlen:=flat_len hr.lens
  have hk:=(List.getElem?_eq_some_iff.1 hu).1
  have hsz : 0 < d.sz:=by
   rcases Nat.eq_zero_or_pos d.sz with hz | hz
   ·rw [hlen,hz] at hk;omega
   ·exact hz
  have e1 : k = k / d.sz * d.sz + k % d.sz:=by rw [Nat.mul_comm];exact (Nat.div_add_mod k d.sz).symm
  rw [e1,flat_at hr.lens _ _ (Nat.mod_lt _ hsz)] at hu
  rw [List.getElem?_map] at hu
  have hj : k / d.sz < l.length:=by
   rw [hlen] at hk
   simp only [List.length_map,List.length_range] at hk
   exact Nat.div_lt_of_lt_mul (by rw [Nat.mul_comm];exact hk)
  rw [List.getElem?_range hj] at hu
  rw [e1]
  exact (hf _ _ (List.getElem?_eq_getElem hj)).2.2 _ _ hu
/-- And back. -/
theorem rows_C (h : RowsOf d w l rows) (hr : RawAt w ad rows.flatten) (hn : l.length ≤ 9223372036854775807) : Kd.C d w (some ad) l.length l:=by
 refine ⟨rfl,hn,fun _=>⟨ad,rfl,fun j x hx=>?_⟩⟩
 have hj:=(List.getElem?_eq_some_iff.1 hx).1
 have hj' : j < rows.length:=by have:=h.len;omega
 refine ⟨rows[j],h.lens _ (List.getElem_mem hj'),h.at_ j x _ hx (List.getElem?_eq_getElem hj'),fun i u hu=>hr _ _ ?_⟩
 have hi : i < d.sz:=by have:=(List.getElem?_eq_some_iff.1 hu).1;rw [h.lens _ (List.getElem_mem hj')] at this;exact this
 rw [flat_at h.lens j i hi,List.getElem?_eq_getElem hj',Option.bind_some]
 exact hu
end
theorem own_raw {w : World} {base n g cap sz : Nat} {e : TypeId} {cs : List Value} (h : w.ownsRow base e sz (.slice (some ⟨g,0,none⟩) n cap) n cs) : RawAt w ⟨g,0,none⟩ cs:=by
 intro j u hu
 rcases h.2 with ⟨h1,_⟩ | ⟨g',cap',cur,hv,hg,hh,hn,hm,hsz,hcur⟩
 ·cases h1
 ·injection hv with e1 e2 e3
  injection e1 with e1;injection e1 with e1
  subst e1
  have : (Addr.add ⟨g,0,none⟩ j) = ⟨g,j,none⟩:=by unfold Addr.add;split <;> simp_all
  rw [this,blk_cell hh]
  have hj:=(List.getElem?_eq_some_iff.1 hu).1
  rw [← hcur,List.getElem?_take] at hu
  split at hu
  ·simpa using hu
  ·cases hu
theorem Only.setRow {g : Nat} {w w' : World} (h : Only g w w') (cs : Array Value) : Only g w (w'.setRow g cs) :=
 ⟨h.os,h.tape,h.output,by simpa [World.setRow] using h.size,fun k hk hg=>(setRow_other _ _ _ _ hg).trans (h.block k hk hg)⟩
theorem Only.blk {g k : Nat} {w w' : World} {o : Obj} (h : Only g w w') (hk : w.heap[k]? = some o) (hg : k ≠ g) : w'.heap[k]? = some o:=(h.block k (blk_lt hk) hg).trans hk
/-- copy, elements of any number of cells. -/
theorem run_copy_cells {P : Program} (w : World) (dT sT ty elem : TypeId) (g o dLen dCap : Nat) (a : Addr) (sLen sCap sz : Nat) (cur : Array Value) (t : TypeId) (cs : List Value)
  (hu : P.underlying dT = some (.slice elem)) (hs : (P.info? elem).map (·.size) = some sz)
  (hg : w.heap[g]? = some (.cells cur t (0,0))) (hn : cs.length = Nat.min sLen dLen * sz)
  (hsrc : ∀ j v,cs[j]? = some v → w.cell? (a.add j) = some v) (hfit : o + cs.length ≤ cur.size) (h1 : ∀ v ∈ cs,v.oneCell' = true) :
  (Builtin.copy_ #[dT,sT] ty #[.slice (some ⟨g,o,none⟩) dLen dCap,.slice (some a) sLen sCap]).run P w =
   .ok (goInt (Nat.min sLen dLen)) (w.setRow g (splice cur.toList o cs).toArray):=by
 have hl:=run_loadCells_list (P:=P) w a cs hsrc
 have hst:=run_storeCells_at P g o t cs 0 cur w hg (by simpa using hfit) h1
 cases hq : P.info? elem with
 | none=>simp [hq] at hs
 | some i =>
  have hi : i.size = sz:=by simpa [hq] using hs
  rw [hn] at hl
  have hm : Nat.min sLen dLen = min sLen dLen:=rfl
  rw [hm] at hl ⊢
  simp [Builtin.copy_,run_underlying hu,Builtin.lenOf,Builtin.firstCells,sizeOf,typeInfo,hq,hi,hl,hst,hm,splice]
theorem wpList_copy_cells {P : Program} {w : World} {ops : Array Oper} {rest : List Oper} {o : Oper} {a : Act} {Q : Exit → Act → World → Prop} (hgd : o.guard = none) (d s : Operand) (dT sT : TypeId)
  (ho : o.op = .call { callee:=.builtin .copy,args:=#[d,s],argTypes:=#[dT,sT] }) (elem : TypeId) (sz : Nat) (hu : P.underlying dT = some (.slice elem)) (hsz : (P.info? elem).map (·.size) = some sz)
  (g off dLen dCap : Nat) (ad : Addr) (sLen sCap : Nat) (hd : a.eval d = .slice (some ⟨g,off,none⟩) dLen dCap) (hs : a.eval s = .slice (some ad) sLen sCap)
  (cur : Array Value) (t : TypeId) (hg : w.heap[g]? = some (.cells cur t (0,0))) (cs : List Value) (hn : cs.length = Nat.min sLen dLen * sz)
  (hsrc : ∀ j v,cs[j]? = some v → w.cell? (ad.add j) = some v) (hfit : off + cs.length ≤ cur.size) (h1 : ∀ v ∈ cs,v.oneCell' = true)
  (h : ∀ w',Hid (w' = w.setRow g (splice cur.toList off cs).toArray) → wpList P ops Q rest (a.put o.dst (goInt (Nat.min sLen dLen))) w') : wpList P ops Q (o :: rest) a w:=by
 refine wpList_plain hgd fun K hK=>?_
 have hrun:=run_copy_cells (P:=P) w dT sT o.type elem g off dLen dCap ad sLen sCap sz cur t cs hu hsz hg hn hsrc hfit h1
 unfold Oper.wp
 simp [execOp,ho,resolve,invoke,builtin,hd,hs,hrun,Result.andThen]
 exact hK _ _ (h _ rfl)
/-- append(s, make([]T, m)...) where s has no room: the new row, written out. -/
theorem run_zeros_grow {P : Program} (w : World) (t ti ty e : TypeId) (i : TypeInfo) (z : Value) (ht : P.underlying t = some (.slice e)) {k : IntKind} (hti : P.underlying ti = some (.int k)) (hi : P.info? e = some i) (hz : i.zero = some z)
  (hzs : z.cells.size = i.size) (hsz : 0 < i.size) (A : Addr) (n cap : Nat) (xs : List Value) (hx : xs.length = n * i.size) (hxs : ∀ j u,xs[j]? = some u → w.cell? (A.add j) = some u) (kx : IntKind) (m : Nat) (hm : 0 < m)
  (hcap : cap < n + m) (hle : n + m ≤ 1000000) (hby : i.bytes ≤ 1000) :
  (Builtin.append_ #[t,ti] ty #[.slice (some A) n cap,.int kx m]).run P w =
   .ok (.slice (some ⟨w.heap.size,0,none⟩) (n + m) (grownCap w (n + m) cap e)) (w.drew.alloc (.cells (xs ++ ((Builtin.zeroCells z.cells m).toList ++ (Builtin.zeroCells z.cells (grownCap w (n + m) cap e - (n + m))).toList)).toArray e)):=by
 have hw : IntKind.i64.wrap (m : Int) = m:=by rw [IntKind.wrap_i64];omega
 have hneg : ¬ ((m : Int) < 0):=by omega
 have hb1 : m * i.bytes ≤ 1000000 * 1000:=Nat.mul_le_mul (by omega) hby
 have hbig : ¬ (281474976710656 < (m : Int) * (i.bytes : Int)):=by rw [← Int.natCast_mul];omega
 have hn : ¬ (n + m ≤ cap):=by omega
 have h63' : ¬ (9223372036854775807 < ((n : Int) + (m : Int))):=by omega
 have hb2 : (n + m) * i.bytes ≤ 1000000 * 1000:=Nat.mul_le_mul hle hby
 have hfit:=growslice_fits (bytes:=i.bytes) hcap (by omega)
 have h48' : ¬ (281474976710656 < Builtin.nextslicecap (n + m) cap * i.bytes):=by omega
 have hmz : ¬ (m * i.size = 0):=Nat.mul_ne_zero (by omega) (by omega)
 have hfo:=run_firstCells_some (P:=P) w.drew i.size n A n cap xs hx (by simpa using hxs)
 simp [Builtin.append_,run_underlying ht,run_underlying hti,sizeOf,typeInfo,zeroValue,hi,hz,asInt,asIntOf,hw,hneg,hbig,hn,h63',h48',Question.forced,hfo,newRow,grownCap,hmz]
 congr 2
 apply Array.ext'
 simp [List.append_assoc]
theorem wpList_zeros_grow {P : Program} {w : World} {ops : Array Oper} {rest : List Oper} {o : Oper} {a : Act} {Q : Exit → Act → World → Prop} (hgd : o.guard = none) (s x : Operand) (t ti : TypeId)
  (ho : o.op = .call { callee:=.builtin .append,args:=#[s,x],argTypes:=#[t,ti] }) (e : TypeId) (i : TypeInfo) (z : Value) (ht : P.underlying t = some (.slice e)) (k : IntKind) (hti : P.underlying ti = some (.int k)) (hi : P.info? e = some i) (hz : i.zero = some z)
  (hzs : z.cells.size = i.size) (hsz : 0 < i.size) (A : Addr) (n cap : Nat) (xs : List Value) (hs : a.eval s = .slice (some A) n cap) (hx : xs.length = n * i.size) (hxs : ∀ j u,xs[j]? = some u → w.cell? (A.add j) = some u) (kx : IntKind) (m : Nat) (hxm : a.eval x = .int kx m) (hm : 0 < m)
  (hcap : cap < n + m) (hle : n + m ≤ 1000000) (hby : i.bytes ≤ 1000) (Zf : Nat → List Value) (hZ : ∀ m,(Builtin.zeroCells z.cells m).toList = Zf m)
  (h : ∀ nc w',n + m ≤ nc → nc ≤ maxLen → Hid (w' = w.drew.alloc (.cells (xs ++ (Zf m ++ Zf (nc - (n + m)))).toArray e)) → wpList P ops Q rest (a.put o.dst (.slice (some ⟨w.heap.size,0,none⟩) (n + m) nc)) w') : wpList P ops Q (o :: rest) a w:=by
 refine wpList_plain hgd fun K hK=>?_
 have hrun:=run_zeros_grow (P:=P) w t ti o.type e i z ht hti hi hz hzs hsz A n cap xs hx hxs kx m hm hcap hle hby
 unfold Oper.wp
 simp only [execOp,ho,resolve,invoke,builtin,Sem.run_bind,Sem.run_pure,Result.andThen_ok,List.map_toArray,List.map_cons,List.map_nil,hs,hxm,hrun]
 exact hK _ _ (h _ _ (grownCap_ge _ _ _ _) (grownCap_le_maxLen _ _ _ _ (by unfold maxLen;omega)) (by unfold Hid;rw [hZ,hZ]))
/-- clear(s) of a row. -/
theorem run_clear_cells {P : Program} (w : World) (t ty e : TypeId) (i : TypeInfo) (z : Value) (ht : P.underlying t = some (.slice e)) (hi : P.info? e = some i) (hz : i.zero = some z)
  (g o n cap : Nat) (cur : Array Value) (te : TypeId) (hg : w.heap[g]? = some (.cells cur te (0,0))) (hn : 0 < n) (hfit : o + n * z.cells.size ≤ cur.size) (h1 : ∀ v ∈ (Builtin.zeroCells z.cells n).toList,v.oneCell' = true) :
  (Builtin.clear_ #[t] ty #[.slice (some ⟨g,o,none⟩) n cap]).run P w = .ok (.tuple #[]) (w.setRow g (splice cur.toList o (Builtin.zeroCells z.cells n).toList).toArray):=by
 have hst:=run_storeCells_at P g o te (Builtin.zeroCells z.cells n).toList 0 cur w hg (by simpa [size_zeroCells] using hfit) h1
 obtain ⟨n,rfl⟩ : ∃ m,n = m + 1:=⟨n - 1,by omega⟩
 simp [Builtin.clear_,run_underlying ht,typeInfo,zeroValue,hi,hz,hst,splice]
theorem wpList_clear_cells {P : Program} {w : World} {ops : Array Oper} {rest : List Oper} {o : Oper} {a : Act} {Q : Exit → Act → World → Prop} (hgd : o.guard = none) (s : Operand) (t : TypeId)
  (ho : o.op = .call { callee:=.builtin .clear,args:=#[s],argTypes:=#[t] }) (e : TypeId) (i : TypeInfo) (z : Value) (ht : P.underlying t = some (.slice e)) (hi : P.info? e = some i) (hz : i.zero = some z)
  (g off n cap : Nat) (hs : a.eval s = .slice (some ⟨g,off,none⟩) n cap) (cur : Array Value) (te : TypeId) (hg : w.heap[g]? = some (.cells cur te (0,0))) (hn : 0 < n) (hfit : off + n * z.cells.size ≤ cur.size) (h1 : ∀ v ∈ (Builtin.zeroCells z.cells n).toList,v.oneCell' = true) (Zf : Nat → List Value) (hZ : ∀ m,(Builtin.zeroCells z.cells m).toList = Zf m)
  (h : ∀ w',Hid (w' = w.setRow g (splice cur.toList off (Zf n)).toArray) → wpList P ops Q rest (a.put o.dst (.tuple #[])) w') : wpList P ops Q (o :: rest) a w:=by
 refine wpList_plain hgd fun K hK=>?_
 have hrun:=run_clear_cells (P:=P) w t o.type e i z ht hi hz g off n cap cur te hg hn hfit h1
 unfold Oper.wp
 simp only [execOp,ho,resolve,invoke,builtin,Sem.run_bind,Sem.run_pure,Result.andThen_ok,List.map_toArray,List.map_cons,List.map_nil,hs,hrun]
 exact hK _ _ (h _ (by unfold Hid;rw [hZ]))
theorem zero_one {z : Value} (h : ∀ v ∈ z.cells.toList,v.oneCell' = true) (hz : 0 < z.cells.size) (n : Nat) : ∀ v ∈ (Builtin.zeroCells z.cells n).toList,v.oneCell' = true:=by
 intro v hv
 simp only [Builtin.zeroCells,Array.toList_map,List.mem_map] at hv
 obtain ⟨i,_,rfl⟩:=hv
 have hi : i % z.cells.size < z.cells.size:=Nat.mod_lt _ hz
 rw [getElem!_pos z.cells _ hi]
 exact h _ (by simp)
section
variable {P : Program} {w : World} {ops : Array Oper} {rest : List Oper} {o : Oper} {a : Act} {Q : Exit → Act → World → Prop} {K : Act → World → Prop} {E : Prop}
theorem run_store_row {g off : Nat} {t : TypeId} {cur : Array Value} (e : TypeId) (u : Value) (seg : List Value) (hh : w.heap[g]? = some (.cells cur t (0,0))) (hu : u.cells.toList = seg) (ht : (P.info? e).map (·.size) = some seg.length)
  (hfit : off + seg.length ≤ cur.size) (h1 : ∀ q ∈ seg,q.oneCell' = true) : (Instr.storeAt e (.pointer (some ⟨g,off,none⟩)) u).run P w = .ok () (w.setRow g (splice cur.toList off seg).toArray):=by
 obtain ⟨i,hi,hsz⟩:=Option.map_eq_some_iff.1 ht
 have hc : u.cells.size = i.size:=by rw [hsz,← hu,Array.length_toList]
 have hst:=run_storeCells_at P g off t seg 0 cur w hh (by simpa using hfit) h1
 simp only [Nat.add_zero] at hst
 simp [Instr.storeAt,Instr.sureAddr,storeVar,sizeOf,typeInfo,hi,hc,hu,hst,splice]
theorem wp_store_row (hN : o.dst = none) (e : TypeId) (p x : Operand) (ho : o.op = .store e p x) (g off : Nat) (cur : Array Value) (t : TypeId) (u : Value) (seg : List Value) (haddr : a.eval p = .pointer (some ⟨g,off,none⟩)) (hx : a.eval x = u)
  (hh : w.heap[g]? = some (.cells cur t (0,0))) (hu : u.cells.toList = seg) (ht : (P.info? e).map (·.size) = some seg.length) (hfit : off + seg.length ≤ cur.size) (h1 : ∀ q ∈ seg,q.oneCell' = true)
  (h : ∀ w1,Hid (w1.heap[g]? = some (.cells (splice cur.toList off seg).toArray t (0,0))) → Hid (Only g w w1) → K a w1) : Oper.wp P o a w K Q:=by
 have hrun:=run_store_row (P:=P) (w:=w) e u seg hh hu ht hfit h1
 unfold Oper.wp execOp
 simp only [ho,haddr,hx,Sem.run_bind,Sem.run_pure,Result.andThen_ok,hrun]
 show K (a.put o.dst undef) _
 rw [hN]
 exact h _ (setRow_heap _ _ _ _ _ _ hh) ((Only.refl g w).setRow _)
theorem wpList_store_row (hN : o.dst = none) (hgd : o.guard = none) (e : TypeId) (p x : Operand) (ho : o.op = .store e p x) (g off : Nat) (cur : Array Value) (t : TypeId) (u : Value) (seg : List Value) (haddr : a.eval p = .pointer (some ⟨g,off,none⟩)) (hx : a.eval x = u)
  (hh : w.heap[g]? = some (.cells cur t (0,0))) (hu : u.cells.toList = seg) (ht : (P.info? e).map (·.size) = some seg.length) (hfit : off + seg.length ≤ cur.size) (h1 : ∀ q ∈ seg,q.oneCell' = true)
  (h : ∀ w1,Hid (w1.heap[g]? = some (.cells (splice cur.toList off seg).toArray t (0,0))) → Hid (Only g w w1) → wpList P ops Q rest a w1) : wpList P ops Q (o :: rest) a w :=
 wpList_plain hgd fun _ hK=>wp_store_row hN e p x ho g off cur t u seg haddr hx hh hu ht hfit h1 fun w1 h2 h3=>hK _ _ (h w1 h2 h3)
end
section
variable {P : Program}
/-- append, the second slice of another type with the same elements. -/
theorem wpList_append_own2 (w : World) {ops : Array Oper} {rest : List Oper} {o : Oper} {a : Act} {Q : Exit → Act → World → Prop} (hgd : o.guard = none) (s x : Operand) (t tx : TypeId)
  (ho : o.op = .call { callee:=.builtin .append,args:=#[s,x],argTypes:=#[t,tx] }) {e : TypeId} (htx : P.underlying tx = some (.slice e))
  (base : Nat) (e' : TypeId) (i : TypeInfo) (z : Value) (size bytes : Nat) (ht : P.underlying t = some (.slice e')) (hi : P.info? e' = some i) (hz : i.zero = some z)
  (hsize : i.size = size) (hby : i.bytes = bytes) (hzs : z.cells.size = size) (hsz : 0 < size)
  (v : Value) (n : Nat) (xs : List Value) (hs : a.eval s = v) (hown : w.ownsRow base e' size v n xs)
  (ad : Addr) (m c : Nat) (news : List Value) (hx : a.eval x = .slice (some ad) m c) (hl : news.length = m * size) (hnews : ∀ j u,news[j]? = some u → w.cell? (ad.add j) = some u) (h1 : ∀ u ∈ news,u.oneCell' = true)
  (h63 : n + m ≤ maxLen) (hbytes : (n + m) * bytes ≤ 140737488355328) (hbase : base ≤ w.heap.size)
  (h : ∀ v' w',w'.ownsRow base e' size v' (n + m) (xs ++ news) → w.grownBy w' v.ownBlock → (v' = .slice none 0 0 ↔ v = .slice none 0 0 ∧ m = 0) → wpList P ops Q rest (a.put o.dst v') w') : wpList P ops Q (o :: rest) a w:=by
 refine wpList_plain hgd fun K hK=>?_
 obtain ⟨v',w',hr,h2,h3,h4⟩:=run_append_own (P:=P) w base t o.type e' i z size bytes ht hi hz hsize hby hzs hsz v n xs hown ad m c news hl hnews h1 h63 hbytes hbase
 have hr' : (Builtin.append_ #[t,tx] o.type #[v,.slice (some ad) m c]).run P w = .ok v' w':=by
  rw [← hr]
  obtain ⟨A0,c0,rfl⟩ : ∃ A0 c0,v = .slice A0 n c0:=by
   rcases hown.2 with ⟨h1,h2⟩ | ⟨g,cap,cur,h1,_⟩
   ·exact ⟨none,0,by rw [h1,h2]⟩
   ·exact ⟨_,cap,h1⟩
  cases A0 <;> simp [Builtin.append_,run_underlying ht,run_underlying htx,sizeOf,typeInfo,hi]
 unfold Oper.wp execOp
 simp only [ho,resolve,invoke,builtin,Sem.run_bind,Sem.run_pure,Result.andThen_ok,List.map_toArray,List.map_cons,List.map_nil,hs,hx,hr']
 exact hK _ _ (h v' w' h2 h3 h4)
end
section
variable {α : Type} {d : Kd α} {w w1 : World} {l l2 : List α} {A : Option Addr} {n : Nat}
theorem Only.to (g : Nat) {w w' : World} (h : Only g w w') {B : Nat} (hB : B ≤ w.heap.size) (hg : B ≤ g) : Below B w w':=h.below (Below.refl _ _) hB hg
theorem grown_below {w w' : World} (h : w.grownBy w' none) : Below w.heap.size w w':=⟨h.os,h.tape,h.output,h.size,fun k hk=>h.block k hk (by simp)⟩
theorem C_len (h : Kd.C d w A n l) : n = l.length:=h.1.symm
theorem C_addr (h : Kd.C d w A n l) (hn : 0 < n) : ∃ ad,A = some ad:=by obtain ⟨ad,e,_⟩:=h.2.2 hn;exact ⟨ad,e⟩
theorem C_take (h : Kd.C d w A n l) (i : Nat) (hi : i ≤ n) : Kd.C d w A i (l.take i):=by
 obtain ⟨h1,h2,h3⟩:=h
 refine ⟨by rw [List.length_take];omega,by omega,fun h0=>?_⟩
 obtain ⟨ad,e,hc⟩:=h3 (by omega)
 refine ⟨ad,e,fun j x hx=>hc j x ?_⟩
 rw [List.getElem?_take] at hx
 split at hx
 ·exact hx
 ·cases hx
theorem C_drop {ad : Addr} (h : Kd.C d w (some ad) n l) (k : Nat) (hk : k ≤ n) : Kd.C d w (some (ad.add (k * d.sz))) (n - k) (l.drop k):=by
 obtain ⟨h1,h2,h3⟩:=h
 refine ⟨by rw [List.length_drop];omega,by omega,fun h0=>?_⟩
 obtain ⟨ad',e,hc⟩:=h3 (by omega)
 obtain rfl : ad = ad':=by injection e
 refine ⟨_,rfl,fun j x hx=>?_⟩
 rw [List.getElem?_drop] at hx
 obtain ⟨c,h4,h5,h6⟩:=hc _ _ hx
 refine ⟨c,h4,h5,fun i u hu=>?_⟩
 rw [Addr.add_add,← Nat.add_assoc,← Nat.add_mul]
 exact h6 i u hu
theorem C_none (h : Kd.C d w none n l) : n = 0 ∧ l = []:=by
 rcases Nat.eq_zero_or_pos n with h0 | h0
 ·exact ⟨h0,List.length_eq_zero_iff.1 (by rw [h.1];exact h0)⟩
 ·obtain ⟨ad,e,_⟩:=h.2.2 h0;cases e
theorem C_mt (d : Kd α) (w : World) (A : Option Addr) : Kd.C d w A 0 []:=⟨rfl,by omega,fun h=>absurd h (Nat.lt_irrefl _)⟩
end
theorem own_C {α : Type} {d : Kd α} {w : World} {l : List α} {rows : List (List Value)} {base e k : Nat} {v : Value} (h : w.ownsRow base e d.sz v k rows.flatten) (hr : RowsOf d w l rows) (hk : k = l.length) (hm : l.length ≤ 9223372036854775807) :
  ∃ A c,v = .slice A k c ∧ k ≤ c ∧ Kd.C d w A k l:=by
 subst hk
 have h':=h
 rcases h.2 with ⟨h1,h0⟩ | ⟨g,cap,cur,rfl,_,_,h2,_⟩
 ·refine ⟨none,0,by rw [h1,h0],by omega,?_⟩
  have : l = []:=List.length_eq_zero_iff.1 h0
  subst this
  exact C_mt _ _ _
 ·exact ⟨_,cap,rfl,h2,rows_C hr (own_raw h') hm⟩
section
variable {P : Program} {α : Type} {d : Kd α} {w : World} {ops : Array Oper} {rest : List Oper} {o : Oper} {a : Act} {Q : Exit → Act → World → Prop} {K : Act → World → Prop}
theorem run_append_C (t ty e : TypeId) (i : TypeInfo) (z : Value) (bytes : Nat) (ht : P.underlying t = some (.slice e)) (hi : P.info? e = some i) (hz : i.zero = some z) (hsize : i.size = d.sz) (hby : i.bytes = bytes) (hzs : z.cells.size = d.sz) (hsz : 0 < d.sz)
  (A : Option Addr) (n cap : Nat) (l : List α) (hC : Kd.C d w A n l) (hnone : A = none → cap = 0) (B : Option Addr) (m c : Nat) (l2 : List α) (hC2 : Kd.C d w B m l2) (hcap : n ≤ cap) (hfull : cap < n + m ∨ m = 0) (b1 : n + m ≤ 1000000) (bb : bytes ≤ 1000) :
  ∃ A' c' w',(Builtin.append_ #[t,t] ty #[.slice A n cap,.slice B m c]).run P w = .ok (.slice A' (n + m) c') w' ∧ Kd.C d w' A' (n + m) (l ++ l2) ∧ n + m ≤ c' ∧ (A' = none → c' = 0) ∧ Below w.heap.size w w':=by
 have hl:=hC.1
 have hl2:=hC2.1
 rcases Nat.eq_zero_or_pos m with h0 | h0
 ·subst h0
  have : l2 = []:=List.length_eq_zero_iff.1 hl2
  subst this
  rw [List.append_nil]
  refine ⟨A,cap,w,?_,hC,hcap,hnone,Below.refl _ _⟩
  cases A <;> cases B <;> simp [Builtin.append_,run_underlying ht,sizeOf,typeInfo,hi,Builtin.lenOf,hcap,storeCells,Builtin.firstCells,loadCells,loadCellsFrom]
 ·have hlt : cap < n + m:=by omega
  obtain ⟨bd,rfl⟩:=C_addr hC2 h0
  subst hl2
  obtain ⟨rows2,r2,q2⟩:=C_rows hC2
  have hbytes : (n + l2.length) * bytes ≤ 140737488355328:=Nat.le_trans (Nat.mul_le_mul b1 bb) (by decide)
  have fin : ∀ (rows : List (List Value)) (v' : Value) (w' : World),RowsOf d w l rows → w'.ownsRow w.heap.size e d.sz v' (n + l2.length) (rows.flatten ++ rows2.flatten) → w.grownBy w' none →
    ∃ A' c',v' = .slice A' (n + l2.length) c' ∧ Kd.C d w' A' (n + l2.length) (l ++ l2) ∧ n + l2.length ≤ c' ∧ (A' = none → c' = 0) ∧ Below w.heap.size w w':=by
   intro rows v' w' hr ho hg
   have hb:=grown_below hg
   rw [← List.flatten_append] at ho
   obtain ⟨A',c',e1,e2,e3⟩:=own_C ho ((hr.below hb).append (r2.below hb)) (by rw [List.length_append];omega) (by rw [List.length_append];omega)
   refine ⟨A',c',e1,e3,e2,fun h=>?_,hb⟩
   subst h
   have:=(C_none e3).1
   omega
  cases A with
  | none =>
   obtain ⟨rfl,rfl⟩:=C_none hC
   obtain rfl:=hnone rfl
   obtain ⟨v',w',hrun,ho,hg,_⟩:=run_append_own (P:=P) w w.heap.size t ty e i z d.sz bytes ht hi hz hsize hby hzs hsz (.slice none 0 0) 0 [] (World.ownsRow_nil w _ e d.sz) bd l2.length c rows2.flatten (by rw [flat_len r2.lens,r2.len]) q2 r2.one (by unfold maxLen;omega) hbytes (Nat.le_refl _)
   obtain ⟨A',c',rfl,k1,k2,k3,k4⟩:=fin [] v' w' RowsOf.nil_ (by simpa using ho) (by simpa [Value.ownBlock] using hg)
   exact ⟨A',c',w',hrun,k1,k2,k3,k4⟩
  | some ad =>
   subst hl
   obtain ⟨rows,r1,q1⟩:=C_rows hC
   obtain ⟨v',w',hrun,ho,hg⟩:=run_append_arg_grows (P:=P) w t ty e i z d.sz bytes ht hi hz hsize hby hzs hsz ad l.length cap rows.flatten (by rw [flat_len r1.lens,r1.len]) q1 bd l2.length c rows2.flatten (by rw [flat_len r2.lens,r2.len]) q2 hlt (by unfold maxLen;omega) hbytes
   obtain ⟨A',c',rfl,k1,k2,k3,k4⟩:=fin rows v' w' r1 ho hg
   exact ⟨A',c',w',hrun,k1,k2,k3,k4⟩
theorem wp_append_C (s x : Operand) (t : TypeId) (ho : o.op = .call { callee:=.builtin .append,args:=#[s,x],argTypes:=#[t,t] })
  (e : TypeId) (i : TypeInfo) (z : Value) (bytes : Nat) (ht : P.underlying t = some (.slice e)) (hi : P.info? e = some i) (hz : i.zero = some z) (hsize : i.size = d.sz) (hby : i.bytes = bytes) (hzs : z.cells.size = d.sz) (hsz : 0 < d.sz)
  (A : Option Addr) (n cap : Nat) (l : List α) (hs : a.eval s = .slice A n cap) (hC : Kd.C d w A n l) (hnone : A = none → cap = 0) (B : Option Addr) (m c : Nat) (l2 : List α) (hx : a.eval x = .slice B m c) (hC2 : Kd.C d w B m l2) (hcap : n ≤ cap) (hfull : cap < n + m ∨ m = 0) (b1 : n + m ≤ 1000000) (bb : bytes ≤ 1000)
  (hK : ∀ A' c' w',Hid (Kd.C d w' A' (n + m) (l ++ l2)) → n + m ≤ c' → Hid (A' = none → c' = 0) → Hid (Below w.heap.size w w') → K (a.put o.dst (.slice A' (n + m) c')) w') : Oper.wp P o a w K Q:=by
 obtain ⟨A',c',w',hrun,k1,k2,k3,k4⟩:=run_append_C (P:=P) t o.type e i z bytes ht hi hz hsize hby hzs hsz A n cap l hC hnone B m c l2 hC2 hcap hfull b1 bb
 unfold Oper.wp
 simp [execOp,ho,resolve,invoke,builtin,hs,hx,hrun,Result.andThen]
 exact hK _ _ _ k1 k2 k3 k4
theorem wpList_append_C (hgd : o.guard = none) (s x : Operand) (t : TypeId) (ho : o.op = .call { callee:=.builtin .append,args:=#[s,x],argTypes:=#[t,t] })
  (e : TypeId) (i : TypeInfo) (z : Value) (bytes : Nat) (ht : P.underlying t = some (.slice e)) (hi : P.info? e = some i) (hz : i.zero = some z) (hsize : i.size = d.sz) (hby : i.bytes = bytes) (hzs : z.cells.size = d.sz) (hsz : 0 < d.sz)
  (A : Option Addr) (n cap : Nat) (l : List α) (hs : a.eval s = .slice A n cap) (hC : Kd.C d w A n l) (hnone : A = none → cap = 0) (B : Option Addr) (m c : Nat) (l2 : List α) (hx : a.eval x = .slice B m c) (hC2 : Kd.C d w B m l2) (hcap : n ≤ cap) (hfull : cap < n + m ∨ m = 0) (b1 : n + m ≤ 1000000) (bb : bytes ≤ 1000)
  (hK : ∀ A' c' w',Hid (Kd.C d w' A' (n + m) (l ++ l2)) → n + m ≤ c' → Hid (A' = none → c' = 0) → Hid (Below w.heap.size w w') → wpList P ops Q rest (a.put o.dst (.slice A' (n + m) c')) w') : wpList P ops Q (o :: rest) a w :=
 wpList_plain hgd fun K hK'=>wp_append_C s x t ho e i z bytes ht hi hz hsize hby hzs hsz A n cap l hs hC hnone B m c l2 hx hC2 hcap hfull b1 bb fun A' c' w' h1 h2 h3 h4=>hK' _ _ (hK A' c' w' h1 h2 h3 h4)
end
theorem zl {g k : Nat} {w w' : World} {o : Obj} (h : Hid (Only g w w')) (hk : Hid (w.heap[k]? = some o)) (hg : k ≠ g) : Hid (w'.heap[k]? = some o):=h.out.blk hk.out hg
theorem zo {g : Nat} {w0 w w' : World} (h : Hid (Only g w w')) (hb : Hid (Below w0.heap.size w0 w)) (hg : Hid (w0.heap.size ≤ g)) : Hid (Below w0.heap.size w0 w'):=h.out.below hb.out hb.out.size hg.out
section
variable {P : Program} {w : World} {ops : Array Oper} {rest : List Oper} {o : Oper} {a : Go.Act} {Q : Exit → Go.Act → World → Prop}
theorem zs (e : TypeId) (p x : Operand) (g off : Nat) (t : TypeId) (seg : List Value) {cur : Array Value} (hh : Hid (w.heap[g]? = some (.cells cur t (0,0)))) (ht : (P.info? e).map (·.size) = some seg.length)
 (h : ∀ w1,Hid (w1.heap[g]? = some (.cells (splice cur.toList off seg).toArray t (0,0))) → Hid (Only g w w1) → wpList P ops Q rest a w1) (hN : o.dst = none:=by rfl) (hgd : o.guard = none:=by rfl) (ho : o.op = .store e p x:=by rfl)
 (haddr : a.eval p = .pointer (some ⟨g,off,none⟩):=by rfl) (hx : a.eval x = .agg seg.toArray:=by rfl) (hu : (Value.agg seg.toArray).cells.toList = seg:=by rfl) (hfit : off + seg.length ≤ cur.size:=by exact Nat.le_of_ble_eq_true rfl)
 (h1 : ∀ q ∈ seg,q.oneCell' = true:=by simp [Value.oneCell']) : wpList P ops Q (o :: rest) a w:=wpList_store_row hN hgd e p x ho g off cur t _ seg haddr hx hh.out hu ht hfit h1 h
theorem zq (e : TypeId) (p x : Operand) (g off : Nat) (t : TypeId) (q : Value) {cur : Array Value} (hh : Hid (w.heap[g]? = some (.cells cur t (0,0)))) (ht : (P.info? e).map (·.size) = some 1)
 (h : ∀ w1,Hid (w1.heap[g]? = some (.cells (splice cur.toList off [q]).toArray t (0,0))) → Hid (Only g w w1) → wpList P ops Q rest a w1) (hN : o.dst = none:=by rfl) (hgd : o.guard = none:=by rfl) (ho : o.op = .store e p x:=by rfl)
 (haddr : a.eval p = .pointer (some ⟨g,off,none⟩):=by rfl) (hx : a.eval x = q:=by rfl) (hu : q.cells.toList = [q]:=by rfl) (hfit : off + 1 ≤ cur.size:=by exact Nat.le_of_ble_eq_true rfl)
 (h1 : ∀ r ∈ [q],r.oneCell' = true:=by simp [Value.oneCell']) : wpList P ops Q (o :: rest) a w:=wpList_store_row hN hgd e p x ho g off cur t _ [q] haddr hx hh.out hu ht hfit h1 h
end
end
section
theorem once_disable (w : World) : (callFunc 200 #[]).run Tryz.prog w = .ok (.value (.tuple #[])) w:=run_call_mark0 Tryz.func200 (by kernel_rfl) (by kernel_rfl) (by kernel_rfl) .disable (by kernel_rfl) w
theorem once_enable (w : World) : (callFunc 202 #[]).run Tryz.prog w = .ok (.value (.tuple #[])) w:=run_call_mark0 Tryz.func202 (by kernel_rfl) (by kernel_rfl) (by kernel_rfl) .enable (by kernel_rfl) w
theorem once_acquire (a : Addr) (w : World) : (callFunc 203 #[.pointer (some a)]).run Tryz.prog w = .ok (.value (.tuple #[])) w:=run_call_marked Tryz.func203 (by kernel_rfl) (by kernel_rfl) (by kernel_rfl) .acquire (by kernel_rfl) a w
theorem once_release (a : Addr) (w : World) : (callFunc 205 #[.pointer (some a)]).run Tryz.prog w = .ok (.value (.tuple #[])) w:=run_call_marked Tryz.func205 (by kernel_rfl) (by kernel_rfl) (by kernel_rfl) .releaseMerge (by kernel_rfl) a w
theorem once_store (a : Addr) (x : Value) (u : FrameMode) (w : World) (hc : w.cell? a = some x) (hz : w.frozen? a = false) :
  CallsD Tryz.prog 188 #[.pointer (some a),.bool true] u w fun e u' w'=>u' = u ∧ (e = .returned (.tuple #[]) ∧ w' = w.drew.setCell a (.int .u32 1)):=by
 have hc' : w.drew.cell? a = some x:=by go_simp
 have hz' : w.drew.frozen? a = false:=by go_simp
 have hst:=run_call_store (P:=Tryz.prog) Tryz.func196 (by kernel_rfl) (by kernel_rfl) (by kernel_rfl) (by kernel_rfl) (k:=.u32) (y:=1) hc' hz'
 go_enter_d Tryz.func188,Tryz.ntmps188
 go_wp2
 go_region_calls
 all_goals (go_end0;exact ⟨rfl,rfl⟩)
theorem once_unlock (a : Addr) (u : FrameMode) (w : World) (hc : w.cell? a = some (.int .i32 1)) (hz : w.frozen? a = false) :
  CallsD Tryz.prog 187 #[.pointer (some a)] u w fun e u' w'=>u' = u ∧ (e = .returned (.tuple #[]) ∧ w' = w.setCell a (.int .i32 0)):=by
 have hd:=once_disable
 have he:=once_enable
 have hr:=once_release
 have hadd:=run_call_add (P:=Tryz.prog) Tryz.func206 (by kernel_rfl) (by kernel_rfl) (by kernel_rfl) .i32 (by kernel_rfl) (y:=-1) (s:=0) hc hz (by simp [go_sem];rfl)
 have hcv:=run_convert_to_unsafe (P:=Tryz.prog) (src:=270) (dst:=242) Tryz.underlying270 Tryz.underlying242 (by kernel_rfl) hc
 go_enter_d Tryz.func187,Tryz.ntmps187
 go_wp2
 go_end0
 go_wp2
 go_end0
 exact ⟨rfl,rfl⟩
theorem once_lock (a : Addr) (w : World) (hc : w.cell? a = some (.int .i32 0)) (hz : w.frozen? a = false) :
  Calls Tryz.prog 186 #[.pointer (some a)] w fun e w'=>e = .returned (.tuple #[]) ∧ w' = w.setCell a (.int .i32 1):=by
 have hd:=once_disable
 have he:=once_enable
 have ha:=once_acquire
 have hcas:=run_call_cas_hit (P:=Tryz.prog) Tryz.func201 (by kernel_rfl) (by kernel_rfl) (by kernel_rfl) .i32 (by kernel_rfl) (y:=1) hc hz
 have hc' : (w.setCell a (.int .i32 1)).cell? a = some (.int .i32 1):=World.cell?_setCell_same w a _ hc
 have hcv:=run_convert_to_unsafe (P:=Tryz.prog) (src:=270) (dst:=242) Tryz.underlying270 Tryz.underlying242 (by kernel_rfl) hc'
 go_enter Tryz.func186,Tryz.ntmps186
 go_wp2
 first | go_end0 | (simp only [Exit.inBlock,Exit.then];refine bodyPost_ret (results_none rfl _ _ _) rfl ?_) | refine bodyPost_ret (results_none rfl _ _ _) rfl ?_
 go_wp2
 go_end0
 exact ⟨rfl,rfl⟩
end
section
theorem bits32_range (op : BinOp) (x y : Int) : 0 ≤ bits op .u32 x y ∧ bits op .u32 x y < 4294967296:=by
 have : ∀ n : Int,IntKind.u32.wrap n = n % 4294967296:=fun n=>by simp [IntKind.wrap,IntKind.bits,IntKind.signed]
 unfold bits
 rw [this]
 omega
theorem bits8_range (op : BinOp) (x y : Int) : 0 ≤ bits op .u8 x y ∧ bits op .u8 x y < 256:=by
 have : ∀ n : Int,IntKind.u8.wrap n = n % 256:=fun n=>by simp [IntKind.wrap,IntKind.bits,IntKind.signed]
 unfold bits
 rw [this]
 omega
def tone (x : Int) : Int:=bits .xor .u32 (x / 2) (2197175160 * bits .and .u32 x 1 % 4294967296)
def ttimes : Nat → Int → Int
 | 0,x=>x
 | m + 1,x=>tone (ttimes m x)
def tab (i : Nat) : Int:=ttimes 8 i
theorem tone_range (x : Int) : 0 ≤ tone x ∧ tone x < 4294967296:=bits32_range _ _ _
def TabTo (k : Nat) (cs cs' : Array Value) : Prop:=cs'.size = 259 ∧ cs'[0]? = cs[0]? ∧ cs'[1]? = cs[1]? ∧ ∀ i,i < k → cs'[3 + i]? = some (.int .u32 (tab i))
theorem TabTo.start {cs : Array Value} (h : cs.size = 259) : TabTo 0 cs cs:=⟨h,rfl,rfl,fun i hi=>absurd hi (Nat.not_lt_zero _)⟩
theorem TabTo.step {k : Nat} {cs cs' : Array Value} (h : TabTo k cs cs') (hk : k < 256) {x : Int} (hx : ttimes 8 k = x) : TabTo (k + 1) cs (cs'.setIfInBounds (3 + k) (.int .u32 x)):=by
 obtain ⟨h1,h2,h3,h4⟩:=h
 refine ⟨by simpa using h1,?_,?_,fun i hi=>?_⟩
 ·rw [Array.getElem?_setIfInBounds,if_neg (by omega)];exact h2
 ·rw [Array.getElem?_setIfInBounds,if_neg (by omega)];exact h3
 ·rw [Array.getElem?_setIfInBounds]
  by_cases e : i = k
  ·subst e;rw [if_pos rfl,if_pos (by omega),← hx];rfl
  ·rw [if_neg (by omega)];exact h4 i (by omega)
theorem made_fill (b : Nat) (pl : Addr) (hpb : pl.block ≠ b) (cs : Array Value) (w : World) (hp : w.cell? pl = some (.pointer (some ⟨b,0,none⟩)))
  (hb : w.heap[b]? = some (.cells cs 238 (0,0))) (hsz : cs.size = 259) :
  Calls Tryz.prog 175 #[.pointer (some pl)] w fun e w'=>e = .returned (.tuple #[]) ∧ Only b w w' ∧ ∃ cs',w'.heap[b]? = some (.cells cs' 238 (0,0)) ∧ TabTo 256 cs cs':=by
 have HO:=Only.refl b w
 have HP:=zh hp;clear hp
 have HBK:=zh hb;clear hb
 have HSZ:=zh hsz;clear hsz
 go_enter Tryz.func175,Tryz.ntmps175
 go_wp2
 go_loopw [1,2,3] (fun _ _ i wr=>∃ (k : Nat) (cs' : Array Value),i = .int .i64 k ∧ k ≤ 256 ∧ Hid (Only b w wr) ∧ Hid (wr.heap[b]? = some (.cells cs' 238 (0,0))) ∧ Hid (TabTo k cs cs')) (fun _ _ i _=>256 - (intOf i).toNat)
 case atStart=>exact ⟨0,cs,rfl,by omega,HO,HBK,TabTo.start HSZ.out⟩
 case round =>
  obtain ⟨k,cs',rfl,hk,ho,hbk,ht⟩:=hrel
  by_cases hlt : k < 256
  ·go_wp2
   go_loop [2,8] (fun c j=>∃ (m : Nat) (x : Int),j = .int .i64 m ∧ m ≤ 8 ∧ c = .int .u32 x ∧ 0 ≤ x ∧ x < 4294967296 ∧ Hid (ttimes m k = x)) (fun _ j=>8 - (intOf j).toNat)
   case atStart=>exact ⟨0,k,rfl,by omega,rfl,by omega,by omega,rfl⟩
   case round =>
    obtain ⟨m,x,rfl,hm,rfl,hx0,hx1,hx⟩:=hrel
    by_cases hlt2 : m < 8
    ·go_wp2
     go_round
     case rel=>exact ⟨m + 1,_,by go_num,by omega,rfl,(tone_range x).1,(tone_range x).2,by unfold Hid;rw [← hx.out];rfl⟩
     case measure=>simp [intOf];omega
    ·obtain rfl : m = 8:=by omega
     have hP:=ho.out.cell hpb HP.out
     obtain ⟨y,hy⟩ : ∃ y,wr.cell? ⟨b,3 + k,none⟩ = some y:=by
      rw [blk_cell hbk.out];exact ⟨_,Array.getElem?_eq_getElem (by have:=ht.out.1;omega)⟩
     have hf:=blk_frozen hbk.out (3 + k)
     have hbk2:=zh (blk_set hbk.out (3 + k) (.int .u32 x))
     have ht2:=zh (ht.out.step hlt hx.out)
     go_wp2
     go_roundw
     case rel=>exact ⟨k + 1,_,by go_num,by omega,ho.out.set _ _,hbk2,ht2⟩
     case measure=>simp [intOf];omega
  ·obtain rfl : k = 256:=by omega
   go_wp2
   go_end0
   exact ⟨rfl,ho.out,cs',hbk.out,ht.out⟩
end
section
theorem once_load0 (a : Addr) (w : World) (h : w.cell? a = some (.int .u32 0)) : Calls Tryz.prog 178 #[.pointer (some a)] w fun e w'=>e = .returned (.bool false) ∧ w' = w:=by
 have hl:=run_call_load (P:=Tryz.prog) Tryz.func185 (by kernel_rfl) (by kernel_rfl) (by kernel_rfl) .u32 (by kernel_rfl) h
 go_enter Tryz.func178,Tryz.ntmps178
 go_wp2
 go_ret
 exact ⟨rfl,rfl⟩
/-- doSlow, the Once not yet done and its lock free. -/
theorem once_slow (b : Nat) (pl : Addr) (hpb : pl.block ≠ b) (cs : Array Value) (w : World) (hp : w.cell? pl = some (.pointer (some ⟨b,0,none⟩)))
  (hb : w.heap[b]? = some (.cells cs 238 (0,0))) (hsz : cs.size = 259) (h0 : cs[0]? = some (.int .u32 0)) (h1 : cs[1]? = some (.int .i32 0)) :
  Calls Tryz.prog 179 #[.pointer (some ⟨b,0,none⟩),.func (.func 175) #[] #[.pointer (some pl)]] w fun e w'=>e = .returned (.tuple #[]) ∧
   Only b w w' ∧ ∃ cs',w'.heap[b]? = some (.cells cs' 238 (0,0)) ∧ ∀ i,i < 256 → cs'[3 + i]? = some (.int .u32 (tab i)):=by
 have hb1:=blk_set hb 1 (.int .i32 1)
 have HL:=zh (once_load0 ⟨b,0,none⟩ (w.setCell ⟨b,1,none⟩ (.int .i32 1)) ((blk_cell hb1 0).trans (by simpa using h0)))
 have hnot : ∀ (x : Bool) (w : World),(Op.unary .not (.bool x)).run Tryz.prog w = .ok (.bool (!x)) w:=fun _ _=>rfl
 have hc1 : w.cell? ⟨b,1,none⟩ = some (.int .i32 0):=(blk_cell hb 1).trans h1
 have hf1:=blk_frozen hb 1
 have HB1:=zh hb1;clear hb1
 have HO:=zh ((Only.refl b w).set 1 (.int .i32 1))
 have HP:=zh hp;clear hp
 have HS:=zh (show (cs.setIfInBounds 1 (.int .i32 1)).size = 259 by simpa using hsz)
 have HC0:=zh (show (cs.setIfInBounds 1 (.int .i32 1))[0]? = some (.int .u32 0) by simpa using h0)
 have HC1:=zh (show (cs.setIfInBounds 1 (.int .i32 1))[1]? = some (.int .i32 1) by rw [Array.getElem?_setIfInBounds,if_pos rfl,if_pos (by omega)])
 clear hb h0 h1 hsz
 go_enter_defers Tryz.func179,Tryz.ntmps179
 go_wp2_with (first | (go_at_call 186;refine (once_lock ⟨b,1,none⟩ _ (by go_simp) (by go_simp)).mono ?_;rintro e w' ⟨rfl,rfl⟩) | (go_at_call 178;refine HL.out.mono ?_;rintro e w' ⟨rfl,rfl⟩) | (go_at_call 175;refine (made_fill b pl hpb _ _ (HO.out.cell hpb HP.out) HB1.out HS.out).mono ?_;rintro e w2 ⟨rfl,ho2,cs2,hb2,ht2⟩;have HO2:=zh ho2;have HB2:=zh hb2;have HT2:=zh ht2;clear ho2 hb2 ht2))
 refine leaves_cons (f:=188) (args:=#[.pointer (some ⟨b,0,none⟩),.bool true]) (by simp) (by simp [go_sem]) ?_
 refine (once_store ⟨b,0,none⟩ (.int .u32 0) .returning _ ?_ (blk_frozen HB2.out 0)).mono ?_
 ·rw [zj HB2 0,HT2.out.2.1];exact HC0.out
 rintro e u' w'' ⟨rfl,rfl,rfl⟩
 refine leaves_cons (f:=187) (args:=#[.pointer (some ⟨b,1,none⟩)]) (by simp [settle]) (by simp [go_sem]) ?_
 have HB3:=zh (blk_set (blk_drew HB2.out) 0 (.int .u32 1))
 refine (once_unlock ⟨b,1,none⟩ _ _ ?_ (blk_frozen HB3.out 1)).mono ?_
 ·rw [zj HB3 1,Array.getElem?_setIfInBounds,if_neg (by omega),HT2.out.2.2.1];exact HC1.out
 rintro e u' w'' ⟨rfl,rfl,rfl⟩
 have HB4:=zh (blk_set HB3.out 1 (.int .i32 0))
 have HO4:=zh (((((HO.out.trans HO2.out).drewN 1).set 0 (.int .u32 1)).set 1 (.int .i32 0)))
 have HT:=zh (show ∀ i,i < 256 → ((cs2.setIfInBounds 0 (.int .u32 1)).setIfInBounds 1 (.int .i32 0))[3 + i]? = some (.int .u32 (tab i)) from fun i hi=>by
  rw [Array.getElem?_setIfInBounds,if_neg (by omega),Array.getElem?_setIfInBounds,if_neg (by omega)];exact HT2.out.2.2.2 i hi)
 have hres : ∀ (a : Array Value) (w : World),(results Tryz.f179 a).run Tryz.prog w = .ok (.tuple #[]) w:=fun a w=>results_none (by kernel_rfl) _ _ _
 simp [Leaves,settle,hres]
 exact ⟨HO4.out,_,HB4.out,HT.out⟩
theorem once_do (b : Nat) (pl : Addr) (hpb : pl.block ≠ b) (cs : Array Value) (w : World) (hp : w.cell? pl = some (.pointer (some ⟨b,0,none⟩)))
  (hb : w.heap[b]? = some (.cells cs 238 (0,0))) (hsz : cs.size = 259) (h0 : cs[0]? = some (.int .u32 0)) (h1 : cs[1]? = some (.int .i32 0)) :
  Calls Tryz.prog 174 #[.pointer (some ⟨b,0,none⟩),.func (.func 175) #[] #[.pointer (some pl)]] w fun e w'=>e = .returned (.tuple #[]) ∧
   Only b w w' ∧ ∃ cs',w'.heap[b]? = some (.cells cs' 238 (0,0)) ∧ ∀ i,i < 256 → cs'[3 + i]? = some (.int .u32 (tab i)):=by
 have HL:=zh (once_load0 ⟨b,0,none⟩ w ((blk_cell hb 0).trans h0))
 have HS:=zh (once_slow b pl hpb cs w hp hb hsz h0 h1)
 have hc0:=(blk_cell hb 0).trans h0
 clear hp hb hsz h0 h1
 go_enter Tryz.func174,Tryz.ntmps174
 go_wp2_with (first | (go_at_call 178;refine HL.out.mono ?_;rintro e w' ⟨rfl,rfl⟩) | (go_at_call 179;refine HS.out.mono ?_;rintro e w' ⟨rfl,ho,hr⟩;have HR:=zh hr;have HO:=zh ho;clear ho hr))
 go_end0
 exact ⟨rfl,HO.out,HR.out⟩
theorem tag_made (b : Nat) (cs : Array Value) (w : World) (hb : w.heap[b]? = some (.cells cs 238 (0,0))) (hsz : cs.size = 259) (h0 : cs[0]? = some (.int .u32 0)) (h1 : cs[1]? = some (.int .i32 0)) :
  Calls Tryz.prog 165 #[.pointer (some ⟨b,0,none⟩)] w fun e w'=>e = .returned (.pointer (some ⟨b,3,none⟩)) ∧
   Only b w w' ∧ ∃ cs',w'.heap[b]? = some (.cells cs' 238 (0,0)) ∧ ∀ i,i < 256 → cs'[3 + i]? = some (.int .u32 (tab i)):=by
 have hlt:=blk_lt hb
 have hc0:=(blk_cell hb 0).trans h0
 have HS:=zh (once_do b ⟨w.heap.size,0,none⟩ (by show w.heap.size ≠ b;omega) cs (w.alloc (.cells #[.pointer (some ⟨b,0,none⟩)] 247)) (by simp [go_sem]) (blk_alloc hb _) hsz h0 h1)
 have HW:=zh (show (w.alloc (.cells #[.pointer (some ⟨b,0,none⟩)] 247)).cell? ⟨w.heap.size,0,none⟩ = some (.pointer (some ⟨b,0,none⟩)) by simp [go_sem])
 have HN:=zh (show w.heap.size ≠ b by omega)
 clear hb hsz h0 h1 hlt
 go_enter Tryz.func165,Tryz.ntmps165
 go_wp2_with (go_at_call 174;refine HS.out.mono ?_;rintro e w1 ⟨rfl,ho,hr⟩;have HR:=zh hr;have HO:=zh ho;clear ho hr;have hw1:=HO.out.cell HN.out HW.out)
 go_ret
 refine ⟨rfl,?_,HR.out⟩
 have h:=HO.out
 exact ⟨h.os,h.tape,h.output,Nat.le_trans (by simp) h.size,fun k hk hg=>(h.block k (by simp;omega) hg).trans (Below.heap_alloc _ _ _ hk)⟩
end
section
def tagZ : Array Value:=#[.int .u32 0,.int .i32 0,.int .u32 0] ++ Array.replicate 256 (.int .u32 0)
theorem tagZ_size : tagZ.size = 259:=by simp [tagZ]
theorem tagZ_0 : tagZ[0]? = some (.int .u32 0):=by simp [tagZ]
theorem tagZ_1 : tagZ[1]? = some (.int .i32 0):=by simp [tagZ]
theorem tag_alloc (w : World) : (Instr.alloc 238 true (.tuple #[])).run Tryz.prog w = .ok (.pointer (some ⟨w.heap.size,0,none⟩)) (w.alloc (.cells tagZ 238)):=by kernel_rfl
def tagStep (c x : Int) : Int:=bits .xor .u32 (tab (bits .xor .u8 (c % 256) x).toNat) (c / 256)
def tagRun (c : Int) (l : List UInt8) : Int:=l.foldl (fun c x=>tagStep c x.toNat) c
theorem tagStep_range (c x : Int) : 0 ≤ tagStep c x ∧ tagStep c x < 4294967296:=bits32_range _ _ _
def tagNot (t : Int) : Int:=bits .xor .u32 IntKind.u32.max t
theorem tagNot_range (t : Int) : 0 ≤ tagNot t ∧ tagNot t < 4294967296:=bits32_range _ _ _
theorem tagRun_snoc (c : Int) (s : ByteArray) (k : Nat) (h : k < s.size) : tagRun c (s.data.toList.take (k + 1)) = tagStep (tagRun c (s.data.toList.take k)) s[k].toNat:=by
 rw [List.take_succ_eq_append_getElem (by simpa using h)]
 unfold tagRun
 rw [List.foldl_append]
 rfl
def tagMore (t : Int) (s : ByteArray) : Int:=tagNot (tagRun (tagNot t) s.data.toList)
theorem tag_More.walk (t : Int) (s : ByteArray) (hs : s.size ≤ 9223372036854775807) (w : World) :
  Calls Tryz.prog 137 #[.int .u32 t,.string s] w fun e w'=>e = .returned (.int .u32 (tagMore t s)) ∧ Below w.heap.size w w':=by
 have hal:=tag_alloc
 have hb:=blk_new w (.cells tagZ 238)
 have HM:=zh (tag_made w.heap.size tagZ (w.alloc (.cells tagZ 238)) hb tagZ_size tagZ_0 tagZ_1)
 have HB0:=zh ((Below.refl w.heap.size w).alloc (Nat.le_refl _) (.cells tagZ 238))
 clear hb
 go_enter Tryz.func137,Tryz.ntmps137
 go_wp2_with (go_at_call 165;refine HM.out.mono ?_;rintro e w1 ⟨rfl,ho,hr⟩;have HR:=zh hr;have HB1:=zh (ho.below HB0.out (by simp) (Nat.le_refl _));clear ho hr)
 clear hal HM HB0
 obtain ⟨cs,hb1,hcs⟩:=HR.out
 have HBK:=zh hb1
 have HCS:=zh hcs
 clear HR hb1 hcs
 go_loopw [7,14] (fun c i wr=>∃ (k : Nat) (x : Int),i = .int .i64 k ∧ k ≤ s.size ∧ c = .int .u32 x ∧ 0 ≤ x ∧ x < 4294967296 ∧ Hid (tagRun (tagNot t) (s.data.toList.take k) = x) ∧ Hid (wr.heap[w.heap.size]? = some (.cells cs 238 (0,0))) ∧ Hid (Below w.heap.size w wr)) (fun _ i _=>s.size - (intOf i).toNat)
 case atStart=>exact ⟨0,tagNot t,rfl,Nat.zero_le _,rfl,(tagNot_range t).1,(tagNot_range t).2,rfl,HBK,HB1⟩
 case round =>
  obtain ⟨k,x,rfl,hk,rfl,hx0,hx1,hx,hbk,hbl⟩:=hrel
  by_cases hlt : k < s.size
  ·have r1:=(bits8_range .xor (x % 256) s[k].toNat).1
   have r2:=(bits8_range .xor (x % 256) s[k].toNat).2
   have hc:=(blk_cell hbk.out (3 + (bits .xor .u8 (x % 256) s[k].toNat).toNat)).trans (HCS.out _ (by omega))
   have hn:=zh ((tagRun_snoc (tagNot t) s k hlt).trans (by rw [hx.out]))
   go_wp2
   go_quiet (fail)
   go_wp2
   go_roundw
   case rel=>exact ⟨k + 1,_,by go_num,by omega,rfl,(tagStep_range x s[k].toNat).1,(tagStep_range x s[k].toNat).2,hn,hbk,hbl.out.trans (below_drewN _ _ _)⟩
   case measure=>simp [intOf];omega
  ·have he : tagRun (tagNot t) s.data.toList = x:=by
    have:=hx.out;rw [List.take_of_length_le (by simp;omega)] at this;exact this
   have HE:=zh he;clear he
   go_wp2
   go_ret
   exact ⟨by unfold tagMore;rw [HE.out];rfl,hbl.out⟩
end
section
theorem bd_info5 : (Tryz.prog.info? 5).map (fun i=>(i.zero,i.size,i.bytes)) = some (some (.int .u8 0),1,1):=by kernel_rfl
theorem bd_size : (Tryz.prog.info? 159).map (·.size) = some 2:=by kernel_rfl
theorem bd_lies : liesAt Tryz.prog Tryz.prog.depth 159 (2 / Tryz.prog.cellsOf 159) 0 159 1 = true:=by kernel_rfl
theorem bd_check_used (b : Nat) (w : World) (h0 : w.cell? ⟨b,0,none⟩ = some (.pointer (some ⟨b,0,none⟩))) :
  Calls Tryz.prog 141 #[.pointer (some ⟨b,0,none⟩)] w fun e w'=>e = .returned (.tuple #[]) ∧ w' = w:=by
 obtain ⟨j,hj,_⟩:=Option.map_eq_some_iff.1 bd_size
 go_enter Tryz.func141,Tryz.ntmps141
 go_wp2
 rw [Lib.run_neq_ptr_same w _ Tryz.underlying156 hj]
 go_wp2
 go_end0
 exact ⟨rfl,rfl⟩
theorem bd_check_fresh (b : Nat) (w : World) (h0 : w.cell? ⟨b,0,none⟩ = some (.pointer none)) (hsh : w.shape? b = some (159,2)) (hfz : w.frozen? ⟨b,0,none⟩ = false) :
  Calls Tryz.prog 141 #[.pointer (some ⟨b,0,none⟩)] w fun e w'=>e = .returned (.tuple #[]) ∧ w' = w.setCell ⟨b,0,none⟩ (.pointer (some ⟨b,0,none⟩)):=by
 obtain ⟨j,hj,hjs⟩:=Option.map_eq_some_iff.1 bd_size
 go_enter Tryz.func141,Tryz.ntmps141
 go_wp2
 rw [Lib.run_to_unsafe w ⟨b,0,none⟩ Tryz.underlying156 Tryz.underlying242 hj (by rw [hjs];decide) hsh (Nat.zero_lt_succ 1)]
 simp only [Result.andThen]
 rw [Oper.upon_value]
 go_wp2
 rw [run_callFunc_extern Tryz.func167 (by kernel_rfl) (by kernel_rfl) (by kernel_rfl) (e:=Extern.AbiNoEscape.same) (by kernel_rfl)]
 rw [Lib.run_noEscape]
 simp only [Result.andThen]
 rw [Oper.upon_value]
 go_wp2
 rw [Lib.run_from_unsafe w ⟨b,0,none⟩ Tryz.underlying242 Tryz.underlying156 hj hsh bd_lies]
 simp only [Result.andThen]
 rw [Oper.upon_value]
 go_wp2
 go_end0
 exact ⟨rfl,rfl⟩
end
end Go.Proofs.YtekooapbdgippaaGreatDoor.Q
/-
 DERIVED: THE SHELF's CONTRACTS AT THIS DUMP,IN PLAIN WORDS (tools/lay-plain.mjs out of 'TryzShelf.lean',which tools/lay-shelf.mjs wrote): THE SAME DECLARATIONS UNDER THE SAME NAMES: 'import','namespace','open','def','theorem' AND NOTHING ELSE: no command of the shelf's: FOR A HAND-IN. Each laying: the table of numbers ('.._ren') and one theorem,a field a fact of the dump's own or the kernel's comparison;each contract: ONE APPLICATION.
-/
namespace Go.Proofs
open Go.Shelf
def Tryz.lays170_ren : Go.Shelf.Ren:=⟨fun | 170=>99 | n=>n,fun | 70=>156 | 3=>3 | 0=>0 | 72=>159 | 37=>157 | 5=>5 | n=>n,fun | n=>n⟩
theorem Tryz.lays170 : Go.Proofs.Lays.n170 Tryz.prog Tryz.lays170_ren:={
 mixed:=by kernel_rfl
 f170:=Tryz.func99.trans (congrArg some (by kernel_rfl))
 t0:=Tryz.underlying0
 a0:=Tryz.isAgg0
 z0:=Tryz.sizeOf0
 v0:=Tryz.zeroValue0
 t3:=Tryz.underlying3
 a3:=Tryz.isAgg3
 z3:=Tryz.sizeOf3
 v3:=Tryz.zeroValue3
 t37:=Tryz.underlying157
 a37:=Tryz.isAgg157
 z37:=Tryz.sizeOf157
 v37:=Tryz.zeroValue157
 t70:=Tryz.underlying156
 a70:=Tryz.isAgg156
 z70:=Tryz.sizeOf156
 v70:=Tryz.zeroValue156
 t72:=Tryz.underlying159
 a72:=Tryz.isAgg159
 z72:=Tryz.sizeOf159
 v72:=Tryz.zeroValue159 }
open Go.RowKit in
/-- (*strings.Builder).Len: "Len returns the number of accumulated bytes; b.Len() == len(b.String()).": the world is as it was. (LAID: no walk: one application.) -/
theorem Tryz.Builder_Len (B b : Nat) (bs : List Value) (w : World) (h : Lib.IsBuilder 159 5 B b bs w) :
  Calls Tryz.prog 99 #[.pointer (some ⟨b,0,none⟩)] w fun e w'=>e = .returned (.int .i64 bs.length) ∧ w' = w:=Any.Builder_Len Tryz.lays170 B b bs w h
def Tryz.lays169_ren : Go.Shelf.Ren:=⟨fun | 169=>101 | n=>n,fun | 70=>156 | 9=>9 | 0=>0 | 72=>159 | 37=>157 | 127=>213 | 3=>3 | 5=>5 | n=>n,fun | n=>n⟩
theorem Tryz.lays169 : Go.Proofs.Lays.n169 Tryz.prog Tryz.lays169_ren:={
 mixed:=by kernel_rfl
 f169:=Tryz.func101.trans (congrArg some (by kernel_rfl))
 t0:=Tryz.underlying0
 a0:=Tryz.isAgg0
 z0:=Tryz.sizeOf0
 v0:=Tryz.zeroValue0
 t3:=Tryz.underlying3
 a3:=Tryz.isAgg3
 z3:=Tryz.sizeOf3
 v3:=Tryz.zeroValue3
 t9:=Tryz.underlying9
 a9:=Tryz.isAgg9
 z9:=Tryz.sizeOf9
 v9:=Tryz.zeroValue9
 t37:=Tryz.underlying157
 a37:=Tryz.isAgg157
 z37:=Tryz.sizeOf157
 v37:=Tryz.zeroValue157
 t70:=Tryz.underlying156
 a70:=Tryz.isAgg156
 z70:=Tryz.sizeOf156
 v70:=Tryz.zeroValue156
 t72:=Tryz.underlying159
 a72:=Tryz.isAgg159
 z72:=Tryz.sizeOf159
 v72:=Tryz.zeroValue159
 t127:=Tryz.underlying213
 a127:=Tryz.isAgg213
 z127:=Tryz.sizeOf213
 v127:=Tryz.zeroValue213 }
theorem Tryz.Builder_Extra_169 : Builder.Extra Tryz.prog Tryz.lays169_ren:={
 sizeBuilder:=by kernel_rfl
 liesBuilder:=by kernel_rfl
 t5:=Tryz.underlying5
 a5:=Tryz.isAgg5
 z5:=Tryz.sizeOf5
 v5:=Tryz.zeroValue5
 infoByte:=by kernel_rfl
 cellsByte:=by kernel_rfl
 sizeByte:=by kernel_rfl
 neB5:=by decide }
open Go.RowKit in
/-- (*strings.Builder).String: "String returns the accumulated string.": WHATEVER THE BUILDER HOLDS. (LAID: no walk: one application.) -/
theorem Tryz.Builder_String_any (B b : Nat) (l : List UInt8) (w : World) (h : Lib.IsBuilder 159 5 B b (Lib.byteCells l) w) (hBw : B ≤ w.heap.size) :
  Calls Tryz.prog 101 #[.pointer (some ⟨b,0,none⟩)] w fun e w'=>e = .returned (.string ⟨l.toArray⟩) ∧ Below B w w':=Any.Builder_String_any Tryz.lays169 Tryz.Builder_Extra_169 B b l w h hBw
def Tryz.lays171_ren : Go.Shelf.Ren:=⟨fun | 171=>144 | 243=>168 | 246=>176 | 283=>180 | 284=>181 | 285=>182 | 286=>183 | 129=>190 | 317=>189 | 318=>191 | 319=>192 | 320=>193 | 337=>198 | 338=>199 | n=>n,fun | 3=>3 | 9=>9 | 2=>2 | 4=>4 | 171=>251 | 0=>0 | 53=>24 | 37=>157 | 5=>5 | 173=>253 | 212=>262 | 51=>36 | 20=>20 | 213=>263 | 46=>206 | 232=>276 | 233=>277 | n=>n,fun | 17=>0 | 18=>1 | 19=>2 | n=>n⟩
theorem Tryz.lays171 : Go.Proofs.Lays.n171 Tryz.prog Tryz.lays171_ren:={
 mixed:=by kernel_rfl
 f129:=Tryz.func190.trans (congrArg some (by kernel_rfl))
 f171:=Tryz.func144.trans (congrArg some (by kernel_rfl))
 f243:=Tryz.func168.trans (congrArg some (by kernel_rfl))
 f246:=Tryz.func176.trans (congrArg some (by kernel_rfl))
 f283:=Tryz.func180.trans (congrArg some (by kernel_rfl))
 f284:=Tryz.func181.trans (congrArg some (by kernel_rfl))
 f285:=Tryz.func182.trans (congrArg some (by kernel_rfl))
 f286:=Tryz.func183.trans (congrArg some (by kernel_rfl))
 f317:=Tryz.func189.trans (congrArg some (by kernel_rfl))
 f318:=Tryz.func191.trans (congrArg some (by kernel_rfl))
 f319:=Tryz.func192.trans (congrArg some (by kernel_rfl))
 f320:=Tryz.func193.trans (congrArg some (by kernel_rfl))
 f337:=Tryz.func198.trans (congrArg some (by kernel_rfl))
 f338:=Tryz.func199.trans (congrArg some (by kernel_rfl))
 t0:=Tryz.underlying0
 a0:=Tryz.isAgg0
 z0:=Tryz.sizeOf0
 v0:=Tryz.zeroValue0
 t2:=Tryz.underlying2
 a2:=Tryz.isAgg2
 z2:=Tryz.sizeOf2
 v2:=Tryz.zeroValue2
 t3:=Tryz.underlying3
 a3:=Tryz.isAgg3
 z3:=Tryz.sizeOf3
 v3:=Tryz.zeroValue3
 t4:=Tryz.underlying4
 a4:=Tryz.isAgg4
 z4:=Tryz.sizeOf4
 v4:=Tryz.zeroValue4
 t5:=Tryz.underlying5
 a5:=Tryz.isAgg5
 z5:=Tryz.sizeOf5
 v5:=Tryz.zeroValue5
 t9:=Tryz.underlying9
 a9:=Tryz.isAgg9
 z9:=Tryz.sizeOf9
 v9:=Tryz.zeroValue9
 t20:=Tryz.underlying20
 a20:=Tryz.isAgg20
 z20:=Tryz.sizeOf20
 v20:=Tryz.zeroValue20
 t37:=Tryz.underlying157
 a37:=Tryz.isAgg157
 z37:=Tryz.sizeOf157
 v37:=Tryz.zeroValue157
 t46:=Tryz.underlying206
 a46:=Tryz.isAgg206
 z46:=Tryz.sizeOf206
 v46:=Tryz.zeroValue206
 t51:=Tryz.underlying36
 a51:=Tryz.isAgg36
 z51:=Tryz.sizeOf36
 v51:=Tryz.zeroValue36
 t53:=Tryz.underlying24
 a53:=Tryz.isAgg24
 z53:=Tryz.sizeOf24
 v53:=Tryz.zeroValue24
 t171:=Tryz.underlying251
 a171:=Tryz.isAgg251
 z171:=Tryz.sizeOf251
 v171:=Tryz.zeroValue251
 t173:=Tryz.underlying253
 a173:=Tryz.isAgg253
 z173:=Tryz.sizeOf253
 v173:=Tryz.zeroValue253
 t212:=Tryz.underlying262
 a212:=Tryz.isAgg262
 z212:=Tryz.sizeOf262
 v212:=Tryz.zeroValue262
 t213:=Tryz.underlying263
 a213:=Tryz.isAgg263
 z213:=Tryz.sizeOf263
 t232:=Tryz.underlying276
 a232:=Tryz.isAgg276
 z232:=Tryz.sizeOf276
 v232:=Tryz.zeroValue276
 t233:=Tryz.underlying277
 a233:=Tryz.isAgg277
 z233:=Tryz.sizeOf277
 v233:=Tryz.zeroValue277
 g17:=by kernel_rfl
 g18:=by kernel_rfl
 g19:=by kernel_rfl }
open Go.RowKit Go.Sort Go.Lib in
/-- THE ROAD WITHOUT THE TABLE: 0 <= i < 100: NO PREMISE ON THE WORLD, AND THE WORLD IS AS IT WAS: a row that keeps its argument in that range need list no table ('laid = []'). (LAID: no walk: one application.) -/
theorem Tryz.strconv_Itoa_small (i : Nat) (hi : i < 100) (w : World) :
  Calls Tryz.prog 144 #[.int .i64 i] w fun e w'=>e = .returned (.string ⟨(Lib.decDigits i).toArray⟩) ∧ w' = w:=Any.strconv_Itoa_small Tryz.lays171 i hi w
end Go.Proofs
namespace Go.Proofs.YtekooapbdgippaaGreatDoor.Q
open Go.RowKit Go.Proofs.YtekooapbdgippaaGreatDoorW.PrintWords Go.Proofs.YtekooapbdgippaaGreatDoorW.PrintLast Go.Proofs.YtekooapbdgippaaGreatDoorW.PrintMore
open List renaming getElem_toArray → zA, getElem_cons_zero → zB, getElem_cons_succ → zC, setIfInBounds_toArray → zD, set_cons_zero → zE, set_cons_succ → zF
set_option linter.unusedVariables false
set_option linter.unusedSimpArgs false
set_option maxHeartbeats 8000000
set_option maxRecDepth 100000
section
def nib (t : Int) (j : Nat) : Nat:=(bits .and .u32 (t / 2 ^ (28 - 4 * j)) 15).toNat
def hexd (n : Nat) : UInt8:=if n < 10 then UInt8.ofNat (48 + n) else UInt8.ofNat (87 + n)
theorem bits_and15 (x : Int) : 0 ≤ bits .and .u32 x 15 ∧ bits .and .u32 x 15 < 16:=by
 refine ⟨(bits32_range _ _ _).1,?_⟩
 have : ∀ n : Int,IntKind.u32.wrap n = n % 4294967296:=fun n=>by simp [IntKind.wrap,IntKind.bits,IntKind.signed]
 unfold bits
 rw [this]
 simp only
 have h : (BitVec.ofInt IntKind.u32.bits x &&& BitVec.ofInt IntKind.u32.bits 15).toNat ≤ 15:=by
  rw [BitVec.toNat_and]
  exact Nat.and_le_right
 omega
theorem nib_lt (t : Int) (j : Nat) : nib t j < 16:=by have:=bits_and15 (t / 2 ^ (28 - 4 * j));unfold nib;omega
theorem hexd_get (n : Nat) (h : n < 16) : ∀ hn,((⟨#[48,49,50,51,52,53,54,55,56,57,97,98,99,100,101,102]⟩ : ByteArray)[n]'hn) = hexd n:=by
 intro hn
 rcases n with _ | _ | _ | _ | _ | _ | _ | _ | _ | _ | _ | _ | _ | _ | _ | _ | n <;> first | rfl | omega
def tagText (t : Int) : ByteArray:=⟨#[hexd (nib t 0),hexd (nib t 1),hexd (nib t 2),hexd (nib t 3),hexd (nib t 4),hexd (nib t 5),hexd (nib t 6),hexd (nib t 7)]⟩
theorem tag_Text.walk (t : Int) (h0 : 0 ≤ t) (h1 : t < 4294967296) (w : World) :
  Calls Tryz.prog 143 #[.int .u32 t] w fun e w'=>e = .returned (.string (tagText t)) ∧ Below w.heap.size w w':=by
 have HB0 : Below w.heap.size w w:=Below.refl _ _
 go_enter Tryz.func143,Tryz.ntmps143
 go_wp2
 go_loopw [4,5] (fun _ i wr=>∃ (k : Nat) (cs : Array Value),i = .int .i64 k ∧ k ≤ 8 ∧ Hid (cs.size = 8 ∧ ∀ j,j < k → cs[j]? = some (.int .u8 (hexd (nib t j)).toNat)) ∧ Hid (wr.heap[w.heap.size]? = some (.cells cs 244 (0,0))) ∧ Hid (Below w.heap.size w wr)) (fun _ i _=>8 - (intOf i).toNat)
 case atStart=>exact ⟨0,#[.int .u8 0,.int .u8 0,.int .u8 0,.int .u8 0,.int .u8 0,.int .u8 0,.int .u8 0,.int .u8 0],rfl,by omega,⟨rfl,fun j hj=>absurd hj (Nat.not_lt_zero _)⟩,blk_new w _,HB0.alloc (Nat.le_refl _) _⟩
 case round =>
  obtain ⟨k,cs,rfl,hk,hs,hbk,hb⟩:=hrel
  by_cases hlt : k < 8
  ·have r1 : (0 : Int) ≤ 28 - 4 * k:=by omega
   have r2 : (28 : Int) - 4 * k ≤ 32:=by omega
   have r3:=(bits_and15 (t / 2 ^ (28 - 4 * k))).1
   have r4:=(bits_and15 (t / 2 ^ (28 - 4 * k))).2
   obtain ⟨y,hy⟩ : ∃ y,wr.cell? ⟨w.heap.size,k,none⟩ = some y:=by
    rw [blk_cell hbk.out];exact ⟨_,Array.getElem?_eq_getElem (by have:=hs.out.1;omega)⟩
   have hf:=blk_frozen hbk.out k
   have HB2:=fun v=>zh (blk_set hbk.out k v)
   have HS2 : Hid ((cs.setIfInBounds k (.int .u8 (hexd (nib t k)).toNat)).size = 8 ∧ ∀ j,j < k + 1 → (cs.setIfInBounds k (.int .u8 (hexd (nib t k)).toNat))[j]? = some (.int .u8 (hexd (nib t j)).toNat)):=by
    refine ⟨by simpa using hs.out.1,fun j hj=>?_⟩
    rw [Array.getElem?_setIfInBounds]
    by_cases e : j = k
    ·subst e;rw [if_pos rfl,if_pos (by have:=hs.out.1;omega)]
    ·rw [if_neg (by omega)];exact hs.out.2 j (by omega)
   go_wp2
   go_roundw
   case rel =>
    refine ⟨k + 1,_,by go_num,by omega,HS2,?_,hb.out.setCell (Nat.le_refl _) _⟩
    have hg:=hexd_get (nib t k) (nib_lt t k)
    unfold nib at hg
    rw [hg]
    exact HB2 _
   case measure=>simp [intOf];omega
  ·obtain rfl : k = 8:=by omega
   have hc : ∀ j : Nat,j < 8 → wr.cell? ⟨w.heap.size,j,none⟩ = some (.int .u8 (hexd (nib t j)).toNat):=fun j hj=>(blk_cell hbk.out j).trans (hs.out.2 j hj)
   have c0:=hc 0 (by omega);have c1:=hc 1 (by omega);have c2:=hc 2 (by omega);have c3:=hc 3 (by omega)
   have c4:=hc 4 (by omega);have c5:=hc 5 (by omega);have c6:=hc 6 (by omega);have c7:=hc 7 (by omega)
   have hcv:=run_convert_bytes_back (P:=Tryz.prog) wr 157 9 5 ⟨w.heap.size,0,none⟩ 8 (tagText t).data.toList Tryz.underlying157 Tryz.underlying5 Tryz.underlying9 (fun i hi=>by
    have hi8 : i < 8:=by simpa [tagText] using hi
    have e0 : (Addr.add ⟨w.heap.size,0,none⟩ i) = ⟨w.heap.size,i,none⟩:=by unfold Addr.add;split <;> simp_all
    first | (rw [e0,hc i hi8]) | skip
    rcases i with _ | _ | _ | _ | _ | _ | _ | _ | i <;> first | rfl | omega)
   have hl : (tagText t).data.toList.length = 8:=rfl
   rw [hl] at hcv
   have HCV:=zh hcv
   clear hc hcv hl c0 c1 c2 c3 c4 c5 c6 c7
   go_wp2
   rw [HCV.out]
   go_wp2
   go_ret
   exact ⟨rfl,hb.out⟩
end
section
def tagOf (s : ByteArray) : Int:=tagMore 0 s
theorem tag_Of.walk (s : ByteArray) (hs : s.size ≤ 9223372036854775807) (w : World) :
  Calls Tryz.prog 93 #[.string s] w fun e w'=>e = .returned (.int .u32 (tagOf s)) ∧ Below w.heap.size w w':=by
 go_enter Tryz.func93,Tryz.ntmps93
 go_wp2_with (go_at_call 137;refine (tag_More.walk 0 s hs _).mono ?_;rintro e w1 ⟨rfl,hb⟩;have HB:=zh hb;clear hb)
 go_ret
 exact ⟨rfl,HB.out⟩
def tagOct (t : Int) : ByteArray:=strOfNums [(t / 16777216) % 256,(t / 65536) % 256,(t / 256) % 256,t % 256]
def manyRun (l : List Int) : Int:=l.foldl (fun c t=>tagMore c (tagOct t)) 0
def manyText (l : List Int) : ByteArray:=tagText (manyRun l) ++ ⟨#[45]⟩ ++ ⟨(Lib.decDigits l.length).toArray⟩
theorem tagMore_range (t : Int) (s : ByteArray) : 0 ≤ tagMore t s ∧ tagMore t s < 4294967296:=tagNot_range _
theorem tagOct_size (t : Int) : (tagOct t).size = 4:=rfl
theorem manyRun_range (l : List Int) : 0 ≤ manyRun l ∧ manyRun l < 4294967296:=by
 rcases List.eq_nil_or_concat l with rfl | ⟨l',x,rfl⟩
 ·exact ⟨by decide,by decide⟩
 ·unfold manyRun;rw [List.concat_eq_append,List.foldl_append];exact tagMore_range _ _
theorem manyRun_snoc (l : List Int) (k : Nat) (h : k < l.length) : manyRun (l.take (k + 1)) = tagMore (manyRun (l.take k)) (tagOct (rd l k)):=by
 rw [List.take_succ_eq_append_getElem h]
 unfold manyRun
 rw [List.foldl_append]
 have : rd l k = l[k]:=by unfold rd;simp [List.getD_eq_getElem?_getD,h]
 rw [this];rfl
theorem dec_len (n : Nat) (h : n < 100) : (Lib.decDigits n).length ≤ 2:=by
 by_cases h1 : n < 10
 ·rw [Lib.decDigits_one h1];simp
 ·rw [Lib.decDigits_two h1 h];simp
theorem tag_Many.walk (l : List Int) (c : Nat) (w : World) (A : Option Addr) (h0 : 0 < l.length) (h1 : l.length < 100) (hr : Kd.C (Kd.int .u32) w A l.length l) :
  Calls Tryz.prog 100 #[.slice A l.length c] w fun e w'=>e = .returned (.tuple #[.string (manyText l),.int .i64 0]) ∧ Below w.heap.size w w':=by
 obtain ⟨ad,rfl,_⟩:=Kd.at_int hr 0 (by omega) (by omega)
 have HR:=zh hr;clear hr
 have e1 : ((l.length : Int) == 0) = false:=beq_eq_false_iff_ne.2 (by omega)
 have e2 : decide ((100 : Int) < l.length) = false:=by simp;omega
 have HB0 : Hid (Below w.heap.size w w):=Below.refl _ _
 go_enter Tryz.func100,Tryz.ntmps100
 go_wp2
 go_loopw [4,6,17] (fun c _ i wr=>∃ (k : Nat) (x : Int),i = .int .i64 k ∧ k ≤ l.length ∧ c = .int .u32 x ∧ Hid (manyRun (l.take k) = x) ∧ Hid (Below w.heap.size w wr)) (fun _ _ i _=>l.length - (intOf i).toNat)
 case atStart=>exact ⟨0,0,rfl,Nat.zero_le _,rfl,rfl,HB0⟩
 case round =>
  obtain ⟨k,x,rfl,hk,rfl,hx,hb⟩:=hrel
  by_cases hlt : k < l.length
  ·obtain ⟨ad',e',hc⟩:=Kd.at_int HR.out k (by omega) (by omega)
   obtain rfl : ad = ad':=by injection e'
   rw [Int.toNat_natCast] at hc
   have hc':=(hb.out.cell (World.block_lt_of_cell? w _ hc)).trans hc
   have HN:=zh ((manyRun_snoc l k hlt).trans (by rw [hx.out]))
   clear hc e'
   generalize hy : rd l k = y at *
   have HO:=zh (show tag_octets.f y = some (tagOct y) from rfl)
   have hz:=tagOct_size y
   go_wp2_with (first | (go_at_call 142;refine (tag_octets.calls y _ _ HO.out).mono ?_;rintro e w1 ⟨rfl,hb1⟩;have HB1:=zh hb1;clear hb1) | (go_at_call 137;refine (tag_More.walk x (tagOct y) (by rw [tagOct_size];omega) _).mono ?_;rintro e w2 ⟨rfl,hb2⟩;have HB2:=zh hb2;clear hb2))
   go_roundw
   case rel=>exact ⟨k + 1,_,by go_num,by omega,rfl,HN,(hb.out.trans (HB1.out.mono hb.out.size)).trans (HB2.out.mono (Nat.le_trans hb.out.size HB1.out.size))⟩
   case measure=>simp [intOf];omega
  ·obtain rfl : k = l.length:=by omega
   have hx':=hx.out
   rw [List.take_of_length_le (Nat.le_refl _)] at hx'
   have r1:=(manyRun_range l).1
   have r2:=(manyRun_range l).2
   have HX:=zh hx'
   rw [hx'] at r1 r2
   clear hx'
   have s1 : (tagText x).size ≤ 8:=Nat.le_refl _
   have s2 : (Lib.decDigits l.length).length ≤ 2:=dec_len _ h1
   go_wp2_with (first | (go_at_call 143;refine (tag_Text.walk x r1 r2 _).mono ?_;rintro e w1 ⟨rfl,hb1⟩;have HB1:=zh hb1;clear hb1) | (go_at_call 144;refine (Tryz.strconv_Itoa_small l.length h1 _).mono ?_;rintro e w2 ⟨rfl,rfl⟩))
   go_ret2
   exact ⟨by unfold manyText;rw [HX.out];rfl,hb.out.trans (HB1.out.mono hb.out.size)⟩
end
section
open Go.WideMaps Go.Maps
def okb (c : UInt8) : Bool:=decide (32 ≤ (c.toNat : Int)) && decide ((c.toNat : Int) ≤ 126)
def keyB (s : ByteArray) : Bool:=decide (1 ≤ s.size) && (decide (s.size ≤ 60) && s.data.toList.all okb)
theorem plain_of (c : UInt8) : name_plain.f (c.toNat : Int) = some (okb c):=by
 unfold name_plain.f okb
 by_cases h : (c.toNat : Int) ≥ 32
 ·rw [if_pos h];simp [h]
 ·rw [if_neg h];simp [h]
def wrdb (c : UInt8) : Bool:=(decide (97 ≤ (c.toNat : Int)) && decide ((c.toNat : Int) ≤ 122)) || ((decide (48 ≤ (c.toNat : Int)) && decide ((c.toNat : Int) ≤ 57)) || ((c.toNat : Int) == 45))
def wordB (s : ByteArray) : Bool:=decide (3 ≤ s.size) && (decide (s.size ≤ 20) && s.data.toList.all wrdb)
theorem word_of (c : UInt8) : name_word.f (c.toNat : Int) = some (wrdb c):=by
 unfold name_word.f wrdb
 by_cases h : (c.toNat : Int) ≥ 97
 ·by_cases h2 : (c.toNat : Int) ≤ 122
  ·rw [if_pos h,if_pos h2];simp [h,h2]
  ·rw [if_pos h,if_neg h2,if_pos (by omega),if_neg (by omega)]
   have : ¬ (c.toNat : Int) ≤ 57:=by omega
   simp [h,h2,this]
 ·rw [if_neg h]
  by_cases h3 : (c.toNat : Int) ≥ 48
  ·by_cases h4 : (c.toNat : Int) ≤ 57
   ·rw [if_pos h3,if_pos h4];simp [h,h3,h4]
   ·rw [if_pos h3,if_neg h4];simp [h,h3,h4]
  ·rw [if_neg h3];simp [h,h3]
theorem kind_key.calls (s : ByteArray) (w : World) :
  Calls Tryz.prog 125 #[.agg #[.int .i64 1,.int .i64 60,.func (.func 131) #[] #[]],.string s] w fun e w'=>e = .returned (.bool (keyB s)) ∧ Below w.heap.size w w':=by
 have HB0 : Hid (Below w.heap.size w w):=Below.refl _ _
 by_cases h1 : s.size < 1
 ·have e1 : keyB s = false:=by unfold keyB;simp;omega
  rw [e1];clear e1
  go_enter Tryz.func125,Tryz.ntmps125
  go_wp2
  go_ret
  exact ⟨rfl,HB0.out.alloc (Nat.le_refl _) _⟩
 by_cases h2 : 60 < s.size
 ·have e1 : keyB s = false:=by unfold keyB;simp;omega
  rw [e1];clear e1
  go_enter Tryz.func125,Tryz.ntmps125
  go_wp2
  go_ret
  exact ⟨rfl,HB0.out.alloc (Nat.le_refl _) _⟩
 have h1' : decide ((s.size : Int) < 1) = false:=by simp;omega
 have h2' : decide (60 < (s.size : Int)) = false:=by simp;omega
 go_enter Tryz.func125,Tryz.ntmps125
 go_wp2
 go_loopw [20] (fun i wr=>∃ k : Nat,i = .int .i64 k ∧ k ≤ s.size ∧ Hid ((s.data.toList.take k).all okb = true) ∧ Hid (wr.cell? ⟨w.heap.size,2,none⟩ = some (.func (.func 131) #[] #[])) ∧ Hid (Below w.heap.size w wr)) (fun i _=>s.size - (intOf i).toNat)
 case atStart=>exact ⟨0,rfl,Nat.zero_le _,by simp [Hid],by simp [Hid,go_sem],HB0.out.alloc (Nat.le_refl _) _⟩
 case round =>
  obtain ⟨k,rfl,hk,hall,hc,hb⟩:=hrel
  by_cases hlt : k < s.size
  ·have hc':=hc.out
   by_cases hp : okb (s[k]) = true
   ·have hq:=plain_of (s[k])
    rw [hp] at hq
    have Hq:=zh hq;clear hq
    have hall' : Hid ((s.data.toList.take (k+1)).all okb = true):=by
     unfold Hid
     have:=hall.out
     rw [List.take_succ_eq_append_getElem (by simpa using hlt),List.all_append,this]
     simp only [List.all_cons,List.all_nil,Bool.and_true,Bool.true_and];exact hp
    clear hp
    go_wp2
    go_quiet ((go_at_call 131;exact quiet0 (name_plain.calls _ true _ Hq.out)))
    go_wp2
    go_roundw
    case rel=>exact ⟨k + 1,by go_num,by omega,hall',hc,hb.out.trans (below_drewN _ _ _)⟩
    case measure=>simp [intOf];omega
   ·replace hp:=Bool.eq_false_iff.2 hp
    have hq:=plain_of (s[k])
    rw [hp] at hq
    have Hq:=zh hq;clear hq
    have e1 : keyB s = false:=by
     unfold keyB
     have : s.data.toList.all okb = false:=by
      rw [List.all_eq_false]
      exact ⟨s[k],by simp [ByteArray.getElem_eq_getElem_data],by simpa using hp⟩
     rw [this];simp
    have He:=zh e1;clear e1 hp
    go_wp2
    go_quiet ((go_at_call 131;exact quiet0 (name_plain.calls _ false _ Hq.out)))
    go_wp2
    go_ret
    exact ⟨by rw [He.out];rfl,hb.out.trans (below_drewN _ _ _)⟩
  ·have e1 : keyB s = true:=by
    have:=hall.out
    rw [List.take_of_length_le (by simp;omega)] at this
    unfold keyB;rw [this];simp;omega
   have He:=zh e1;clear e1
   go_wp2
   go_ret
   exact ⟨by rw [He.out];rfl,hb.out⟩
theorem kind_word.calls (s : ByteArray) (w : World) :
  Calls Tryz.prog 125 #[.agg #[.int .i64 3,.int .i64 20,.func (.func 124) #[] #[]],.string s] w fun e w'=>e = .returned (.bool (wordB s)) ∧ Below w.heap.size w w':=by
 have HB0 : Hid (Below w.heap.size w w):=Below.refl _ _
 by_cases h1 : s.size < 3
 ·have e1 : wordB s = false:=by unfold wordB;simp;omega
  rw [e1];clear e1
  go_enter Tryz.func125,Tryz.ntmps125
  go_wp2
  go_ret
  exact ⟨rfl,HB0.out.alloc (Nat.le_refl _) _⟩
 by_cases h2 : 20 < s.size
 ·have e1 : wordB s = false:=by unfold wordB;simp;omega
  rw [e1];clear e1
  go_enter Tryz.func125,Tryz.ntmps125
  go_wp2
  go_ret
  exact ⟨rfl,HB0.out.alloc (Nat.le_refl _) _⟩
 have h1' : decide ((s.size : Int) < 3) = false:=by simp;omega
 have h2' : decide (20 < (s.size : Int)) = false:=by simp;omega
 go_enter Tryz.func125,Tryz.ntmps125
 go_wp2
 go_loopw [20] (fun i wr=>∃ k : Nat,i = .int .i64 k ∧ k ≤ s.size ∧ Hid ((s.data.toList.take k).all wrdb = true) ∧ Hid (wr.cell? ⟨w.heap.size,2,none⟩ = some (.func (.func 124) #[] #[])) ∧ Hid (Below w.heap.size w wr)) (fun i _=>s.size - (intOf i).toNat)
 case atStart=>exact ⟨0,rfl,Nat.zero_le _,by simp [Hid],by simp [Hid,go_sem],HB0.out.alloc (Nat.le_refl _) _⟩
 case round =>
  obtain ⟨k,rfl,hk,hall,hc,hb⟩:=hrel
  by_cases hlt : k < s.size
  ·have hc':=hc.out
   by_cases hp : wrdb (s[k]) = true
   ·have hq:=word_of (s[k])
    rw [hp] at hq
    have Hq:=zh hq;clear hq
    have hall' : Hid ((s.data.toList.take (k+1)).all wrdb = true):=by
     unfold Hid
     have:=hall.out
     rw [List.take_succ_eq_append_getElem (by simpa using hlt),List.all_append,this]
     simp only [List.all_cons,List.all_nil,Bool.and_true,Bool.true_and];exact hp
    clear hp
    go_wp2
    go_quiet ((go_at_call 124;exact quiet0 (name_word.calls _ true _ Hq.out)))
    go_wp2
    go_roundw
    case rel=>exact ⟨k + 1,by go_num,by omega,hall',hc,hb.out.trans (below_drewN _ _ _)⟩
    case measure=>simp [intOf];omega
   ·replace hp:=Bool.eq_false_iff.2 hp
    have hq:=word_of (s[k])
    rw [hp] at hq
    have Hq:=zh hq;clear hq
    have e1 : wordB s = false:=by
     unfold wordB
     have : s.data.toList.all wrdb = false:=by
      rw [List.all_eq_false]
      exact ⟨s[k],by simp [ByteArray.getElem_eq_getElem_data],by simpa using hp⟩
     rw [this];simp
    have He:=zh e1;clear e1 hp
    go_wp2
    go_quiet ((go_at_call 124;exact quiet0 (name_word.calls _ false _ Hq.out)))
    go_wp2
    go_ret
    exact ⟨by rw [He.out];rfl,hb.out.trans (below_drewN _ _ _)⟩
  ·have e1 : wordB s = true:=by
    have:=hall.out
    rw [List.take_of_length_le (by simp;omega)] at this
    unfold wordB;rw [this];simp;omega
   have He:=zh e1;clear e1
   go_wp2
   go_ret
   exact ⟨by rw [He.out];rfl,hb.out⟩
def name_Key.f (a0 : ByteArray) : Option Bool:=some (keyB a0)
theorem name_Key.calls (a0 : ByteArray) (r : Bool) (w : World) (h : name_Key.f a0 = some r) :
  Calls Tryz.prog 77 #[.string a0] w fun e w'=>e = .returned (.bool r) ∧ Below w.heap.size w w':=by
 obtain rfl:=Option.some.inj h
 clear h
 go_enter Tryz.func77,Tryz.ntmps77
 go_wp2_with (go_at_call 125;refine (kind_key.calls a0 _).mono ?_;rintro e w' ⟨rfl,hb⟩;have HB:=zh hb;clear hb)
 go_ret
 exact ⟨rfl,HB.out⟩
/-- May a text be a bucket's name? -/
def bnameB (s : ByteArray) : Bool:=wordB s && (!((s.data.toList.getD 0 0) == 45) && !((s.data.toList.getD (s.size - 1) 0) == 45))
theorem u8_int (c : UInt8) : ((c.toNat : Int) == 45) = (c == 45):=by
 rw [Bool.eq_iff_iff]
 simp only [beq_iff_eq]
 constructor
 ·intro h
  have h' : c.toNat = 45:=by omega
  exact UInt8.toNat_inj.1 (by rw [h'];rfl)
 ·rintro rfl;rfl
theorem bname.walk (s : ByteArray) (w : World) : Calls Tryz.prog 66 #[.string s] w fun e w'=>e = .returned (.bool (bnameB s)) ∧ Below w.heap.size w w':=by
 have HC:=zh (fun W=>kind_word.calls s W)
 cases hk : wordB s
 ·have HE : Hid (bnameB s = false):=by unfold Hid bnameB;rw [hk];rfl
  rw [hk] at HC
  clear hk
  go_enter Tryz.func66,Tryz.ntmps66
  go_wp2_with (go_at_call 125;refine (HC.out _).mono ?_;rintro e w' ⟨rfl,hb⟩;have HB:=zh hb;clear hb)
  go_ret
  exact ⟨by rw [HE.out];rfl,HB.out⟩
 have h3 : 3 ≤ s.size:=by
  have:=hk;unfold wordB at this;simp only [Bool.and_eq_true,decide_eq_true_eq] at this;exact this.1
 have hm : s.size ≤ 20:=by
  have:=hk;unfold wordB at this;simp only [Bool.and_eq_true,decide_eq_true_eq] at this;exact this.2.1
 have p0 : (0 : Nat) < s.size:=by omega
 have p1 : s.size - 1 < s.size:=by omega
 have g0 : s.data.toList.getD 0 0 = s[0]:=by
  rw [List.getD_eq_getElem?_getD,List.getElem?_eq_getElem (by simpa using p0)];rfl
 have g1 : s.data.toList.getD (s.size - 1) 0 = s[s.size - 1]:=by
  rw [List.getD_eq_getElem?_getD,List.getElem?_eq_getElem (by simpa using p1)];rfl
 have e1 : ((s.size : Int) - 1).toNat = s.size - 1:=by omega
 have HE : Hid (bnameB s = (!(((s[0]).toNat : Int) == 45) && !(((s[s.size - 1]).toNat : Int) == 45))):=by
  unfold Hid bnameB;rw [hk,g0,g1,u8_int,u8_int,Bool.true_and]
 rw [hk] at HC
 clear hk g0 g1
 cases q0 : (((s[0]).toNat : Int) == 45)
 ·have q0' : (((s[0]).toNat : Int) != 45) = true:=by simp [bne,q0]
  rw [q0] at HE
  clear q0
  cases q1 : (((s[s.size - 1]).toNat : Int) == 45)
  ·have q1' : (((s[s.size - 1]).toNat : Int) != 45) = true:=by simp [bne,q1]
   rw [q1] at HE
   clear q1
   go_enter Tryz.func66,Tryz.ntmps66
   go_wp2_with (go_at_call 125;refine (HC.out _).mono ?_;rintro e w' ⟨rfl,hb⟩;have HB:=zh hb;clear hb)
   go_ret
   exact ⟨by rw [HE.out];rfl,HB.out⟩
  ·have q1' : (((s[s.size - 1]).toNat : Int) != 45) = false:=by simp [bne,q1]
   rw [q1] at HE
   clear q1
   go_enter Tryz.func66,Tryz.ntmps66
   go_wp2_with (go_at_call 125;refine (HC.out _).mono ?_;rintro e w' ⟨rfl,hb⟩;have HB:=zh hb;clear hb)
   go_ret
   exact ⟨by rw [HE.out];rfl,HB.out⟩
 ·have q0' : (((s[0]).toNat : Int) != 45) = false:=by simp [bne,q0]
  rw [q0] at HE
  clear q0
  go_enter Tryz.func66,Tryz.ntmps66
  go_wp2_with (go_at_call 125;refine (HC.out _).mono ?_;rintro e w' ⟨rfl,hb⟩;have HB:=zh hb;clear hb)
  go_ret
  exact ⟨by rw [HE.out];rfl,HB.out⟩
end
section
open Go.WideMaps Go.Maps
theorem rdVersion (l : List S47) (k : Nat) (h : k < l.length) : rd_T47 l k = l[k]:=by unfold rd_T47;simp [List.getD_eq_getElem?_getD,h]
theorem atVersion {w w1 : World} {A : Option Addr} {l : List S47} (hr : Kd.C k47 w A l.length l) (hb : Below w.heap.size w w1) (k : Nat) (h : k < l.length) :
  ∃ ad,A = some ad ∧ w1.cell? (ad.add (k * 4)) = some (.int .u64 l[k].f0) ∧ w1.cell? ⟨(ad.add (k * 4)).block,(ad.add (k * 4)).off + 1,none⟩ = some (.string l[k].f1) ∧ w1.cell? ⟨(ad.add (k * 4)).block,(ad.add (k * 4)).off + 2,none⟩ = some (.bool l[k].f2) ∧ w1.cell? ⟨(ad.add (k * 4)).block,(ad.add (k * 4)).off + 3,none⟩ = some (.int .i64 l[k].f3):=by
 obtain ⟨ad,e,h0,h1,h2,h3⟩:=at_T47 hr k (by omega) (by omega)
 rw [Int.toNat_natCast,rdVersion l k h] at h0 h1 h2 h3
 exact ⟨ad,e,keepc hb h0,keepc hb h1,keepc hb h2,keepc hb h3⟩
theorem rdEntry (l : List S56) (k : Nat) (h : k < l.length) : rd_T56 l k = l[k]:=by unfold rd_T56;simp [List.getD_eq_getElem?_getD,h]
theorem atEntry {w w1 : World} {A : Option Addr} {l : List S56} (hr : Kd.C k56 w A l.length l) (hb : Below w.heap.size w w1) (k : Nat) (h : k < l.length) :
  ∃ ad A1 c1,A = some ad ∧ w1.cell? (ad.add (k * 2)) = some (.string l[k].f0) ∧ w1.cell? ⟨(ad.add (k * 2)).block,(ad.add (k * 2)).off + 1,none⟩ = some (.slice A1 l[k].f1.length c1) ∧ l[k].f1.length ≤ c1 ∧ Kd.C k47 w1 A1 l[k].f1.length l[k].f1:=by
 obtain ⟨ad,A1,c1,e,h0,h1,l1,g1⟩:=at_T56 hr k (by omega) (by omega)
 rw [Int.toNat_natCast,rdEntry l k h] at h0 h1
 rw [rdEntry l k h] at l1 g1
 exact ⟨ad,A1,c1,e,keepc hb h0,keepc hb h1,l1,Kd.C_below g1 hb⟩
theorem rdPart (l : List S40) (k : Nat) (h : k < l.length) : rd_T40 l k = l[k]:=by unfold rd_T40;simp [List.getD_eq_getElem?_getD,h]
theorem atPart {w w1 : World} {A : Option Addr} {l : List S40} (hr : Kd.C k40 w A l.length l) (hb : Below w.heap.size w w1) (k : Nat) (h : k < l.length) :
  ∃ ad,A = some ad ∧ w1.cell? (ad.add (k * 2)) = some (.int .i64 l[k].f0) ∧ w1.cell? ⟨(ad.add (k * 2)).block,(ad.add (k * 2)).off + 1,none⟩ = some (.string l[k].f1):=by
 obtain ⟨ad,e,h0,h1⟩:=at_T40 hr k (by omega) (by omega)
 rw [Int.toNat_natCast,rdPart l k h] at h0 h1
 exact ⟨ad,e,keepc hb h0,keepc hb h1⟩
theorem rdUpload (l : List S101) (k : Nat) (h : k < l.length) : rd_T101 l k = l[k]:=by unfold rd_T101;simp [List.getD_eq_getElem?_getD,h]
theorem atUpload {w w1 : World} {A : Option Addr} {l : List S101} (hr : Kd.C k101 w A l.length l) (hb : Below w.heap.size w w1) (k : Nat) (h : k < l.length) :
  ∃ ad A2 c2,A = some ad ∧ w1.cell? (ad.add (k * 3)) = some (.int .u64 l[k].f0) ∧ w1.cell? ⟨(ad.add (k * 3)).block,(ad.add (k * 3)).off + 1,none⟩ = some (.string l[k].f1) ∧ w1.cell? ⟨(ad.add (k * 3)).block,(ad.add (k * 3)).off + 2,none⟩ = some (.slice A2 l[k].f2.length c2) ∧ l[k].f2.length ≤ c2 ∧ Kd.C k40 w1 A2 l[k].f2.length l[k].f2:=by
 obtain ⟨ad,A2,c2,e,h0,h1,h2,l2,g2⟩:=at_T101 hr k (by omega) (by omega)
 rw [Int.toNat_natCast,rdUpload l k h] at h0 h1 h2
 rw [rdUpload l k h] at l2 g2
 exact ⟨ad,A2,c2,e,keepc hb h0,keepc hb h1,keepc hb h2,l2,Kd.C_below g2 hb⟩
structure S26 where
 f0 : ByteArray
 f1 : Int
 f2 : List S56
 f3 : List S101
 f4 : Int
def posI (r : Option Nat) : Int:=match r with | some i=>i | none=>-1
theorem pos_any {α : Type} (l : List α) (P : α → Bool) : decide (0 ≤ posI (l.findIdx? P)) = l.any P:=by
 cases h : l.findIdx? P with
 | none =>
  rw [List.findIdx?_eq_none_iff] at h
  have : l.any P = false:=by rw [List.any_eq_false];intro x hx;simp [h x hx]
  rw [this];rfl
 | some k =>
  rw [List.findIdx?_eq_some_iff_getElem] at h
  obtain ⟨hk,hp,_⟩:=h
  have : l.any P = true:=by rw [List.any_eq_true];exact ⟨l[k],List.getElem_mem hk,hp⟩
  rw [this];simp [posI]
def mayV (v : S47) : Bool:=decide (v.f0 ≤ 281474976710655) && (decide ((v.f1.size : Int) ≤ 2000) && ((!v.f2 || (v.f1.toList == [])) && (decide (0 ≤ v.f3) && decide (v.f3 ≤ 1099511627775))))
theorem mayV.walk (v : S47) (w : World) : Calls Tryz.prog 110 #[.agg #[.int .u64 v.f0,.string v.f1,.bool v.f2,.int .i64 v.f3]] w fun e w'=>e = .returned (.bool (mayV v)) ∧ Below w.heap.size w w':=by
 have HB0 : Hid (Below w.heap.size w w):=Below.refl _ _
 obtain ⟨a,s,m,t⟩:=v
 by_cases h1 : a ≤ 281474976710655
 ·by_cases h2 : (s.size : Int) ≤ 2000
  ·cases m
   ·by_cases h4 : 0 ≤ t
    ·have HE : Hid (mayV ⟨a,s,false,t⟩ = decide (t ≤ 1099511627775)):=by unfold Hid mayV;simp [h1,h2,h4]
     go_enter Tryz.func110,Tryz.ntmps110
     go_wp2
     go_ret
     exact ⟨by rw [HE.out];rfl,HB0.out.alloc (Nat.le_refl _) _⟩
    ·have HE : Hid (mayV ⟨a,s,false,t⟩ = false):=by unfold Hid mayV;simp [h4]
     go_enter Tryz.func110,Tryz.ntmps110
     go_wp2
     go_ret
     exact ⟨by rw [HE.out];rfl,HB0.out.alloc (Nat.le_refl _) _⟩
   ·cases h3 : (s.toList == [])
    ·have HE : Hid (mayV ⟨a,s,true,t⟩ = false):=by unfold Hid mayV;simp [h1,h2,h3]
     have h3' : (s.toList == ([] : List UInt8)) = false:=h3
     go_enter Tryz.func110,Tryz.ntmps110
     go_wp2
     go_ret
     exact ⟨by rw [HE.out];rfl,HB0.out.alloc (Nat.le_refl _) _⟩
    ·by_cases h4 : 0 ≤ t
     ·have HE : Hid (mayV ⟨a,s,true,t⟩ = decide (t ≤ 1099511627775)):=by unfold Hid mayV;simp [h1,h2,h3,h4]
      go_enter Tryz.func110,Tryz.ntmps110
      go_wp2
      go_ret
      exact ⟨by rw [HE.out];rfl,HB0.out.alloc (Nat.le_refl _) _⟩
     ·have HE : Hid (mayV ⟨a,s,true,t⟩ = false):=by unfold Hid mayV;simp [h4]
      go_enter Tryz.func110,Tryz.ntmps110
      go_wp2
      go_ret
      exact ⟨by rw [HE.out];rfl,HB0.out.alloc (Nat.le_refl _) _⟩
  ·have HE : Hid (mayV ⟨a,s,m,t⟩ = false):=by unfold Hid mayV;simp [h2]
   go_enter Tryz.func110,Tryz.ntmps110
   go_wp2
   go_ret
   exact ⟨by rw [HE.out];rfl,HB0.out.alloc (Nat.le_refl _) _⟩
 ·have HE : Hid (mayV ⟨a,s,m,t⟩ = false):=by unfold Hid mayV;simp [h1]
  go_enter Tryz.func110,Tryz.ntmps110
  go_wp2
  go_ret
  exact ⟨by rw [HE.out];rfl,HB0.out.alloc (Nat.le_refl _) _⟩
def badV (v : S47) : Bool:=!mayV v
theorem badV.walk (v : S47) (w : World) : Calls Tryz.prog 151 #[.agg #[.int .u64 v.f0,.string v.f1,.bool v.f2,.int .i64 v.f3]] w fun e w'=>e = .returned (.bool (badV v)) ∧ Below w.heap.size w w':=by
 have HC:=zh (mayV.walk v)
 have HB:=zh ((Below.refl w.heap.size w).alloc (Nat.le_refl _) (.cells #[.int .u64 v.f0,.string v.f1,.bool v.f2,.int .i64 v.f3] 47))
 unfold badV
 cases hm : mayV v
 all_goals
  rw [hm] at HC
  clear hm
  go_enter Tryz.func151,Tryz.ntmps151
  go_wp2_with (go_at_call 110;refine (HC.out _).mono ?_;rintro e w1 ⟨rfl,hb1⟩;have HB1:=zh hb1;clear hb1)
  go_ret
  exact ⟨rfl,keepB HB HB1.out⟩
theorem idx_bad.walk (A : Option Addr) (c : Nat) (l : List S47) (w : World) (hr : Kd.C k47 w A l.length l) :
  Calls Tryz.prog 128 #[.slice A l.length c,.func (.func 151) #[] #[]] w fun e w'=>e = .returned (.int .i64 (posI (l.findIdx? badV))) ∧ Below w.heap.size w w':=by
 have HR:=zh hr
 have hlen : (l.length : Int) ≤ 9223372036854775807:=by have:=hr.2.1;omega
 clear hr
 have HB0 : Hid (Below w.heap.size w w):=Below.refl _ _
 go_enter Tryz.func128,Tryz.ntmps128
 go_wp2
 go_loopw [5,8] (fun _ i wr=>∃ (k : Nat),i = .int .i64 k ∧ k ≤ l.length ∧ Hid (∀ j (hj : j < k) (hl : j < l.length),badV l[j] = false) ∧ Hid (Below w.heap.size w wr)) (fun _ i _=>l.length - (intOf i).toNat)
 case atStart=>exact ⟨0,rfl,Nat.zero_le _,fun j hj=>absurd hj (Nat.not_lt_zero _),HB0⟩
 case round =>
  obtain ⟨k,rfl,hk,hall,hb⟩:=hrel
  by_cases hlt : k < l.length
  ·obtain ⟨ad,e',hc0,hc1,hc2,hc3⟩:=atVersion HR.out hb.out k hlt
   subst e'
   have HC:=zh (badV.walk l[k] wr)
   cases hp : badV l[k]
   ·have hn : Hid (∀ j (hj : j < k + 1) (hl : j < l.length),badV l[j] = false):=fun j hj hl=>by
     rcases Nat.eq_or_lt_of_le (Nat.le_of_lt_succ hj) with rfl | h
     ·exact hp
     ·exact hall.out j h hl
    rw [hp] at HC
    clear hp
    go_wp2_with (go_at_call 151;refine HC.out.mono ?_;rintro e w1 ⟨rfl,hb1⟩;have HB1:=zh hb1;clear hb1)
    go_roundw
    case rel=>exact ⟨k + 1,by go_num,by omega,hn,keepB hb HB1.out⟩
    case measure=>simp [intOf];omega
   ·have hn : Hid (l.findIdx? badV = some k):=by
     unfold Hid
     rw [List.findIdx?_eq_some_iff_getElem]
     exact ⟨hlt,hp,fun j hj=>by rw [hall.out j hj (by omega)];simp⟩
    rw [hp] at HC
    clear hp
    go_wp2_with (go_at_call 151;refine HC.out.mono ?_;rintro e w1 ⟨rfl,hb1⟩;have HB1:=zh hb1;clear hb1)
    go_ret
    exact ⟨by rw [hn.out];rfl,keepB hb HB1.out⟩
  ·have hn : Hid (l.findIdx? badV = none):=by
    unfold Hid
    rw [List.findIdx?_eq_none_iff]
    intro u hu
    obtain ⟨j,hj,rfl⟩:=List.getElem_of_mem hu
    exact hall.out j (by omega) hj
   go_wp2
   go_ret
   exact ⟨by rw [hn.out];rfl,hb.out⟩
theorem cont_bad.walk (A : Option Addr) (c : Nat) (l : List S47) (w : World) (hr : Kd.C k47 w A l.length l) :
  Calls Tryz.prog 71 #[.slice A l.length c,.func (.func 151) #[] #[]] w fun e w'=>e = .returned (.bool (l.any badV)) ∧ Below w.heap.size w w':=by
 have H:=zh (idx_bad.walk A c l w hr)
 clear hr
 have HA:=zh (pos_any l badV)
 generalize posI (l.findIdx? badV) = r at H HA
 generalize l.any badV = q at HA ⊢
 go_enter Tryz.func71,Tryz.ntmps71
 go_wp2_with (go_at_call 128;refine H.out.mono ?_;rintro e w1 ⟨rfl,hb⟩;have HB:=zh hb;clear hb)
 go_ret
 refine ⟨?_,HB.out⟩
 show Ending.returned (.bool (decide (0 ≤ r))) = _
 rw [HA.out]
end
section
open Go.WideMaps Go.Maps
def chFrom : List S47 → Int → Int → Bool → Bool
 | [],_,_,_=>true
 | v :: vs,pa,last,null=>!(decide (v.f3 > pa)) && (!((v.f0 == 0) && null) && (!(decide (v.f0 ≥ last)) && (if (v.f0 == 0) = true then chFrom vs v.f3 last true else chFrom vs v.f3 v.f0 null)))
def chB (l : List S47) : Bool:=chFrom l ((l.getD 0 z47).f3) 281474976710656 false
def chainB (l : List S47) : Bool:=decide (l.length ≤ 20) && (!(l.any badV) && chB l)
def errB (b : Bool) : Int:=if b = true then 0 else 1
def prevAt (l : List S47) (k : Nat) : Int:=(l.getD (k - 1) z47).f3
theorem ch_step (l : List S47) (k : Nat) (h : k < l.length) (pa last : Int) (null : Bool) :
  chFrom (l.drop k) pa last null = (!(decide (l[k].f3 > pa)) && (!((l[k].f0 == 0) && null) && (!(decide (l[k].f0 ≥ last)) && (if (l[k].f0 == 0) = true then chFrom (l.drop (k + 1)) l[k].f3 last true else chFrom (l.drop (k + 1)) l[k].f3 l[k].f0 null)))):=by
 rw [List.drop_eq_getElem_cons h];rfl
theorem prev_succ (l : List S47) (k : Nat) (h : k < l.length) : prevAt l (k + 1) = l[k].f3:=by
 unfold prevAt;rw [Nat.add_sub_cancel,List.getD_eq_getElem?_getD,List.getElem?_eq_getElem h];rfl
theorem chain.walk (A : Option Addr) (c : Nat) (l : List S47) (w : World) (hr : Kd.C k47 w A l.length l) :
  Calls Tryz.prog 109 #[.slice A l.length c] w fun e w'=>e = .returned (.int .i64 (errB (chainB l))) ∧ Below w.heap.size w w':=by
 have HB0 : Hid (Below w.heap.size w w):=Below.refl _ _
 have HC:=zh (fun W (h : Below w.heap.size w W)=>cont_bad.walk A c l W (Kd.C_below hr h))
 have HR:=zh hr
 have hlen : (l.length : Int) ≤ 9223372036854775807:=by have:=hr.2.1;omega
 clear hr
 by_cases h20 : l.length ≤ 20
 ·have d20 : decide ((20 : Int) < (l.length : Int)) = false:=by simp;omega
  cases hbad : l.any badV
  ·have HX : Hid (chainB l = chB l):=by unfold Hid chainB;rw [hbad];simp [h20]
   rw [hbad] at HC
   clear hbad
   go_enter Tryz.func109,Tryz.ntmps109
   go_wp2_with (go_at_call 71;refine (HC.out _ HB0.out).mono ?_;rintro e w1 ⟨rfl,hb⟩;have HB1:=zh hb;clear hb)
   go_loopw [3,4,16] (fun la nu i wr=>∃ (k : Nat) (last : Int) (null : Bool),la = .int .u64 last ∧ nu = .bool null ∧ i = .int .i64 k ∧ k ≤ l.length ∧ Hid (chFrom (l.drop k) (prevAt l k) last null = chB l) ∧ Hid (Below w.heap.size w wr)) (fun _ _ i _=>l.length - (intOf i).toNat)
   case atStart=>exact ⟨0,281474976710656,false,rfl,rfl,rfl,Nat.zero_le _,rfl,HB1⟩
   case round =>
    obtain ⟨k,last,null,rfl,rfl,rfl,hk,hch,hb⟩:=hrel
    by_cases hlt : k < l.length
    ·obtain ⟨ad,e',hc0,hc1,hc2,hc3⟩:=atVersion HR.out hb.out k hlt
     have hst:=hch.out
     rw [ch_step l k hlt] at hst
     have hps:=prev_succ l k hlt
     have hst2:=zh hst
     clear hst hch
     have HPS:=zh hps
     clear hps
     by_cases hk0 : k = 0
     ·subst hk0
      have hpa : prevAt l 0 = l[0].f3:=by unfold prevAt;rw [List.getD_eq_getElem?_getD,List.getElem?_eq_getElem hlt];rfl
      have hst3:=hst2.out
      rw [hpa] at hst3
      clear hst2 hpa
      subst e'
      generalize l[0] = v at *
      have hd0 : wr.cell? ad = some (.int .u64 v.f0):=hc0
      have hd1 : wr.cell? ⟨ad.block,ad.off + 1,none⟩ = some (.string v.f1):=hc1
      have hd2 : wr.cell? ⟨ad.block,ad.off + 2,none⟩ = some (.bool v.f2):=hc2
      have hd3 : wr.cell? ⟨ad.block,ad.off + 3,none⟩ = some (.int .i64 v.f3):=hc3
      clear hc0 hc1 hc2 hc3
      cases hz : (v.f0 == 0)
      ·by_cases p3 : last ≤ v.f0
       ·have HE : Hid (chainB l = false):=by unfold Hid;rw [HX.out,← hst3];simp [hz,p3]
        have HST:=zh hst3;clear hst3
        go_wp2
        go_quiet (fail)
        go_wp2
        go_ret
        exact ⟨by rw [HE.out];rfl,(hb.out.alloc hb.out.size _).trans (below_drewN _ _ _)⟩
       ·have HN : Hid (chFrom (l.drop (0 + 1)) (prevAt l (0 + 1)) v.f0 null = chB l):=by unfold Hid;rw [HPS.out,← hst3];simp [hz,p3]
        have HST:=zh hst3;clear hst3
        go_wp2
        go_quiet (fail)
        go_wp2
        go_roundw
        case rel=>exact ⟨0 + 1,v.f0,null,rfl,rfl,by go_num,by omega,HN,(hb.out.alloc hb.out.size _).trans (below_drewN _ _ _)⟩
        case measure=>simp [intOf];omega
      ·cases null
       ·by_cases p3 : last ≤ v.f0
        ·have HE : Hid (chainB l = false):=by unfold Hid;rw [HX.out,← hst3];simp [p3]
         have HST:=zh hst3;clear hst3
         go_wp2
         go_quiet (fail)
         go_wp2
         go_ret
         exact ⟨by rw [HE.out];rfl,(hb.out.alloc hb.out.size _).trans (below_drewN _ _ _)⟩
        ·have HN : Hid (chFrom (l.drop (0 + 1)) (prevAt l (0 + 1)) last true = chB l):=by unfold Hid;rw [HPS.out,← hst3];simp [hz,p3]
         have HST:=zh hst3;clear hst3
         go_wp2
         go_quiet (fail)
         go_wp2
         go_roundw
         case rel=>exact ⟨0 + 1,last,true,rfl,rfl,by go_num,by omega,HN,(hb.out.alloc hb.out.size _).trans (below_drewN _ _ _)⟩
         case measure=>simp [intOf];omega
       ·have HE : Hid (chainB l = false):=by unfold Hid;rw [HX.out,← hst3];simp [hz]
        have HST:=zh hst3;clear hst3
        go_wp2
        go_quiet (fail)
        go_wp2
        go_ret
        exact ⟨by rw [HE.out];rfl,(hb.out.alloc hb.out.size _).trans (below_drewN _ _ _)⟩
     ·obtain ⟨m,rfl⟩ : ∃ m,k = m + 1:=⟨k - 1,by omega⟩
      obtain ⟨ad',e2,hd0,hd1,hd2,hd3⟩:=atVersion HR.out hb.out m (by omega)
      obtain rfl : ad = ad':=by rw [e'] at e2;injection e2
      subst e'
      clear e2 hk0
      have hpa : prevAt l (m + 1) = l[m].f3:=prev_succ l m (by omega)
      have hst3:=hst2.out
      rw [hpa] at hst3
      clear hst2 hpa
      generalize l[m] = u at *
      generalize l[m + 1] = v at *
      have hw : IntKind.i64.wrap ((m : Nat) : Int) = (m : Int):=IntWalk.i64_in _ (by omega)
      have hm : (m : Int) < l.length:=by omega
      have e0:=World.new_ne wr _ hd3
      have hlt3:=World.block_lt_of_cell? wr _ hd3
      by_cases p1 : u.f3 < v.f3
      ·have HE : Hid (chainB l = false):=by unfold Hid;rw [HX.out,← hst3];simp [p1]
       have HST:=zh hst3;clear hst3
       go_wp2
       go_quiet (fail)
       go_wp2
       go_ret
       exact ⟨by rw [HE.out];rfl,(hb.out.alloc hb.out.size _).trans (below_drewN _ _ _)⟩
      ·cases hz : (v.f0 == 0)
       ·by_cases p3 : last ≤ v.f0
        ·have HE : Hid (chainB l = false):=by unfold Hid;rw [HX.out,← hst3];simp [hz,p3]
         have HST:=zh hst3;clear hst3
         go_wp2
         go_quiet (fail)
         go_wp2
         go_ret
         exact ⟨by rw [HE.out];rfl,(hb.out.alloc hb.out.size _).trans (below_drewN _ _ _)⟩
        ·have HN : Hid (chFrom (l.drop (m + 1 + 1)) (prevAt l (m + 1 + 1)) v.f0 null = chB l):=by unfold Hid;rw [HPS.out,← hst3];simp [hz,p3,p1]
         have HST:=zh hst3;clear hst3
         go_wp2
         go_quiet (fail)
         go_wp2
         go_roundw
         case rel=>exact ⟨m + 1 + 1,v.f0,null,rfl,rfl,by go_num,by omega,HN,(hb.out.alloc hb.out.size _).trans (below_drewN _ _ _)⟩
         case measure=>simp [intOf];omega
       ·cases null
        ·by_cases p3 : last ≤ v.f0
         ·have HE : Hid (chainB l = false):=by unfold Hid;rw [HX.out,← hst3];simp [p3]
          have HST:=zh hst3;clear hst3
          go_wp2
          go_quiet (fail)
          go_wp2
          go_ret
          exact ⟨by rw [HE.out];rfl,(hb.out.alloc hb.out.size _).trans (below_drewN _ _ _)⟩
         ·have HN : Hid (chFrom (l.drop (m + 1 + 1)) (prevAt l (m + 1 + 1)) last true = chB l):=by unfold Hid;rw [HPS.out,← hst3];simp [hz,p3,p1]
          have HST:=zh hst3;clear hst3
          go_wp2
          go_quiet (fail)
          go_wp2
          go_roundw
          case rel=>exact ⟨m + 1 + 1,last,true,rfl,rfl,by go_num,by omega,HN,(hb.out.alloc hb.out.size _).trans (below_drewN _ _ _)⟩
          case measure=>simp [intOf];omega
        ·have HE : Hid (chainB l = false):=by unfold Hid;rw [HX.out,← hst3];simp [hz]
         have HST:=zh hst3;clear hst3
         go_wp2
         go_quiet (fail)
         go_wp2
         go_ret
         exact ⟨by rw [HE.out];rfl,(hb.out.alloc hb.out.size _).trans (below_drewN _ _ _)⟩
    ·have HE : Hid (chainB l = true):=by
      have:=hch.out
      rw [List.drop_eq_nil_of_le (by omega)] at this
      exact HX.out.trans this.symm
     go_wp2
     go_ret
     exact ⟨by rw [HE.out];rfl,hb.out⟩
  ·have HE : Hid (chainB l = false):=by unfold Hid chainB;rw [hbad];simp
   rw [hbad] at HC
   clear hbad
   go_enter Tryz.func109,Tryz.ntmps109
   go_wp2_with (go_at_call 71;refine (HC.out _ HB0.out).mono ?_;rintro e w1 ⟨rfl,hb⟩;have HB1:=zh hb;clear hb)
   go_ret
   exact ⟨by rw [HE.out];rfl,HB1.out⟩
 ·have d20 : decide ((20 : Int) < (l.length : Int)) = true:=by simp;omega
  have HE : Hid (chainB l = false):=by unfold Hid chainB;simp;omega
  go_enter Tryz.func109,Tryz.ntmps109
  go_wp2
  go_ret
  exact ⟨by rw [HE.out];rfl,HB0.out⟩
end
section
open Go.WideMaps Go.Maps
theorem tk {P : Program} {md : Region.Mode} {ops : Array Oper} {Q : Exit → Act → World → Prop} {S : World → Prop} {i : Nat} {oi : Oper} {v : Value} {fuel : Nat} {listed : Array Bool} {a : Act} {w : World} (hi : ops[i]? = some oi)
  (hS : S w) (hy : YieldsIf P ops S oi v a) (h : wpAnyH P md ops Q S fuel (listed.setIfInBounds i true) (a.put oi.dst v) w)
  (hQ : ∀ c a w,Q (.panic c) (a.put oi.dst v) w → Q (.panic c) a w:=by exact fun _ _ _ h=>h)
  (hs : Region.noSelect ops = true:=by kernel_rfl) (hf : Region.free md ops listed i = true:=by kernel_rfl) (hr : (Region.ready md ops listed).contains i = true:=by kernel_rfl) :
  wpAnyH P md ops Q S (fuel + 1) listed a w:=wpAnyH_take hi hs hf hr hQ hy hS h
theorem zN : (∀ {α : Type} {xs : List α} {i : Nat} (h : i < xs.toArray.size),xs.toArray[i] = xs[i]'h) ∧ (∀ {α : Type} {a : α} {xs : List α} (h : 0 < (a :: xs).length),(a :: xs)[0] = a) ∧ (∀ {α : Type} {a : α} {xs : List α} {i : Nat} (h : i + 1 < (a :: xs).length),(a :: xs)[i + 1] = xs[i]'(Nat.lt_of_succ_lt_succ h)) ∧
 (∀ (a : Go.Act) (d : Tmp) (v : Value),a.put (some d) v = { tmps:=a.tmps.setIfInBounds d v,defers:=a.defers }) ∧ (∀ (a : Go.Act) (v : Value),a.put none v = a) ∧ (∀ {α : Type} (xs : List α) (i : Nat) (a : α),xs.toArray.setIfInBounds i a = (xs.set i a).toArray) ∧
 (∀ {α : Type} (x a : α) (xs : List α),(x :: xs).set 0 a = a :: xs) ∧ (∀ {α : Type} (x a : α) (xs : List α) (i : Nat),(x :: xs).set (i + 1) a = x :: xs.set i a) :=
 ⟨fun h=>List.getElem_toArray h,fun _=>rfl,fun _=>rfl,fun _ _ _=>rfl,fun _ _=>rfl,fun _ _ _=>List.setIfInBounds_toArray ..,fun _ _ _=>rfl,fun _ _ _ _=>rfl⟩
theorem zt {P : Program} {md : Region.Mode} {ops : Array Oper} {Q : Exit → Go.Act → World → Prop} {S : World → Prop} (i : Nat) {oi : Oper} {v : Value} {fuel : Nat} {listed : Array Bool} {a : Go.Act} {w : World}
 (h : wpAnyH P md ops Q S fuel (listed.setIfInBounds i true) (a.put oi.dst v) w)
 (hi : ops[i]? = some oi:=by rfl) (hy : ∀ w,S w → (execOp a.eval oi).run P w = .ok (.value v) w:=by (intro w h;(repeat (with_reducible refine And.elim ?_ h;clear h;intro _ h));go_simp;try with_reducible rfl)) (hw : Region.wanted oi (yielded ops a.tmps) = true:=by rfl) (hS : S w:=by assumption)
 (hQ : ∀ c a w,Q (.panic c) (a.put oi.dst v) w → Q (.panic c) a w:=by exact fun _ _ _ h=>h)
 (hs : Region.noSelect ops = true:=by kernel_rfl) (hf : Region.free md ops listed i = true:=by kernel_rfl) (hr : (Region.ready md ops listed).contains i = true:=by kernel_rfl) :
 wpAnyH P md ops Q S (fuel + 1) listed a w:=tk hi hS (Or.inl ⟨hw,hy⟩) h hQ hs hf hr
theorem zu {P : Program} {md : Region.Mode} {ops : Array Oper} {Q : Exit → Go.Act → World → Prop} {S : World → Prop} (i : Nat) {oi : Oper} {fuel : Nat} {listed : Array Bool} {a : Go.Act} {w : World}
 (h : wpAnyH P md ops Q S fuel (listed.setIfInBounds i true) (a.put oi.dst undef) w) (hi : ops[i]? = some oi:=by rfl) (hS : S w:=by assumption) (hg : Region.wanted oi (yielded ops a.tmps) = false:=by rfl)
 (hQ : ∀ c a w,Q (.panic c) (a.put oi.dst undef) w → Q (.panic c) a w:=by exact fun _ _ _ h=>h)
 (hs : Region.noSelect ops = true:=by kernel_rfl) (hf : Region.free md ops listed i = true:=by kernel_rfl) (hr : (Region.ready md ops listed).contains i = true:=by kernel_rfl) :
 wpAnyH P md ops Q S (fuel + 1) listed a w:=wpAnyH_take hi hs hf hr hQ (Or.inr ⟨hg,rfl⟩) hS h
theorem tku {P : Program} {md : Region.Mode} {ops : Array Oper} {Q : Exit → Act → World → Prop} {S : World → Prop} {i : Nat} {oi : Oper} {fuel : Nat} {listed : Array Bool} {a : Act} {w : World} (hi : ops[i]? = some oi)
  (hS : S w) (hg : Region.wanted oi (yielded ops a.tmps) = false) (h : wpAnyH P md ops Q S fuel (listed.setIfInBounds i true) (a.put oi.dst undef) w)
  (hQ : ∀ c a w,Q (.panic c) (a.put oi.dst undef) w → Q (.panic c) a w:=by exact fun _ _ _ h=>h)
  (hs : Region.noSelect ops = true:=by kernel_rfl) (hf : Region.free md ops listed i = true:=by kernel_rfl) (hr : (Region.ready md ops listed).contains i = true:=by kernel_rfl) :
  wpAnyH P md ops Q S (fuel + 1) listed a w:=wpAnyH_take hi hs hf hr hQ (Or.inr ⟨hg,rfl⟩) hS h
theorem binOp_string_geq2 (t : TypeId) (a b : ByteArray) : binOp .geq t (.string a) (.string b) = pure (.bool (!(Op.bytesLess a.toList b.toList))):=by
 simp [binOp,Op.stringOp]
attribute [local go_sem] binOp_string_geq2 Oper.semAt_some
def upB (l : List S56) (k : Nat) : Bool:=decide (k = 0) || Op.bytesLess (l.getD (k - 1) z56).f0.toList (l.getD k z56).f0.toList
def ixAt (l : List S56) (k : Nat) : Bool:=keyB (l.getD k z56).f0 && (upB l k && (!((l.getD k z56).f1.length == 0) && chainB (l.getD k z56).f1))
def allFrom (P : Nat → Bool) (i : Nat) : Nat → Bool
 | 0=>true
 | d + 1=>P i && allFrom P (i + 1) d
theorem allFrom_snoc (P : Nat → Bool) (d : Nat) : ∀ i,allFrom P i (d + 1) = (allFrom P i d && P (i + d)):=by
 induction d with
 | zero=>intro i;simp [allFrom]
 | succ d ih =>
  intro i
  rw [show allFrom P i (d + 1 + 1) = (P i && allFrom P (i + 1) (d + 1)) from rfl,ih (i + 1),show allFrom P i (d + 1) = (P i && allFrom P (i + 1) d) from rfl,Bool.and_assoc,show i + 1 + d = i + (d + 1) by omega]
theorem allFrom_at {P : Nat → Bool} {d : Nat} : ∀ {i : Nat},allFrom P i d = true → ∀ j,i ≤ j → j < i + d → P j = true:=by
 induction d with
 | zero=>intro i _ j h1 h2;omega
 | succ d ih =>
  intro i h j h1 h2
  have h' : (P i && allFrom P (i + 1) d) = true:=h
  rw [Bool.and_eq_true] at h'
  rcases Nat.eq_or_lt_of_le h1 with rfl | h3
  ·exact h'.1
  ·exact ih h'.2 j h3 (by omega)
theorem allFrom_false {P : Nat → Bool} {d i : Nat} (j : Nat) (h1 : i ≤ j) (h2 : j < i + d) (h : P j = false) : allFrom P i d = false:=by
 cases hx : allFrom P i d
 ·rfl
 ·rw [allFrom_at hx j h1 h2] at h;cases h
def indexB (l : List S56) : Bool:=decide (l.length ≤ 60) && allFrom (ixAt l) 0 l.length
theorem getD_at {α : Type} (l : List α) (k : Nat) (z : α) (h : k < l.length) : l.getD k z = l[k]:=by rw [List.getD_eq_getElem?_getD,List.getElem?_eq_getElem h];rfl
theorem index.walk (A : Option Addr) (c : Nat) (l : List S56) (w : World) (hr : Kd.C k56 w A l.length l) :
  Calls Tryz.prog 67 #[.slice A l.length c] w fun e w'=>e = .returned (.int .i64 (errB (indexB l))) ∧ Below w.heap.size w w':=by
 have HB0 : Hid (Below w.heap.size w w):=Below.refl _ _
 have HR:=zh hr
 have hlen : (l.length : Int) ≤ 9223372036854775807:=by have:=hr.2.1;omega
 clear hr
 by_cases h60 : l.length ≤ 60
 ·have d60 : decide ((60 : Int) < (l.length : Int)) = false:=by simp;omega
  go_enter Tryz.func67,Tryz.ntmps67
  go_wp2
  go_loopw [10] (fun i wr=>∃ (k : Nat),i = .int .i64 k ∧ k ≤ l.length ∧ Hid (allFrom (ixAt l) 0 k = true) ∧ Hid (Below w.heap.size w wr)) (fun i _=>l.length - (intOf i).toNat)
  case atStart=>exact ⟨0,rfl,Nat.zero_le _,rfl,HB0⟩
  case round =>
   obtain ⟨k,rfl,hk,hall,hb⟩:=hrel
   by_cases hlt : k < l.length
   ·have HNO : Hid (ixAt l k = false → indexB l = false):=fun h=>by
     unfold indexB;rw [allFrom_false k (Nat.zero_le _) (by omega) h];simp
    have HYES : Hid (ixAt l k = true → allFrom (ixAt l) 0 (k + 1) = true):=fun h=>by
     rw [allFrom_snoc,hall.out,Nat.zero_add,h];rfl
    have HAT : Hid (ixAt l k = (keyB l[k].f0 && (upB l k && (!(l[k].f1.length == 0) && chainB l[k].f1)))):=by
     unfold Hid ixAt;rw [getD_at l k _ hlt]
    clear hall
    obtain ⟨ad,A1,c1,e',hc0,hc1,hl1,hC1⟩:=atEntry HR.out hb.out k hlt
    subst e'
    have HCE : Hid (Kd.C k47 w A1 l[k].f1.length l[k].f1):=by
     obtain ⟨ad2,A2,c2,e2,_,hx1,_,hx2⟩:=atEntry HR.out HB0.out k hlt
     injection e2 with e2;subst e2
     have:=keepc hb.out hx1
     rw [this] at hc1
     injection hc1 with hc1;injection hc1 with hc1
     subst hc1
     exact hx2
    clear hC1
    cases hky : keyB l[k].f0
    ·have HE : Hid (indexB l = false):=HNO.out (by rw [HAT.out,hky];rfl)
     have HKY : Hid (name_Key.f l[k].f0 = some false):=by unfold Hid name_Key.f;rw [hky]
     clear hky HNO HYES HAT
     generalize l[k] = x at *
     go_wp2
     skip
     refine wp_region_held_drew (S:=fun W=>W.cell? ⟨wr.heap.size,0,none⟩ = some (.string x.f0) ∧ W.cell? ⟨wr.heap.size,1,none⟩ = some (.slice A1 x.f1.length c1) ∧ Hid (Below w.heap.size w W)) (by kernel_rfl) ?_ (fun hHeld=>?_)
     ·exact ⟨by simp [go_sem],by simp [go_sem],(hb.out.alloc hb.out.size _).drew⟩
     refine zt 0 ?_;try simp only [zN];refine zt 1 ?_;try simp only [zN]
     refine wpAnyH_ready (rs:=[2]) (by kernel_rfl) (by simp) ?_
     refine AllReadyH.cons (o:=_) rfl (fun K hK=>?_) AllReadyH.nil
     rw [if_pos (by rfl)]
     go_simp
     obtain ⟨s0,s1,s2⟩:=hHeld
     refine (name_Key.calls _ _ _ HKY.out).mono ?_
     rintro e8 w8 ⟨rfl,hb8⟩
     refine hK.out _ _ ⟨keepc hb8 s0,keepc hb8 s1,keepB s2 hb8⟩ (fun hHeld=>?_)
     clear hK K hb8 s0 s1 s2
     try simp only [zN]
     refine zt 3 ?_;try simp only [zN];refine zt 4 ?_;try simp only [zN];refine zu 5 ?_;try simp only [zN];refine zu 6 ?_;try simp only [zN];refine zu 7 ?_;try simp only [zN];refine zu 8 ?_;try simp only [zN];refine zu 9 ?_;try simp only [zN];refine zu 10 ?_;try simp only [zN];refine zu 11 ?_;try simp only [zN];refine zu 12 ?_;try simp only [zN];refine zu 13 ?_;try simp only [zN];refine zu 14 ?_;try simp only [zN];refine zu 15 ?_;try simp only [zN];refine zu 16 ?_;try simp only [zN];refine zu 17 ?_;try simp only [zN];refine zt 18 ?_;try simp only [zN];refine zt 19 ?_;try simp only [zN];refine zu 20 ?_;try simp only [zN];refine zu 21 ?_;try simp only [zN];refine zu 22 ?_;try simp only [zN];refine zu 23 ?_;try simp only [zN];refine zt 24 ?_;try simp only [zN];refine zt 25 ?_;try simp only [zN];refine zu 26 ?_;try simp only [zN];refine zu 27 ?_;try simp only [zN];refine zu 28 ?_;try simp only [zN]
     refine zu 29 ?_;try simp only [zN];refine zt 30 ?_;try simp only [zN]
     refine wpAnyH_done (by kernel_rfl) ?_ _
     have HW:=hHeld.2.2
     clear hHeld
     go_wp2
     go_ret
     exact ⟨by rw [HE.out];rfl,HW.out⟩
    ·have HKY : Hid (name_Key.f l[k].f0 = some true):=by unfold Hid name_Key.f;rw [hky]
     rw [hky] at HAT
     clear hky
     by_cases h0 : (0 : Int) < (k : Int)
     ·obtain ⟨j,rfl⟩ : ∃ j,k = j + 1:=⟨k - 1,by omega⟩
      have hj : j < l.length:=by omega
      obtain ⟨ad',A3,c3,e3,hd0,hd1,hl3,hC3⟩:=atEntry HR.out hb.out j hj
      injection e3 with e3
      subst e3
      clear hd1 hl3 hC3
      have HUP : Hid (upB l (j + 1) = Op.bytesLess l[j].f0.toList l[j + 1].f0.toList):=by
       unfold Hid upB
       rw [getD_at l (j + 1) _ hlt,Nat.add_sub_cancel,getD_at l j _ hj,decide_eq_false (Nat.succ_ne_zero j),Bool.false_or]
      rw [HUP.out] at HAT
      clear HUP
      have e1 : IntKind.i64.wrap (((j + 1 : Nat) : Int) - 1) = (j : Int):=by simp [IntKind.wrap,IntKind.bits,IntKind.signed];omega
      have p3 : (0 : Int) ≤ (j : Int):=by omega
      have p4 : (j : Int) < (l.length : Int):=by omega
      have e0:=World.new_ne wr _ hd0
      generalize l[j].f0 = q at *
      generalize l[j + 1] = x at *
      generalize hk1 : j + 1 = k at *
      have h0n : 0 < k:=by omega
      have h0d : decide (0 < k) = true:=decide_eq_true h0n
      cases hup : Op.bytesLess q.toList x.f0.toList
      ·have HE : Hid (indexB l = false):=HNO.out (by rw [HAT.out,hup];rfl)
       clear HNO HYES HAT
       go_wp2
       skip
       refine wp_region_held_drew (S:=fun W=>W.cell? (ad.add (j * 2)) = some (.string q) ∧ W.cell? ⟨wr.heap.size,0,none⟩ = some (.string x.f0) ∧ W.cell? ⟨wr.heap.size,1,none⟩ = some (.slice A1 x.f1.length c1) ∧ Hid (Below w.heap.size w W)) (by kernel_rfl) ?_ (fun hHeld=>?_)
       ·exact ⟨keepc ((Below.refl _ _).alloc (Nat.le_refl _) _).drew hd0,by simp [go_sem],by simp [go_sem],(hb.out.alloc hb.out.size _).drew⟩
       refine zt 0 ?_;try simp only [zN];refine zt 1 ?_;try simp only [zN]
       refine wpAnyH_ready (rs:=[2]) (by kernel_rfl) (by simp) ?_
       refine AllReadyH.cons (o:=_) rfl (fun K hK=>?_) AllReadyH.nil
       rw [if_pos (by rfl)]
       go_simp
       obtain ⟨s0,s1,s2,s3⟩:=hHeld
       refine (name_Key.calls _ _ _ HKY.out).mono ?_
       rintro e8 w8 ⟨rfl,hb8⟩
       refine hK.out _ _ ⟨keepc hb8 s0,keepc hb8 s1,keepc hb8 s2,keepB s3 hb8⟩ (fun hHeld=>?_)
       clear hK K hb8 s0 s1 s2 s3
       try simp only [zN]
       refine zt 3 ?_;try simp only [zN];refine zt 4 ?_;try simp only [zN];refine zt 5 ?_;try simp only [zN];refine zt 6 ?_;try simp only [zN];refine zt 7 ?_;try simp only [zN];refine zt 8 ?_;try simp only [zN];refine zt 9 ?_;try simp only [zN];refine zt 10 ?_;try simp only [zN];refine zt 11 ?_;try simp only [zN];refine zt 12 ?_;try simp only [zN];refine zt 13 ?_;try simp only [zN];refine zt 14 ?_;try simp only [zN];refine zt 15 ?_;try simp only [zN];refine zt 16 ?_;try simp only [zN];refine zt 17 ?_;try simp only [zN];refine zt 18 ?_;try simp only [zN];refine zt 19 ?_;try simp only [zN];refine zu 20 ?_;try simp only [zN];refine zu 21 ?_;try simp only [zN];refine zu 22 ?_;try simp only [zN];refine zu 23 ?_;try simp only [zN];refine zt 24 ?_;try simp only [zN];refine zt 25 ?_;try simp only [zN];refine zu 26 ?_;try simp only [zN];refine zu 27 ?_;try simp only [zN];refine zu 28 ?_;try simp only [zN]
       refine zu 29 ?_;try simp only [zN];refine zt 30 ?_;try simp only [zN]
       refine wpAnyH_done (by kernel_rfl) ?_ _
       have HW:=hHeld.2.2.2
       clear hHeld
       go_wp2
       go_ret
       exact ⟨by rw [HE.out];rfl,HW.out⟩
      ·rw [hup] at HAT
       cases hz : ((x.f1.length : Int) == 0)
       ·have hzn : (x.f1.length == 0) = false:=by rw [beq_eq_false_iff_ne] at hz ⊢;omega
        rw [hzn] at HAT
        clear hzn
        have HCN : Hid (∀ W,Below w.heap.size w W → Calls Tryz.prog 109 #[.slice A1 x.f1.length c1] W fun e w'=>e = .returned (.int .i64 (errB (chainB x.f1))) ∧ Below W.heap.size W w'):=fun W h=>chain.walk A1 c1 x.f1 W (Kd.C_below HCE.out h)
        cases hch : chainB x.f1
        ·rw [hch] at HAT HCN
         rw [show errB false = 1 from rfl] at HCN
         have HE : Hid (indexB l = false):=HNO.out (by rw [HAT.out];rfl)
         clear HNO HYES HAT hch
         go_wp2
         skip
         refine wp_region_held_drew (S:=fun W=>W.cell? (ad.add (j * 2)) = some (.string q) ∧ W.cell? ⟨wr.heap.size,0,none⟩ = some (.string x.f0) ∧ W.cell? ⟨wr.heap.size,1,none⟩ = some (.slice A1 x.f1.length c1) ∧ Hid (Below w.heap.size w W)) (by kernel_rfl) ?_ (fun hHeld=>?_)
         ·exact ⟨keepc ((Below.refl _ _).alloc (Nat.le_refl _) _).drew hd0,by simp [go_sem],by simp [go_sem],(hb.out.alloc hb.out.size _).drew⟩
         refine zt 0 ?_;try simp only [zN];refine zt 1 ?_;try simp only [zN]
         refine wpAnyH_ready (rs:=[2]) (by kernel_rfl) (by simp) ?_
         refine AllReadyH.cons (o:=_) rfl (fun K hK=>?_) AllReadyH.nil
         rw [if_pos (by rfl)]
         go_simp
         obtain ⟨s0,s1,s2,s3⟩:=hHeld
         refine (name_Key.calls _ _ _ HKY.out).mono ?_
         rintro e8 w8 ⟨rfl,hb8⟩
         refine hK.out _ _ ⟨keepc hb8 s0,keepc hb8 s1,keepc hb8 s2,keepB s3 hb8⟩ (fun hHeld=>?_)
         clear hK K hb8 s0 s1 s2 s3
         try simp only [zN]
         refine zt 3 ?_;try simp only [zN];refine zt 4 ?_;try simp only [zN];refine zt 5 ?_;try simp only [zN];refine zt 6 ?_;try simp only [zN];refine zt 7 ?_;try simp only [zN];refine zt 8 ?_;try simp only [zN];refine zt 9 ?_;try simp only [zN];refine zt 10 ?_;try simp only [zN];refine zt 11 ?_;try simp only [zN];refine zt 12 ?_;try simp only [zN];refine zt 13 ?_;try simp only [zN];refine zt 14 ?_;try simp only [zN];refine zt 15 ?_;try simp only [zN];refine zt 16 ?_;try simp only [zN];refine zt 17 ?_;try simp only [zN];refine zt 18 ?_;try simp only [zN];refine zt 19 ?_;try simp only [zN];refine zt 20 ?_;try simp only [zN];refine zt 21 ?_;try simp only [zN];refine zt 22 ?_;try simp only [zN];refine zt 23 ?_;try simp only [zN];refine zt 24 ?_;try simp only [zN];refine zt 25 ?_;try simp only [zN];refine zt 26 ?_;try simp only [zN];refine zt 27 ?_;try simp only [zN]
         refine wpAnyH_ready (rs:=[28]) (by kernel_rfl) (by simp) ?_
         refine AllReadyH.cons (o:=_) rfl (fun K hK=>?_) AllReadyH.nil
         rw [if_pos (by rfl)]
         go_simp
         obtain ⟨s0,s1,s2,s3⟩:=hHeld
         refine (HCN.out _ (outB s3)).mono ?_
         rintro e8 w8 ⟨rfl,hb8⟩
         refine hK.out _ _ ⟨keepc hb8 s0,keepc hb8 s1,keepc hb8 s2,keepB s3 hb8⟩ (fun hHeld=>?_)
         clear hK K hb8 s0 s1 s2 s3
         try simp only [zN]
         refine zt 29 ?_;try simp only [zN];refine zt 30 ?_;try simp only [zN]
         refine wpAnyH_done (by kernel_rfl) ?_ _
         have HW:=hHeld.2.2.2
         clear hHeld
         go_wp2
         go_ret
         exact ⟨by rw [HE.out];rfl,HW.out⟩
        ·rw [hch] at HAT HCN
         rw [show errB true = 0 from rfl] at HCN
         have HN : Hid (allFrom (ixAt l) 0 (k + 1) = true):=HYES.out (by rw [HAT.out];rfl)
         clear HNO HYES HAT hch
         go_wp2
         skip
         refine wp_region_held_drew (S:=fun W=>W.cell? (ad.add (j * 2)) = some (.string q) ∧ W.cell? ⟨wr.heap.size,0,none⟩ = some (.string x.f0) ∧ W.cell? ⟨wr.heap.size,1,none⟩ = some (.slice A1 x.f1.length c1) ∧ Hid (Below w.heap.size w W)) (by kernel_rfl) ?_ (fun hHeld=>?_)
         ·exact ⟨keepc ((Below.refl _ _).alloc (Nat.le_refl _) _).drew hd0,by simp [go_sem],by simp [go_sem],(hb.out.alloc hb.out.size _).drew⟩
         refine zt 0 ?_;try simp only [zN];refine zt 1 ?_;try simp only [zN]
         refine wpAnyH_ready (rs:=[2]) (by kernel_rfl) (by simp) ?_
         refine AllReadyH.cons (o:=_) rfl (fun K hK=>?_) AllReadyH.nil
         rw [if_pos (by rfl)]
         go_simp
         obtain ⟨s0,s1,s2,s3⟩:=hHeld
         refine (name_Key.calls _ _ _ HKY.out).mono ?_
         rintro e8 w8 ⟨rfl,hb8⟩
         refine hK.out _ _ ⟨keepc hb8 s0,keepc hb8 s1,keepc hb8 s2,keepB s3 hb8⟩ (fun hHeld=>?_)
         clear hK K hb8 s0 s1 s2 s3
         try simp only [zN]
         refine zt 3 ?_;try simp only [zN];refine zt 4 ?_;try simp only [zN];refine zt 5 ?_;try simp only [zN];refine zt 6 ?_;try simp only [zN];refine zt 7 ?_;try simp only [zN];refine zt 8 ?_;try simp only [zN];refine zt 9 ?_;try simp only [zN];refine zt 10 ?_;try simp only [zN];refine zt 11 ?_;try simp only [zN];refine zt 12 ?_;try simp only [zN];refine zt 13 ?_;try simp only [zN];refine zt 14 ?_;try simp only [zN];refine zt 15 ?_;try simp only [zN];refine zt 16 ?_;try simp only [zN];refine zt 17 ?_;try simp only [zN];refine zt 18 ?_;try simp only [zN];refine zt 19 ?_;try simp only [zN];refine zt 20 ?_;try simp only [zN];refine zt 21 ?_;try simp only [zN];refine zt 22 ?_;try simp only [zN];refine zt 23 ?_;try simp only [zN];refine zt 24 ?_;try simp only [zN];refine zt 25 ?_;try simp only [zN];refine zt 26 ?_;try simp only [zN];refine zt 27 ?_;try simp only [zN]
         refine wpAnyH_ready (rs:=[28]) (by kernel_rfl) (by simp) ?_
         refine AllReadyH.cons (o:=_) rfl (fun K hK=>?_) AllReadyH.nil
         rw [if_pos (by rfl)]
         go_simp
         obtain ⟨s0,s1,s2,s3⟩:=hHeld
         refine (HCN.out _ (outB s3)).mono ?_
         rintro e8 w8 ⟨rfl,hb8⟩
         refine hK.out _ _ ⟨keepc hb8 s0,keepc hb8 s1,keepc hb8 s2,keepB s3 hb8⟩ (fun hHeld=>?_)
         clear hK K hb8 s0 s1 s2 s3
         try simp only [zN]
         refine zt 29 ?_;try simp only [zN];refine zt 30 ?_;try simp only [zN]
         refine wpAnyH_done (by kernel_rfl) ?_ _
         have HW:=hHeld.2.2.2
         clear hHeld
         go_wp2
         go_roundw
         case rel=>exact ⟨k + 1,by go_num,by omega,HN,HW⟩
         case measure=>simp [intOf];omega
       ·have hzn : (x.f1.length == 0) = true:=by rw [beq_iff_eq] at hz ⊢;omega
        rw [hzn] at HAT
        have HE : Hid (indexB l = false):=HNO.out (by rw [HAT.out];rfl)
        clear hzn HNO HYES HAT
        go_wp2
        skip
        refine wp_region_held_drew (S:=fun W=>W.cell? (ad.add (j * 2)) = some (.string q) ∧ W.cell? ⟨wr.heap.size,0,none⟩ = some (.string x.f0) ∧ W.cell? ⟨wr.heap.size,1,none⟩ = some (.slice A1 x.f1.length c1) ∧ Hid (Below w.heap.size w W)) (by kernel_rfl) ?_ (fun hHeld=>?_)
        ·exact ⟨keepc ((Below.refl _ _).alloc (Nat.le_refl _) _).drew hd0,by simp [go_sem],by simp [go_sem],(hb.out.alloc hb.out.size _).drew⟩
        refine zt 0 ?_;try simp only [zN];refine zt 1 ?_;try simp only [zN]
        refine wpAnyH_ready (rs:=[2]) (by kernel_rfl) (by simp) ?_
        refine AllReadyH.cons (o:=_) rfl (fun K hK=>?_) AllReadyH.nil
        rw [if_pos (by rfl)]
        go_simp
        obtain ⟨s0,s1,s2,s3⟩:=hHeld
        refine (name_Key.calls _ _ _ HKY.out).mono ?_
        rintro e8 w8 ⟨rfl,hb8⟩
        refine hK.out _ _ ⟨keepc hb8 s0,keepc hb8 s1,keepc hb8 s2,keepB s3 hb8⟩ (fun hHeld=>?_)
        clear hK K hb8 s0 s1 s2 s3
        try simp only [zN]
        refine zt 3 ?_;try simp only [zN];refine zt 4 ?_;try simp only [zN];refine zt 5 ?_;try simp only [zN];refine zt 6 ?_;try simp only [zN];refine zt 7 ?_;try simp only [zN];refine zt 8 ?_;try simp only [zN];refine zt 9 ?_;try simp only [zN];refine zt 10 ?_;try simp only [zN];refine zt 11 ?_;try simp only [zN];refine zt 12 ?_;try simp only [zN];refine zt 13 ?_;try simp only [zN];refine zt 14 ?_;try simp only [zN];refine zt 15 ?_;try simp only [zN];refine zt 16 ?_;try simp only [zN];refine zt 17 ?_;try simp only [zN];refine zt 18 ?_;try simp only [zN];refine zt 19 ?_;try simp only [zN];refine zt 20 ?_;try simp only [zN];refine zt 21 ?_;try simp only [zN];refine zt 22 ?_;try simp only [zN];refine zt 23 ?_;try simp only [zN];refine zt 24 ?_;try simp only [zN];refine zt 25 ?_;try simp only [zN];refine zu 26 ?_;try simp only [zN];refine zu 27 ?_;try simp only [zN];refine zu 28 ?_;try simp only [zN]
        refine zu 29 ?_;try simp only [zN];refine zt 30 ?_;try simp only [zN]
        refine wpAnyH_done (by kernel_rfl) ?_ _
        have HW:=hHeld.2.2.2
        clear hHeld
        go_wp2
        go_ret
        exact ⟨by rw [HE.out];rfl,HW.out⟩
     ·have HUP : Hid (upB l k = true):=by
       obtain rfl : k = 0:=by omega
       rfl
      rw [HUP.out] at HAT
      clear HUP
      generalize l[k] = x at *
      have h0n : ¬ 0 < k:=by omega
      have h0d : decide (0 < k) = false:=decide_eq_false h0n
      cases hz : ((x.f1.length : Int) == 0)
      ·have hzn : (x.f1.length == 0) = false:=by rw [beq_eq_false_iff_ne] at hz ⊢;omega
       rw [hzn] at HAT
       clear hzn
       have HCN : Hid (∀ W,Below w.heap.size w W → Calls Tryz.prog 109 #[.slice A1 x.f1.length c1] W fun e w'=>e = .returned (.int .i64 (errB (chainB x.f1))) ∧ Below W.heap.size W w'):=fun W h=>chain.walk A1 c1 x.f1 W (Kd.C_below HCE.out h)
       cases hch : chainB x.f1
       ·rw [hch] at HAT HCN
        rw [show errB false = 1 from rfl] at HCN
        have HE : Hid (indexB l = false):=HNO.out (by rw [HAT.out];rfl)
        clear HNO HYES HAT hch
        go_wp2
        skip
        refine wp_region_held_drew (S:=fun W=>W.cell? ⟨wr.heap.size,0,none⟩ = some (.string x.f0) ∧ W.cell? ⟨wr.heap.size,1,none⟩ = some (.slice A1 x.f1.length c1) ∧ Hid (Below w.heap.size w W)) (by kernel_rfl) ?_ (fun hHeld=>?_)
        ·exact ⟨by simp [go_sem],by simp [go_sem],(hb.out.alloc hb.out.size _).drew⟩
        refine zt 0 ?_;try simp only [zN];refine zt 1 ?_;try simp only [zN]
        refine wpAnyH_ready (rs:=[2]) (by kernel_rfl) (by simp) ?_
        refine AllReadyH.cons (o:=_) rfl (fun K hK=>?_) AllReadyH.nil
        rw [if_pos (by rfl)]
        go_simp
        obtain ⟨s0,s1,s2⟩:=hHeld
        refine (name_Key.calls _ _ _ HKY.out).mono ?_
        rintro e8 w8 ⟨rfl,hb8⟩
        refine hK.out _ _ ⟨keepc hb8 s0,keepc hb8 s1,keepB s2 hb8⟩ (fun hHeld=>?_)
        clear hK K hb8 s0 s1 s2
        try simp only [zN]
        refine zt 3 ?_;try simp only [zN];refine zt 4 ?_;try simp only [zN];refine zt 5 ?_;try simp only [zN];refine zt 6 ?_;try simp only [zN];refine zt 7 ?_;try simp only [zN];refine zu 8 ?_;try simp only [zN];refine zu 9 ?_;try simp only [zN];refine zu 10 ?_;try simp only [zN];refine zu 11 ?_;try simp only [zN];refine zu 12 ?_;try simp only [zN];refine zu 13 ?_;try simp only [zN];refine zu 14 ?_;try simp only [zN];refine zu 15 ?_;try simp only [zN];refine zu 16 ?_;try simp only [zN];refine zt 17 ?_;try simp only [zN];refine zt 18 ?_;try simp only [zN];refine zt 19 ?_;try simp only [zN];refine zt 20 ?_;try simp only [zN];refine zt 21 ?_;try simp only [zN];refine zt 22 ?_;try simp only [zN];refine zt 23 ?_;try simp only [zN];refine zt 24 ?_;try simp only [zN];refine zt 25 ?_;try simp only [zN];refine zt 26 ?_;try simp only [zN];refine zt 27 ?_;try simp only [zN]
        refine wpAnyH_ready (rs:=[28]) (by kernel_rfl) (by simp) ?_
        refine AllReadyH.cons (o:=_) rfl (fun K hK=>?_) AllReadyH.nil
        rw [if_pos (by rfl)]
        go_simp
        obtain ⟨s0,s1,s2⟩:=hHeld
        refine (HCN.out _ (outB s2)).mono ?_
        rintro e8 w8 ⟨rfl,hb8⟩
        refine hK.out _ _ ⟨keepc hb8 s0,keepc hb8 s1,keepB s2 hb8⟩ (fun hHeld=>?_)
        clear hK K hb8 s0 s1 s2
        try simp only [zN]
        refine zt 29 ?_;try simp only [zN];refine zt 30 ?_;try simp only [zN]
        refine wpAnyH_done (by kernel_rfl) ?_ _
        have HW:=hHeld.2.2
        clear hHeld
        go_wp2
        go_ret
        exact ⟨by rw [HE.out];rfl,HW.out⟩
       ·rw [hch] at HAT HCN
        rw [show errB true = 0 from rfl] at HCN
        have HN : Hid (allFrom (ixAt l) 0 (k + 1) = true):=HYES.out (by rw [HAT.out];rfl)
        clear HNO HYES HAT hch
        go_wp2
        skip
        refine wp_region_held_drew (S:=fun W=>W.cell? ⟨wr.heap.size,0,none⟩ = some (.string x.f0) ∧ W.cell? ⟨wr.heap.size,1,none⟩ = some (.slice A1 x.f1.length c1) ∧ Hid (Below w.heap.size w W)) (by kernel_rfl) ?_ (fun hHeld=>?_)
        ·exact ⟨by simp [go_sem],by simp [go_sem],(hb.out.alloc hb.out.size _).drew⟩
        refine zt 0 ?_;try simp only [zN];refine zt 1 ?_;try simp only [zN]
        refine wpAnyH_ready (rs:=[2]) (by kernel_rfl) (by simp) ?_
        refine AllReadyH.cons (o:=_) rfl (fun K hK=>?_) AllReadyH.nil
        rw [if_pos (by rfl)]
        go_simp
        obtain ⟨s0,s1,s2⟩:=hHeld
        refine (name_Key.calls _ _ _ HKY.out).mono ?_
        rintro e8 w8 ⟨rfl,hb8⟩
        refine hK.out _ _ ⟨keepc hb8 s0,keepc hb8 s1,keepB s2 hb8⟩ (fun hHeld=>?_)
        clear hK K hb8 s0 s1 s2
        try simp only [zN]
        refine zt 3 ?_;try simp only [zN];refine zt 4 ?_;try simp only [zN];refine zt 5 ?_;try simp only [zN];refine zt 6 ?_;try simp only [zN];refine zt 7 ?_;try simp only [zN];refine zu 8 ?_;try simp only [zN];refine zu 9 ?_;try simp only [zN];refine zu 10 ?_;try simp only [zN];refine zu 11 ?_;try simp only [zN];refine zu 12 ?_;try simp only [zN];refine zu 13 ?_;try simp only [zN];refine zu 14 ?_;try simp only [zN];refine zu 15 ?_;try simp only [zN];refine zu 16 ?_;try simp only [zN];refine zt 17 ?_;try simp only [zN];refine zt 18 ?_;try simp only [zN];refine zt 19 ?_;try simp only [zN];refine zt 20 ?_;try simp only [zN];refine zt 21 ?_;try simp only [zN];refine zt 22 ?_;try simp only [zN];refine zt 23 ?_;try simp only [zN];refine zt 24 ?_;try simp only [zN];refine zt 25 ?_;try simp only [zN];refine zt 26 ?_;try simp only [zN];refine zt 27 ?_;try simp only [zN]
        refine wpAnyH_ready (rs:=[28]) (by kernel_rfl) (by simp) ?_
        refine AllReadyH.cons (o:=_) rfl (fun K hK=>?_) AllReadyH.nil
        rw [if_pos (by rfl)]
        go_simp
        obtain ⟨s0,s1,s2⟩:=hHeld
        refine (HCN.out _ (outB s2)).mono ?_
        rintro e8 w8 ⟨rfl,hb8⟩
        refine hK.out _ _ ⟨keepc hb8 s0,keepc hb8 s1,keepB s2 hb8⟩ (fun hHeld=>?_)
        clear hK K hb8 s0 s1 s2
        try simp only [zN]
        refine zt 29 ?_;try simp only [zN];refine zt 30 ?_;try simp only [zN]
        refine wpAnyH_done (by kernel_rfl) ?_ _
        have HW:=hHeld.2.2
        clear hHeld
        go_wp2
        go_roundw
        case rel=>exact ⟨k + 1,by go_num,by omega,HN,HW⟩
        case measure=>simp [intOf];omega
      ·have hzn : (x.f1.length == 0) = true:=by rw [beq_iff_eq] at hz ⊢;omega
       rw [hzn] at HAT
       have HE : Hid (indexB l = false):=HNO.out (by rw [HAT.out];rfl)
       clear hzn HNO HYES HAT
       go_wp2
       skip
       refine wp_region_held_drew (S:=fun W=>W.cell? ⟨wr.heap.size,0,none⟩ = some (.string x.f0) ∧ W.cell? ⟨wr.heap.size,1,none⟩ = some (.slice A1 x.f1.length c1) ∧ Hid (Below w.heap.size w W)) (by kernel_rfl) ?_ (fun hHeld=>?_)
       ·exact ⟨by simp [go_sem],by simp [go_sem],(hb.out.alloc hb.out.size _).drew⟩
       refine zt 0 ?_;try simp only [zN];refine zt 1 ?_;try simp only [zN]
       refine wpAnyH_ready (rs:=[2]) (by kernel_rfl) (by simp) ?_
       refine AllReadyH.cons (o:=_) rfl (fun K hK=>?_) AllReadyH.nil
       rw [if_pos (by rfl)]
       go_simp
       obtain ⟨s0,s1,s2⟩:=hHeld
       refine (name_Key.calls _ _ _ HKY.out).mono ?_
       rintro e8 w8 ⟨rfl,hb8⟩
       refine hK.out _ _ ⟨keepc hb8 s0,keepc hb8 s1,keepB s2 hb8⟩ (fun hHeld=>?_)
       clear hK K hb8 s0 s1 s2
       try simp only [zN]
       refine zt 3 ?_;try simp only [zN];refine zt 4 ?_;try simp only [zN];refine zt 5 ?_;try simp only [zN];refine zt 6 ?_;try simp only [zN];refine zt 7 ?_;try simp only [zN];refine zu 8 ?_;try simp only [zN];refine zu 9 ?_;try simp only [zN];refine zu 10 ?_;try simp only [zN];refine zu 11 ?_;try simp only [zN];refine zu 12 ?_;try simp only [zN];refine zu 13 ?_;try simp only [zN];refine zu 14 ?_;try simp only [zN];refine zu 15 ?_;try simp only [zN];refine zu 16 ?_;try simp only [zN];refine zt 17 ?_;try simp only [zN];refine zt 18 ?_;try simp only [zN];refine zt 19 ?_;try simp only [zN];refine zt 20 ?_;try simp only [zN];refine zt 21 ?_;try simp only [zN];refine zt 22 ?_;try simp only [zN];refine zt 23 ?_;try simp only [zN];refine zt 24 ?_;try simp only [zN];refine zt 25 ?_;try simp only [zN];refine zu 26 ?_;try simp only [zN];refine zu 27 ?_;try simp only [zN];refine zu 28 ?_;try simp only [zN]
       refine zu 29 ?_;try simp only [zN];refine zt 30 ?_;try simp only [zN]
       refine wpAnyH_done (by kernel_rfl) ?_ _
       have HW:=hHeld.2.2
       clear hHeld
       go_wp2
       go_ret
       exact ⟨by rw [HE.out];rfl,HW.out⟩
   ·have HE : Hid (indexB l = true):=by
     obtain rfl : k = l.length:=by omega
     unfold Hid indexB
     rw [hall.out]
     simp;omega
    go_wp2
    go_ret
    exact ⟨by rw [HE.out];rfl,hb.out⟩
 ·have d60 : decide ((60 : Int) < (l.length : Int)) = true:=by simp;omega
  have HE : Hid (indexB l = false):=by unfold Hid indexB;simp;omega
  go_enter Tryz.func67,Tryz.ntmps67
  go_wp2
  go_ret
  exact ⟨by rw [HE.out];rfl,HB0.out⟩
end
end Go.Proofs.YtekooapbdgippaaGreatDoor.Q
