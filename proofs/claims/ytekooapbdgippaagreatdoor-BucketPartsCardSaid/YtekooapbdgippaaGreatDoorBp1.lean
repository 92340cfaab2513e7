/- What comes in parts is in the end what a Put of it would be: the latest version of the key has those octets, and the upload is gone; whatever the input, as the row says. Part 22 of 26. -/
import Derived.Test.YtekooapbdgippaaGreatDoorProg
import Derived.Below
import Derived.Deep.Draws
import Derived.Deep.AppendLies
import Derived.Maps.AppendAt
import Derived.OwnWalk
import Derived.Laws.BytesArg
import Derived.Laws.MakeOwn
import Derived.Laws.OwnMore
import Derived.Deep.OwnRows
import Derived.Tactics
import Derived.Lib.ConvBytes
import Derived.Laws.Slices
import Derived.WalkKit
import Derived.KernelRfl
import Derived.RowKit3
import Derived.Deep.LoopGhost
import Derived.Deep.QuietTactic
import Derived.BigQuiet
import Derived.WideLaws
import Derived.Deep.DeepCutAuto
import Derived.Deep.CutBlock
import Derived.Deep.RegionHeld3
import Derived.Laws.Rows
import Derived.Lib.AppendStr
import Derived.ArgAppend
import Derived.Laws.IdiomCopy
import Derived.OrdersHeld
import Derived.Laws.BitsLemmas
import Derived.RowKit
import Derived.Test.YtekooapbdgippaaGreatDoorBpWWords
import Derived.Test.YtekooapbdgippaaGreatDoorBpWLast
import Derived.Test.YtekooapbdgippaaGreatDoorBpWTab
import Derived.Test.YtekooapbdgippaaGreatDoorBpWFour
import Derived.Test.YtekooapbdgippaaGreatDoorBpWQPut
import Derived.Test.YtekooapbdgippaaGreatDoorBpWApart
import Derived.Test.YtekooapbdgippaaGreatDoorBpWArr
import Derived.Test.YtekooapbdgippaaGreatDoorBpWZeros
import Derived.Test.YtekooapbdgippaaGreatDoorBpWFoot
import Derived.Test.YtekooapbdgippaaGreatDoorBpWKept
import Derived.Test.YtekooapbdgippaaGreatDoorBpWShare
import Derived.Test.YtekooapbdgippaaGreatDoorBpWN
import Derived.Test.YtekooapbdgippaaGreatDoorBpWFootNe
import Derived.Test.YtekooapbdgippaaGreatDoorBpWAt
import Derived.Test.YtekooapbdgippaaGreatDoorBpWEqStruct
import Derived.Test.YtekooapbdgippaaGreatDoorBpWRepsOne
import Derived.Test.YtekooapbdgippaaGreatDoorBpWInv
import Derived.Test.YtekooapbdgippaaGreatDoorBpWInvWords
import Derived.Test.YtekooapbdgippaaGreatDoorBpWGuard
import Derived.Test.YtekooapbdgippaaGreatDoorBpWNEv
import Derived.Test.YtekooapbdgippaaGreatDoorBpWMore
import Derived.Deep.DeepMust
import Derived.Maps.OwnSet
import Derived.Maps.RangeWalk
import Derived.Lib.BufferMore
import Derived.Laws.CopyOwn
import Derived.Lib.Overlaps
import Derived.Deep.RegionLaw
import Derived.StillTailTactics
import Derived.WalkSpells
import Derived.Outline
import Derived.Tactics2
import Derived.Defers
import Derived.Laws.Pointers
import Derived.Laws.LoneSync
import Derived.RegionTactic
import Derived.RegionCalls
import Derived.ChangeAlike
import Derived.Lib.Builder
import Derived.Shelf.Strings.Builder1
import Derived.Shelf.Strings.BuilderF
import Derived.Shelf.Strconv.Itoa0
import Derived.Shelf.Strconv.Itoa1
import Derived.Shelf.LaysM
import Derived.Shelf.Strconv.Itoa2
import Derived.Shelf.Strconv.Itoa3
namespace Go.Proofs.YtekooapbdgippaaGreatDoor.Q
open Go.RowKit Go.Proofs.YtekooapbdgippaaGreatDoorW.PrintWords Go.Proofs.YtekooapbdgippaaGreatDoorW.PrintLast Go.Proofs.YtekooapbdgippaaGreatDoorW.PrintMore
attribute [local go_sem] max2_int min2_int max_two min_two max_three min_three max_four min_four
set_option linter.unusedVariables false
set_option linter.unusedSimpArgs false



def errW : Option Int → Value
 | none => .nilIface
 | some c => .iface 0 (.int .i64 c)
theorem errW_none : errW none = .nilIface := rfl
theorem errW_some (c : Int) : errW (some c) = .iface 0 (.int .i64 c) := rfl

theorem info40 : (Tryz.prog.info? 40).map (fun i => (i.zero, i.size, i.bytes)) = some (some (.agg #[(.int .i64 0), (.string ⟨#[]⟩)]), 2, 24) := by kernel_rfl
theorem info47 : (Tryz.prog.info? 47).map (fun i => (i.zero, i.size, i.bytes)) = some (some (.agg #[(.int .u64 0), (.string ⟨#[]⟩), (.bool false), (.int .i64 0)]), 4, 40) := by kernel_rfl
theorem info56 : (Tryz.prog.info? 56).map (fun i => (i.zero, i.size, i.bytes)) = some (some (.agg #[(.string ⟨#[]⟩), (.slice none 0 0)]), 2, 40) := by kernel_rfl
theorem info101 : (Tryz.prog.info? 101).map (fun i => (i.zero, i.size, i.bytes)) = some (some (.agg #[(.int .u64 0), (.string ⟨#[]⟩), (.slice none 0 0)]), 3, 48) := by kernel_rfl
-- the values' own types
/-! #### struct type 47 -/
structure S47 where
 f0 : Int
 f1 : ByteArray
 f2 : Bool
 f3 : Int
def z47 : S47 := ⟨(0 : Int), (⟨#[]⟩ : ByteArray), false, (0 : Int)⟩
def k47 : Kd S47 := Kd.iso (Kd.pair (Kd.int .u64) (Kd.pair Kd.string (Kd.pair Kd.bool (Kd.int .i64)))) (fun x : S47 => (x.f0, x.f1, x.f2, x.f3))
theorem k47_open {w : World} {x : S47} {cs : List Value} (h : k47.K w x cs) : cs = [.int .u64 x.f0, .string x.f1, .bool x.f2, .int .i64 x.f3] := by
 obtain ⟨_, _, rfl, rfl, ⟨_, _, rfl, rfl, ⟨_, _, rfl, rfl, rfl⟩⟩⟩ := h
 exact rfl
theorem k47_mk (w : World) (x : S47)  : k47.K w x [.int .u64 x.f0, .string x.f1, .bool x.f2, .int .i64 x.f3] := ⟨[.int .u64 x.f0], [.string x.f1, .bool x.f2, .int .i64 x.f3], rfl, rfl, ⟨[.string x.f1], [.bool x.f2, .int .i64 x.f3], rfl, rfl, ⟨[.bool x.f2], [.int .i64 x.f3], rfl, rfl, rfl⟩⟩⟩
theorem k47_mkM (w : World) (base : Nat) (ok : Nat → Prop) (x : S47)  : k47.M w base ok x [.int .u64 x.f0, .string x.f1, .bool x.f2, .int .i64 x.f3] := ⟨[.int .u64 x.f0], [.string x.f1, .bool x.f2, .int .i64 x.f3], rfl, rfl, ⟨[.string x.f1], [.bool x.f2, .int .i64 x.f3], rfl, rfl, ⟨[.bool x.f2], [.int .i64 x.f3], rfl, rfl, rfl⟩⟩⟩
def rd_T47 (xs : List S47) (i : Int) : S47 := xs.getD i.toNat z47
theorem at_T47 {w : World} {A : Option Addr} {n : Nat} {xs : List S47} (h : Kd.C k47 w A n xs) (i : Int) (h0 : 0 ≤ i) (h1 : i < n) : ∃ ad , A = some ad ∧ w.cell? (ad.add (i.toNat * 4)) = some (.int .u64 (rd_T47 xs i).f0) ∧ w.cell? ⟨(ad.add (i.toNat * 4)).block, (ad.add (i.toNat * 4)).off + 1, none⟩ = some (.string (rd_T47 xs i).f1) ∧ w.cell? ⟨(ad.add (i.toNat * 4)).block, (ad.add (i.toNat * 4)).off + 2, none⟩ = some (.bool (rd_T47 xs i).f2) ∧ w.cell? ⟨(ad.add (i.toNat * 4)).block, (ad.add (i.toNat * 4)).off + 3, none⟩ = some (.int .i64 (rd_T47 xs i).f3) := by
 obtain ⟨ad, c, e, _, hK, hc0⟩ := Kd.C_get h z47 i h0 h1
 have hc : ∀ j u, c[j]? = some u → w.cell? (ad.add (i.toNat * 4 + j)) = some u := hc0
 obtain rfl := k47_open hK
 exact ⟨ad, e, hc 0 _ rfl, by rw [← add_field _ _ 1 (by omega)]; exact hc 1 _ rfl, by rw [← add_field _ _ 2 (by omega)]; exact hc 2 _ rfl, by rw [← add_field _ _ 3 (by omega)]; exact hc 3 _ rfl⟩

/-! #### struct type 56 -/
structure S56 where
 f0 : ByteArray
 f1 : (List S47)
def z56 : S56 := ⟨(⟨#[]⟩ : ByteArray), ([] : List S47)⟩
def k56 : Kd S56 := Kd.iso (Kd.pair Kd.string (Kd.slice 47 k47)) (fun x : S56 => (x.f0, x.f1))
theorem k56_open {w : World} {x : S56} {cs : List Value} (h : k56.K w x cs) : ∃ A1 c1, cs = [.string x.f0, .slice A1 x.f1.length c1] ∧ x.f1.length ≤ c1 ∧ k47.C w A1 x.f1.length x.f1 := by
 obtain ⟨_, _, rfl, rfl, ⟨A1, c1, rfl, l1, g1⟩⟩ := h
 exact ⟨A1, c1, rfl, l1, g1⟩
theorem k56_mk (w : World) (x : S56) {A1 : Option Addr} {c1 : Nat} (l1 : x.f1.length ≤ c1) (g1 : k47.C w A1 x.f1.length x.f1) : k56.K w x [.string x.f0, .slice A1 x.f1.length c1] := ⟨[.string x.f0], [.slice A1 x.f1.length c1], rfl, rfl, ⟨A1, c1, rfl, l1, g1⟩⟩
theorem k56_mkM (w : World) (base : Nat) (ok : Nat → Prop) (x : S56) {v1 : Value} (g1 : k47.R 47 w base ok v1 x.f1) : k56.M w base ok x [.string x.f0, v1] := ⟨[.string x.f0], [v1], rfl, rfl, ⟨v1, rfl, g1⟩⟩
def rd_T56 (xs : List S56) (i : Int) : S56 := xs.getD i.toNat z56
theorem at_T56 {w : World} {A : Option Addr} {n : Nat} {xs : List S56} (h : Kd.C k56 w A n xs) (i : Int) (h0 : 0 ≤ i) (h1 : i < n) : ∃ ad A1 c1, A = some ad ∧ w.cell? (ad.add (i.toNat * 2)) = some (.string (rd_T56 xs i).f0) ∧ w.cell? ⟨(ad.add (i.toNat * 2)).block, (ad.add (i.toNat * 2)).off + 1, none⟩ = some (.slice A1 (rd_T56 xs i).f1.length c1) ∧ (rd_T56 xs i).f1.length ≤ c1 ∧ k47.C w A1 (rd_T56 xs i).f1.length (rd_T56 xs i).f1 := by
 obtain ⟨ad, c, e, _, hK, hc0⟩ := Kd.C_get h z56 i h0 h1
 have hc : ∀ j u, c[j]? = some u → w.cell? (ad.add (i.toNat * 2 + j)) = some u := hc0
 obtain ⟨A1, c1, rfl, l1, g1⟩ := k56_open hK
 exact ⟨ad, A1, c1, e, hc 0 _ rfl, by rw [← add_field _ _ 1 (by omega)]; exact hc 1 _ rfl, l1, g1⟩

/-! #### struct type 40 -/
structure S40 where
 f0 : Int
 f1 : ByteArray
def z40 : S40 := ⟨(0 : Int), (⟨#[]⟩ : ByteArray)⟩
def k40 : Kd S40 := Kd.iso (Kd.pair (Kd.int .i64) Kd.string) (fun x : S40 => (x.f0, x.f1))
theorem k40_open {w : World} {x : S40} {cs : List Value} (h : k40.K w x cs) : cs = [.int .i64 x.f0, .string x.f1] := by
 obtain ⟨_, _, rfl, rfl, rfl⟩ := h
 exact rfl
theorem k40_mk (w : World) (x : S40)  : k40.K w x [.int .i64 x.f0, .string x.f1] := ⟨[.int .i64 x.f0], [.string x.f1], rfl, rfl, rfl⟩
theorem k40_mkM (w : World) (base : Nat) (ok : Nat → Prop) (x : S40)  : k40.M w base ok x [.int .i64 x.f0, .string x.f1] := ⟨[.int .i64 x.f0], [.string x.f1], rfl, rfl, rfl⟩
def rd_T40 (xs : List S40) (i : Int) : S40 := xs.getD i.toNat z40
theorem at_T40 {w : World} {A : Option Addr} {n : Nat} {xs : List S40} (h : Kd.C k40 w A n xs) (i : Int) (h0 : 0 ≤ i) (h1 : i < n) : ∃ ad , A = some ad ∧ w.cell? (ad.add (i.toNat * 2)) = some (.int .i64 (rd_T40 xs i).f0) ∧ w.cell? ⟨(ad.add (i.toNat * 2)).block, (ad.add (i.toNat * 2)).off + 1, none⟩ = some (.string (rd_T40 xs i).f1) := by
 obtain ⟨ad, c, e, _, hK, hc0⟩ := Kd.C_get h z40 i h0 h1
 have hc : ∀ j u, c[j]? = some u → w.cell? (ad.add (i.toNat * 2 + j)) = some u := hc0
 obtain rfl := k40_open hK
 exact ⟨ad, e, hc 0 _ rfl, by rw [← add_field _ _ 1 (by omega)]; exact hc 1 _ rfl⟩

/-! #### struct type 101 -/
structure S101 where
 f0 : Int
 f1 : ByteArray
 f2 : (List S40)
def z101 : S101 := ⟨(0 : Int), (⟨#[]⟩ : ByteArray), ([] : List S40)⟩
def k101 : Kd S101 := Kd.iso (Kd.pair (Kd.int .u64) (Kd.pair Kd.string (Kd.slice 40 k40))) (fun x : S101 => (x.f0, x.f1, x.f2))
theorem k101_open {w : World} {x : S101} {cs : List Value} (h : k101.K w x cs) : ∃ A2 c2, cs = [.int .u64 x.f0, .string x.f1, .slice A2 x.f2.length c2] ∧ x.f2.length ≤ c2 ∧ k40.C w A2 x.f2.length x.f2 := by
 obtain ⟨_, _, rfl, rfl, ⟨_, _, rfl, rfl, ⟨A2, c2, rfl, l2, g2⟩⟩⟩ := h
 exact ⟨A2, c2, rfl, l2, g2⟩
theorem k101_mk (w : World) (x : S101) {A2 : Option Addr} {c2 : Nat} (l2 : x.f2.length ≤ c2) (g2 : k40.C w A2 x.f2.length x.f2) : k101.K w x [.int .u64 x.f0, .string x.f1, .slice A2 x.f2.length c2] := ⟨[.int .u64 x.f0], [.string x.f1, .slice A2 x.f2.length c2], rfl, rfl, ⟨[.string x.f1], [.slice A2 x.f2.length c2], rfl, rfl, ⟨A2, c2, rfl, l2, g2⟩⟩⟩
theorem k101_mkM (w : World) (base : Nat) (ok : Nat → Prop) (x : S101) {v2 : Value} (g2 : k40.R 40 w base ok v2 x.f2) : k101.M w base ok x [.int .u64 x.f0, .string x.f1, v2] := ⟨[.int .u64 x.f0], [.string x.f1, v2], rfl, rfl, ⟨[.string x.f1], [v2], rfl, rfl, ⟨v2, rfl, g2⟩⟩⟩
def rd_T101 (xs : List S101) (i : Int) : S101 := xs.getD i.toNat z101
theorem at_T101 {w : World} {A : Option Addr} {n : Nat} {xs : List S101} (h : Kd.C k101 w A n xs) (i : Int) (h0 : 0 ≤ i) (h1 : i < n) : ∃ ad A2 c2, A = some ad ∧ w.cell? (ad.add (i.toNat * 3)) = some (.int .u64 (rd_T101 xs i).f0) ∧ w.cell? ⟨(ad.add (i.toNat * 3)).block, (ad.add (i.toNat * 3)).off + 1, none⟩ = some (.string (rd_T101 xs i).f1) ∧ w.cell? ⟨(ad.add (i.toNat * 3)).block, (ad.add (i.toNat * 3)).off + 2, none⟩ = some (.slice A2 (rd_T101 xs i).f2.length c2) ∧ (rd_T101 xs i).f2.length ≤ c2 ∧ k40.C w A2 (rd_T101 xs i).f2.length (rd_T101 xs i).f2 := by
 obtain ⟨ad, c, e, _, hK, hc0⟩ := Kd.C_get h z101 i h0 h1
 have hc : ∀ j u, c[j]? = some u → w.cell? (ad.add (i.toNat * 3 + j)) = some u := hc0
 obtain ⟨A2, c2, rfl, l2, g2⟩ := k101_open hK
 exact ⟨ad, A2, c2, e, hc 0 _ rfl, by rw [← add_field _ _ 1 (by omega)]; exact hc 1 _ rfl, by rw [← add_field _ _ 2 (by omega)]; exact hc 2 _ rfl, l2, g2⟩

end Go.Proofs.YtekooapbdgippaaGreatDoor.Q
namespace Go.Proofs.YtekooapbdgippaaGreatDoor.Q
open Go.RowKit Go.Proofs.YtekooapbdgippaaGreatDoorW.PrintWords Go.Proofs.YtekooapbdgippaaGreatDoorW.PrintLast Go.Proofs.YtekooapbdgippaaGreatDoorW.PrintMore
attribute [local go_sem] max2_int min2_int max_two min_two max_three min_three max_four min_four
set_option linter.unusedVariables false
set_option linter.unusedSimpArgs false

theorem eqA40 (d : Nat) (w : World) (x0 y0 : Int) (x1 y1 : ByteArray) :
  (Op.equalIn (d + 2) 40 (.agg #[.int .i64 x0, .string x1]) (.agg #[.int .i64 y0, .string y1])).run Tryz.prog w = .ok (x0 == y0 && (x1.toList == y1.toList)) w := by
 refine eqA_of Tryz.underlying40 (by kernel_rfl) ?_
 refine eqf_cons (by rfl) (by go_simp; rfl) (by go_simp; rfl) (by go_simp) ?_
 exact eqf_last (by rfl) (by go_simp; rfl) (by go_simp; rfl) (by go_simp)
end Go.Proofs.YtekooapbdgippaaGreatDoor.Q
namespace Go.Proofs.YtekooapbdgippaaGreatDoor.Q
open Go.RowKit Go.Proofs.YtekooapbdgippaaGreatDoorW.PrintWords Go.Proofs.YtekooapbdgippaaGreatDoorW.PrintLast Go.Proofs.YtekooapbdgippaaGreatDoorW.PrintMore
attribute [local go_sem] max2_int min2_int max_two min_two max_three min_three max_four min_four
set_option linter.unusedVariables false
set_option linter.unusedSimpArgs false

theorem eqA47 (d : Nat) (w : World) (x0 y0 : Int) (x1 y1 : ByteArray) (x2 y2 : Bool) (x3 y3 : Int) :
  (Op.equalIn (d + 2) 47 (.agg #[.int .u64 x0, .string x1, .bool x2, .int .i64 x3]) (.agg #[.int .u64 y0, .string y1, .bool y2, .int .i64 y3])).run Tryz.prog w = .ok (x0 == y0 && (x1.toList == y1.toList && (x2 == y2 && (x3 == y3)))) w := by
 refine eqA_of Tryz.underlying47 (by kernel_rfl) ?_
 refine eqf_cons (by rfl) (by go_simp; rfl) (by go_simp; rfl) (by go_simp) ?_
 refine eqf_cons (by rfl) (by go_simp; rfl) (by go_simp; rfl) (by go_simp) ?_
 refine eqf_cons (by rfl) (by go_simp; rfl) (by go_simp; rfl) (by go_simp) ?_
 exact eqf_last (by rfl) (by go_simp; rfl) (by go_simp; rfl) (by go_simp)
end Go.Proofs.YtekooapbdgippaaGreatDoor.Q
namespace Go.Proofs.YtekooapbdgippaaGreatDoor.Q
open Go.RowKit Go.Proofs.YtekooapbdgippaaGreatDoorW.PrintWords Go.Proofs.YtekooapbdgippaaGreatDoorW.PrintLast Go.Proofs.YtekooapbdgippaaGreatDoorW.PrintMore
attribute [local go_sem] max2_int min2_int max_two min_two max_three min_three max_four min_four
set_option linter.unusedVariables false
set_option linter.unusedSimpArgs false

/-! ### cellarerlaw01_Few: function 11 -/
def cellarerlaw01_Few.f (a0 : ByteArray) : Option (ByteArray) := if (a0.size : Int) > 80 then (if 0 ≤ 80 then (if 80 ≤ (a0.size : Int) then (some (a0.extract 0 80)) else (none)) else (none)) else (some a0)
set_option maxHeartbeats 8000000 in
set_option maxRecDepth 100000 in
theorem cellarerlaw01_Few.calls (a0 : ByteArray) (r : ByteArray) (w : World) (h : cellarerlaw01_Few.f a0 = some r) :
  Calls Tryz.prog 11 #[.string a0] w fun e w' => e = .returned (.string r) ∧ Drawn0 w w' := by
 have H : (if (a0.size : Int) > 80 then (if 0 ≤ 80 then (if 80 ≤ (a0.size : Int) then (some (a0.extract 0 80)) else (none)) else (none)) else (some a0)) = some r := h
 clear h
 by_cases c2 : (a0.size : Int) > 80
 ·rw [if_pos c2] at H
  have c2b0 : decide (80 < (a0.size : Int)) = true := decide_eq_true c2
  have c2b1 : decide (80 < a0.size) = true := decide_eq_true (by omega)
  clear c2
  by_cases c3 : 0 ≤ 80
  ·rw [if_pos c3] at H
   have c3b0 := eq_true c3
   have c3b1 : decide (0 ≤ 80) = true := decide_eq_true c3
   clear c3
   by_cases c4 : 80 ≤ (a0.size : Int)
   ·rw [if_pos c4] at H
    have c4b0 := eq_true c4
    have c4b1 : decide (80 ≤ (a0.size : Int)) = true := decide_eq_true c4
    clear c4
    obtain rfl := Option.some.inj H
    go_enter Tryz.func11, Tryz.ntmps11
    go_wp2
    go_ret
    exact ⟨by first | rfl | (simp; done) | (simp [*]; done), by repeat (first | exact Drawn0.refl _ | apply Drawn0.step)⟩
   ·rw [if_neg c4] at H
    exact absurd H (by simp)
  ·rw [if_neg c3] at H
   exact absurd H (by simp)
 ·rw [if_neg c2] at H
  have c2b0 : decide (80 < (a0.size : Int)) = false := decide_eq_false c2
  have c2b1 : decide (80 < a0.size) = false := decide_eq_false (by omega)
  clear c2
  obtain rfl := Option.some.inj H
  go_enter Tryz.func11, Tryz.ntmps11
  go_wp2
  go_ret
  exact ⟨by first | rfl | (simp; done) | (simp [*]; done), by repeat (first | exact Drawn0.refl _ | apply Drawn0.step)⟩

/-! ### cellarerlaw05_One: function 28 -/
def cellarerlaw05_One.f (a0_0 : Int) (a0_1 : ByteArray) (a0_2 : Bool) (a0_3 : Int) : Option (Int × ByteArray × Bool × Int) := if (a0_1.size : Int) > 2001 then (if 0 ≤ 2001 then (if 2001 ≤ (a0_1.size : Int) then (some (a0_0, a0_1.extract 0 2001, a0_2, a0_3)) else (none)) else (none)) else (some (a0_0, a0_1, a0_2, a0_3))
set_option maxHeartbeats 8000000 in
set_option maxRecDepth 100000 in
theorem cellarerlaw05_One.calls (a0_0 : Int) (a0_1 : ByteArray) (a0_2 : Bool) (a0_3 : Int) (r1 : Int) (r2 : ByteArray) (r3 : Bool) (r4 : Int) (w : World) (h : cellarerlaw05_One.f a0_0 a0_1 a0_2 a0_3 = some (r1, r2, r3, r4)) :
  Calls Tryz.prog 28 #[.agg #[.int .u64 a0_0, .string a0_1, .bool a0_2, .int .i64 a0_3]] w fun e w' => e = .returned (.agg #[.int .u64 r1, .string r2, .bool r3, .int .i64 r4]) ∧ Below w.heap.size w w' := by
 have hu47 := Tryz.underlying47
 have HB := Aside0.mk (Below.refl w.heap.size w)
 have H : (if (a0_1.size : Int) > 2001 then (if 0 ≤ 2001 then (if 2001 ≤ (a0_1.size : Int) then (some (a0_0, a0_1.extract 0 2001, a0_2, a0_3)) else (none)) else (none)) else (some (a0_0, a0_1, a0_2, a0_3))) = some (r1, r2, r3, r4) := h
 clear h
 by_cases c2 : (a0_1.size : Int) > 2001
 ·rw [if_pos c2] at H
  have c2b0 : decide (2001 < (a0_1.size : Int)) = true := decide_eq_true c2
  have c2b1 : decide (2001 < a0_1.size) = true := decide_eq_true (by omega)
  clear c2
  by_cases c3 : 0 ≤ 2001
  ·rw [if_pos c3] at H
   have c3b0 := eq_true c3
   have c3b1 : decide (0 ≤ 2001) = true := decide_eq_true c3
   clear c3
   by_cases c4 : 2001 ≤ (a0_1.size : Int)
   ·rw [if_pos c4] at H
    have c4b0 := eq_true c4
    have c4b1 : decide (2001 ≤ (a0_1.size : Int)) = true := decide_eq_true c4
    clear c4
    simp only [Option.some.injEq, Prod.mk.injEq] at H
    obtain ⟨rfl, rfl, rfl, rfl⟩ := H
    go_enter Tryz.func28, Tryz.ntmps28
    go_wp2_with (first | ((with_reducible refine gate_dst (N := 1) rfl ?_); refine box_event ?hg (N := 1) ?hd (cs := #[.int .u64 a0_0, .string a0_1, .bool a0_2, .int .i64 a0_3]) (t := 47) ?hr ?_; (case hd => rfl); (case hg => rfl); (case hr => first | (go_simp; done) | (go_simp; rfl)); intro gb101 hg w5 hbox hb; have n0_ := Aside0.mk (below_step (by repeat (first | (with_reducible first | exact HB.out | apply below_alloc | apply pw_below_drewN | apply below_drew1) | exact HB.out)) hb); have n1_ := Aside0.mk (hbox); have n2_ := Aside0.mk ((by rw [hg]; exact (below_size (by repeat (first | (with_reducible first | exact HB.out | apply below_alloc | apply pw_below_drewN | apply below_drew1) | exact HB.out))) : w.heap.size ≤ gb101)); have n3_ := Aside0.mk ((by rw [hg]; exact (below_size (by repeat (first | (with_reducible first | exact HB.out | apply below_alloc | apply pw_below_drewN | apply below_drew1) | exact HB.out))) : w.heap.size ≤ gb101)); clear HB; have HB := n0_; have BK101 := n1_; have GW101 := n2_; have GE101 := n3_; clear n0_ n1_ n2_ n3_; clear hb hbox hg) | ((with_reducible refine gate_dst (N := 2) rfl ?_); refine box_event ?hg (N := 2) ?hd (cs := #[.int .u64 0, .string (⟨#[]⟩ : ByteArray), .bool false, .int .i64 0]) (t := 47) ?hr ?_; (case hd => rfl); (case hg => rfl); (case hr => first | (go_simp; done) | (go_simp; rfl)); intro gb102 hg w6 hbox hb; have n0_ := Aside0.mk (blk_below (g := gb101) (o := .cells #[.int .u64 a0_0, .string a0_1, .bool a0_2, .int .i64 a0_3] 47 (0, 0)) (by (with_reducible repeat (first | refine blk_drewN ?_ _ | refine blk_drew ?_ | refine blk_alloc ?_ _)); exact BK101.out) hb); have n1_ := Aside0.mk (below_step (by repeat (first | (with_reducible first | exact HB.out | apply below_alloc | apply pw_below_drewN | apply below_drew1 | refine below_set ?_ GE101.out) | exact HB.out)) hb); have n2_ := Aside0.mk (hbox); have n3_ := Aside0.mk ((by rw [hg]; exact (below_size (by repeat (first | (with_reducible first | exact HB.out | apply below_alloc | apply pw_below_drewN | apply below_drew1 | refine below_set ?_ GE101.out) | exact HB.out))) : w.heap.size ≤ gb102)); have n4_ := Aside0.mk ((by rw [hg]; exact (below_size (by repeat (first | (with_reducible first | exact HB.out | apply below_alloc | apply pw_below_drewN | apply below_drew1 | refine below_set ?_ GE101.out) | exact HB.out))) : w.heap.size ≤ gb102)); have n5_ := Aside0.mk ((by rw [hg]; exact Nat.ne_of_lt (blk_lt (g := gb101) (o := .cells #[.int .u64 a0_0, .string a0_1, .bool a0_2, .int .i64 a0_3] 47 (0, 0)) (by (with_reducible repeat (first | refine blk_drewN ?_ _ | refine blk_drew ?_ | refine blk_alloc ?_ _)); exact BK101.out)) : gb101 ≠ gb102)); have n6_ := Aside0.mk ((by rw [hg]; exact Nat.ne_of_gt (blk_lt (g := gb101) (o := .cells #[.int .u64 a0_0, .string a0_1, .bool a0_2, .int .i64 a0_3] 47 (0, 0)) (by (with_reducible repeat (first | refine blk_drewN ?_ _ | refine blk_drew ?_ | refine blk_alloc ?_ _)); exact BK101.out)) : gb102 ≠ gb101)); clear BK101; clear HB; have BK101 := n0_; have HB := n1_; have BK102 := n2_; have GW102 := n3_; have GE102 := n4_; have NB101_102 := n5_; have NB102_101 := n6_; clear n0_ n1_ n2_ n3_ n4_ n5_ n6_; clear hb hbox hg; have hnb7 := NB101_102.out; have hnc7 := NB102_101.out; have hcz8_0 : w6.cell? ⟨gb101, 0, none⟩ = some (.int .u64 a0_0) := (blk_cell BK101.out 0).trans rfl; have hcz8_1 : w6.cell? ⟨gb101, 1, none⟩ = some (.string a0_1) := (blk_cell BK101.out 1).trans rfl; have hcz8_2 : w6.cell? ⟨gb101, 2, none⟩ = some (.bool a0_2) := (blk_cell BK101.out 2).trans rfl; have hcz8_3 : w6.cell? ⟨gb101, 3, none⟩ = some (.int .i64 a0_3) := (blk_cell BK101.out 3).trans rfl; have hfz8_0 := blk_frozen BK101.out 0; have hfz8_1 := blk_frozen BK101.out 1; have hfz8_2 := blk_frozen BK101.out 2; have hfz8_3 := blk_frozen BK101.out 3; have hcz9_0 : w6.cell? ⟨gb102, 0, none⟩ = some (.int .u64 0) := (blk_cell BK102.out 0).trans rfl; have hcz9_1 : w6.cell? ⟨gb102, 1, none⟩ = some (.string (⟨#[]⟩ : ByteArray)) := (blk_cell BK102.out 1).trans rfl; have hcz9_2 : w6.cell? ⟨gb102, 2, none⟩ = some (.bool false) := (blk_cell BK102.out 2).trans rfl; have hcz9_3 : w6.cell? ⟨gb102, 3, none⟩ = some (.int .i64 0) := (blk_cell BK102.out 3).trans rfl; have hfz9_0 := blk_frozen BK102.out 0; have hfz9_1 := blk_frozen BK102.out 1; have hfz9_2 := blk_frozen BK102.out 2; have hfz9_3 := blk_frozen BK102.out 3))
    refine bodyPost_ret (results_cell_row rfl _ _ gb102 47 #[.int .u64 a0_0, .string (a0_1.extract 0 2001), .bool a0_2, .int .i64 a0_3] (0, 0) _ rfl (by (with_reducible repeat (first | refine blk_drewN ?_ _ | refine blk_drew ?_ | refine blk_alloc ?_ _)); refine blk_put (cs := #[.int .u64 a0_0, .string (a0_1.extract 0 2001), .bool a0_2, .int .i64 0]) ?_ 3 _ rfl; (with_reducible repeat (first | refine blk_drewN ?_ _ | refine blk_drew ?_ | refine blk_alloc ?_ _)); refine blk_put (cs := #[.int .u64 a0_0, .string (a0_1.extract 0 2001), .bool false, .int .i64 0]) ?_ 2 _ rfl; (with_reducible repeat (first | refine blk_drewN ?_ _ | refine blk_drew ?_ | refine blk_alloc ?_ _)); refine blk_put (cs := #[.int .u64 a0_0, .string (⟨#[]⟩ : ByteArray), .bool false, .int .i64 0]) ?_ 1 _ rfl; (with_reducible repeat (first | refine blk_drewN ?_ _ | refine blk_drew ?_ | refine blk_alloc ?_ _)); refine blk_put (cs := #[.int .u64 0, .string (⟨#[]⟩ : ByteArray), .bool false, .int .i64 0]) ?_ 0 _ rfl; (with_reducible repeat (first | refine blk_drewN ?_ _ | refine blk_drew ?_ | refine blk_alloc ?_ _)); refine blk_far ?_ NB102_101.out _; (with_reducible repeat (first | refine blk_drewN ?_ _ | refine blk_drew ?_ | refine blk_alloc ?_ _)); exact BK102.out) Tryz.underlying47 rfl (by kernel_rfl)) rfl ?_
    exact ⟨by first | rfl | (simp [errW_none, errW_some] <;> rfl) | (simp [*, errW_none, errW_some] <;> rfl), by repeat (first | (with_reducible first | exact HB.out | apply below_alloc | apply pw_below_drewN | apply below_drew1 | refine below_set ?_ GE101.out | refine below_set ?_ GE102.out) | exact HB.out)⟩
   ·rw [if_neg c4] at H
    exact absurd H (by simp)
  ·rw [if_neg c3] at H
   exact absurd H (by simp)
 ·rw [if_neg c2] at H
  have c2b0 : decide (2001 < (a0_1.size : Int)) = false := decide_eq_false c2
  have c2b1 : decide (2001 < a0_1.size) = false := decide_eq_false (by omega)
  clear c2
  simp only [Option.some.injEq, Prod.mk.injEq] at H
  obtain ⟨rfl, rfl, rfl, rfl⟩ := H
  go_enter Tryz.func28, Tryz.ntmps28
  go_wp2_with (first | ((with_reducible refine gate_dst (N := 1) rfl ?_); refine box_event ?hg (N := 1) ?hd (cs := #[.int .u64 a0_0, .string a0_1, .bool a0_2, .int .i64 a0_3]) (t := 47) ?hr ?_; (case hd => rfl); (case hg => rfl); (case hr => first | (go_simp; done) | (go_simp; rfl)); intro gb101 hg w10 hbox hb; have n0_ := Aside0.mk (below_step (by repeat (first | (with_reducible first | exact HB.out | apply below_alloc | apply pw_below_drewN | apply below_drew1) | exact HB.out)) hb); have n1_ := Aside0.mk (hbox); have n2_ := Aside0.mk ((by rw [hg]; exact (below_size (by repeat (first | (with_reducible first | exact HB.out | apply below_alloc | apply pw_below_drewN | apply below_drew1) | exact HB.out))) : w.heap.size ≤ gb101)); have n3_ := Aside0.mk ((by rw [hg]; exact (below_size (by repeat (first | (with_reducible first | exact HB.out | apply below_alloc | apply pw_below_drewN | apply below_drew1) | exact HB.out))) : w.heap.size ≤ gb101)); clear HB; have HB := n0_; have BK101 := n1_; have GW101 := n2_; have GE101 := n3_; clear n0_ n1_ n2_ n3_; clear hb hbox hg) | ((with_reducible refine gate_dst (N := 2) rfl ?_); refine box_event ?hg (N := 2) ?hd (cs := #[.int .u64 0, .string (⟨#[]⟩ : ByteArray), .bool false, .int .i64 0]) (t := 47) ?hr ?_; (case hd => rfl); (case hg => rfl); (case hr => first | (go_simp; done) | (go_simp; rfl)); intro gb102 hg w11 hbox hb; have n0_ := Aside0.mk (blk_below (g := gb101) (o := .cells #[.int .u64 a0_0, .string a0_1, .bool a0_2, .int .i64 a0_3] 47 (0, 0)) (by (with_reducible repeat (first | refine blk_drewN ?_ _ | refine blk_drew ?_ | refine blk_alloc ?_ _)); exact BK101.out) hb); have n1_ := Aside0.mk (below_step (by repeat (first | (with_reducible first | exact HB.out | apply below_alloc | apply pw_below_drewN | apply below_drew1 | refine below_set ?_ GE101.out) | exact HB.out)) hb); have n2_ := Aside0.mk (hbox); have n3_ := Aside0.mk ((by rw [hg]; exact (below_size (by repeat (first | (with_reducible first | exact HB.out | apply below_alloc | apply pw_below_drewN | apply below_drew1 | refine below_set ?_ GE101.out) | exact HB.out))) : w.heap.size ≤ gb102)); have n4_ := Aside0.mk ((by rw [hg]; exact (below_size (by repeat (first | (with_reducible first | exact HB.out | apply below_alloc | apply pw_below_drewN | apply below_drew1 | refine below_set ?_ GE101.out) | exact HB.out))) : w.heap.size ≤ gb102)); have n5_ := Aside0.mk ((by rw [hg]; exact Nat.ne_of_lt (blk_lt (g := gb101) (o := .cells #[.int .u64 a0_0, .string a0_1, .bool a0_2, .int .i64 a0_3] 47 (0, 0)) (by (with_reducible repeat (first | refine blk_drewN ?_ _ | refine blk_drew ?_ | refine blk_alloc ?_ _)); exact BK101.out)) : gb101 ≠ gb102)); have n6_ := Aside0.mk ((by rw [hg]; exact Nat.ne_of_gt (blk_lt (g := gb101) (o := .cells #[.int .u64 a0_0, .string a0_1, .bool a0_2, .int .i64 a0_3] 47 (0, 0)) (by (with_reducible repeat (first | refine blk_drewN ?_ _ | refine blk_drew ?_ | refine blk_alloc ?_ _)); exact BK101.out)) : gb102 ≠ gb101)); clear BK101; clear HB; have BK101 := n0_; have HB := n1_; have BK102 := n2_; have GW102 := n3_; have GE102 := n4_; have NB101_102 := n5_; have NB102_101 := n6_; clear n0_ n1_ n2_ n3_ n4_ n5_ n6_; clear hb hbox hg; have hnb12 := NB101_102.out; have hnc12 := NB102_101.out; have hcz13_0 : w11.cell? ⟨gb101, 0, none⟩ = some (.int .u64 a0_0) := (blk_cell BK101.out 0).trans rfl; have hcz13_1 : w11.cell? ⟨gb101, 1, none⟩ = some (.string a0_1) := (blk_cell BK101.out 1).trans rfl; have hcz13_2 : w11.cell? ⟨gb101, 2, none⟩ = some (.bool a0_2) := (blk_cell BK101.out 2).trans rfl; have hcz13_3 : w11.cell? ⟨gb101, 3, none⟩ = some (.int .i64 a0_3) := (blk_cell BK101.out 3).trans rfl; have hfz13_0 := blk_frozen BK101.out 0; have hfz13_1 := blk_frozen BK101.out 1; have hfz13_2 := blk_frozen BK101.out 2; have hfz13_3 := blk_frozen BK101.out 3; have hcz14_0 : w11.cell? ⟨gb102, 0, none⟩ = some (.int .u64 0) := (blk_cell BK102.out 0).trans rfl; have hcz14_1 : w11.cell? ⟨gb102, 1, none⟩ = some (.string (⟨#[]⟩ : ByteArray)) := (blk_cell BK102.out 1).trans rfl; have hcz14_2 : w11.cell? ⟨gb102, 2, none⟩ = some (.bool false) := (blk_cell BK102.out 2).trans rfl; have hcz14_3 : w11.cell? ⟨gb102, 3, none⟩ = some (.int .i64 0) := (blk_cell BK102.out 3).trans rfl; have hfz14_0 := blk_frozen BK102.out 0; have hfz14_1 := blk_frozen BK102.out 1; have hfz14_2 := blk_frozen BK102.out 2; have hfz14_3 := blk_frozen BK102.out 3))
  refine bodyPost_ret (results_cell_row rfl _ _ gb102 47 #[.int .u64 a0_0, .string a0_1, .bool a0_2, .int .i64 a0_3] (0, 0) _ rfl (by (with_reducible repeat (first | refine blk_drewN ?_ _ | refine blk_drew ?_ | refine blk_alloc ?_ _)); refine blk_put (cs := #[.int .u64 a0_0, .string a0_1, .bool a0_2, .int .i64 0]) ?_ 3 _ rfl; (with_reducible repeat (first | refine blk_drewN ?_ _ | refine blk_drew ?_ | refine blk_alloc ?_ _)); refine blk_put (cs := #[.int .u64 a0_0, .string a0_1, .bool false, .int .i64 0]) ?_ 2 _ rfl; (with_reducible repeat (first | refine blk_drewN ?_ _ | refine blk_drew ?_ | refine blk_alloc ?_ _)); refine blk_put (cs := #[.int .u64 a0_0, .string (⟨#[]⟩ : ByteArray), .bool false, .int .i64 0]) ?_ 1 _ rfl; (with_reducible repeat (first | refine blk_drewN ?_ _ | refine blk_drew ?_ | refine blk_alloc ?_ _)); refine blk_put (cs := #[.int .u64 0, .string (⟨#[]⟩ : ByteArray), .bool false, .int .i64 0]) ?_ 0 _ rfl; (with_reducible repeat (first | refine blk_drewN ?_ _ | refine blk_drew ?_ | refine blk_alloc ?_ _)); exact BK102.out) Tryz.underlying47 rfl (by kernel_rfl)) rfl ?_
  exact ⟨by first | rfl | (simp [errW_none, errW_some] <;> rfl) | (simp [*, errW_none, errW_some] <;> rfl), by repeat (first | (with_reducible first | exact HB.out | apply below_alloc | apply pw_below_drewN | apply below_drew1 | refine below_set ?_ GE101.out | refine below_set ?_ GE102.out) | exact HB.out)⟩

/-! ### cellarerlaw05_Few: function 75 -/
/-! ### cellarerlaw06_Few: function 30 -/
/-! ### cellarerlaw08_One: function 76 -/
def cellarerlaw08_One.f (a0_0 : Int) (a0_1 : ByteArray) : Option (Int × ByteArray) := if (a0_1.size : Int) > 2001 then (if 0 ≤ 2001 then (if 2001 ≤ (a0_1.size : Int) then (some (a0_0, a0_1.extract 0 2001)) else (none)) else (none)) else (some (a0_0, a0_1))
set_option maxHeartbeats 8000000 in
set_option maxRecDepth 100000 in
theorem cellarerlaw08_One.calls (a0_0 : Int) (a0_1 : ByteArray) (r1 : Int) (r2 : ByteArray) (w : World) (h : cellarerlaw08_One.f a0_0 a0_1 = some (r1, r2)) :
  Calls Tryz.prog 76 #[.agg #[.int .i64 a0_0, .string a0_1]] w fun e w' => e = .returned (.agg #[.int .i64 r1, .string r2]) ∧ Below w.heap.size w w' := by
 have hu40 := Tryz.underlying40
 have HB := Aside0.mk (Below.refl w.heap.size w)
 have H : (if (a0_1.size : Int) > 2001 then (if 0 ≤ 2001 then (if 2001 ≤ (a0_1.size : Int) then (some (a0_0, a0_1.extract 0 2001)) else (none)) else (none)) else (some (a0_0, a0_1))) = some (r1, r2) := h
 clear h
 by_cases c2 : (a0_1.size : Int) > 2001
 ·rw [if_pos c2] at H
  have c2b0 : decide (2001 < (a0_1.size : Int)) = true := decide_eq_true c2
  have c2b1 : decide (2001 < a0_1.size) = true := decide_eq_true (by omega)
  clear c2
  by_cases c3 : 0 ≤ 2001
  ·rw [if_pos c3] at H
   have c3b0 := eq_true c3
   have c3b1 : decide (0 ≤ 2001) = true := decide_eq_true c3
   clear c3
   by_cases c4 : 2001 ≤ (a0_1.size : Int)
   ·rw [if_pos c4] at H
    have c4b0 := eq_true c4
    have c4b1 : decide (2001 ≤ (a0_1.size : Int)) = true := decide_eq_true c4
    clear c4
    simp only [Option.some.injEq, Prod.mk.injEq] at H
    obtain ⟨rfl, rfl⟩ := H
    go_enter Tryz.func76, Tryz.ntmps76
    go_wp2_with (first | ((with_reducible refine gate_dst (N := 1) rfl ?_); refine box_event ?hg (N := 1) ?hd (cs := #[.int .i64 a0_0, .string a0_1]) (t := 40) ?hr ?_; (case hd => rfl); (case hg => rfl); (case hr => first | (go_simp; done) | (go_simp; rfl)); intro gb120 hg w5 hbox hb; have n0_ := Aside0.mk (below_step (by repeat (first | (with_reducible first | exact HB.out | apply below_alloc | apply pw_below_drewN | apply below_drew1) | exact HB.out)) hb); have n1_ := Aside0.mk (hbox); have n2_ := Aside0.mk ((by rw [hg]; exact (below_size (by repeat (first | (with_reducible first | exact HB.out | apply below_alloc | apply pw_below_drewN | apply below_drew1) | exact HB.out))) : w.heap.size ≤ gb120)); have n3_ := Aside0.mk ((by rw [hg]; exact (below_size (by repeat (first | (with_reducible first | exact HB.out | apply below_alloc | apply pw_below_drewN | apply below_drew1) | exact HB.out))) : w.heap.size ≤ gb120)); clear HB; have HB := n0_; have BK120 := n1_; have GW120 := n2_; have GE120 := n3_; clear n0_ n1_ n2_ n3_; clear hb hbox hg) | ((with_reducible refine gate_dst (N := 2) rfl ?_); refine box_event ?hg (N := 2) ?hd (cs := #[.int .i64 0, .string (⟨#[]⟩ : ByteArray)]) (t := 40) ?hr ?_; (case hd => rfl); (case hg => rfl); (case hr => first | (go_simp; done) | (go_simp; rfl)); intro gb121 hg w6 hbox hb; have n0_ := Aside0.mk (blk_below (g := gb120) (o := .cells #[.int .i64 a0_0, .string a0_1] 40 (0, 0)) (by (with_reducible repeat (first | refine blk_drewN ?_ _ | refine blk_drew ?_ | refine blk_alloc ?_ _)); exact BK120.out) hb); have n1_ := Aside0.mk (below_step (by repeat (first | (with_reducible first | exact HB.out | apply below_alloc | apply pw_below_drewN | apply below_drew1 | refine below_set ?_ GE120.out) | exact HB.out)) hb); have n2_ := Aside0.mk (hbox); have n3_ := Aside0.mk ((by rw [hg]; exact (below_size (by repeat (first | (with_reducible first | exact HB.out | apply below_alloc | apply pw_below_drewN | apply below_drew1 | refine below_set ?_ GE120.out) | exact HB.out))) : w.heap.size ≤ gb121)); have n4_ := Aside0.mk ((by rw [hg]; exact (below_size (by repeat (first | (with_reducible first | exact HB.out | apply below_alloc | apply pw_below_drewN | apply below_drew1 | refine below_set ?_ GE120.out) | exact HB.out))) : w.heap.size ≤ gb121)); have n5_ := Aside0.mk ((by rw [hg]; exact Nat.ne_of_lt (blk_lt (g := gb120) (o := .cells #[.int .i64 a0_0, .string a0_1] 40 (0, 0)) (by (with_reducible repeat (first | refine blk_drewN ?_ _ | refine blk_drew ?_ | refine blk_alloc ?_ _)); exact BK120.out)) : gb120 ≠ gb121)); have n6_ := Aside0.mk ((by rw [hg]; exact Nat.ne_of_gt (blk_lt (g := gb120) (o := .cells #[.int .i64 a0_0, .string a0_1] 40 (0, 0)) (by (with_reducible repeat (first | refine blk_drewN ?_ _ | refine blk_drew ?_ | refine blk_alloc ?_ _)); exact BK120.out)) : gb121 ≠ gb120)); clear BK120; clear HB; have BK120 := n0_; have HB := n1_; have BK121 := n2_; have GW121 := n3_; have GE121 := n4_; have NB120_121 := n5_; have NB121_120 := n6_; clear n0_ n1_ n2_ n3_ n4_ n5_ n6_; clear hb hbox hg; have hnb7 := NB120_121.out; have hnc7 := NB121_120.out; have hcz8_0 : w6.cell? ⟨gb120, 0, none⟩ = some (.int .i64 a0_0) := (blk_cell BK120.out 0).trans rfl; have hcz8_1 : w6.cell? ⟨gb120, 1, none⟩ = some (.string a0_1) := (blk_cell BK120.out 1).trans rfl; have hfz8_0 := blk_frozen BK120.out 0; have hfz8_1 := blk_frozen BK120.out 1; have hcz9_0 : w6.cell? ⟨gb121, 0, none⟩ = some (.int .i64 0) := (blk_cell BK121.out 0).trans rfl; have hcz9_1 : w6.cell? ⟨gb121, 1, none⟩ = some (.string (⟨#[]⟩ : ByteArray)) := (blk_cell BK121.out 1).trans rfl; have hfz9_0 := blk_frozen BK121.out 0; have hfz9_1 := blk_frozen BK121.out 1))
    refine bodyPost_ret (results_cell_row rfl _ _ gb121 40 #[.int .i64 a0_0, .string (a0_1.extract 0 2001)] (0, 0) _ rfl (by (with_reducible repeat (first | refine blk_drewN ?_ _ | refine blk_drew ?_ | refine blk_alloc ?_ _)); refine blk_put (cs := #[.int .i64 a0_0, .string (⟨#[]⟩ : ByteArray)]) ?_ 1 _ rfl; (with_reducible repeat (first | refine blk_drewN ?_ _ | refine blk_drew ?_ | refine blk_alloc ?_ _)); refine blk_put (cs := #[.int .i64 0, .string (⟨#[]⟩ : ByteArray)]) ?_ 0 _ rfl; (with_reducible repeat (first | refine blk_drewN ?_ _ | refine blk_drew ?_ | refine blk_alloc ?_ _)); refine blk_far ?_ NB121_120.out _; (with_reducible repeat (first | refine blk_drewN ?_ _ | refine blk_drew ?_ | refine blk_alloc ?_ _)); exact BK121.out) Tryz.underlying40 rfl (by kernel_rfl)) rfl ?_
    exact ⟨by first | rfl | (simp [errW_none, errW_some] <;> rfl) | (simp [*, errW_none, errW_some] <;> rfl), by repeat (first | (with_reducible first | exact HB.out | apply below_alloc | apply pw_below_drewN | apply below_drew1 | refine below_set ?_ GE120.out | refine below_set ?_ GE121.out) | exact HB.out)⟩
   ·rw [if_neg c4] at H
    exact absurd H (by simp)
  ·rw [if_neg c3] at H
   exact absurd H (by simp)
 ·rw [if_neg c2] at H
  have c2b0 : decide (2001 < (a0_1.size : Int)) = false := decide_eq_false c2
  have c2b1 : decide (2001 < a0_1.size) = false := decide_eq_false (by omega)
  clear c2
  simp only [Option.some.injEq, Prod.mk.injEq] at H
  obtain ⟨rfl, rfl⟩ := H
  go_enter Tryz.func76, Tryz.ntmps76
  go_wp2_with (first | ((with_reducible refine gate_dst (N := 1) rfl ?_); refine box_event ?hg (N := 1) ?hd (cs := #[.int .i64 a0_0, .string a0_1]) (t := 40) ?hr ?_; (case hd => rfl); (case hg => rfl); (case hr => first | (go_simp; done) | (go_simp; rfl)); intro gb120 hg w10 hbox hb; have n0_ := Aside0.mk (below_step (by repeat (first | (with_reducible first | exact HB.out | apply below_alloc | apply pw_below_drewN | apply below_drew1) | exact HB.out)) hb); have n1_ := Aside0.mk (hbox); have n2_ := Aside0.mk ((by rw [hg]; exact (below_size (by repeat (first | (with_reducible first | exact HB.out | apply below_alloc | apply pw_below_drewN | apply below_drew1) | exact HB.out))) : w.heap.size ≤ gb120)); have n3_ := Aside0.mk ((by rw [hg]; exact (below_size (by repeat (first | (with_reducible first | exact HB.out | apply below_alloc | apply pw_below_drewN | apply below_drew1) | exact HB.out))) : w.heap.size ≤ gb120)); clear HB; have HB := n0_; have BK120 := n1_; have GW120 := n2_; have GE120 := n3_; clear n0_ n1_ n2_ n3_; clear hb hbox hg) | ((with_reducible refine gate_dst (N := 2) rfl ?_); refine box_event ?hg (N := 2) ?hd (cs := #[.int .i64 0, .string (⟨#[]⟩ : ByteArray)]) (t := 40) ?hr ?_; (case hd => rfl); (case hg => rfl); (case hr => first | (go_simp; done) | (go_simp; rfl)); intro gb121 hg w11 hbox hb; have n0_ := Aside0.mk (blk_below (g := gb120) (o := .cells #[.int .i64 a0_0, .string a0_1] 40 (0, 0)) (by (with_reducible repeat (first | refine blk_drewN ?_ _ | refine blk_drew ?_ | refine blk_alloc ?_ _)); exact BK120.out) hb); have n1_ := Aside0.mk (below_step (by repeat (first | (with_reducible first | exact HB.out | apply below_alloc | apply pw_below_drewN | apply below_drew1 | refine below_set ?_ GE120.out) | exact HB.out)) hb); have n2_ := Aside0.mk (hbox); have n3_ := Aside0.mk ((by rw [hg]; exact (below_size (by repeat (first | (with_reducible first | exact HB.out | apply below_alloc | apply pw_below_drewN | apply below_drew1 | refine below_set ?_ GE120.out) | exact HB.out))) : w.heap.size ≤ gb121)); have n4_ := Aside0.mk ((by rw [hg]; exact (below_size (by repeat (first | (with_reducible first | exact HB.out | apply below_alloc | apply pw_below_drewN | apply below_drew1 | refine below_set ?_ GE120.out) | exact HB.out))) : w.heap.size ≤ gb121)); have n5_ := Aside0.mk ((by rw [hg]; exact Nat.ne_of_lt (blk_lt (g := gb120) (o := .cells #[.int .i64 a0_0, .string a0_1] 40 (0, 0)) (by (with_reducible repeat (first | refine blk_drewN ?_ _ | refine blk_drew ?_ | refine blk_alloc ?_ _)); exact BK120.out)) : gb120 ≠ gb121)); have n6_ := Aside0.mk ((by rw [hg]; exact Nat.ne_of_gt (blk_lt (g := gb120) (o := .cells #[.int .i64 a0_0, .string a0_1] 40 (0, 0)) (by (with_reducible repeat (first | refine blk_drewN ?_ _ | refine blk_drew ?_ | refine blk_alloc ?_ _)); exact BK120.out)) : gb121 ≠ gb120)); clear BK120; clear HB; have BK120 := n0_; have HB := n1_; have BK121 := n2_; have GW121 := n3_; have GE121 := n4_; have NB120_121 := n5_; have NB121_120 := n6_; clear n0_ n1_ n2_ n3_ n4_ n5_ n6_; clear hb hbox hg; have hnb12 := NB120_121.out; have hnc12 := NB121_120.out; have hcz13_0 : w11.cell? ⟨gb120, 0, none⟩ = some (.int .i64 a0_0) := (blk_cell BK120.out 0).trans rfl; have hcz13_1 : w11.cell? ⟨gb120, 1, none⟩ = some (.string a0_1) := (blk_cell BK120.out 1).trans rfl; have hfz13_0 := blk_frozen BK120.out 0; have hfz13_1 := blk_frozen BK120.out 1; have hcz14_0 : w11.cell? ⟨gb121, 0, none⟩ = some (.int .i64 0) := (blk_cell BK121.out 0).trans rfl; have hcz14_1 : w11.cell? ⟨gb121, 1, none⟩ = some (.string (⟨#[]⟩ : ByteArray)) := (blk_cell BK121.out 1).trans rfl; have hfz14_0 := blk_frozen BK121.out 0; have hfz14_1 := blk_frozen BK121.out 1))
  refine bodyPost_ret (results_cell_row rfl _ _ gb121 40 #[.int .i64 a0_0, .string a0_1] (0, 0) _ rfl (by (with_reducible repeat (first | refine blk_drewN ?_ _ | refine blk_drew ?_ | refine blk_alloc ?_ _)); refine blk_put (cs := #[.int .i64 a0_0, .string (⟨#[]⟩ : ByteArray)]) ?_ 1 _ rfl; (with_reducible repeat (first | refine blk_drewN ?_ _ | refine blk_drew ?_ | refine blk_alloc ?_ _)); refine blk_put (cs := #[.int .i64 0, .string (⟨#[]⟩ : ByteArray)]) ?_ 0 _ rfl; (with_reducible repeat (first | refine blk_drewN ?_ _ | refine blk_drew ?_ | refine blk_alloc ?_ _)); exact BK121.out) Tryz.underlying40 rfl (by kernel_rfl)) rfl ?_
  exact ⟨by first | rfl | (simp [errW_none, errW_some] <;> rfl) | (simp [*, errW_none, errW_some] <;> rfl), by repeat (first | (with_reducible first | exact HB.out | apply below_alloc | apply pw_below_drewN | apply below_drew1 | refine below_set ?_ GE120.out | refine below_set ?_ GE121.out) | exact HB.out)⟩

end Go.Proofs.YtekooapbdgippaaGreatDoor.Q
namespace Go.Proofs.YtekooapbdgippaaGreatDoor.Q
open Go.RowKit Go.Proofs.YtekooapbdgippaaGreatDoorW.PrintWords Go.Proofs.YtekooapbdgippaaGreatDoorW.PrintLast Go.Proofs.YtekooapbdgippaaGreatDoorW.PrintMore
attribute [local go_sem] max2_int min2_int max_two min_two max_three min_three max_four min_four
set_option linter.unusedVariables false
set_option linter.unusedSimpArgs false

/-! ### cellarerlaw08_Few: function 31 -/
end Go.Proofs.YtekooapbdgippaaGreatDoor.Q
namespace Go.Proofs.YtekooapbdgippaaGreatDoor.Q
open Go.RowKit Go.Proofs.YtekooapbdgippaaGreatDoorW.PrintWords Go.Proofs.YtekooapbdgippaaGreatDoorW.PrintLast Go.Proofs.YtekooapbdgippaaGreatDoorW.PrintMore
attribute [local go_sem] max2_int min2_int max_two min_two max_three min_three max_four min_four
set_option linter.unusedVariables false
set_option linter.unusedSimpArgs false

/-! ### cellarerlaw09_Few: function 10 -/
/-! ### name_word: function 124 -/
def name_word.f (a0 : Int) : Option (Bool) := if a0 ≥ 97 then (if a0 ≤ 122 then (some true) else (if a0 ≥ 48 then (if a0 ≤ 57 then (some true) else (some (a0 == 45))) else (some (a0 == 45)))) else (if a0 ≥ 48 then (if a0 ≤ 57 then (some true) else (some (a0 == 45))) else (some (a0 == 45)))
set_option maxHeartbeats 8000000 in
set_option maxRecDepth 100000 in
theorem name_word.calls (a0 : Int) (r : Bool) (w : World) (h : name_word.f a0 = some r) :
  Calls Tryz.prog 124 #[.int .u8 a0] w fun e w' => e = .returned (.bool r) ∧ Drawn0 w w' := by
 have H : (if a0 ≥ 97 then (if a0 ≤ 122 then (some true) else (if a0 ≥ 48 then (if a0 ≤ 57 then (some true) else (some (a0 == 45))) else (some (a0 == 45)))) else (if a0 ≥ 48 then (if a0 ≤ 57 then (some true) else (some (a0 == 45))) else (some (a0 == 45)))) = some r := h
 clear h
 by_cases c2 : a0 ≥ 97
 ·rw [if_pos c2] at H
  have c2b0 : decide (97 ≤ a0) = true := decide_eq_true c2
  clear c2
  by_cases c3 : a0 ≤ 122
  ·rw [if_pos c3] at H
   have c3b0 : decide (a0 ≤ 122) = true := decide_eq_true c3
   clear c3
   obtain rfl := Option.some.inj H
   go_enter Tryz.func124, Tryz.ntmps124
   go_wp2
   go_ret
   exact ⟨by first | rfl | (simp; done) | (simp [*]; done), by repeat (first | exact Drawn0.refl _ | apply Drawn0.step)⟩
  ·rw [if_neg c3] at H
   have c3b0 : decide (a0 ≤ 122) = false := decide_eq_false c3
   clear c3
   by_cases c4 : a0 ≥ 48
   ·rw [if_pos c4] at H
    have c4b0 : decide (48 ≤ a0) = true := decide_eq_true c4
    clear c4
    by_cases c5 : a0 ≤ 57
    ·rw [if_pos c5] at H
     have c5b0 : decide (a0 ≤ 57) = true := decide_eq_true c5
     clear c5
     obtain rfl := Option.some.inj H
     go_enter Tryz.func124, Tryz.ntmps124
     go_wp2
     go_ret
     exact ⟨by first | rfl | (simp; done) | (simp [*]; done), by repeat (first | exact Drawn0.refl _ | apply Drawn0.step)⟩
    ·rw [if_neg c5] at H
     have c5b0 : decide (a0 ≤ 57) = false := decide_eq_false c5
     clear c5
     obtain rfl := Option.some.inj H
     go_enter Tryz.func124, Tryz.ntmps124
     go_wp2
     go_ret
     exact ⟨by first | rfl | (simp; done) | (simp [*]; done), by repeat (first | exact Drawn0.refl _ | apply Drawn0.step)⟩
   ·rw [if_neg c4] at H
    have c4b0 : decide (48 ≤ a0) = false := decide_eq_false c4
    clear c4
    obtain rfl := Option.some.inj H
    go_enter Tryz.func124, Tryz.ntmps124
    go_wp2
    go_ret
    exact ⟨by first | rfl | (simp; done) | (simp [*]; done), by repeat (first | exact Drawn0.refl _ | apply Drawn0.step)⟩
 ·rw [if_neg c2] at H
  have c2b0 : decide (97 ≤ a0) = false := decide_eq_false c2
  clear c2
  by_cases c6 : a0 ≥ 48
  ·rw [if_pos c6] at H
   have c6b0 : decide (48 ≤ a0) = true := decide_eq_true c6
   clear c6
   by_cases c7 : a0 ≤ 57
   ·rw [if_pos c7] at H
    have c7b0 : decide (a0 ≤ 57) = true := decide_eq_true c7
    clear c7
    obtain rfl := Option.some.inj H
    go_enter Tryz.func124, Tryz.ntmps124
    go_wp2
    go_ret
    exact ⟨by first | rfl | (simp; done) | (simp [*]; done), by repeat (first | exact Drawn0.refl _ | apply Drawn0.step)⟩
   ·rw [if_neg c7] at H
    have c7b0 : decide (a0 ≤ 57) = false := decide_eq_false c7
    clear c7
    obtain rfl := Option.some.inj H
    go_enter Tryz.func124, Tryz.ntmps124
    go_wp2
    go_ret
    exact ⟨by first | rfl | (simp; done) | (simp [*]; done), by repeat (first | exact Drawn0.refl _ | apply Drawn0.step)⟩
  ·rw [if_neg c6] at H
   have c6b0 : decide (48 ≤ a0) = false := decide_eq_false c6
   clear c6
   obtain rfl := Option.some.inj H
   go_enter Tryz.func124, Tryz.ntmps124
   go_wp2
   go_ret
   exact ⟨by first | rfl | (simp; done) | (simp [*]; done), by repeat (first | exact Drawn0.refl _ | apply Drawn0.step)⟩

-- NOT PRINTED: function 125 (name_kind_is)

-- NOT PRINTED: function 66 (name_Bucket)

/-! ### name_plain: function 131 -/
def name_plain.f (a0 : Int) : Option (Bool) := if a0 ≥ 32 then (some (decide (a0 ≤ 126))) else (some false)
set_option maxHeartbeats 8000000 in
set_option maxRecDepth 100000 in
theorem name_plain.calls (a0 : Int) (r : Bool) (w : World) (h : name_plain.f a0 = some r) :
  Calls Tryz.prog 131 #[.int .u8 a0] w fun e w' => e = .returned (.bool r) ∧ Drawn0 w w' := by
 have H : (if a0 ≥ 32 then (some (decide (a0 ≤ 126))) else (some false)) = some r := h
 clear h
 by_cases c2 : a0 ≥ 32
 ·rw [if_pos c2] at H
  have c2b0 : decide (32 ≤ a0) = true := decide_eq_true c2
  clear c2
  obtain rfl := Option.some.inj H
  go_enter Tryz.func131, Tryz.ntmps131
  go_wp2
  go_ret
  exact ⟨by first | rfl | (simp; done) | (simp [*]; done), by repeat (first | exact Drawn0.refl _ | apply Drawn0.step)⟩
 ·rw [if_neg c2] at H
  have c2b0 : decide (32 ≤ a0) = false := decide_eq_false c2
  clear c2
  obtain rfl := Option.some.inj H
  go_enter Tryz.func131, Tryz.ntmps131
  go_wp2
  go_ret
  exact ⟨by first | rfl | (simp; done) | (simp [*]; done), by repeat (first | exact Drawn0.refl _ | apply Drawn0.step)⟩

-- NOT PRINTED: function 77 (name_Key)

-- NOT PRINTED: function 128 (api_Version_128)

-- NOT PRINTED: function 71 (api_Version_71)

-- NOT PRINTED: function 109 (chain_Check)

-- NOT PRINTED: function 67 (index_Check)

/-! ### parts_numbered: function 78 -/
def parts_numbered.f (a0 : Int) : Option (Bool) := if a0 ≥ 1 then (some (decide (a0 ≤ 281474976710655))) else (some false)
set_option maxHeartbeats 8000000 in
set_option maxRecDepth 100000 in
theorem parts_numbered.calls (a0 : Int) (r : Bool) (w : World) (h : parts_numbered.f a0 = some r) :
  Calls Tryz.prog 78 #[.int .u64 a0] w fun e w' => e = .returned (.bool r) ∧ Drawn0 w w' := by
 have H : (if a0 ≥ 1 then (some (decide (a0 ≤ 281474976710655))) else (some false)) = some r := h
 clear h
 by_cases c2 : a0 ≥ 1
 ·rw [if_pos c2] at H
  have c2b0 : decide (1 ≤ a0) = true := decide_eq_true c2
  clear c2
  obtain rfl := Option.some.inj H
  go_enter Tryz.func78, Tryz.ntmps78
  go_wp2
  go_ret
  exact ⟨by first | rfl | (simp; done) | (simp [*]; done), by repeat (first | exact Drawn0.refl _ | apply Drawn0.step)⟩
 ·rw [if_neg c2] at H
  have c2b0 : decide (1 ≤ a0) = false := decide_eq_false c2
  clear c2
  obtain rfl := Option.some.inj H
  go_enter Tryz.func78, Tryz.ntmps78
  go_wp2
  go_ret
  exact ⟨by first | rfl | (simp; done) | (simp [*]; done), by repeat (first | exact Drawn0.refl _ | apply Drawn0.step)⟩

/-! ### parts_may: function 88 -/
def parts_may.f (a0_0 : Int) (a0_1 : ByteArray) : Option (Bool) := if a0_0 ≥ 1 then (if a0_0 ≤ 1000 then (some (decide ((a0_1.size : Int) ≤ 2000))) else (some false)) else (some false)
set_option maxHeartbeats 8000000 in
set_option maxRecDepth 100000 in
theorem parts_may.calls (a0_0 : Int) (a0_1 : ByteArray) (r : Bool) (w : World) (h : parts_may.f a0_0 a0_1 = some r) :
  Calls Tryz.prog 88 #[.agg #[.int .i64 a0_0, .string a0_1]] w fun e w' => e = .returned (.bool r) ∧ Below w.heap.size w w' := by
 have hu40 := Tryz.underlying40
 have HB := Aside0.mk (Below.refl w.heap.size w)
 have H : (if a0_0 ≥ 1 then (if a0_0 ≤ 1000 then (some (decide ((a0_1.size : Int) ≤ 2000))) else (some false)) else (some false)) = some r := h
 clear h
 by_cases c2 : a0_0 ≥ 1
 ·rw [if_pos c2] at H
  have c2b0 : decide (1 ≤ a0_0) = true := decide_eq_true c2
  clear c2
  by_cases c3 : a0_0 ≤ 1000
  ·rw [if_pos c3] at H
   have c3b0 : decide (a0_0 ≤ 1000) = true := decide_eq_true c3
   clear c3
   obtain rfl := Option.some.inj H
   go_enter Tryz.func88, Tryz.ntmps88
   go_wp2_with (first | ((with_reducible refine gate_dst (N := 1) rfl ?_); (try (refine gate_guard (by rfl) ?_; dsimp only)); refine box_event ?hg (N := 1) ?hd (cs := #[.int .i64 a0_0, .string a0_1]) (t := 40) ?hr ?_; (case hd => rfl); (case hg => rfl); (case hr => first | (go_simp; done) | (go_simp; rfl)); intro gb151 hg w4 hbox hb; have n0_ := Aside0.mk (below_step (by repeat (first | (with_reducible first | exact HB.out | apply below_alloc | apply pw_below_drewN | apply below_drew1) | exact HB.out)) hb); have n1_ := Aside0.mk (hbox); have n2_ := Aside0.mk ((by rw [hg]; exact (below_size (by repeat (first | (with_reducible first | exact HB.out | apply below_alloc | apply pw_below_drewN | apply below_drew1) | exact HB.out))) : w.heap.size ≤ gb151)); have n3_ := Aside0.mk ((by rw [hg]; exact (below_size (by repeat (first | (with_reducible first | exact HB.out | apply below_alloc | apply pw_below_drewN | apply below_drew1) | exact HB.out))) : w.heap.size ≤ gb151)); clear HB; have HB := n0_; have BK151 := n1_; have GW151 := n2_; have GE151 := n3_; clear n0_ n1_ n2_ n3_; clear hb hbox hg; have hcz5_0 : w4.cell? ⟨gb151, 0, none⟩ = some (.int .i64 a0_0) := (blk_cell BK151.out 0).trans rfl; have hcz5_1 : w4.cell? ⟨gb151, 1, none⟩ = some (.string a0_1) := (blk_cell BK151.out 1).trans rfl; have hfz5_0 := blk_frozen BK151.out 0; have hfz5_1 := blk_frozen BK151.out 1))
   go_ret
   exact ⟨by first | rfl | (simp [errW_none, errW_some] <;> rfl) | (simp [*, errW_none, errW_some] <;> rfl), by repeat (first | (with_reducible first | exact HB.out | apply below_alloc | apply pw_below_drewN | apply below_drew1 | refine below_set ?_ GE151.out) | exact HB.out)⟩
  ·rw [if_neg c3] at H
   have c3b0 : decide (a0_0 ≤ 1000) = false := decide_eq_false c3
   clear c3
   obtain rfl := Option.some.inj H
   go_enter Tryz.func88, Tryz.ntmps88
   go_wp2_with (first | ((with_reducible refine gate_dst (N := 1) rfl ?_); (try (refine gate_guard (by rfl) ?_; dsimp only)); refine box_event ?hg (N := 1) ?hd (cs := #[.int .i64 a0_0, .string a0_1]) (t := 40) ?hr ?_; (case hd => rfl); (case hg => rfl); (case hr => first | (go_simp; done) | (go_simp; rfl)); intro gb151 hg w6 hbox hb; have n0_ := Aside0.mk (below_step (by repeat (first | (with_reducible first | exact HB.out | apply below_alloc | apply pw_below_drewN | apply below_drew1) | exact HB.out)) hb); have n1_ := Aside0.mk (hbox); have n2_ := Aside0.mk ((by rw [hg]; exact (below_size (by repeat (first | (with_reducible first | exact HB.out | apply below_alloc | apply pw_below_drewN | apply below_drew1) | exact HB.out))) : w.heap.size ≤ gb151)); have n3_ := Aside0.mk ((by rw [hg]; exact (below_size (by repeat (first | (with_reducible first | exact HB.out | apply below_alloc | apply pw_below_drewN | apply below_drew1) | exact HB.out))) : w.heap.size ≤ gb151)); clear HB; have HB := n0_; have BK151 := n1_; have GW151 := n2_; have GE151 := n3_; clear n0_ n1_ n2_ n3_; clear hb hbox hg; have hcz7_0 : w6.cell? ⟨gb151, 0, none⟩ = some (.int .i64 a0_0) := (blk_cell BK151.out 0).trans rfl; have hcz7_1 : w6.cell? ⟨gb151, 1, none⟩ = some (.string a0_1) := (blk_cell BK151.out 1).trans rfl; have hfz7_0 := blk_frozen BK151.out 0; have hfz7_1 := blk_frozen BK151.out 1))
   go_ret
   exact ⟨by first | rfl | (simp [errW_none, errW_some] <;> rfl) | (simp [*, errW_none, errW_some] <;> rfl), by repeat (first | (with_reducible first | exact HB.out | apply below_alloc | apply pw_below_drewN | apply below_drew1 | refine below_set ?_ GE151.out) | exact HB.out)⟩
 ·rw [if_neg c2] at H
  have c2b0 : decide (1 ≤ a0_0) = false := decide_eq_false c2
  clear c2
  obtain rfl := Option.some.inj H
  go_enter Tryz.func88, Tryz.ntmps88
  go_wp2_with (first | ((with_reducible refine gate_dst (N := 1) rfl ?_); (try (refine gate_guard (by rfl) ?_; dsimp only)); refine box_event ?hg (N := 1) ?hd (cs := #[.int .i64 a0_0, .string a0_1]) (t := 40) ?hr ?_; (case hd => rfl); (case hg => rfl); (case hr => first | (go_simp; done) | (go_simp; rfl)); intro gb151 hg w8 hbox hb; have n0_ := Aside0.mk (below_step (by repeat (first | (with_reducible first | exact HB.out | apply below_alloc | apply pw_below_drewN | apply below_drew1) | exact HB.out)) hb); have n1_ := Aside0.mk (hbox); have n2_ := Aside0.mk ((by rw [hg]; exact (below_size (by repeat (first | (with_reducible first | exact HB.out | apply below_alloc | apply pw_below_drewN | apply below_drew1) | exact HB.out))) : w.heap.size ≤ gb151)); have n3_ := Aside0.mk ((by rw [hg]; exact (below_size (by repeat (first | (with_reducible first | exact HB.out | apply below_alloc | apply pw_below_drewN | apply below_drew1) | exact HB.out))) : w.heap.size ≤ gb151)); clear HB; have HB := n0_; have BK151 := n1_; have GW151 := n2_; have GE151 := n3_; clear n0_ n1_ n2_ n3_; clear hb hbox hg; have hcz9_0 : w8.cell? ⟨gb151, 0, none⟩ = some (.int .i64 a0_0) := (blk_cell BK151.out 0).trans rfl; have hcz9_1 : w8.cell? ⟨gb151, 1, none⟩ = some (.string a0_1) := (blk_cell BK151.out 1).trans rfl; have hfz9_0 := blk_frozen BK151.out 0; have hfz9_1 := blk_frozen BK151.out 1))
  go_ret
  exact ⟨by first | rfl | (simp [errW_none, errW_some] <;> rfl) | (simp [*, errW_none, errW_some] <;> rfl), by repeat (first | (with_reducible first | exact HB.out | apply below_alloc | apply pw_below_drewN | apply below_drew1 | refine below_set ?_ GE151.out) | exact HB.out)⟩

-- NOT PRINTED: function 94 (parts_upload_fine)

-- NOT PRINTED: function 68 (parts_Check)

/-! ### index_Count: function 126 -/
mutual
def index_Count.l0 : Nat → Int → Int → List (S56) → Int → Int → Option (Int × Int)
 | 0, _, _, _, _, _ => none
 | k + 1, x4, x5, x10, x11, x12 => if x12 < x11 then (if 0 ≤ x12 then (if x12 < (x10.length : Int) then (index_Count.l1 k (wrap64 (x4 + (((rd_T56 x10 x12).f1).length : Int))) x5 x10 x11 x12 ((rd_T56 x10 x12).f1) (((rd_T56 x10 x12).f1).length : Int) 0) else (none)) else (none)) else (some (x4, x5))
def index_Count.l1 : Nat → Int → Int → List (S56) → Int → Int → List (S47) → Int → Int → Option (Int × Int)
 | 0, _, _, _, _, _, _, _, _ => none
 | k + 1, x4, x5, x10, x11, x12, x22, x23, x24 => if x24 < x23 then (if 0 ≤ x24 then (if x24 < (x22.length : Int) then (index_Count.l1 k x4 (wrap64 (x5 + (((rd_T47 x22 x24).f1).size : Int))) x10 x11 x12 x22 x23 (wrap64 (x24 + 1))) else (none)) else (none)) else (index_Count.l0 k x4 x5 x10 x11 (wrap64 (x12 + 1)))
end
def index_Count.f (k : Nat) (l0 : List (S56)) : Option (Int × Int) := index_Count.l0 k 0 0 l0 (l0.length : Int) 0
theorem index_Count.mono_l : ∀ k, (∀ y0 y1 y2 y3 y4, LeO (index_Count.l0 k y0 y1 y2 y3 y4) (index_Count.l0 (k + 1) y0 y1 y2 y3 y4)) ∧ (∀ y0 y1 y2 y3 y4 y5 y6 y7, LeO (index_Count.l1 k y0 y1 y2 y3 y4 y5 y6 y7) (index_Count.l1 (k + 1) y0 y1 y2 y3 y4 y5 y6 y7))
 | 0 => ⟨fun _ _ _ _ _ r h => by simp [index_Count.l0] at h, fun _ _ _ _ _ _ _ _ r h => by simp [index_Count.l1] at h⟩
 | k + 1 => by
  obtain ⟨ih0, ih1⟩ := index_Count.mono_l k
  refine ⟨?_, ?_⟩
  ·intro y0 y1 y2 y3 y4
   unfold index_Count.l0
   repeat' first
   | (with_reducible exact ih0 _ _ _ _ _)
   | (with_reducible exact ih1 _ _ _ _ _ _ _ _)
   | (with_reducible exact LeO.refl _)
   | (with_reducible exact LeO.none _)
   | (with_reducible refine LeO.ite ?_ ?_)
   | (with_reducible refine LeO.bind ?_ (fun _ => ?_))
   | exact ih0 _ _ _ _ _
   | exact ih1 _ _ _ _ _ _ _ _
   | exact LeO.none _
   | refine LeO.ite ?_ ?_
   | refine LeO.bind ?_ (fun _ => ?_)
  ·intro y0 y1 y2 y3 y4 y5 y6 y7
   unfold index_Count.l1
   repeat' first
   | (with_reducible exact ih0 _ _ _ _ _)
   | (with_reducible exact ih1 _ _ _ _ _ _ _ _)
   | (with_reducible exact LeO.refl _)
   | (with_reducible exact LeO.none _)
   | (with_reducible refine LeO.ite ?_ ?_)
   | (with_reducible refine LeO.bind ?_ (fun _ => ?_))
   | exact ih0 _ _ _ _ _
   | exact ih1 _ _ _ _ _ _ _ _
   | exact LeO.none _
   | refine LeO.ite ?_ ?_
   | refine LeO.bind ?_ (fun _ => ?_)
theorem index_Count.mono : ∀ a0 k, LeO (index_Count.f k a0) (index_Count.f (k + 1) a0) := by
 intro a0 k
 obtain ⟨ih0, ih1⟩ := index_Count.mono_l k
 unfold index_Count.f
 repeat' first
   | (with_reducible exact ih0 _ _ _ _ _)
   | (with_reducible exact ih1 _ _ _ _ _ _ _ _)
   | (with_reducible exact LeO.refl _)
   | (with_reducible exact LeO.none _)
   | (with_reducible refine LeO.ite ?_ ?_)
   | (with_reducible refine LeO.bind ?_ (fun _ => ?_))
   | exact ih0 _ _ _ _ _
   | exact ih1 _ _ _ _ _ _ _ _
   | exact LeO.none _
   | refine LeO.ite ?_ ?_
   | refine LeO.bind ?_ (fun _ => ?_)
set_option maxHeartbeats 8000000 in
set_option maxRecDepth 100000 in
theorem index_Count.calls (k : Nat) (A0 : Option Addr) (c0 : Nat) (l0 : List (S56)) (r1 : Int) (r2 : Int) (w : World) (hr0 : Kd.C k56 w A0 l0.length l0) (hc0 : l0.length ≤ c0) (h : index_Count.f k l0 = some (r1, r2)) :
  Calls Tryz.prog 126 #[.slice A0 l0.length c0] w fun e w' => e = .returned (.tuple #[.int .i64 r1, .int .i64 r2]) ∧ Below w.heap.size w w' := by
 have hu56 := Tryz.underlying56
 have hu47 := Tryz.underlying47
 have HR0 := Aside0.mk hr0
 have HC0 := Aside0.mk hc0
 clear hr0 hc0
 have HB := Aside0.mk (Below.refl w.heap.size w)
 have H : (index_Count.l0 k 0 0 l0 (l0.length : Int) 0) = some (r1, r2) := h
 clear h
 have H' := Aside0.mk H
 clear H
 go_enter Tryz.func126, Tryz.ntmps126
 go_wp2
 go_loopg [4, 5, 12] k (fun kq v4 v5 v12 w' => ∃ (x4_1 : Int) (x5_1 : Int) (x12_1 : Int), v4 = .int .i64 x4_1 ∧ v5 = .int .i64 x5_1 ∧ v12 = .int .i64 x12_1 ∧ Aside0 (index_Count.l0 kq x4_1 x5_1 l0 (l0.length : Int) x12_1 = some (r1, r2)) ∧ Aside0 (kq ≤ k) ∧ Aside0 (Below w.heap.size w w'))
 case atStart => exact ⟨(0), (0), (0), (by first | rfl | (simp; done) | (simp [*]; done)), (by first | rfl | (simp; done) | (simp [*]; done)), (by first | rfl | (simp; done) | (simp [*]; done)), H', ⟨Nat.le_refl _⟩, ⟨by repeat (first | (with_reducible first | exact HB.out | apply below_alloc | apply pw_below_drewN | apply below_drew1) | exact HB.out)⟩⟩
 case round =>
  clear H'
  try clear c1
  obtain ⟨x4_1, x5_1, x12_1, rfl, rfl, rfl, HA, HK1, HB⟩ := hrel
  cases gk with
  | zero => exact absurd HA.out (by simp [index_Count.l0])
  | succ k1 =>
   have H := HA.out
   clear HA
   simp only [index_Count.l0] at H
   by_cases c2 : x12_1 < (l0.length : Int)
   ·rw [if_pos c2] at H
    have c2b0 : decide (x12_1 < (l0.length : Int)) = true := decide_eq_true c2
    clear c2
    by_cases c3 : 0 ≤ x12_1
    ·rw [if_pos c3] at H
     have c3b0 : decide (0 ≤ x12_1) = true := decide_eq_true c3
     clear c3
     by_cases c4 : x12_1 < (l0.length : Int)
     ·rw [if_pos c4] at H
      have c4b0 : decide (x12_1 < (l0.length : Int)) = true := decide_eq_true c4
      clear c4
      have H' := Aside0.mk H
      clear H
      have p156 : 0 ≤ (x12_1 : Int) := of_decide_eq_true (by first | (with_reducible assumption) | assumption)
      have q156 : x12_1 < (l0.length : Int) := of_decide_eq_true (by first | (with_reducible assumption) | assumption)
      obtain ⟨ad156, A156_1, c156_1, e156, hx156_0, hx156_1, hl156_1, hi156_1⟩ := at_T56 HR0.out x12_1 p156 q156
      cases e156
      replace hx156_0 := (HB.out.cell (World.block_lt_of_cell? w _ hx156_0)).trans hx156_0
      replace hx156_1 := (HB.out.cell (World.block_lt_of_cell? w _ hx156_1)).trans hx156_1
      have HR156_1 := Aside0.mk hi156_1
      have HC156_1 := Aside0.mk hl156_1
      clear hi156_1 hl156_1
      replace p156 := eq_true p156
      replace q156 := eq_true q156
      go_wp2_with (first | ((with_reducible refine gate_dst (N := 7) rfl ?_); refine box_event ?hg (N := 7) ?hd (cs := #[.string (⟨#[]⟩ : ByteArray), .slice none 0 0]) (t := 56) ?hr ?_; (case hd => rfl); (case hg => rfl); (case hr => first | (go_simp; done) | (go_simp; rfl)); intro gb157 hg w5 hbox hb; have n0_ := Aside0.mk (below_step (by repeat (first | (with_reducible first | exact HB.out | apply below_alloc | apply pw_below_drewN | apply below_drew1) | exact HB.out)) hb); have n1_ := Aside0.mk (hbox); have n2_ := Aside0.mk ((by rw [hg]; exact (below_size (by repeat (first | (with_reducible first | exact HB.out | apply below_alloc | apply pw_below_drewN | apply below_drew1) | exact HB.out))) : w.heap.size ≤ gb157)); have n3_ := Aside0.mk ((by rw [hg]; exact (below_size (by repeat (first | (with_reducible first | exact HB.out | apply below_alloc | apply pw_below_drewN | apply below_drew1) | exact HB.out))) : w.heap.size ≤ gb157)); clear HB; have HB := n0_; have BK157 := n1_; have GW157 := n2_; have GE157 := n3_; clear n0_ n1_ n2_ n3_; clear hb hbox hg; have hcz6_0 : w5.cell? ⟨gb157, 0, none⟩ = some (.string (⟨#[]⟩ : ByteArray)) := (blk_cell BK157.out 0).trans rfl; have hcz6_1 : w5.cell? ⟨gb157, 1, none⟩ = some (.slice none 0 0) := (blk_cell BK157.out 1).trans rfl; have hfz6_0 := blk_frozen BK157.out 0; have hfz6_1 := blk_frozen BK157.out 1))
      go_loopg [5, 24] k1 (fun kq v5 v24 w' => ∃ (x5_2 : Int) (x24_2 : Int), v5 = .int .i64 x5_2 ∧ v24 = .int .i64 x24_2 ∧ Aside0 (index_Count.l1 kq (wrap64 (x4_1 + (((rd_T56 l0 x12_1).f1).length : Int))) x5_2 l0 (l0.length : Int) x12_1 ((rd_T56 l0 x12_1).f1) (((rd_T56 l0 x12_1).f1).length : Int) x24_2 = some (r1, r2)) ∧ Aside0 (kq ≤ k1) ∧ Aside0 (w'.heap[gb157]? = some (.cells #[.string ((rd_T56 l0 x12_1).f0), (.slice A156_1 ((rd_T56 l0 x12_1).f1).length c156_1)] 56 (0, 0))) ∧ Aside0 (Below w.heap.size w w'))
      case atStart => exact ⟨(x5_1), (0), (by first | rfl | (simp; done) | (simp [*]; done)), (by first | rfl | (simp; done) | (simp [*]; done)), H', ⟨Nat.le_refl _⟩, ⟨by (with_reducible repeat (first | refine blk_drewN ?_ _ | refine blk_drew ?_ | refine blk_alloc ?_ _)); refine blk_put (cs := #[.string ((rd_T56 l0 x12_1).f0), .slice none 0 0]) ?_ 1 _ rfl; (with_reducible repeat (first | refine blk_drewN ?_ _ | refine blk_drew ?_ | refine blk_alloc ?_ _)); refine blk_put (cs := #[.string (⟨#[]⟩ : ByteArray), .slice none 0 0]) ?_ 0 _ rfl; (with_reducible repeat (first | refine blk_drewN ?_ _ | refine blk_drew ?_ | refine blk_alloc ?_ _)); exact BK157.out⟩, ⟨by repeat (first | (with_reducible first | exact HB.out | apply below_alloc | apply pw_below_drewN | apply below_drew1 | refine below_set ?_ GE157.out) | exact HB.out)⟩⟩
      case round =>
       clear H'
       try clear c1
       try clear p1
       try clear q1
       try clear hx1
       try clear c2
       try clear c2b0
       try clear p2
       try clear c3
       try clear c3b0
       try clear c4
       try clear c4b0
       try clear p6
       try clear hcz6_0
       try clear hcz6_1
       try clear hfz6_0
       try clear hfz6_1
       try clear hx156_0
       try clear hx156_1
       try clear p156
       try clear q156
       obtain ⟨x5_2, x24_2, rfl, rfl, HA, HK2, BK157, HB⟩ := hrel
       cases gk with
       | zero => exact absurd HA.out (by simp [index_Count.l1])
       | succ k2 =>
        have H := HA.out
        clear HA
        simp only [index_Count.l1] at H
        by_cases c7 : x24_2 < (((rd_T56 l0 x12_1).f1).length : Int)
        ·rw [if_pos c7] at H
         have c7b0 : decide (x24_2 < (((rd_T56 l0 x12_1).f1).length : Int)) = true := decide_eq_true c7
         clear c7
         by_cases c8 : 0 ≤ x24_2
         ·rw [if_pos c8] at H
          have c8b0 : decide (0 ≤ x24_2) = true := decide_eq_true c8
          clear c8
          by_cases c9 : x24_2 < (((rd_T56 l0 x12_1).f1).length : Int)
          ·rw [if_pos c9] at H
           have c9b0 : decide (x24_2 < (((rd_T56 l0 x12_1).f1).length : Int)) = true := decide_eq_true c9
           clear c9
           have H' := Aside0.mk H
           clear H
           have p158 : 0 ≤ (x24_2 : Int) := of_decide_eq_true (by first | (with_reducible assumption) | assumption)
           have q158 : x24_2 < (((rd_T56 l0 x12_1).f1).length : Int) := of_decide_eq_true (by first | (with_reducible assumption) | assumption)
           obtain ⟨ad158, e158, hx158_0, hx158_1, hx158_2, hx158_3⟩ := at_T47 HR156_1.out x24_2 p158 q158
           cases e158
           replace hx158_0 := (HB.out.cell (World.block_lt_of_cell? w _ hx158_0)).trans hx158_0
           replace hx158_1 := (HB.out.cell (World.block_lt_of_cell? w _ hx158_1)).trans hx158_1
           replace hx158_2 := (HB.out.cell (World.block_lt_of_cell? w _ hx158_2)).trans hx158_2
           replace hx158_3 := (HB.out.cell (World.block_lt_of_cell? w _ hx158_3)).trans hx158_3
           replace p158 := eq_true p158
           replace q158 := eq_true q158
           go_wp2_with (first | ((with_reducible refine gate_dst (N := 9) rfl ?_); refine box_event ?hg (N := 9) ?hd (cs := #[.int .u64 0, .string (⟨#[]⟩ : ByteArray), .bool false, .int .i64 0]) (t := 47) ?hr ?_; (case hd => rfl); (case hg => rfl); (case hr => first | (go_simp; done) | (go_simp; rfl)); intro gb159 hg w10 hbox hb; have n0_ := Aside0.mk (blk_below (g := gb157) (o := .cells #[.string ((rd_T56 l0 x12_1).f0), .slice (some ad158) ((rd_T56 l0 x12_1).f1).length c156_1] 56 (0, 0)) (by (with_reducible repeat (first | refine blk_drewN ?_ _ | refine blk_drew ?_ | refine blk_alloc ?_ _)); exact BK157.out) hb); have n1_ := Aside0.mk (below_step (by repeat (first | (with_reducible first | exact HB.out | apply below_alloc | apply pw_below_drewN | apply below_drew1 | refine below_set ?_ GE157.out) | exact HB.out)) hb); have n2_ := Aside0.mk (hbox); have n3_ := Aside0.mk ((by rw [hg]; exact (below_size (by repeat (first | (with_reducible first | exact HB.out | apply below_alloc | apply pw_below_drewN | apply below_drew1 | refine below_set ?_ GE157.out) | exact HB.out))) : w.heap.size ≤ gb159)); have n4_ := Aside0.mk ((by rw [hg]; exact (below_size (by repeat (first | (with_reducible first | exact HB.out | apply below_alloc | apply pw_below_drewN | apply below_drew1 | refine below_set ?_ GE157.out) | exact HB.out))) : w.heap.size ≤ gb159)); have n5_ := Aside0.mk ((by rw [hg]; exact Nat.ne_of_lt (blk_lt (g := gb157) (o := .cells #[.string ((rd_T56 l0 x12_1).f0), .slice (some ad158) ((rd_T56 l0 x12_1).f1).length c156_1] 56 (0, 0)) (by (with_reducible repeat (first | refine blk_drewN ?_ _ | refine blk_drew ?_ | refine blk_alloc ?_ _)); exact BK157.out)) : gb157 ≠ gb159)); have n6_ := Aside0.mk ((by rw [hg]; exact Nat.ne_of_gt (blk_lt (g := gb157) (o := .cells #[.string ((rd_T56 l0 x12_1).f0), .slice (some ad158) ((rd_T56 l0 x12_1).f1).length c156_1] 56 (0, 0)) (by (with_reducible repeat (first | refine blk_drewN ?_ _ | refine blk_drew ?_ | refine blk_alloc ?_ _)); exact BK157.out)) : gb159 ≠ gb157)); clear BK157; clear HB; have BK157 := n0_; have HB := n1_; have BK159 := n2_; have GW159 := n3_; have GE159 := n4_; have NB157_159 := n5_; have NB159_157 := n6_; clear n0_ n1_ n2_ n3_ n4_ n5_ n6_; clear hb hbox hg; have hnb11 := NB159_157.out; have hnc11 := NB157_159.out; have hcz12_0 : w10.cell? ⟨gb159, 0, none⟩ = some (.int .u64 0) := (blk_cell BK159.out 0).trans rfl; have hcz12_1 : w10.cell? ⟨gb159, 1, none⟩ = some (.string (⟨#[]⟩ : ByteArray)) := (blk_cell BK159.out 1).trans rfl; have hcz12_2 : w10.cell? ⟨gb159, 2, none⟩ = some (.bool false) := (blk_cell BK159.out 2).trans rfl; have hcz12_3 : w10.cell? ⟨gb159, 3, none⟩ = some (.int .i64 0) := (blk_cell BK159.out 3).trans rfl; have hfz12_0 := blk_frozen BK159.out 0; have hfz12_1 := blk_frozen BK159.out 1; have hfz12_2 := blk_frozen BK159.out 2; have hfz12_3 := blk_frozen BK159.out 3))
           go_roundg k2
           case measure => have := HK1.out; have := HK2.out; omega
           case rel => exact ⟨(wrap64 (x5_2 + (((rd_T47 ((rd_T56 l0 x12_1).f1) x24_2).f1).size : Int))), (wrap64 (x24_2 + 1)), (by first | rfl | (simp; done) | (simp [*]; done)), (by first | rfl | (simp; done) | (simp [*]; done)), H', ⟨by have := HK1.out; have := HK2.out; omega⟩, ⟨by (with_reducible repeat (first | refine blk_drewN ?_ _ | refine blk_drew ?_ | refine blk_alloc ?_ _)); refine blk_far ?_ NB157_159.out _; (with_reducible repeat (first | refine blk_drewN ?_ _ | refine blk_drew ?_ | refine blk_alloc ?_ _)); refine blk_far ?_ NB157_159.out _; (with_reducible repeat (first | refine blk_drewN ?_ _ | refine blk_drew ?_ | refine blk_alloc ?_ _)); refine blk_far ?_ NB157_159.out _; (with_reducible repeat (first | refine blk_drewN ?_ _ | refine blk_drew ?_ | refine blk_alloc ?_ _)); refine blk_far ?_ NB157_159.out _; (with_reducible repeat (first | refine blk_drewN ?_ _ | refine blk_drew ?_ | refine blk_alloc ?_ _)); exact BK157.out⟩, ⟨by repeat (first | (with_reducible first | exact HB.out | apply below_alloc | apply pw_below_drewN | apply below_drew1 | refine below_set ?_ GE157.out | refine below_set ?_ GE159.out) | exact HB.out)⟩⟩
          ·rw [if_neg c9] at H
           exact absurd H (by simp)
         ·rw [if_neg c8] at H
          exact absurd H (by simp)
        ·rw [if_neg c7] at H
         have c7b0 : decide (x24_2 < (((rd_T56 l0 x12_1).f1).length : Int)) = false := decide_eq_false c7
         clear c7
         have H' := Aside0.mk H
         clear H
         go_wp2
         go_roundg k2
         case measure => have := HK1.out; have := HK2.out; omega
         case rel => exact ⟨((wrap64 (x4_1 + (((rd_T56 l0 x12_1).f1).length : Int)))), (x5_2), (wrap64 (x12_1 + 1)), (by first | rfl | (simp; done) | (simp [*]; done)), (by first | rfl | (simp; done) | (simp [*]; done)), (by first | rfl | (simp; done) | (simp [*]; done)), H', ⟨by have := HK1.out; have := HK2.out; omega⟩, ⟨by repeat (first | (with_reducible first | exact HB.out | apply below_alloc | apply pw_below_drewN | apply below_drew1 | refine below_set ?_ GE157.out) | exact HB.out)⟩⟩
     ·rw [if_neg c4] at H
      exact absurd H (by simp)
    ·rw [if_neg c3] at H
     exact absurd H (by simp)
   ·rw [if_neg c2] at H
    have c2b0 : decide (x12_1 < (l0.length : Int)) = false := decide_eq_false c2
    clear c2
    simp only [Option.some.injEq, Prod.mk.injEq] at H
    obtain ⟨rfl, rfl⟩ := H
    go_wp2
    go_ret2
    exact ⟨by first | rfl | (simp [errW_none, errW_some] <;> rfl) | (simp [*, errW_none, errW_some] <;> rfl), by repeat (first | (with_reducible first | exact HB.out | apply below_alloc | apply pw_below_drewN | apply below_drew1) | exact HB.out)⟩

/-! ### parts_Octets: function 127 -/
mutual
def parts_Octets.l0 : Nat → Int → List (S101) → Int → Int → Option (Int)
 | 0, _, _, _, _ => none
 | k + 1, x3, x8, x9, x10 => if x10 < x9 then (if 0 ≤ x10 then (if x10 < (x8.length : Int) then (parts_Octets.l1 k x3 x8 x9 x10 ((rd_T101 x8 x10).f2) (((rd_T101 x8 x10).f2).length : Int) 0) else (none)) else (none)) else (some x3)
def parts_Octets.l1 : Nat → Int → List (S101) → Int → Int → List (S40) → Int → Int → Option (Int)
 | 0, _, _, _, _, _, _, _ => none
 | k + 1, x3, x8, x9, x10, x15, x16, x17 => if x17 < x16 then (if 0 ≤ x17 then (if x17 < (x15.length : Int) then (parts_Octets.l1 k (wrap64 (x3 + (((rd_T40 x15 x17).f1).size : Int))) x8 x9 x10 x15 x16 (wrap64 (x17 + 1))) else (none)) else (none)) else (parts_Octets.l0 k x3 x8 x9 (wrap64 (x10 + 1)))
end
def parts_Octets.f (k : Nat) (l0 : List (S101)) : Option (Int) := parts_Octets.l0 k 0 l0 (l0.length : Int) 0
theorem parts_Octets.mono_l : ∀ k, (∀ y0 y1 y2 y3, LeO (parts_Octets.l0 k y0 y1 y2 y3) (parts_Octets.l0 (k + 1) y0 y1 y2 y3)) ∧ (∀ y0 y1 y2 y3 y4 y5 y6, LeO (parts_Octets.l1 k y0 y1 y2 y3 y4 y5 y6) (parts_Octets.l1 (k + 1) y0 y1 y2 y3 y4 y5 y6))
 | 0 => ⟨fun _ _ _ _ r h => by simp [parts_Octets.l0] at h, fun _ _ _ _ _ _ _ r h => by simp [parts_Octets.l1] at h⟩
 | k + 1 => by
  obtain ⟨ih0, ih1⟩ := parts_Octets.mono_l k
  refine ⟨?_, ?_⟩
  ·intro y0 y1 y2 y3
   unfold parts_Octets.l0
   repeat' first
   | (with_reducible exact ih0 _ _ _ _)
   | (with_reducible exact ih1 _ _ _ _ _ _ _)
   | (with_reducible exact LeO.refl _)
   | (with_reducible exact LeO.none _)
   | (with_reducible refine LeO.ite ?_ ?_)
   | (with_reducible refine LeO.bind ?_ (fun _ => ?_))
   | exact ih0 _ _ _ _
   | exact ih1 _ _ _ _ _ _ _
   | exact LeO.none _
   | refine LeO.ite ?_ ?_
   | refine LeO.bind ?_ (fun _ => ?_)
  ·intro y0 y1 y2 y3 y4 y5 y6
   unfold parts_Octets.l1
   repeat' first
   | (with_reducible exact ih0 _ _ _ _)
   | (with_reducible exact ih1 _ _ _ _ _ _ _)
   | (with_reducible exact LeO.refl _)
   | (with_reducible exact LeO.none _)
   | (with_reducible refine LeO.ite ?_ ?_)
   | (with_reducible refine LeO.bind ?_ (fun _ => ?_))
   | exact ih0 _ _ _ _
   | exact ih1 _ _ _ _ _ _ _
   | exact LeO.none _
   | refine LeO.ite ?_ ?_
   | refine LeO.bind ?_ (fun _ => ?_)
theorem parts_Octets.mono : ∀ a0 k, LeO (parts_Octets.f k a0) (parts_Octets.f (k + 1) a0) := by
 intro a0 k
 obtain ⟨ih0, ih1⟩ := parts_Octets.mono_l k
 unfold parts_Octets.f
 repeat' first
   | (with_reducible exact ih0 _ _ _ _)
   | (with_reducible exact ih1 _ _ _ _ _ _ _)
   | (with_reducible exact LeO.refl _)
   | (with_reducible exact LeO.none _)
   | (with_reducible refine LeO.ite ?_ ?_)
   | (with_reducible refine LeO.bind ?_ (fun _ => ?_))
   | exact ih0 _ _ _ _
   | exact ih1 _ _ _ _ _ _ _
   | exact LeO.none _
   | refine LeO.ite ?_ ?_
   | refine LeO.bind ?_ (fun _ => ?_)
set_option maxHeartbeats 8000000 in
set_option maxRecDepth 100000 in
theorem parts_Octets.calls (k : Nat) (A0 : Option Addr) (c0 : Nat) (l0 : List (S101)) (r : Int) (w : World) (hr0 : Kd.C k101 w A0 l0.length l0) (hc0 : l0.length ≤ c0) (h : parts_Octets.f k l0 = some r) :
  Calls Tryz.prog 127 #[.slice A0 l0.length c0] w fun e w' => e = .returned (.int .i64 r) ∧ Below w.heap.size w w' := by
 have hu101 := Tryz.underlying101
 have hu40 := Tryz.underlying40
 have HR0 := Aside0.mk hr0
 have HC0 := Aside0.mk hc0
 clear hr0 hc0
 have HB := Aside0.mk (Below.refl w.heap.size w)
 have H : (parts_Octets.l0 k 0 l0 (l0.length : Int) 0) = some r := h
 clear h
 have H' := Aside0.mk H
 clear H
 go_enter Tryz.func127, Tryz.ntmps127
 go_wp2
 go_loopg [3, 10] k (fun kq v3 v10 w' => ∃ (x3_1 : Int) (x10_1 : Int), v3 = .int .i64 x3_1 ∧ v10 = .int .i64 x10_1 ∧ Aside0 (parts_Octets.l0 kq x3_1 l0 (l0.length : Int) x10_1 = some r) ∧ Aside0 (kq ≤ k) ∧ Aside0 (Below w.heap.size w w'))
 case atStart => exact ⟨(0), (0), (by first | rfl | (simp; done) | (simp [*]; done)), (by first | rfl | (simp; done) | (simp [*]; done)), H', ⟨Nat.le_refl _⟩, ⟨by repeat (first | (with_reducible first | exact HB.out | apply below_alloc | apply pw_below_drewN | apply below_drew1) | exact HB.out)⟩⟩
 case round =>
  clear H'
  try clear c1
  obtain ⟨x3_1, x10_1, rfl, rfl, HA, HK1, HB⟩ := hrel
  cases gk with
  | zero => exact absurd HA.out (by simp [parts_Octets.l0])
  | succ k1 =>
   have H := HA.out
   clear HA
   simp only [parts_Octets.l0] at H
   by_cases c2 : x10_1 < (l0.length : Int)
   ·rw [if_pos c2] at H
    have c2b0 : decide (x10_1 < (l0.length : Int)) = true := decide_eq_true c2
    clear c2
    by_cases c3 : 0 ≤ x10_1
    ·rw [if_pos c3] at H
     have c3b0 : decide (0 ≤ x10_1) = true := decide_eq_true c3
     clear c3
     by_cases c4 : x10_1 < (l0.length : Int)
     ·rw [if_pos c4] at H
      have c4b0 : decide (x10_1 < (l0.length : Int)) = true := decide_eq_true c4
      clear c4
      have H' := Aside0.mk H
      clear H
      have p160 : 0 ≤ (x10_1 : Int) := of_decide_eq_true (by first | (with_reducible assumption) | assumption)
      have q160 : x10_1 < (l0.length : Int) := of_decide_eq_true (by first | (with_reducible assumption) | assumption)
      obtain ⟨ad160, A160_2, c160_2, e160, hx160_0, hx160_1, hx160_2, hl160_2, hi160_2⟩ := at_T101 HR0.out x10_1 p160 q160
      cases e160
      replace hx160_0 := (HB.out.cell (World.block_lt_of_cell? w _ hx160_0)).trans hx160_0
      replace hx160_1 := (HB.out.cell (World.block_lt_of_cell? w _ hx160_1)).trans hx160_1
      replace hx160_2 := (HB.out.cell (World.block_lt_of_cell? w _ hx160_2)).trans hx160_2
      have HR160_2 := Aside0.mk hi160_2
      have HC160_2 := Aside0.mk hl160_2
      clear hi160_2 hl160_2
      replace p160 := eq_true p160
      replace q160 := eq_true q160
      go_wp2_with (first | ((with_reducible refine gate_dst (N := 5) rfl ?_); refine box_event ?hg (N := 5) ?hd (cs := #[.int .u64 0, .string (⟨#[]⟩ : ByteArray), .slice none 0 0]) (t := 101) ?hr ?_; (case hd => rfl); (case hg => rfl); (case hr => first | (go_simp; done) | (go_simp; rfl)); intro gb161 hg w5 hbox hb; have n0_ := Aside0.mk (below_step (by repeat (first | (with_reducible first | exact HB.out | apply below_alloc | apply pw_below_drewN | apply below_drew1) | exact HB.out)) hb); have n1_ := Aside0.mk (hbox); have n2_ := Aside0.mk ((by rw [hg]; exact (below_size (by repeat (first | (with_reducible first | exact HB.out | apply below_alloc | apply pw_below_drewN | apply below_drew1) | exact HB.out))) : w.heap.size ≤ gb161)); have n3_ := Aside0.mk ((by rw [hg]; exact (below_size (by repeat (first | (with_reducible first | exact HB.out | apply below_alloc | apply pw_below_drewN | apply below_drew1) | exact HB.out))) : w.heap.size ≤ gb161)); clear HB; have HB := n0_; have BK161 := n1_; have GW161 := n2_; have GE161 := n3_; clear n0_ n1_ n2_ n3_; clear hb hbox hg; have hcz6_0 : w5.cell? ⟨gb161, 0, none⟩ = some (.int .u64 0) := (blk_cell BK161.out 0).trans rfl; have hcz6_1 : w5.cell? ⟨gb161, 1, none⟩ = some (.string (⟨#[]⟩ : ByteArray)) := (blk_cell BK161.out 1).trans rfl; have hcz6_2 : w5.cell? ⟨gb161, 2, none⟩ = some (.slice none 0 0) := (blk_cell BK161.out 2).trans rfl; have hfz6_0 := blk_frozen BK161.out 0; have hfz6_1 := blk_frozen BK161.out 1; have hfz6_2 := blk_frozen BK161.out 2))
      go_loopg [3, 17] k1 (fun kq v3 v17 w' => ∃ (x3_2 : Int) (x17_2 : Int), v3 = .int .i64 x3_2 ∧ v17 = .int .i64 x17_2 ∧ Aside0 (parts_Octets.l1 kq x3_2 l0 (l0.length : Int) x10_1 ((rd_T101 l0 x10_1).f2) (((rd_T101 l0 x10_1).f2).length : Int) x17_2 = some r) ∧ Aside0 (kq ≤ k1) ∧ Aside0 (w'.heap[gb161]? = some (.cells #[.int .u64 ((rd_T101 l0 x10_1).f0), .string ((rd_T101 l0 x10_1).f1), (.slice A160_2 ((rd_T101 l0 x10_1).f2).length c160_2)] 101 (0, 0))) ∧ Aside0 (Below w.heap.size w w'))
      case atStart => exact ⟨(x3_1), (0), (by first | rfl | (simp; done) | (simp [*]; done)), (by first | rfl | (simp; done) | (simp [*]; done)), H', ⟨Nat.le_refl _⟩, ⟨by (with_reducible repeat (first | refine blk_drewN ?_ _ | refine blk_drew ?_ | refine blk_alloc ?_ _)); refine blk_put (cs := #[.int .u64 ((rd_T101 l0 x10_1).f0), .string ((rd_T101 l0 x10_1).f1), .slice none 0 0]) ?_ 2 _ rfl; (with_reducible repeat (first | refine blk_drewN ?_ _ | refine blk_drew ?_ | refine blk_alloc ?_ _)); refine blk_put (cs := #[.int .u64 ((rd_T101 l0 x10_1).f0), .string (⟨#[]⟩ : ByteArray), .slice none 0 0]) ?_ 1 _ rfl; (with_reducible repeat (first | refine blk_drewN ?_ _ | refine blk_drew ?_ | refine blk_alloc ?_ _)); refine blk_put (cs := #[.int .u64 0, .string (⟨#[]⟩ : ByteArray), .slice none 0 0]) ?_ 0 _ rfl; (with_reducible repeat (first | refine blk_drewN ?_ _ | refine blk_drew ?_ | refine blk_alloc ?_ _)); exact BK161.out⟩, ⟨by repeat (first | (with_reducible first | exact HB.out | apply below_alloc | apply pw_below_drewN | apply below_drew1 | refine below_set ?_ GE161.out) | exact HB.out)⟩⟩
      case round =>
       clear H'
       try clear c1
       try clear p1
       try clear q1
       try clear hx1
       try clear c2
       try clear c2b0
       try clear p2
       try clear c3
       try clear c3b0
       try clear c4
       try clear c4b0
       try clear hcz6_0
       try clear hcz6_1
       try clear hcz6_2
       try clear hfz6_0
       try clear hfz6_1
       try clear hfz6_2
       try clear hx160_0
       try clear hx160_1
       try clear hx160_2
       try clear p160
       try clear q160
       obtain ⟨x3_2, x17_2, rfl, rfl, HA, HK2, BK161, HB⟩ := hrel
       cases gk with
       | zero => exact absurd HA.out (by simp [parts_Octets.l1])
       | succ k2 =>
        have H := HA.out
        clear HA
        simp only [parts_Octets.l1] at H
        by_cases c7 : x17_2 < (((rd_T101 l0 x10_1).f2).length : Int)
        ·rw [if_pos c7] at H
         have c7b0 : decide (x17_2 < (((rd_T101 l0 x10_1).f2).length : Int)) = true := decide_eq_true c7
         clear c7
         by_cases c8 : 0 ≤ x17_2
         ·rw [if_pos c8] at H
          have c8b0 : decide (0 ≤ x17_2) = true := decide_eq_true c8
          clear c8
          by_cases c9 : x17_2 < (((rd_T101 l0 x10_1).f2).length : Int)
          ·rw [if_pos c9] at H
           have c9b0 : decide (x17_2 < (((rd_T101 l0 x10_1).f2).length : Int)) = true := decide_eq_true c9
           clear c9
           have H' := Aside0.mk H
           clear H
           have p162 : 0 ≤ (x17_2 : Int) := of_decide_eq_true (by first | (with_reducible assumption) | assumption)
           have q162 : x17_2 < (((rd_T101 l0 x10_1).f2).length : Int) := of_decide_eq_true (by first | (with_reducible assumption) | assumption)
           obtain ⟨ad162, e162, hx162_0, hx162_1⟩ := at_T40 HR160_2.out x17_2 p162 q162
           cases e162
           replace hx162_0 := (HB.out.cell (World.block_lt_of_cell? w _ hx162_0)).trans hx162_0
           replace hx162_1 := (HB.out.cell (World.block_lt_of_cell? w _ hx162_1)).trans hx162_1
           replace p162 := eq_true p162
           replace q162 := eq_true q162
           go_wp2_with (first | ((with_reducible refine gate_dst (N := 7) rfl ?_); refine box_event ?hg (N := 7) ?hd (cs := #[.int .i64 0, .string (⟨#[]⟩ : ByteArray)]) (t := 40) ?hr ?_; (case hd => rfl); (case hg => rfl); (case hr => first | (go_simp; done) | (go_simp; rfl)); intro gb163 hg w10 hbox hb; have n0_ := Aside0.mk (blk_below (g := gb161) (o := .cells #[.int .u64 ((rd_T101 l0 x10_1).f0), .string ((rd_T101 l0 x10_1).f1), .slice (some ad162) ((rd_T101 l0 x10_1).f2).length c160_2] 101 (0, 0)) (by (with_reducible repeat (first | refine blk_drewN ?_ _ | refine blk_drew ?_ | refine blk_alloc ?_ _)); exact BK161.out) hb); have n1_ := Aside0.mk (below_step (by repeat (first | (with_reducible first | exact HB.out | apply below_alloc | apply pw_below_drewN | apply below_drew1 | refine below_set ?_ GE161.out) | exact HB.out)) hb); have n2_ := Aside0.mk (hbox); have n3_ := Aside0.mk ((by rw [hg]; exact (below_size (by repeat (first | (with_reducible first | exact HB.out | apply below_alloc | apply pw_below_drewN | apply below_drew1 | refine below_set ?_ GE161.out) | exact HB.out))) : w.heap.size ≤ gb163)); have n4_ := Aside0.mk ((by rw [hg]; exact (below_size (by repeat (first | (with_reducible first | exact HB.out | apply below_alloc | apply pw_below_drewN | apply below_drew1 | refine below_set ?_ GE161.out) | exact HB.out))) : w.heap.size ≤ gb163)); have n5_ := Aside0.mk ((by rw [hg]; exact Nat.ne_of_lt (blk_lt (g := gb161) (o := .cells #[.int .u64 ((rd_T101 l0 x10_1).f0), .string ((rd_T101 l0 x10_1).f1), .slice (some ad162) ((rd_T101 l0 x10_1).f2).length c160_2] 101 (0, 0)) (by (with_reducible repeat (first | refine blk_drewN ?_ _ | refine blk_drew ?_ | refine blk_alloc ?_ _)); exact BK161.out)) : gb161 ≠ gb163)); have n6_ := Aside0.mk ((by rw [hg]; exact Nat.ne_of_gt (blk_lt (g := gb161) (o := .cells #[.int .u64 ((rd_T101 l0 x10_1).f0), .string ((rd_T101 l0 x10_1).f1), .slice (some ad162) ((rd_T101 l0 x10_1).f2).length c160_2] 101 (0, 0)) (by (with_reducible repeat (first | refine blk_drewN ?_ _ | refine blk_drew ?_ | refine blk_alloc ?_ _)); exact BK161.out)) : gb163 ≠ gb161)); clear BK161; clear HB; have BK161 := n0_; have HB := n1_; have BK163 := n2_; have GW163 := n3_; have GE163 := n4_; have NB161_163 := n5_; have NB163_161 := n6_; clear n0_ n1_ n2_ n3_ n4_ n5_ n6_; clear hb hbox hg; have hnb11 := NB163_161.out; have hnc11 := NB161_163.out; have hcz12_0 : w10.cell? ⟨gb163, 0, none⟩ = some (.int .i64 0) := (blk_cell BK163.out 0).trans rfl; have hcz12_1 : w10.cell? ⟨gb163, 1, none⟩ = some (.string (⟨#[]⟩ : ByteArray)) := (blk_cell BK163.out 1).trans rfl; have hfz12_0 := blk_frozen BK163.out 0; have hfz12_1 := blk_frozen BK163.out 1))
           go_roundg k2
           case measure => have := HK1.out; have := HK2.out; omega
           case rel => exact ⟨(wrap64 (x3_2 + (((rd_T40 ((rd_T101 l0 x10_1).f2) x17_2).f1).size : Int))), (wrap64 (x17_2 + 1)), (by first | rfl | (simp; done) | (simp [*]; done)), (by first | rfl | (simp; done) | (simp [*]; done)), H', ⟨by have := HK1.out; have := HK2.out; omega⟩, ⟨by (with_reducible repeat (first | refine blk_drewN ?_ _ | refine blk_drew ?_ | refine blk_alloc ?_ _)); refine blk_far ?_ NB161_163.out _; (with_reducible repeat (first | refine blk_drewN ?_ _ | refine blk_drew ?_ | refine blk_alloc ?_ _)); refine blk_far ?_ NB161_163.out _; (with_reducible repeat (first | refine blk_drewN ?_ _ | refine blk_drew ?_ | refine blk_alloc ?_ _)); exact BK161.out⟩, ⟨by repeat (first | (with_reducible first | exact HB.out | apply below_alloc | apply pw_below_drewN | apply below_drew1 | refine below_set ?_ GE161.out | refine below_set ?_ GE163.out) | exact HB.out)⟩⟩
          ·rw [if_neg c9] at H
           exact absurd H (by simp)
         ·rw [if_neg c8] at H
          exact absurd H (by simp)
        ·rw [if_neg c7] at H
         have c7b0 : decide (x17_2 < (((rd_T101 l0 x10_1).f2).length : Int)) = false := decide_eq_false c7
         clear c7
         have H' := Aside0.mk H
         clear H
         go_wp2
         go_roundg k2
         case measure => have := HK1.out; have := HK2.out; omega
         case rel => exact ⟨(x3_2), (wrap64 (x10_1 + 1)), (by first | rfl | (simp; done) | (simp [*]; done)), (by first | rfl | (simp; done) | (simp [*]; done)), H', ⟨by have := HK1.out; have := HK2.out; omega⟩, ⟨by repeat (first | (with_reducible first | exact HB.out | apply below_alloc | apply pw_below_drewN | apply below_drew1 | refine below_set ?_ GE161.out) | exact HB.out)⟩⟩
     ·rw [if_neg c4] at H
      exact absurd H (by simp)
    ·rw [if_neg c3] at H
     exact absurd H (by simp)
   ·rw [if_neg c2] at H
    have c2b0 : decide (x10_1 < (l0.length : Int)) = false := decide_eq_false c2
    clear c2
    obtain rfl := Option.some.inj H
    go_wp2
    go_ret
    exact ⟨by first | rfl | (simp [errW_none, errW_some] <;> rfl) | (simp [*, errW_none, errW_some] <;> rfl), by repeat (first | (with_reducible first | exact HB.out | apply below_alloc | apply pw_below_drewN | apply below_drew1) | exact HB.out)⟩

/-! ### bucket_octets: function 69 -/
def bucket_octets.f (k : Nat) (a0_0 : ByteArray) (a0_1 : Int) (l0_2 : List (S56)) (l0_3 : List (S101)) (a0_4 : Int) : Option (Int) := (index_Count.f k l0_2).bind fun bt165 => ((parts_Octets.f k l0_3).bind fun t167 => (some (wrap64 (bt165.2 + t167))))
set_option maxHeartbeats 8000000 in
set_option maxRecDepth 100000 in
theorem bucket_octets.calls (k : Nat) (a0_0 : ByteArray) (a0_1 : Int) (A0_2 : Option Addr) (c0_2 : Nat) (l0_2 : List (S56)) (A0_3 : Option Addr) (c0_3 : Nat) (l0_3 : List (S101)) (a0_4 : Int) (r : Int) (w : World) (hr0_2 : Kd.C k56 w A0_2 l0_2.length l0_2) (hc0_2 : l0_2.length ≤ c0_2) (hr0_3 : Kd.C k101 w A0_3 l0_3.length l0_3) (hc0_3 : l0_3.length ≤ c0_3) (h : bucket_octets.f k a0_0 a0_1 l0_2 l0_3 a0_4 = some r) :
  Calls Tryz.prog 69 #[.agg #[.string a0_0, .int .i64 a0_1, .slice A0_2 l0_2.length c0_2, .slice A0_3 l0_3.length c0_3, .int .u64 a0_4]] w fun e w' => e = .returned (.int .i64 r) ∧ Below w.heap.size w w' := by
 have hu26 := Tryz.underlying26
 have HR0_2 := Aside0.mk hr0_2
 have HC0_2 := Aside0.mk hc0_2
 clear hr0_2 hc0_2
 have HR0_3 := Aside0.mk hr0_3
 have HC0_3 := Aside0.mk hc0_3
 clear hr0_3 hc0_3
 have HB := Aside0.mk (Below.refl w.heap.size w)
 have H : ((index_Count.f k l0_2).bind fun bt165 => ((parts_Octets.f k l0_3).bind fun t167 => (some (wrap64 (bt165.2 + t167))))) = some r := h
 clear h
 replace H := Option.bind_eq_some_iff.mp H
 obtain ⟨⟨t165, t166⟩, A20, H⟩ := H
 replace H : ((parts_Octets.f k l0_3).bind fun t167 => (some (wrap64 (t166 + t167)))) = some r := H
 have A2 := Aside0.mk A20
 clear A20
 replace H := Option.bind_eq_some_iff.mp H
 obtain ⟨t167, A30, H⟩ := H
 replace H : (some (wrap64 (t166 + t167))) = some r := H
 have A3 := Aside0.mk A30
 clear A30
 obtain rfl := Option.some.inj H
 go_enter Tryz.func69, Tryz.ntmps69
 go_wp2_with (first | ((with_reducible refine gate_dst (N := 1) rfl ?_); refine box_event ?hg (N := 1) ?hd (cs := #[.string a0_0, .int .i64 a0_1, .slice A0_2 l0_2.length c0_2, .slice A0_3 l0_3.length c0_3, .int .u64 a0_4]) (t := 26) ?hr ?_; (case hd => rfl); (case hg => rfl); (case hr => first | (go_simp; done) | (go_simp; rfl)); intro gb164 hg w4 hbox hb; have n0_ := Aside0.mk (below_step (by repeat (first | (with_reducible first | exact HB.out | apply below_alloc | apply pw_below_drewN | apply below_drew1) | exact HB.out)) hb); have n1_ := Aside0.mk (hbox); have n2_ := Aside0.mk ((by rw [hg]; exact (below_size (by repeat (first | (with_reducible first | exact HB.out | apply below_alloc | apply pw_below_drewN | apply below_drew1) | exact HB.out))) : w.heap.size ≤ gb164)); have n3_ := Aside0.mk ((by rw [hg]; exact (below_size (by repeat (first | (with_reducible first | exact HB.out | apply below_alloc | apply pw_below_drewN | apply below_drew1) | exact HB.out))) : w.heap.size ≤ gb164)); clear HB; have HB := n0_; have BK164 := n1_; have GW164 := n2_; have GE164 := n3_; clear n0_ n1_ n2_ n3_; clear hb hbox hg; have hcz5_0 : w4.cell? ⟨gb164, 0, none⟩ = some (.string a0_0) := (blk_cell BK164.out 0).trans rfl; have hcz5_1 : w4.cell? ⟨gb164, 1, none⟩ = some (.int .i64 a0_1) := (blk_cell BK164.out 1).trans rfl; have hcz5_2 : w4.cell? ⟨gb164, 2, none⟩ = some (.slice A0_2 l0_2.length c0_2) := (blk_cell BK164.out 2).trans rfl; have hcz5_3 : w4.cell? ⟨gb164, 3, none⟩ = some (.slice A0_3 l0_3.length c0_3) := (blk_cell BK164.out 3).trans rfl; have hcz5_4 : w4.cell? ⟨gb164, 4, none⟩ = some (.int .u64 a0_4) := (blk_cell BK164.out 4).trans rfl; have hfz5_0 := blk_frozen BK164.out 0; have hfz5_1 := blk_frozen BK164.out 1; have hfz5_2 := blk_frozen BK164.out 2; have hfz5_3 := blk_frozen BK164.out 3; have hfz5_4 := blk_frozen BK164.out 4) | ((with_reducible refine gate_callee (f := 126) rfl ?_); refine goesL_ (some 8) rfl rfl Tryz.func126 (by kernel_rfl) rfl #[.slice A0_2 l0_2.length c0_2] rfl (by (try simp only [List.map_toArray, List.map_cons, List.map_nil]); first | done | rfl | (simp only [List.length_drop, List.length_take]; rfl)) ?_; (with_reducible refine (index_Count.calls k _ _ l0_2 t165 t166 _ ?side1 ?side2 A2.out).mono ?_); (case side1 => repeat (first | exact (Kd.C_below HR0_2.out HB.out) | (with_reducible refine Kd.C_alloc ?_ _) | (with_reducible refine Kd.C_drewN ?_ _) | (with_reducible refine Kd.C_drew ?_))); (case side2 => exact HC0_2.out); rintro e w6 ⟨rfl, hb⟩; refine ⟨_, rfl, ?_⟩; have n0_ := Aside0.mk (blk_below (g := gb164) (o := .cells #[.string a0_0, .int .i64 a0_1, .slice A0_2 l0_2.length c0_2, .slice A0_3 l0_3.length c0_3, .int .u64 a0_4] 26 (0, 0)) (by (with_reducible repeat (first | refine blk_drewN ?_ _ | refine blk_drew ?_ | refine blk_alloc ?_ _)); exact BK164.out) hb); have n1_ := Aside0.mk (below_step (by repeat (first | (with_reducible first | exact HB.out | apply below_alloc | apply pw_below_drewN | apply below_drew1 | refine below_set ?_ GE164.out) | exact HB.out)) hb); clear BK164; clear HB; have BK164 := n0_; have HB := n1_; clear n0_ n1_; (try clear hb); (try clear hb2); (try clear hk); (try clear hi); have hcz7_0 : w6.cell? ⟨gb164, 0, none⟩ = some (.string a0_0) := (blk_cell BK164.out 0).trans rfl; have hcz7_1 : w6.cell? ⟨gb164, 1, none⟩ = some (.int .i64 a0_1) := (blk_cell BK164.out 1).trans rfl; have hcz7_2 : w6.cell? ⟨gb164, 2, none⟩ = some (.slice A0_2 l0_2.length c0_2) := (blk_cell BK164.out 2).trans rfl; have hcz7_3 : w6.cell? ⟨gb164, 3, none⟩ = some (.slice A0_3 l0_3.length c0_3) := (blk_cell BK164.out 3).trans rfl; have hcz7_4 : w6.cell? ⟨gb164, 4, none⟩ = some (.int .u64 a0_4) := (blk_cell BK164.out 4).trans rfl; have hfz7_0 := blk_frozen BK164.out 0; have hfz7_1 := blk_frozen BK164.out 1; have hfz7_2 := blk_frozen BK164.out 2; have hfz7_3 := blk_frozen BK164.out 3; have hfz7_4 := blk_frozen BK164.out 4) | ((with_reducible refine gate_callee (f := 127) rfl ?_); refine goesL_ (some 14) rfl rfl Tryz.func127 (by kernel_rfl) rfl #[.slice A0_3 l0_3.length c0_3] rfl (by (try simp only [List.map_toArray, List.map_cons, List.map_nil]); first | done | rfl | (simp only [List.length_drop, List.length_take]; rfl)) ?_; (with_reducible refine (parts_Octets.calls k _ _ l0_3 t167 _ ?side1 ?side2 A3.out).mono ?_); (case side1 => repeat (first | exact (Kd.C_below HR0_3.out HB.out) | (with_reducible refine Kd.C_alloc ?_ _) | (with_reducible refine Kd.C_drewN ?_ _) | (with_reducible refine Kd.C_drew ?_))); (case side2 => exact HC0_3.out); rintro e w8 ⟨rfl, hb⟩; refine ⟨_, rfl, ?_⟩; have n0_ := Aside0.mk (blk_below (g := gb164) (o := .cells #[.string a0_0, .int .i64 a0_1, .slice A0_2 l0_2.length c0_2, .slice A0_3 l0_3.length c0_3, .int .u64 a0_4] 26 (0, 0)) (by (with_reducible repeat (first | refine blk_drewN ?_ _ | refine blk_drew ?_ | refine blk_alloc ?_ _)); exact BK164.out) hb); have n1_ := Aside0.mk (below_step (by repeat (first | (with_reducible first | exact HB.out | apply below_alloc | apply pw_below_drewN | apply below_drew1 | refine below_set ?_ GE164.out) | exact HB.out)) hb); clear BK164; clear HB; have BK164 := n0_; have HB := n1_; clear n0_ n1_; (try clear hb); (try clear hb2); (try clear hk); (try clear hi)))
 go_ret
 exact ⟨by first | rfl | (simp [errW_none, errW_some] <;> rfl) | (simp [*, errW_none, errW_some] <;> rfl), by repeat (first | (with_reducible first | exact HB.out | apply below_alloc | apply pw_below_drewN | apply below_drew1 | refine below_set ?_ GE164.out) | exact HB.out)⟩

-- NOT PRINTED: function 129 (api_Upload_129)

-- NOT PRINTED: function 72 (api_Upload_72)

-- NOT PRINTED: function 25 (bucket_Check)

-- NOT PRINTED: function 45 (bucket_work_no)

-- NOT PRINTED: function 32 (bucket_open)

-- NOT PRINTED: function 33 (bucket_work_next)

-- NOT PRINTED: function 34 (bucket_work_uploads)

-- NOT PRINTED: function 79 (api_Upload_79)

-- NOT PRINTED: function 35 (parts_Begin)

-- NOT PRINTED: function 36 (bucket_work_close)

-- NOT PRINTED: function 12 (bucket_Begin)

end Go.Proofs.YtekooapbdgippaaGreatDoor.Q
namespace Go.Proofs.YtekooapbdgippaaGreatDoor.Q
open Go.RowKit Go.Proofs.YtekooapbdgippaaGreatDoorW.PrintWords Go.Proofs.YtekooapbdgippaaGreatDoorW.PrintLast Go.Proofs.YtekooapbdgippaaGreatDoorW.PrintMore
attribute [local go_sem] max2_int min2_int max_two min_two max_three min_three max_four min_four
set_option linter.unusedVariables false
set_option linter.unusedSimpArgs false

attribute [local go_sem high] eqA47
/-! ### cellarerref05_Same: function 81 -/
def cellarerref05_Same.l0 : Nat → List (S47) → List (S47) → Int → Option (Bool)
 | 0, _, _, _ => none
 | k + 1, x0, x1, x5 => if x5 < (x0.length : Int) then (if 0 ≤ x5 then (if x5 < (x1.length : Int) then (if (!(((rd_T47 x0 x5).f0) == ((rd_T47 x1 x5).f0)) || (!((((rd_T47 x0 x5).f1).toList) == (((rd_T47 x1 x5).f1).toList)) || (!(((rd_T47 x0 x5).f2) == ((rd_T47 x1 x5).f2)) || (!(((rd_T47 x0 x5).f3) == ((rd_T47 x1 x5).f3)))))) = true then (some false) else (cellarerref05_Same.l0 k x0 x1 (wrap64 (x5 + 1)))) else (none)) else (none)) else (some true)
def cellarerref05_Same.f (k : Nat) (l0 : List (S47)) (l1 : List (S47)) : Option (Bool) := if (l0.length : Int) = (l1.length : Int) then (cellarerref05_Same.l0 k l0 l1 0) else (some false)
set_option maxHeartbeats 8000000 in
set_option maxRecDepth 100000 in
theorem cellarerref05_Same.calls (k : Nat) (A0 : Option Addr) (c0 : Nat) (l0 : List (S47)) (A1 : Option Addr) (c1 : Nat) (l1 : List (S47)) (r : Bool) (w : World) (hr0 : Kd.C k47 w A0 l0.length l0) (hc0 : l0.length ≤ c0) (hr1 : Kd.C k47 w A1 l1.length l1) (hc1 : l1.length ≤ c1) (h : cellarerref05_Same.f k l0 l1 = some r) :
  Calls Tryz.prog 81 #[.slice A0 l0.length c0, .slice A1 l1.length c1] w fun e w' => e = .returned (.bool r) ∧ Drawn0 w w' := by
 have hu47 := Tryz.underlying47
 have HR0 := Aside0.mk hr0
 have HC0 := Aside0.mk hc0
 clear hr0 hc0
 have HR1 := Aside0.mk hr1
 have HC1 := Aside0.mk hc1
 clear hr1 hc1
 have H : (if (l0.length : Int) = (l1.length : Int) then (cellarerref05_Same.l0 k l0 l1 0) else (some false)) = some r := h
 clear h
 by_cases c3 : (l0.length : Int) = (l1.length : Int)
 ·rw [if_pos c3] at H
  have c3b0 : ((l0.length : Int) == (l1.length : Int)) = true := beq_iff_eq.mpr c3
  have c3b1 : ((l0.length : Int) != (l1.length : Int)) = false := bne_eq_false_iff_eq.mpr c3
  have c3b2 : (l0.length == l1.length) = true := by first | simpa using c3 | (simp at c3 ⊢; omega)
  clear c3
  have H' := Aside0.mk H
  clear H
  go_enter Tryz.func81, Tryz.ntmps81
  go_wp2
  repeat (go_quiet (fail); try go_wp2)
  go_loopg [5] k (fun kq v5 w' => ∃ (x5_1 : Int), v5 = .int .i64 x5_1 ∧ Aside0 (cellarerref05_Same.l0 kq l0 l1 x5_1 = some r) ∧ Aside0 (kq ≤ k) ∧ Drawn0 w w')
  case atStart => exact ⟨(0), (by first | rfl | (simp; done) | (simp [*]; done)), H', ⟨Nat.le_refl _⟩, by repeat (first | exact Drawn0.refl _ | apply Drawn0.step)⟩
  case round =>
   clear H'
   try clear c1
   try clear p2
   try clear c3
   try clear c3b0
   try clear c3b1
   try clear c3b2
   obtain ⟨x5_1, rfl, HA, HK1, ⟨m1, rfl⟩⟩ := hrel
   cases gk with
   | zero => exact absurd HA.out (by simp [cellarerref05_Same.l0])
   | succ k1 =>
    have H := HA.out
    clear HA
    simp only [cellarerref05_Same.l0] at H
    by_cases c4 : x5_1 < (l0.length : Int)
    ·rw [if_pos c4] at H
     have c4b0 : decide (x5_1 < (l0.length : Int)) = true := decide_eq_true c4
     clear c4
     by_cases c5 : 0 ≤ x5_1
     ·rw [if_pos c5] at H
      have c5b0 : decide (0 ≤ x5_1) = true := decide_eq_true c5
      clear c5
      by_cases c6 : x5_1 < (l1.length : Int)
      ·rw [if_pos c6] at H
       have c6b0 : decide (x5_1 < (l1.length : Int)) = true := decide_eq_true c6
       clear c6
       by_cases c7 : (!(((rd_T47 l0 x5_1).f0) == ((rd_T47 l1 x5_1).f0)) || (!((((rd_T47 l0 x5_1).f1).toList) == (((rd_T47 l1 x5_1).f1).toList)) || (!(((rd_T47 l0 x5_1).f2) == ((rd_T47 l1 x5_1).f2)) || (!(((rd_T47 l0 x5_1).f3) == ((rd_T47 l1 x5_1).f3)))))) = true
       ·rw [if_pos c7] at H
        have c7b0 : (!(((rd_T47 l0 x5_1).f0) == ((rd_T47 l1 x5_1).f0)) || (!((((rd_T47 l0 x5_1).f1).toList) == (((rd_T47 l1 x5_1).f1).toList)) || (!(((rd_T47 l0 x5_1).f2) == ((rd_T47 l1 x5_1).f2)) || (!(((rd_T47 l0 x5_1).f3) == ((rd_T47 l1 x5_1).f3)))))) = true := c7
        clear c7
        obtain rfl := Option.some.inj H
        have p175 : 0 ≤ (x5_1 : Int) := of_decide_eq_true (by first | (with_reducible assumption) | assumption)
        have q175 : x5_1 < (l0.length : Int) := of_decide_eq_true (by first | (with_reducible assumption) | assumption)
        obtain ⟨ad175, e175, hx175_0, hx175_1, hx175_2, hx175_3⟩ := at_T47 HR0.out x5_1 p175 q175
        cases e175
        replace p175 := eq_true p175
        replace q175 := eq_true q175
        have p176 : 0 ≤ (x5_1 : Int) := of_decide_eq_true (by first | (with_reducible assumption) | assumption)
        have q176 : x5_1 < (l1.length : Int) := of_decide_eq_true (by first | (with_reducible assumption) | assumption)
        obtain ⟨ad176, e176, hx176_0, hx176_1, hx176_2, hx176_3⟩ := at_T47 HR1.out x5_1 p176 q176
        cases e176
        replace p176 := eq_true p176
        replace q176 := eq_true q176
        go_wp2
        repeat (go_quiet (fail); try go_wp2)
        go_ret
        exact ⟨by first | rfl | (simp; done) | (simp [*]; done), by repeat (first | exact Drawn0.refl _ | apply Drawn0.step)⟩
       ·rw [if_neg c7] at H
        have c7b0 : (!(((rd_T47 l0 x5_1).f0) == ((rd_T47 l1 x5_1).f0)) || (!((((rd_T47 l0 x5_1).f1).toList) == (((rd_T47 l1 x5_1).f1).toList)) || (!(((rd_T47 l0 x5_1).f2) == ((rd_T47 l1 x5_1).f2)) || (!(((rd_T47 l0 x5_1).f3) == ((rd_T47 l1 x5_1).f3)))))) = false := by simpa using c7
        clear c7
        have H' := Aside0.mk H
        clear H
        have p175 : 0 ≤ (x5_1 : Int) := of_decide_eq_true (by first | (with_reducible assumption) | assumption)
        have q175 : x5_1 < (l0.length : Int) := of_decide_eq_true (by first | (with_reducible assumption) | assumption)
        obtain ⟨ad175, e175, hx175_0, hx175_1, hx175_2, hx175_3⟩ := at_T47 HR0.out x5_1 p175 q175
        cases e175
        replace p175 := eq_true p175
        replace q175 := eq_true q175
        have p176 : 0 ≤ (x5_1 : Int) := of_decide_eq_true (by first | (with_reducible assumption) | assumption)
        have q176 : x5_1 < (l1.length : Int) := of_decide_eq_true (by first | (with_reducible assumption) | assumption)
        obtain ⟨ad176, e176, hx176_0, hx176_1, hx176_2, hx176_3⟩ := at_T47 HR1.out x5_1 p176 q176
        cases e176
        replace p176 := eq_true p176
        replace q176 := eq_true q176
        go_wp2
        repeat (go_quiet (fail); try go_wp2)
        go_roundg k1
        case measure => have := HK1.out; omega
        case rel => exact ⟨(wrap64 (x5_1 + 1)), (by first | rfl | (simp; done) | (simp [*]; done)), H', ⟨by have := HK1.out; omega⟩, by repeat (first | exact Drawn0.refl _ | apply Drawn0.step)⟩
      ·rw [if_neg c6] at H
       exact absurd H (by simp)
     ·rw [if_neg c5] at H
      exact absurd H (by simp)
    ·rw [if_neg c4] at H
     have c4b0 : decide (x5_1 < (l0.length : Int)) = false := decide_eq_false c4
     clear c4
     obtain rfl := Option.some.inj H
     go_wp2
     repeat (go_quiet (fail); try go_wp2)
     go_ret
     exact ⟨by first | rfl | (simp; done) | (simp [*]; done), by repeat (first | exact Drawn0.refl _ | apply Drawn0.step)⟩
 ·rw [if_neg c3] at H
  have c3b0 : ((l0.length : Int) == (l1.length : Int)) = false := beq_eq_false_iff_ne.mpr c3
  have c3b1 : ((l0.length : Int) != (l1.length : Int)) = true := bne_iff_ne.mpr c3
  have c3b2 : (l0.length == l1.length) = false := by first | simpa using c3 | (simp at c3 ⊢; omega)
  obtain rfl := Option.some.inj H
  go_enter Tryz.func81, Tryz.ntmps81
  go_wp2
  repeat (go_quiet (fail); try go_wp2)
  go_ret
  exact ⟨by first | rfl | (simp; done) | (simp [*]; done), by repeat (first | exact Drawn0.refl _ | apply Drawn0.step)⟩

/-! ### cellarerref06_Same: function 37 -/
def cellarerref06_Same.l0 : Nat → List (S56) → List (S56) → Int → Option (Bool)
 | 0, _, _, _ => none
 | k + 1, x0, x1, x5 => if x5 < (x0.length : Int) then (if 0 ≤ x5 then (if x5 < (x1.length : Int) then (if ((rd_T56 x0 x5).f0).toList = ((rd_T56 x1 x5).f0).toList then ((cellarerref05_Same.f k ((rd_T56 x0 x5).f1) ((rd_T56 x1 x5).f1)).bind fun t181 => (if t181 = true then (cellarerref06_Same.l0 k x0 x1 (wrap64 (x5 + 1))) else (some false))) else (some false)) else (none)) else (none)) else (some true)
def cellarerref06_Same.f (k : Nat) (l0 : List (S56)) (l1 : List (S56)) : Option (Bool) := if (l0.length : Int) = (l1.length : Int) then (cellarerref06_Same.l0 k l0 l1 0) else (some false)
set_option maxHeartbeats 8000000 in
set_option maxRecDepth 100000 in
theorem cellarerref06_Same.calls (k : Nat) (A0 : Option Addr) (c0 : Nat) (l0 : List (S56)) (A1 : Option Addr) (c1 : Nat) (l1 : List (S56)) (r : Bool) (w : World) (hr0 : Kd.C k56 w A0 l0.length l0) (hc0 : l0.length ≤ c0) (hr1 : Kd.C k56 w A1 l1.length l1) (hc1 : l1.length ≤ c1) (h : cellarerref06_Same.f k l0 l1 = some r) :
  Calls Tryz.prog 37 #[.slice A0 l0.length c0, .slice A1 l1.length c1] w fun e w' => e = .returned (.bool r) ∧ Drawn0 w w' := by
 have HR0 := Aside0.mk hr0
 have HC0 := Aside0.mk hc0
 clear hr0 hc0
 have HR1 := Aside0.mk hr1
 have HC1 := Aside0.mk hc1
 clear hr1 hc1
 have H : (if (l0.length : Int) = (l1.length : Int) then (cellarerref06_Same.l0 k l0 l1 0) else (some false)) = some r := h
 clear h
 by_cases c3 : (l0.length : Int) = (l1.length : Int)
 ·rw [if_pos c3] at H
  have c3b0 : ((l0.length : Int) == (l1.length : Int)) = true := beq_iff_eq.mpr c3
  have c3b1 : ((l0.length : Int) != (l1.length : Int)) = false := bne_eq_false_iff_eq.mpr c3
  have c3b2 : (l0.length == l1.length) = true := by first | simpa using c3 | (simp at c3 ⊢; omega)
  clear c3
  have H' := Aside0.mk H
  clear H
  go_enter Tryz.func37, Tryz.ntmps37
  go_wp2
  repeat (go_quiet (fail); try go_wp2)
  go_loopg [5] k (fun kq v5 w' => ∃ (x5_1 : Int), v5 = .int .i64 x5_1 ∧ Aside0 (cellarerref06_Same.l0 kq l0 l1 x5_1 = some r) ∧ Aside0 (kq ≤ k) ∧ Drawn0 w w')
  case atStart => exact ⟨(0), (by first | rfl | (simp; done) | (simp [*]; done)), H', ⟨Nat.le_refl _⟩, by repeat (first | exact Drawn0.refl _ | apply Drawn0.step)⟩
  case round =>
   clear H'
   try clear c1
   try clear p2
   try clear c3
   try clear c3b0
   try clear c3b1
   try clear c3b2
   obtain ⟨x5_1, rfl, HA, HK1, ⟨m1, rfl⟩⟩ := hrel
   cases gk with
   | zero => exact absurd HA.out (by simp [cellarerref06_Same.l0])
   | succ k1 =>
    have H := HA.out
    clear HA
    simp only [cellarerref06_Same.l0] at H
    by_cases c4 : x5_1 < (l0.length : Int)
    ·rw [if_pos c4] at H
     have c4b0 : decide (x5_1 < (l0.length : Int)) = true := decide_eq_true c4
     clear c4
     by_cases c5 : 0 ≤ x5_1
     ·rw [if_pos c5] at H
      have c5b0 : decide (0 ≤ x5_1) = true := decide_eq_true c5
      clear c5
      by_cases c6 : x5_1 < (l1.length : Int)
      ·rw [if_pos c6] at H
       have c6b0 : decide (x5_1 < (l1.length : Int)) = true := decide_eq_true c6
       clear c6
       by_cases c7 : ((rd_T56 l0 x5_1).f0).toList = ((rd_T56 l1 x5_1).f0).toList
       ·rw [if_pos c7] at H
        have c7b0 : (((rd_T56 l0 x5_1).f0).toList == ((rd_T56 l1 x5_1).f0).toList) = true := beq_iff_eq.mpr c7
        have c7b1 : (((rd_T56 l0 x5_1).f0).toList != ((rd_T56 l1 x5_1).f0).toList) = false := bne_eq_false_iff_eq.mpr c7
        clear c7
        replace H := Option.bind_eq_some_iff.mp H
        obtain ⟨t181, A80, H⟩ := H
        replace H : (if t181 = true then (cellarerref06_Same.l0 k1 l0 l1 (wrap64 (x5_1 + 1))) else (some false)) = some r := H
        have A8 := Aside0.mk A80
        clear A80
        by_cases c9 : t181 = true
        ·subst c9
         have H1 : (cellarerref06_Same.l0 k1 l0 l1 (wrap64 (x5_1 + 1))) = some r := by rw [if_pos rfl] at H; exact H
         clear H
         have H := H1
         clear H1
         have H' := Aside0.mk H
         clear H
         have p177 : 0 ≤ (x5_1 : Int) := of_decide_eq_true (by first | (with_reducible assumption) | assumption)
         have q177 : x5_1 < (l0.length : Int) := of_decide_eq_true (by first | (with_reducible assumption) | assumption)
         obtain ⟨ad177, A177_1, c177_1, e177, hx177_0, hx177_1, hl177_1, hi177_1⟩ := at_T56 HR0.out x5_1 p177 q177
         cases e177
         have HR177_1 := Aside0.mk hi177_1
         have HC177_1 := Aside0.mk hl177_1
         clear hi177_1 hl177_1
         replace p177 := eq_true p177
         replace q177 := eq_true q177
         have p178 : 0 ≤ (x5_1 : Int) := of_decide_eq_true (by first | (with_reducible assumption) | assumption)
         have q178 : x5_1 < (l1.length : Int) := of_decide_eq_true (by first | (with_reducible assumption) | assumption)
         obtain ⟨ad178, A178_1, c178_1, e178, hx178_0, hx178_1, hl178_1, hi178_1⟩ := at_T56 HR1.out x5_1 p178 q178
         cases e178
         have HR178_1 := Aside0.mk hi178_1
         have HC178_1 := Aside0.mk hl178_1
         clear hi178_1 hl178_1
         replace p178 := eq_true p178
         replace q178 := eq_true q178
         have p179 : 0 ≤ (x5_1 : Int) := of_decide_eq_true (by first | (with_reducible assumption) | assumption)
         have q179 : x5_1 < (l0.length : Int) := of_decide_eq_true (by first | (with_reducible assumption) | assumption)
         obtain ⟨ad179, A179_1, c179_1, e179, hx179_0, hx179_1, hl179_1, hi179_1⟩ := at_T56 HR0.out x5_1 p179 q179
         obtain rfl : ad177 = ad179 := (by injection e179)
         have HR179_1 := Aside0.mk hi179_1
         have HC179_1 := Aside0.mk hl179_1
         clear hi179_1 hl179_1
         replace p179 := eq_true p179
         replace q179 := eq_true q179
         have ea_ := Option.some.inj (hx177_1.symm.trans hx179_1)
         injection ea_ with ea_ en_ ec_
         subst ea_
         subst ec_
         clear en_
         have p180 : 0 ≤ (x5_1 : Int) := of_decide_eq_true (by first | (with_reducible assumption) | assumption)
         have q180 : x5_1 < (l1.length : Int) := of_decide_eq_true (by first | (with_reducible assumption) | assumption)
         obtain ⟨ad180, A180_1, c180_1, e180, hx180_0, hx180_1, hl180_1, hi180_1⟩ := at_T56 HR1.out x5_1 p180 q180
         obtain rfl : ad178 = ad180 := (by injection e180)
         have HR180_1 := Aside0.mk hi180_1
         have HC180_1 := Aside0.mk hl180_1
         clear hi180_1 hl180_1
         replace p180 := eq_true p180
         replace q180 := eq_true q180
         have ea_ := Option.some.inj (hx178_1.symm.trans hx180_1)
         injection ea_ with ea_ en_ ec_
         subst ea_
         subst ec_
         clear en_
         go_wp2_with (first | (go_at_call 81; (with_reducible refine (cellarerref05_Same.calls k1 _ _ ((rd_T56 l0 x5_1).f1) _ _ ((rd_T56 l1 x5_1).f1) true _ ?side1 ?side2 ?side3 ?side4 A8.out).mono ?_); (case side1 => repeat (first | exact HR179_1.out | (with_reducible refine Kd.C_alloc ?_ _) | (with_reducible refine Kd.C_drewN ?_ _) | (with_reducible refine Kd.C_drew ?_))); (case side2 => exact HC179_1.out); (case side3 => repeat (first | exact HR180_1.out | (with_reducible refine Kd.C_alloc ?_ _) | (with_reducible refine Kd.C_drewN ?_ _) | (with_reducible refine Kd.C_drew ?_))); (case side4 => exact HC180_1.out); rintro e w' ⟨rfl, ⟨nd, rfl⟩⟩; (try first | exact ⟨rfl, _, World.drewN_drewN _ _ _⟩ | exact ⟨rfl, _, Eq.trans (World.drewN_drewN _ _ _) (congrArg (World.drewN _) (Nat.add_assoc _ _ _))⟩)))
         repeat (go_quiet (first | (go_at_call 81; (with_reducible refine (cellarerref05_Same.calls k1 _ _ ((rd_T56 l0 x5_1).f1) _ _ ((rd_T56 l1 x5_1).f1) true _ ?side1 ?side2 ?side3 ?side4 A8.out).mono ?_); (case side1 => repeat (first | exact HR179_1.out | (with_reducible refine Kd.C_alloc ?_ _) | (with_reducible refine Kd.C_drewN ?_ _) | (with_reducible refine Kd.C_drew ?_))); (case side2 => exact HC179_1.out); (case side3 => repeat (first | exact HR180_1.out | (with_reducible refine Kd.C_alloc ?_ _) | (with_reducible refine Kd.C_drewN ?_ _) | (with_reducible refine Kd.C_drew ?_))); (case side4 => exact HC180_1.out); rintro e w' ⟨rfl, ⟨nd, rfl⟩⟩; (try first | exact ⟨rfl, _, World.drewN_drewN _ _ _⟩ | exact ⟨rfl, _, Eq.trans (World.drewN_drewN _ _ _) (congrArg (World.drewN _) (Nat.add_assoc _ _ _))⟩))); try go_wp2_with (first | (go_at_call 81; (with_reducible refine (cellarerref05_Same.calls k1 _ _ ((rd_T56 l0 x5_1).f1) _ _ ((rd_T56 l1 x5_1).f1) true _ ?side1 ?side2 ?side3 ?side4 A8.out).mono ?_); (case side1 => repeat (first | exact HR179_1.out | (with_reducible refine Kd.C_alloc ?_ _) | (with_reducible refine Kd.C_drewN ?_ _) | (with_reducible refine Kd.C_drew ?_))); (case side2 => exact HC179_1.out); (case side3 => repeat (first | exact HR180_1.out | (with_reducible refine Kd.C_alloc ?_ _) | (with_reducible refine Kd.C_drewN ?_ _) | (with_reducible refine Kd.C_drew ?_))); (case side4 => exact HC180_1.out); rintro e w' ⟨rfl, ⟨nd, rfl⟩⟩; (try first | exact ⟨rfl, _, World.drewN_drewN _ _ _⟩ | exact ⟨rfl, _, Eq.trans (World.drewN_drewN _ _ _) (congrArg (World.drewN _) (Nat.add_assoc _ _ _))⟩))))
         go_roundg k1
         case measure => have := HK1.out; omega
         case rel => exact ⟨(wrap64 (x5_1 + 1)), (by first | rfl | (simp; done) | (simp [*]; done)), H', ⟨by have := HK1.out; omega⟩, by repeat (first | exact Drawn0.refl _ | apply Drawn0.step)⟩
        ·replace c9 := Bool.eq_false_iff.mpr c9
         subst c9
         have H1 : (some false) = some r := by rw [if_neg (show ¬ (false = true) by decide)] at H; exact H
         clear H
         have H := H1
         clear H1
         obtain rfl := Option.some.inj H
         have p177 : 0 ≤ (x5_1 : Int) := of_decide_eq_true (by first | (with_reducible assumption) | assumption)
         have q177 : x5_1 < (l0.length : Int) := of_decide_eq_true (by first | (with_reducible assumption) | assumption)
         obtain ⟨ad177, A177_1, c177_1, e177, hx177_0, hx177_1, hl177_1, hi177_1⟩ := at_T56 HR0.out x5_1 p177 q177
         cases e177
         have HR177_1 := Aside0.mk hi177_1
         have HC177_1 := Aside0.mk hl177_1
         clear hi177_1 hl177_1
         replace p177 := eq_true p177
         replace q177 := eq_true q177
         have p178 : 0 ≤ (x5_1 : Int) := of_decide_eq_true (by first | (with_reducible assumption) | assumption)
         have q178 : x5_1 < (l1.length : Int) := of_decide_eq_true (by first | (with_reducible assumption) | assumption)
         obtain ⟨ad178, A178_1, c178_1, e178, hx178_0, hx178_1, hl178_1, hi178_1⟩ := at_T56 HR1.out x5_1 p178 q178
         cases e178
         have HR178_1 := Aside0.mk hi178_1
         have HC178_1 := Aside0.mk hl178_1
         clear hi178_1 hl178_1
         replace p178 := eq_true p178
         replace q178 := eq_true q178
         have p179 : 0 ≤ (x5_1 : Int) := of_decide_eq_true (by first | (with_reducible assumption) | assumption)
         have q179 : x5_1 < (l0.length : Int) := of_decide_eq_true (by first | (with_reducible assumption) | assumption)
         obtain ⟨ad179, A179_1, c179_1, e179, hx179_0, hx179_1, hl179_1, hi179_1⟩ := at_T56 HR0.out x5_1 p179 q179
         obtain rfl : ad177 = ad179 := (by injection e179)
         have HR179_1 := Aside0.mk hi179_1
         have HC179_1 := Aside0.mk hl179_1
         clear hi179_1 hl179_1
         replace p179 := eq_true p179
         replace q179 := eq_true q179
         have ea_ := Option.some.inj (hx177_1.symm.trans hx179_1)
         injection ea_ with ea_ en_ ec_
         subst ea_
         subst ec_
         clear en_
         have p180 : 0 ≤ (x5_1 : Int) := of_decide_eq_true (by first | (with_reducible assumption) | assumption)
         have q180 : x5_1 < (l1.length : Int) := of_decide_eq_true (by first | (with_reducible assumption) | assumption)
         obtain ⟨ad180, A180_1, c180_1, e180, hx180_0, hx180_1, hl180_1, hi180_1⟩ := at_T56 HR1.out x5_1 p180 q180
         obtain rfl : ad178 = ad180 := (by injection e180)
         have HR180_1 := Aside0.mk hi180_1
         have HC180_1 := Aside0.mk hl180_1
         clear hi180_1 hl180_1
         replace p180 := eq_true p180
         replace q180 := eq_true q180
         have ea_ := Option.some.inj (hx178_1.symm.trans hx180_1)
         injection ea_ with ea_ en_ ec_
         subst ea_
         subst ec_
         clear en_
         go_wp2_with (first | (go_at_call 81; (with_reducible refine (cellarerref05_Same.calls k1 _ _ ((rd_T56 l0 x5_1).f1) _ _ ((rd_T56 l1 x5_1).f1) false _ ?side1 ?side2 ?side3 ?side4 A8.out).mono ?_); (case side1 => repeat (first | exact HR179_1.out | (with_reducible refine Kd.C_alloc ?_ _) | (with_reducible refine Kd.C_drewN ?_ _) | (with_reducible refine Kd.C_drew ?_))); (case side2 => exact HC179_1.out); (case side3 => repeat (first | exact HR180_1.out | (with_reducible refine Kd.C_alloc ?_ _) | (with_reducible refine Kd.C_drewN ?_ _) | (with_reducible refine Kd.C_drew ?_))); (case side4 => exact HC180_1.out); rintro e w' ⟨rfl, ⟨nd, rfl⟩⟩; (try first | exact ⟨rfl, _, World.drewN_drewN _ _ _⟩ | exact ⟨rfl, _, Eq.trans (World.drewN_drewN _ _ _) (congrArg (World.drewN _) (Nat.add_assoc _ _ _))⟩)))
         repeat (go_quiet (first | (go_at_call 81; (with_reducible refine (cellarerref05_Same.calls k1 _ _ ((rd_T56 l0 x5_1).f1) _ _ ((rd_T56 l1 x5_1).f1) false _ ?side1 ?side2 ?side3 ?side4 A8.out).mono ?_); (case side1 => repeat (first | exact HR179_1.out | (with_reducible refine Kd.C_alloc ?_ _) | (with_reducible refine Kd.C_drewN ?_ _) | (with_reducible refine Kd.C_drew ?_))); (case side2 => exact HC179_1.out); (case side3 => repeat (first | exact HR180_1.out | (with_reducible refine Kd.C_alloc ?_ _) | (with_reducible refine Kd.C_drewN ?_ _) | (with_reducible refine Kd.C_drew ?_))); (case side4 => exact HC180_1.out); rintro e w' ⟨rfl, ⟨nd, rfl⟩⟩; (try first | exact ⟨rfl, _, World.drewN_drewN _ _ _⟩ | exact ⟨rfl, _, Eq.trans (World.drewN_drewN _ _ _) (congrArg (World.drewN _) (Nat.add_assoc _ _ _))⟩))); try go_wp2_with (first | (go_at_call 81; (with_reducible refine (cellarerref05_Same.calls k1 _ _ ((rd_T56 l0 x5_1).f1) _ _ ((rd_T56 l1 x5_1).f1) false _ ?side1 ?side2 ?side3 ?side4 A8.out).mono ?_); (case side1 => repeat (first | exact HR179_1.out | (with_reducible refine Kd.C_alloc ?_ _) | (with_reducible refine Kd.C_drewN ?_ _) | (with_reducible refine Kd.C_drew ?_))); (case side2 => exact HC179_1.out); (case side3 => repeat (first | exact HR180_1.out | (with_reducible refine Kd.C_alloc ?_ _) | (with_reducible refine Kd.C_drewN ?_ _) | (with_reducible refine Kd.C_drew ?_))); (case side4 => exact HC180_1.out); rintro e w' ⟨rfl, ⟨nd, rfl⟩⟩; (try first | exact ⟨rfl, _, World.drewN_drewN _ _ _⟩ | exact ⟨rfl, _, Eq.trans (World.drewN_drewN _ _ _) (congrArg (World.drewN _) (Nat.add_assoc _ _ _))⟩))))
         go_ret
         exact ⟨by first | rfl | (simp; done) | (simp [*]; done), by repeat (first | exact Drawn0.refl _ | apply Drawn0.step)⟩
       ·rw [if_neg c7] at H
        have c7b0 : (((rd_T56 l0 x5_1).f0).toList == ((rd_T56 l1 x5_1).f0).toList) = false := beq_eq_false_iff_ne.mpr c7
        have c7b1 : (((rd_T56 l0 x5_1).f0).toList != ((rd_T56 l1 x5_1).f0).toList) = true := bne_iff_ne.mpr c7
        obtain rfl := Option.some.inj H
        have p177 : 0 ≤ (x5_1 : Int) := of_decide_eq_true (by first | (with_reducible assumption) | assumption)
        have q177 : x5_1 < (l0.length : Int) := of_decide_eq_true (by first | (with_reducible assumption) | assumption)
        obtain ⟨ad177, A177_1, c177_1, e177, hx177_0, hx177_1, hl177_1, hi177_1⟩ := at_T56 HR0.out x5_1 p177 q177
        cases e177
        have HR177_1 := Aside0.mk hi177_1
        have HC177_1 := Aside0.mk hl177_1
        clear hi177_1 hl177_1
        replace p177 := eq_true p177
        replace q177 := eq_true q177
        have p178 : 0 ≤ (x5_1 : Int) := of_decide_eq_true (by first | (with_reducible assumption) | assumption)
        have q178 : x5_1 < (l1.length : Int) := of_decide_eq_true (by first | (with_reducible assumption) | assumption)
        obtain ⟨ad178, A178_1, c178_1, e178, hx178_0, hx178_1, hl178_1, hi178_1⟩ := at_T56 HR1.out x5_1 p178 q178
        cases e178
        have HR178_1 := Aside0.mk hi178_1
        have HC178_1 := Aside0.mk hl178_1
        clear hi178_1 hl178_1
        replace p178 := eq_true p178
        replace q178 := eq_true q178
        go_wp2
        repeat (go_quiet (fail); try go_wp2)
        go_ret
        exact ⟨by first | rfl | (simp; done) | (simp [*]; done), by repeat (first | exact Drawn0.refl _ | apply Drawn0.step)⟩
      ·rw [if_neg c6] at H
       exact absurd H (by simp)
     ·rw [if_neg c5] at H
      exact absurd H (by simp)
    ·rw [if_neg c4] at H
     have c4b0 : decide (x5_1 < (l0.length : Int)) = false := decide_eq_false c4
     clear c4
     obtain rfl := Option.some.inj H
     go_wp2
     repeat (go_quiet (fail); try go_wp2)
     go_ret
     exact ⟨by first | rfl | (simp; done) | (simp [*]; done), by repeat (first | exact Drawn0.refl _ | apply Drawn0.step)⟩
 ·rw [if_neg c3] at H
  have c3b0 : ((l0.length : Int) == (l1.length : Int)) = false := beq_eq_false_iff_ne.mpr c3
  have c3b1 : ((l0.length : Int) != (l1.length : Int)) = true := bne_iff_ne.mpr c3
  have c3b2 : (l0.length == l1.length) = false := by first | simpa using c3 | (simp at c3 ⊢; omega)
  obtain rfl := Option.some.inj H
  go_enter Tryz.func37, Tryz.ntmps37
  go_wp2
  repeat (go_quiet (fail); try go_wp2)
  go_ret
  exact ⟨by first | rfl | (simp; done) | (simp [*]; done), by repeat (first | exact Drawn0.refl _ | apply Drawn0.step)⟩

end Go.Proofs.YtekooapbdgippaaGreatDoor.Q
namespace Go.Proofs.YtekooapbdgippaaGreatDoor.Q
open Go.RowKit Go.Proofs.YtekooapbdgippaaGreatDoorW.PrintWords Go.Proofs.YtekooapbdgippaaGreatDoorW.PrintLast Go.Proofs.YtekooapbdgippaaGreatDoorW.PrintMore
attribute [local go_sem] max2_int min2_int max_two min_two max_three min_three max_four min_four
set_option linter.unusedVariables false
set_option linter.unusedSimpArgs false

attribute [local go_sem high] eqA40
/-! ### cellarerref08_Same: function 38 -/
mutual
def cellarerref08_Same.l0 : Nat → List (S101) → List (S101) → Int → Option (Bool)
 | 0, _, _, _ => none
 | k + 1, x0, x1, x5 => if x5 < (x0.length : Int) then (if 0 ≤ x5 then (if x5 < (x1.length : Int) then (if ((rd_T101 x0 x5).f0) = ((rd_T101 x1 x5).f0) then (if ((rd_T101 x0 x5).f1).toList = ((rd_T101 x1 x5).f1).toList then (cellarerref08_Same.j1 k x0 x1 x5 ((((rd_T101 x0 x5).f2).length : Int) != (((rd_T101 x1 x5).f2).length : Int))) else (cellarerref08_Same.j1 k x0 x1 x5 true)) else (cellarerref08_Same.j1 k x0 x1 x5 true)) else (none)) else (none)) else (some true)
def cellarerref08_Same.j1 : Nat → List (S101) → List (S101) → Int → Bool → Option (Bool)
 | 0, _, _, _, _ => none
 | k + 1, x0, x1, x5, x56 => if x56 = true then (some false) else (cellarerref08_Same.l1 k x0 x1 x5 0)
def cellarerref08_Same.l1 : Nat → List (S101) → List (S101) → Int → Int → Option (Bool)
 | 0, _, _, _, _ => none
 | k + 1, x0, x1, x5, x6 => if 0 ≤ x5 then (if x5 < (x0.length : Int) then (if x6 < (((rd_T101 x0 x5).f2).length : Int) then (if 0 ≤ x6 then (if x5 < (x1.length : Int) then (if x6 < (((rd_T101 x1 x5).f2).length : Int) then (if (!(((rd_T40 ((rd_T101 x0 x5).f2) x6).f0) == ((rd_T40 ((rd_T101 x1 x5).f2) x6).f0)) || (!((((rd_T40 ((rd_T101 x0 x5).f2) x6).f1).toList) == (((rd_T40 ((rd_T101 x1 x5).f2) x6).f1).toList)))) = true then (some false) else (cellarerref08_Same.l1 k x0 x1 x5 (wrap64 (x6 + 1)))) else (none)) else (none)) else (none)) else (cellarerref08_Same.l0 k x0 x1 (wrap64 (x5 + 1)))) else (none)) else (none)
end
def cellarerref08_Same.f (k : Nat) (l0 : List (S101)) (l1 : List (S101)) : Option (Bool) := if (l0.length : Int) = (l1.length : Int) then (cellarerref08_Same.l0 k l0 l1 0) else (some false)
set_option maxHeartbeats 8000000 in
set_option maxRecDepth 100000 in
theorem cellarerref08_Same.calls (k : Nat) (A0 : Option Addr) (c0 : Nat) (l0 : List (S101)) (A1 : Option Addr) (c1 : Nat) (l1 : List (S101)) (r : Bool) (w : World) (hr0 : Kd.C k101 w A0 l0.length l0) (hc0 : l0.length ≤ c0) (hr1 : Kd.C k101 w A1 l1.length l1) (hc1 : l1.length ≤ c1) (h : cellarerref08_Same.f k l0 l1 = some r) :
  Calls Tryz.prog 38 #[.slice A0 l0.length c0, .slice A1 l1.length c1] w fun e w' => e = .returned (.bool r) ∧ Drawn0 w w' := by
 have hu40 := Tryz.underlying40
 have HR0 := Aside0.mk hr0
 have HC0 := Aside0.mk hc0
 clear hr0 hc0
 have HR1 := Aside0.mk hr1
 have HC1 := Aside0.mk hc1
 clear hr1 hc1
 have H : (if (l0.length : Int) = (l1.length : Int) then (cellarerref08_Same.l0 k l0 l1 0) else (some false)) = some r := h
 clear h
 by_cases c3 : (l0.length : Int) = (l1.length : Int)
 ·rw [if_pos c3] at H
  have c3b0 : ((l0.length : Int) == (l1.length : Int)) = true := beq_iff_eq.mpr c3
  have c3b1 : ((l0.length : Int) != (l1.length : Int)) = false := bne_eq_false_iff_eq.mpr c3
  have c3b2 : (l0.length == l1.length) = true := by first | simpa using c3 | (simp at c3 ⊢; omega)
  clear c3
  have H' := Aside0.mk H
  clear H
  go_enter Tryz.func38, Tryz.ntmps38
  go_wp2
  repeat (go_quiet (fail); try go_wp2)
  go_loopg [5] k (fun kq v5 w' => ∃ (x5_1 : Int), v5 = .int .i64 x5_1 ∧ Aside0 (cellarerref08_Same.l0 kq l0 l1 x5_1 = some r) ∧ Aside0 (kq ≤ k) ∧ Drawn0 w w')
  case atStart => exact ⟨(0), (by first | rfl | (simp; done) | (simp [*]; done)), H', ⟨Nat.le_refl _⟩, by repeat (first | exact Drawn0.refl _ | apply Drawn0.step)⟩
  case round =>
   clear H'
   try clear c1
   try clear p2
   try clear c3
   try clear c3b0
   try clear c3b1
   try clear c3b2
   obtain ⟨x5_1, rfl, HA, HK1, ⟨m1, rfl⟩⟩ := hrel
   cases gk with
   | zero => exact absurd HA.out (by simp [cellarerref08_Same.l0])
   | succ k1 =>
    have H := HA.out
    clear HA
    simp only [cellarerref08_Same.l0] at H
    by_cases c4 : x5_1 < (l0.length : Int)
    ·rw [if_pos c4] at H
     have c4b0 : decide (x5_1 < (l0.length : Int)) = true := decide_eq_true c4
     clear c4
     have HC5 := Aside0.mk H
     clear H
     go_upto_region 6 with (fail)
     repeat (go_quiet (fail); go_upto_region 6 with (fail))
     go_cut [56] (fun v56 wc => ∃ (kq : Nat) (x56_4 : Bool), v56 = .bool x56_4 ∧ Aside0 (cellarerref08_Same.j1 kq l0 l1 x5_1 x56_4 = some r) ∧ Aside0 (kq ≤ k1) ∧ Drawn0 w wc)
     case first =>
      have H := HC5.out
      clear HC5
      by_cases c6 : 0 ≤ x5_1
      ·rw [if_pos c6] at H
       have c6b0 : decide (0 ≤ x5_1) = true := decide_eq_true c6
       clear c6
       (first | rw [c6b0] | (simp only [i64_w, i32_w]; rw [c6b0]) | skip)
       by_cases c7 : x5_1 < (l1.length : Int)
       ·rw [if_pos c7] at H
        have c7b0 : decide (x5_1 < (l1.length : Int)) = true := decide_eq_true c7
        clear c7
        by_cases c8 : ((rd_T101 l0 x5_1).f0) = ((rd_T101 l1 x5_1).f0)
        ·rw [if_pos c8] at H
         have c8b0 : (((rd_T101 l0 x5_1).f0) == ((rd_T101 l1 x5_1).f0)) = true := beq_iff_eq.mpr c8
         have c8b1 : (((rd_T101 l0 x5_1).f0) != ((rd_T101 l1 x5_1).f0)) = false := bne_eq_false_iff_eq.mpr c8
         clear c8
         by_cases c9 : ((rd_T101 l0 x5_1).f1).toList = ((rd_T101 l1 x5_1).f1).toList
         ·rw [if_pos c9] at H
          have c9b0 : (((rd_T101 l0 x5_1).f1).toList == ((rd_T101 l1 x5_1).f1).toList) = true := beq_iff_eq.mpr c9
          have c9b1 : (((rd_T101 l0 x5_1).f1).toList != ((rd_T101 l1 x5_1).f1).toList) = false := bne_eq_false_iff_eq.mpr c9
          clear c9
          have H' := Aside0.mk H
          clear H
          have p182 : 0 ≤ (x5_1 : Int) := of_decide_eq_true (by first | (with_reducible assumption) | assumption)
          have q182 : x5_1 < (l0.length : Int) := of_decide_eq_true (by first | (with_reducible assumption) | assumption)
          obtain ⟨ad182, A182_2, c182_2, e182, hx182_0, hx182_1, hx182_2, hl182_2, hi182_2⟩ := at_T101 HR0.out x5_1 p182 q182
          cases e182
          have HR182_2 := Aside0.mk hi182_2
          have HC182_2 := Aside0.mk hl182_2
          clear hi182_2 hl182_2
          replace p182 := eq_true p182
          replace q182 := eq_true q182
          have p183 : 0 ≤ (x5_1 : Int) := of_decide_eq_true (by first | (with_reducible assumption) | assumption)
          have q183 : x5_1 < (l1.length : Int) := of_decide_eq_true (by first | (with_reducible assumption) | assumption)
          obtain ⟨ad183, A183_2, c183_2, e183, hx183_0, hx183_1, hx183_2, hl183_2, hi183_2⟩ := at_T101 HR1.out x5_1 p183 q183
          cases e183
          have HR183_2 := Aside0.mk hi183_2
          have HC183_2 := Aside0.mk hl183_2
          clear hi183_2 hl183_2
          replace p183 := eq_true p183
          replace q183 := eq_true q183
          have p184 : 0 ≤ (x5_1 : Int) := of_decide_eq_true (by first | (with_reducible assumption) | assumption)
          have q184 : x5_1 < (l0.length : Int) := of_decide_eq_true (by first | (with_reducible assumption) | assumption)
          obtain ⟨ad184, A184_2, c184_2, e184, hx184_0, hx184_1, hx184_2, hl184_2, hi184_2⟩ := at_T101 HR0.out x5_1 p184 q184
          obtain rfl : ad182 = ad184 := (by injection e184)
          have HR184_2 := Aside0.mk hi184_2
          have HC184_2 := Aside0.mk hl184_2
          clear hi184_2 hl184_2
          replace p184 := eq_true p184
          replace q184 := eq_true q184
          have ea_ := Option.some.inj (hx182_2.symm.trans hx184_2)
          injection ea_ with ea_ en_ ec_
          subst ea_
          subst ec_
          clear en_
          have p185 : 0 ≤ (x5_1 : Int) := of_decide_eq_true (by first | (with_reducible assumption) | assumption)
          have q185 : x5_1 < (l1.length : Int) := of_decide_eq_true (by first | (with_reducible assumption) | assumption)
          obtain ⟨ad185, A185_2, c185_2, e185, hx185_0, hx185_1, hx185_2, hl185_2, hi185_2⟩ := at_T101 HR1.out x5_1 p185 q185
          obtain rfl : ad183 = ad185 := (by injection e185)
          have HR185_2 := Aside0.mk hi185_2
          have HC185_2 := Aside0.mk hl185_2
          clear hi185_2 hl185_2
          replace p185 := eq_true p185
          replace q185 := eq_true q185
          have ea_ := Option.some.inj (hx183_2.symm.trans hx185_2)
          injection ea_ with ea_ en_ ec_
          subst ea_
          subst ec_
          clear en_
          have p186 : 0 ≤ (x5_1 : Int) := of_decide_eq_true (by first | (with_reducible assumption) | assumption)
          have q186 : x5_1 < (l0.length : Int) := of_decide_eq_true (by first | (with_reducible assumption) | assumption)
          obtain ⟨ad186, A186_2, c186_2, e186, hx186_0, hx186_1, hx186_2, hl186_2, hi186_2⟩ := at_T101 HR0.out x5_1 p186 q186
          obtain rfl : ad182 = ad186 := (by injection e186)
          have HR186_2 := Aside0.mk hi186_2
          have HC186_2 := Aside0.mk hl186_2
          clear hi186_2 hl186_2
          replace p186 := eq_true p186
          replace q186 := eq_true q186
          have ea_ := Option.some.inj (hx182_2.symm.trans hx186_2)
          injection ea_ with ea_ en_ ec_
          subst ea_
          subst ec_
          clear en_
          have p187 : 0 ≤ (x5_1 : Int) := of_decide_eq_true (by first | (with_reducible assumption) | assumption)
          have q187 : x5_1 < (l1.length : Int) := of_decide_eq_true (by first | (with_reducible assumption) | assumption)
          obtain ⟨ad187, A187_2, c187_2, e187, hx187_0, hx187_1, hx187_2, hl187_2, hi187_2⟩ := at_T101 HR1.out x5_1 p187 q187
          obtain rfl : ad183 = ad187 := (by injection e187)
          have HR187_2 := Aside0.mk hi187_2
          have HC187_2 := Aside0.mk hl187_2
          clear hi187_2 hl187_2
          replace p187 := eq_true p187
          replace q187 := eq_true q187
          have ea_ := Option.some.inj (hx183_2.symm.trans hx187_2)
          injection ea_ with ea_ en_ ec_
          subst ea_
          subst ec_
          clear en_
          go_wp2
          repeat (go_quiet (fail); try go_wp2)
          go_meet
          case rel => exact ⟨_, (((((rd_T101 l0 x5_1).f2).length : Int) != (((rd_T101 l1 x5_1).f2).length : Int))), (by first | rfl | (simp; done) | (simp [*]; done)), H', ⟨by have := HK1.out; first | omega | exact Nat.le_refl _⟩, by repeat (first | exact Drawn0.refl _ | apply Drawn0.step)⟩
         ·rw [if_neg c9] at H
          have c9b0 : (((rd_T101 l0 x5_1).f1).toList == ((rd_T101 l1 x5_1).f1).toList) = false := beq_eq_false_iff_ne.mpr c9
          have c9b1 : (((rd_T101 l0 x5_1).f1).toList != ((rd_T101 l1 x5_1).f1).toList) = true := bne_iff_ne.mpr c9
          have H' := Aside0.mk H
          clear H
          have p182 : 0 ≤ (x5_1 : Int) := of_decide_eq_true (by first | (with_reducible assumption) | assumption)
          have q182 : x5_1 < (l0.length : Int) := of_decide_eq_true (by first | (with_reducible assumption) | assumption)
          obtain ⟨ad182, A182_2, c182_2, e182, hx182_0, hx182_1, hx182_2, hl182_2, hi182_2⟩ := at_T101 HR0.out x5_1 p182 q182
          cases e182
          have HR182_2 := Aside0.mk hi182_2
          have HC182_2 := Aside0.mk hl182_2
          clear hi182_2 hl182_2
          replace p182 := eq_true p182
          replace q182 := eq_true q182
          have p183 : 0 ≤ (x5_1 : Int) := of_decide_eq_true (by first | (with_reducible assumption) | assumption)
          have q183 : x5_1 < (l1.length : Int) := of_decide_eq_true (by first | (with_reducible assumption) | assumption)
          obtain ⟨ad183, A183_2, c183_2, e183, hx183_0, hx183_1, hx183_2, hl183_2, hi183_2⟩ := at_T101 HR1.out x5_1 p183 q183
          cases e183
          have HR183_2 := Aside0.mk hi183_2
          have HC183_2 := Aside0.mk hl183_2
          clear hi183_2 hl183_2
          replace p183 := eq_true p183
          replace q183 := eq_true q183
          have p184 : 0 ≤ (x5_1 : Int) := of_decide_eq_true (by first | (with_reducible assumption) | assumption)
          have q184 : x5_1 < (l0.length : Int) := of_decide_eq_true (by first | (with_reducible assumption) | assumption)
          obtain ⟨ad184, A184_2, c184_2, e184, hx184_0, hx184_1, hx184_2, hl184_2, hi184_2⟩ := at_T101 HR0.out x5_1 p184 q184
          obtain rfl : ad182 = ad184 := (by injection e184)
          have HR184_2 := Aside0.mk hi184_2
          have HC184_2 := Aside0.mk hl184_2
          clear hi184_2 hl184_2
          replace p184 := eq_true p184
          replace q184 := eq_true q184
          have ea_ := Option.some.inj (hx182_2.symm.trans hx184_2)
          injection ea_ with ea_ en_ ec_
          subst ea_
          subst ec_
          clear en_
          have p185 : 0 ≤ (x5_1 : Int) := of_decide_eq_true (by first | (with_reducible assumption) | assumption)
          have q185 : x5_1 < (l1.length : Int) := of_decide_eq_true (by first | (with_reducible assumption) | assumption)
          obtain ⟨ad185, A185_2, c185_2, e185, hx185_0, hx185_1, hx185_2, hl185_2, hi185_2⟩ := at_T101 HR1.out x5_1 p185 q185
          obtain rfl : ad183 = ad185 := (by injection e185)
          have HR185_2 := Aside0.mk hi185_2
          have HC185_2 := Aside0.mk hl185_2
          clear hi185_2 hl185_2
          replace p185 := eq_true p185
          replace q185 := eq_true q185
          have ea_ := Option.some.inj (hx183_2.symm.trans hx185_2)
          injection ea_ with ea_ en_ ec_
          subst ea_
          subst ec_
          clear en_
          go_wp2
          repeat (go_quiet (fail); try go_wp2)
          go_meet
          case rel => exact ⟨_, (true), (by first | rfl | (simp; done) | (simp [*]; done)), H', ⟨by have := HK1.out; first | omega | exact Nat.le_refl _⟩, by repeat (first | exact Drawn0.refl _ | apply Drawn0.step)⟩
        ·rw [if_neg c8] at H
         have c8b0 : (((rd_T101 l0 x5_1).f0) == ((rd_T101 l1 x5_1).f0)) = false := beq_eq_false_iff_ne.mpr c8
         have c8b1 : (((rd_T101 l0 x5_1).f0) != ((rd_T101 l1 x5_1).f0)) = true := bne_iff_ne.mpr c8
         have H' := Aside0.mk H
         clear H
         have p182 : 0 ≤ (x5_1 : Int) := of_decide_eq_true (by first | (with_reducible assumption) | assumption)
         have q182 : x5_1 < (l0.length : Int) := of_decide_eq_true (by first | (with_reducible assumption) | assumption)
         obtain ⟨ad182, A182_2, c182_2, e182, hx182_0, hx182_1, hx182_2, hl182_2, hi182_2⟩ := at_T101 HR0.out x5_1 p182 q182
         cases e182
         have HR182_2 := Aside0.mk hi182_2
         have HC182_2 := Aside0.mk hl182_2
         clear hi182_2 hl182_2
         replace p182 := eq_true p182
         replace q182 := eq_true q182
         have p183 : 0 ≤ (x5_1 : Int) := of_decide_eq_true (by first | (with_reducible assumption) | assumption)
         have q183 : x5_1 < (l1.length : Int) := of_decide_eq_true (by first | (with_reducible assumption) | assumption)
         obtain ⟨ad183, A183_2, c183_2, e183, hx183_0, hx183_1, hx183_2, hl183_2, hi183_2⟩ := at_T101 HR1.out x5_1 p183 q183
         cases e183
         have HR183_2 := Aside0.mk hi183_2
         have HC183_2 := Aside0.mk hl183_2
         clear hi183_2 hl183_2
         replace p183 := eq_true p183
         replace q183 := eq_true q183
         go_wp2
         repeat (go_quiet (fail); try go_wp2)
         go_meet
         case rel => exact ⟨_, (true), (by first | rfl | (simp; done) | (simp [*]; done)), H', ⟨by have := HK1.out; first | omega | exact Nat.le_refl _⟩, by repeat (first | exact Drawn0.refl _ | apply Drawn0.step)⟩
       ·rw [if_neg c7] at H
        exact absurd H (by simp)
      ·rw [if_neg c6] at H
       exact absurd H (by simp)
     case rest =>
      clear HC5
      try clear c1
      try clear p1
      try clear q1
      try clear hx1
      try clear p2
      try clear c3
      try clear c3b0
      try clear c3b1
      try clear c3b2
      try clear c4
      try clear c4b0
      try clear c6
      try clear c6b0
      try clear c7
      try clear c7b0
      try clear c8
      try clear c8b0
      try clear c8b1
      try clear c9
      try clear c9b0
      try clear c9b1
      try clear hx182_0
      try clear hx182_1
      try clear hx182_2
      try clear hx183_0
      try clear hx183_1
      try clear hx183_2
      try clear hx184_0
      try clear hx184_1
      try clear hx184_2
      try clear hx185_0
      try clear hx185_1
      try clear hx185_2
      try clear hx186_0
      try clear hx186_1
      try clear hx186_2
      try clear hx187_0
      try clear hx187_1
      try clear hx187_2
      try clear p182
      try clear p183
      try clear p184
      try clear p185
      try clear p186
      try clear p187
      try clear p2
      try clear q182
      try clear q183
      try clear q184
      try clear q185
      try clear q186
      try clear q187
      obtain ⟨kq, x56_4, rfl, HA, HJ4, ⟨mc4, rfl⟩⟩ := hcut
      cases kq with
      | zero => exact absurd HA.out (by simp [cellarerref08_Same.j1])
      | succ kj4 =>
       have H := HA.out
       clear HA
       simp only [cellarerref08_Same.j1] at H
       by_cases c10 : x56_4 = true
       ·subst c10
        have H1 : (some false) = some r := by rw [if_pos rfl] at H; exact H
        clear H
        have H := H1
        clear H1
        obtain rfl := Option.some.inj H
        go_wp2
        repeat (go_quiet (fail); try go_wp2)
        go_ret
        exact ⟨by first | rfl | (simp; done) | (simp [*]; done), by repeat (first | exact Drawn0.refl _ | apply Drawn0.step)⟩
       ·replace c10 := Bool.eq_false_iff.mpr c10
        subst c10
        have H1 : (cellarerref08_Same.l1 kj4 l0 l1 x5_1 0) = some r := by rw [if_neg (show ¬ (false = true) by decide)] at H; exact H
        clear H
        have H := H1
        clear H1
        have H' := Aside0.mk H
        clear H
        go_wp2
        repeat (go_quiet (fail); try go_wp2)
        go_loopg [6] kj4 (fun kq v6 w' => ∃ (x6_3 : Int), v6 = .int .i64 x6_3 ∧ Aside0 (cellarerref08_Same.l1 kq l0 l1 x5_1 x6_3 = some r) ∧ Aside0 (kq ≤ kj4) ∧ Drawn0 w w')
        case atStart => exact ⟨(0), (by first | rfl | (simp; done) | (simp [*]; done)), H', ⟨Nat.le_refl _⟩, by repeat (first | exact Drawn0.refl _ | apply Drawn0.step)⟩
        case round =>
         clear H'
         try clear c1
         try clear p1
         try clear q1
         try clear hx1
         try clear p2
         try clear c3
         try clear c3b0
         try clear c3b1
         try clear c3b2
         try clear c4
         try clear c4b0
         try clear c6
         try clear c6b0
         try clear c7
         try clear c7b0
         try clear c8
         try clear c8b0
         try clear c8b1
         try clear c9
         try clear c9b0
         try clear c9b1
         try clear c10
         try clear hx182_0
         try clear hx182_1
         try clear hx182_2
         try clear hx183_0
         try clear hx183_1
         try clear hx183_2
         try clear hx184_0
         try clear hx184_1
         try clear hx184_2
         try clear hx185_0
         try clear hx185_1
         try clear hx185_2
         try clear hx186_0
         try clear hx186_1
         try clear hx186_2
         try clear hx187_0
         try clear hx187_1
         try clear hx187_2
         try clear p1
         try clear p182
         try clear p183
         try clear p184
         try clear p185
         try clear p186
         try clear p187
         try clear p2
         try clear q1
         try clear q182
         try clear q183
         try clear q184
         try clear q185
         try clear q186
         try clear q187
         obtain ⟨x6_3, rfl, HA, HK3, ⟨m3, rfl⟩⟩ := hrel
         cases gk with
         | zero => exact absurd HA.out (by simp [cellarerref08_Same.l1])
         | succ k3 =>
          have H := HA.out
          clear HA
          simp only [cellarerref08_Same.l1] at H
          by_cases c11 : 0 ≤ x5_1
          ·rw [if_pos c11] at H
           have c11b0 : decide (0 ≤ x5_1) = true := decide_eq_true c11
           clear c11
           by_cases c12 : x5_1 < (l0.length : Int)
           ·rw [if_pos c12] at H
            have c12b0 : decide (x5_1 < (l0.length : Int)) = true := decide_eq_true c12
            clear c12
            by_cases c13 : x6_3 < (((rd_T101 l0 x5_1).f2).length : Int)
            ·rw [if_pos c13] at H
             have c13b0 : decide (x6_3 < (((rd_T101 l0 x5_1).f2).length : Int)) = true := decide_eq_true c13
             clear c13
             by_cases c14 : 0 ≤ x6_3
             ·rw [if_pos c14] at H
              have c14b0 : decide (0 ≤ x6_3) = true := decide_eq_true c14
              clear c14
              by_cases c15 : x5_1 < (l1.length : Int)
              ·rw [if_pos c15] at H
               have c15b0 : decide (x5_1 < (l1.length : Int)) = true := decide_eq_true c15
               clear c15
               by_cases c16 : x6_3 < (((rd_T101 l1 x5_1).f2).length : Int)
               ·rw [if_pos c16] at H
                have c16b0 : decide (x6_3 < (((rd_T101 l1 x5_1).f2).length : Int)) = true := decide_eq_true c16
                clear c16
                by_cases c17 : (!(((rd_T40 ((rd_T101 l0 x5_1).f2) x6_3).f0) == ((rd_T40 ((rd_T101 l1 x5_1).f2) x6_3).f0)) || (!((((rd_T40 ((rd_T101 l0 x5_1).f2) x6_3).f1).toList) == (((rd_T40 ((rd_T101 l1 x5_1).f2) x6_3).f1).toList)))) = true
                ·rw [if_pos c17] at H
                 have c17b0 : (!(((rd_T40 ((rd_T101 l0 x5_1).f2) x6_3).f0) == ((rd_T40 ((rd_T101 l1 x5_1).f2) x6_3).f0)) || (!((((rd_T40 ((rd_T101 l0 x5_1).f2) x6_3).f1).toList) == (((rd_T40 ((rd_T101 l1 x5_1).f2) x6_3).f1).toList)))) = true := c17
                 clear c17
                 obtain rfl := Option.some.inj H
                 have p188 : 0 ≤ (x5_1 : Int) := of_decide_eq_true (by first | (with_reducible assumption) | assumption)
                 have q188 : x5_1 < (l0.length : Int) := of_decide_eq_true (by first | (with_reducible assumption) | assumption)
                 obtain ⟨ad188, A188_2, c188_2, e188, hx188_0, hx188_1, hx188_2, hl188_2, hi188_2⟩ := at_T101 HR0.out x5_1 p188 q188
                 cases e188
                 have HR188_2 := Aside0.mk hi188_2
                 have HC188_2 := Aside0.mk hl188_2
                 clear hi188_2 hl188_2
                 replace p188 := eq_true p188
                 replace q188 := eq_true q188
                 have p189 : 0 ≤ (x5_1 : Int) := of_decide_eq_true (by first | (with_reducible assumption) | assumption)
                 have q189 : x5_1 < (l0.length : Int) := of_decide_eq_true (by first | (with_reducible assumption) | assumption)
                 obtain ⟨ad189, A189_2, c189_2, e189, hx189_0, hx189_1, hx189_2, hl189_2, hi189_2⟩ := at_T101 HR0.out x5_1 p189 q189
                 obtain rfl : ad188 = ad189 := (by injection e189)
                 have HR189_2 := Aside0.mk hi189_2
                 have HC189_2 := Aside0.mk hl189_2
                 clear hi189_2 hl189_2
                 replace p189 := eq_true p189
                 replace q189 := eq_true q189
                 have ea_ := Option.some.inj (hx188_2.symm.trans hx189_2)
                 injection ea_ with ea_ en_ ec_
                 subst ea_
                 subst ec_
                 clear en_
                 have p190 : 0 ≤ (x6_3 : Int) := of_decide_eq_true (by first | (with_reducible assumption) | assumption)
                 have q190 : x6_3 < (((rd_T101 l0 x5_1).f2).length : Int) := of_decide_eq_true (by first | (with_reducible assumption) | assumption)
                 obtain ⟨ad190, e190, hx190_0, hx190_1⟩ := at_T40 HR189_2.out x6_3 p190 q190
                 cases e190
                 replace p190 := eq_true p190
                 replace q190 := eq_true q190
                 have p191 : 0 ≤ (x5_1 : Int) := of_decide_eq_true (by first | (with_reducible assumption) | assumption)
                 have q191 : x5_1 < (l1.length : Int) := of_decide_eq_true (by first | (with_reducible assumption) | assumption)
                 obtain ⟨ad191, A191_2, c191_2, e191, hx191_0, hx191_1, hx191_2, hl191_2, hi191_2⟩ := at_T101 HR1.out x5_1 p191 q191
                 cases e191
                 have HR191_2 := Aside0.mk hi191_2
                 have HC191_2 := Aside0.mk hl191_2
                 clear hi191_2 hl191_2
                 replace p191 := eq_true p191
                 replace q191 := eq_true q191
                 have p192 : 0 ≤ (x6_3 : Int) := of_decide_eq_true (by first | (with_reducible assumption) | assumption)
                 have q192 : x6_3 < (((rd_T101 l1 x5_1).f2).length : Int) := of_decide_eq_true (by first | (with_reducible assumption) | assumption)
                 obtain ⟨ad192, e192, hx192_0, hx192_1⟩ := at_T40 HR191_2.out x6_3 p192 q192
                 cases e192
                 replace p192 := eq_true p192
                 replace q192 := eq_true q192
                 go_wp2
                 repeat (go_quiet (fail); try go_wp2)
                 go_ret
                 exact ⟨by first | rfl | (simp; done) | (simp [*]; done), by repeat (first | exact Drawn0.refl _ | apply Drawn0.step)⟩
                ·rw [if_neg c17] at H
                 have c17b0 : (!(((rd_T40 ((rd_T101 l0 x5_1).f2) x6_3).f0) == ((rd_T40 ((rd_T101 l1 x5_1).f2) x6_3).f0)) || (!((((rd_T40 ((rd_T101 l0 x5_1).f2) x6_3).f1).toList) == (((rd_T40 ((rd_T101 l1 x5_1).f2) x6_3).f1).toList)))) = false := by simpa using c17
                 clear c17
                 have H' := Aside0.mk H
                 clear H
                 have p188 : 0 ≤ (x5_1 : Int) := of_decide_eq_true (by first | (with_reducible assumption) | assumption)
                 have q188 : x5_1 < (l0.length : Int) := of_decide_eq_true (by first | (with_reducible assumption) | assumption)
                 obtain ⟨ad188, A188_2, c188_2, e188, hx188_0, hx188_1, hx188_2, hl188_2, hi188_2⟩ := at_T101 HR0.out x5_1 p188 q188
                 cases e188
                 have HR188_2 := Aside0.mk hi188_2
                 have HC188_2 := Aside0.mk hl188_2
                 clear hi188_2 hl188_2
                 replace p188 := eq_true p188
                 replace q188 := eq_true q188
                 have p189 : 0 ≤ (x5_1 : Int) := of_decide_eq_true (by first | (with_reducible assumption) | assumption)
                 have q189 : x5_1 < (l0.length : Int) := of_decide_eq_true (by first | (with_reducible assumption) | assumption)
                 obtain ⟨ad189, A189_2, c189_2, e189, hx189_0, hx189_1, hx189_2, hl189_2, hi189_2⟩ := at_T101 HR0.out x5_1 p189 q189
                 obtain rfl : ad188 = ad189 := (by injection e189)
                 have HR189_2 := Aside0.mk hi189_2
                 have HC189_2 := Aside0.mk hl189_2
                 clear hi189_2 hl189_2
                 replace p189 := eq_true p189
                 replace q189 := eq_true q189
                 have ea_ := Option.some.inj (hx188_2.symm.trans hx189_2)
                 injection ea_ with ea_ en_ ec_
                 subst ea_
                 subst ec_
                 clear en_
                 have p190 : 0 ≤ (x6_3 : Int) := of_decide_eq_true (by first | (with_reducible assumption) | assumption)
                 have q190 : x6_3 < (((rd_T101 l0 x5_1).f2).length : Int) := of_decide_eq_true (by first | (with_reducible assumption) | assumption)
                 obtain ⟨ad190, e190, hx190_0, hx190_1⟩ := at_T40 HR189_2.out x6_3 p190 q190
                 cases e190
                 replace p190 := eq_true p190
                 replace q190 := eq_true q190
                 have p191 : 0 ≤ (x5_1 : Int) := of_decide_eq_true (by first | (with_reducible assumption) | assumption)
                 have q191 : x5_1 < (l1.length : Int) := of_decide_eq_true (by first | (with_reducible assumption) | assumption)
                 obtain ⟨ad191, A191_2, c191_2, e191, hx191_0, hx191_1, hx191_2, hl191_2, hi191_2⟩ := at_T101 HR1.out x5_1 p191 q191
                 cases e191
                 have HR191_2 := Aside0.mk hi191_2
                 have HC191_2 := Aside0.mk hl191_2
                 clear hi191_2 hl191_2
                 replace p191 := eq_true p191
                 replace q191 := eq_true q191
                 have p192 : 0 ≤ (x6_3 : Int) := of_decide_eq_true (by first | (with_reducible assumption) | assumption)
                 have q192 : x6_3 < (((rd_T101 l1 x5_1).f2).length : Int) := of_decide_eq_true (by first | (with_reducible assumption) | assumption)
                 obtain ⟨ad192, e192, hx192_0, hx192_1⟩ := at_T40 HR191_2.out x6_3 p192 q192
                 cases e192
                 replace p192 := eq_true p192
                 replace q192 := eq_true q192
                 go_wp2
                 repeat (go_quiet (fail); try go_wp2)
                 go_roundg k3
                 case measure => have := HK1.out; have := HJ4.out; have := HK3.out; omega
                 case rel => exact ⟨(wrap64 (x6_3 + 1)), (by first | rfl | (simp; done) | (simp [*]; done)), H', ⟨by have := HK1.out; have := HJ4.out; have := HK3.out; omega⟩, by repeat (first | exact Drawn0.refl _ | apply Drawn0.step)⟩
               ·rw [if_neg c16] at H
                exact absurd H (by simp)
              ·rw [if_neg c15] at H
               exact absurd H (by simp)
             ·rw [if_neg c14] at H
              exact absurd H (by simp)
            ·rw [if_neg c13] at H
             have c13b0 : decide (x6_3 < (((rd_T101 l0 x5_1).f2).length : Int)) = false := decide_eq_false c13
             clear c13
             have H' := Aside0.mk H
             clear H
             have p188 : 0 ≤ (x5_1 : Int) := of_decide_eq_true (by first | (with_reducible assumption) | assumption)
             have q188 : x5_1 < (l0.length : Int) := of_decide_eq_true (by first | (with_reducible assumption) | assumption)
             obtain ⟨ad188, A188_2, c188_2, e188, hx188_0, hx188_1, hx188_2, hl188_2, hi188_2⟩ := at_T101 HR0.out x5_1 p188 q188
             cases e188
             have HR188_2 := Aside0.mk hi188_2
             have HC188_2 := Aside0.mk hl188_2
             clear hi188_2 hl188_2
             replace p188 := eq_true p188
             replace q188 := eq_true q188
             go_wp2
             repeat (go_quiet (fail); try go_wp2)
             go_roundg k3
             case measure => have := HK1.out; have := HJ4.out; have := HK3.out; omega
             case rel => exact ⟨(wrap64 (x5_1 + 1)), (by first | rfl | (simp; done) | (simp [*]; done)), H', ⟨by have := HK1.out; have := HJ4.out; have := HK3.out; omega⟩, by repeat (first | exact Drawn0.refl _ | apply Drawn0.step)⟩
           ·rw [if_neg c12] at H
            exact absurd H (by simp)
          ·rw [if_neg c11] at H
           exact absurd H (by simp)
    ·rw [if_neg c4] at H
     have c4b0 : decide (x5_1 < (l0.length : Int)) = false := decide_eq_false c4
     clear c4
     obtain rfl := Option.some.inj H
     go_wp2
     repeat (go_quiet (fail); try go_wp2)
     go_ret
     exact ⟨by first | rfl | (simp; done) | (simp [*]; done), by repeat (first | exact Drawn0.refl _ | apply Drawn0.step)⟩
 ·rw [if_neg c3] at H
  have c3b0 : ((l0.length : Int) == (l1.length : Int)) = false := beq_eq_false_iff_ne.mpr c3
  have c3b1 : ((l0.length : Int) != (l1.length : Int)) = true := bne_iff_ne.mpr c3
  have c3b2 : (l0.length == l1.length) = false := by first | simpa using c3 | (simp at c3 ⊢; omega)
  obtain rfl := Option.some.inj H
  go_enter Tryz.func38, Tryz.ntmps38
  go_wp2
  repeat (go_quiet (fail); try go_wp2)
  go_ret
  exact ⟨by first | rfl | (simp; done) | (simp [*]; done), by repeat (first | exact Drawn0.refl _ | apply Drawn0.step)⟩

/-! ### cellarerref09_Same: function 13 -/
def cellarerref09_Same.f (k : Nat) (a0_0 : ByteArray) (a0_1 : Int) (l0_2 : List (S56)) (l0_3 : List (S101)) (a0_4 : Int) (a1_0 : ByteArray) (a1_1 : Int) (l1_2 : List (S56)) (l1_3 : List (S101)) (a1_4 : Int) : Option (Bool) := if a0_0.toList = a1_0.toList then (if a0_1 = a1_1 then (if a0_4 = a1_4 then ((cellarerref06_Same.f k l0_2 l1_2).bind fun t195 => (if t195 = true then ((cellarerref08_Same.f k l0_3 l1_3).bind fun t196 => (some t196)) else (some false))) else (some false)) else (some false)) else (some false)
set_option maxHeartbeats 8000000 in
set_option maxRecDepth 100000 in
theorem cellarerref09_Same.calls (k : Nat) (a0_0 : ByteArray) (a0_1 : Int) (A0_2 : Option Addr) (c0_2 : Nat) (l0_2 : List (S56)) (A0_3 : Option Addr) (c0_3 : Nat) (l0_3 : List (S101)) (a0_4 : Int) (a1_0 : ByteArray) (a1_1 : Int) (A1_2 : Option Addr) (c1_2 : Nat) (l1_2 : List (S56)) (A1_3 : Option Addr) (c1_3 : Nat) (l1_3 : List (S101)) (a1_4 : Int) (r : Bool) (w : World) (hr0_2 : Kd.C k56 w A0_2 l0_2.length l0_2) (hc0_2 : l0_2.length ≤ c0_2) (hr0_3 : Kd.C k101 w A0_3 l0_3.length l0_3) (hc0_3 : l0_3.length ≤ c0_3) (hr1_2 : Kd.C k56 w A1_2 l1_2.length l1_2) (hc1_2 : l1_2.length ≤ c1_2) (hr1_3 : Kd.C k101 w A1_3 l1_3.length l1_3) (hc1_3 : l1_3.length ≤ c1_3) (h : cellarerref09_Same.f k a0_0 a0_1 l0_2 l0_3 a0_4 a1_0 a1_1 l1_2 l1_3 a1_4 = some r) :
  Calls Tryz.prog 13 #[.agg #[.string a0_0, .int .i64 a0_1, .slice A0_2 l0_2.length c0_2, .slice A0_3 l0_3.length c0_3, .int .u64 a0_4], .agg #[.string a1_0, .int .i64 a1_1, .slice A1_2 l1_2.length c1_2, .slice A1_3 l1_3.length c1_3, .int .u64 a1_4]] w fun e w' => e = .returned (.bool r) ∧ Below w.heap.size w w' := by
 have hu26 := Tryz.underlying26
 have HR0_2 := Aside0.mk hr0_2
 have HC0_2 := Aside0.mk hc0_2
 clear hr0_2 hc0_2
 have HR0_3 := Aside0.mk hr0_3
 have HC0_3 := Aside0.mk hc0_3
 clear hr0_3 hc0_3
 have HR1_2 := Aside0.mk hr1_2
 have HC1_2 := Aside0.mk hc1_2
 clear hr1_2 hc1_2
 have HR1_3 := Aside0.mk hr1_3
 have HC1_3 := Aside0.mk hc1_3
 clear hr1_3 hc1_3
 have HB := Aside0.mk (Below.refl w.heap.size w)
 have H : (if a0_0.toList = a1_0.toList then (if a0_1 = a1_1 then (if a0_4 = a1_4 then ((cellarerref06_Same.f k l0_2 l1_2).bind fun t195 => (if t195 = true then ((cellarerref08_Same.f k l0_3 l1_3).bind fun t196 => (some t196)) else (some false))) else (some false)) else (some false)) else (some false)) = some r := h
 clear h
 by_cases c3 : a0_0.toList = a1_0.toList
 ·rw [if_pos c3] at H
  have c3b0 : (a0_0.toList == a1_0.toList) = true := beq_iff_eq.mpr c3
  have c3b1 : (a0_0.toList != a1_0.toList) = false := bne_eq_false_iff_eq.mpr c3
  clear c3
  by_cases c4 : a0_1 = a1_1
  ·rw [if_pos c4] at H
   have c4b0 : (a0_1 == a1_1) = true := beq_iff_eq.mpr c4
   have c4b1 : (a0_1 != a1_1) = false := bne_eq_false_iff_eq.mpr c4
   clear c4
   by_cases c5 : a0_4 = a1_4
   ·rw [if_pos c5] at H
    have c5b0 : (a0_4 == a1_4) = true := beq_iff_eq.mpr c5
    have c5b1 : (a0_4 != a1_4) = false := bne_eq_false_iff_eq.mpr c5
    clear c5
    replace H := Option.bind_eq_some_iff.mp H
    obtain ⟨t195, A60, H⟩ := H
    replace H : (if t195 = true then ((cellarerref08_Same.f k l0_3 l1_3).bind fun t196 => (some t196)) else (some false)) = some r := H
    have A6 := Aside0.mk A60
    clear A60
    by_cases c7 : t195 = true
    ·subst c7
     have H1 : ((cellarerref08_Same.f k l0_3 l1_3).bind fun t196 => (some t196)) = some r := by rw [if_pos rfl] at H; exact H
     clear H
     have H := H1
     clear H1
     replace H := Option.bind_eq_some_iff.mp H
     obtain ⟨t196, A80, H⟩ := H
     replace H : (some t196) = some r := H
     have A8 := Aside0.mk A80
     clear A80
     obtain rfl := Option.some.inj H
     go_enter Tryz.func13, Tryz.ntmps13
     go_wp2_with (first | ((with_reducible refine gate_dst (N := 2) rfl ?_); refine box_event ?hg (N := 2) ?hd (cs := #[.string a0_0, .int .i64 a0_1, .slice A0_2 l0_2.length c0_2, .slice A0_3 l0_3.length c0_3, .int .u64 a0_4]) (t := 26) ?hr ?_; (case hd => rfl); (case hg => rfl); (case hr => first | (go_simp; done) | (go_simp; rfl)); intro gb193 hg w9 hbox hb; have n0_ := Aside0.mk (below_step (by repeat (first | (with_reducible first | exact HB.out | apply below_alloc | apply pw_below_drewN | apply below_drew1) | exact HB.out)) hb); have n1_ := Aside0.mk (hbox); have n2_ := Aside0.mk ((by rw [hg]; exact (below_size (by repeat (first | (with_reducible first | exact HB.out | apply below_alloc | apply pw_below_drewN | apply below_drew1) | exact HB.out))) : w.heap.size ≤ gb193)); have n3_ := Aside0.mk ((by rw [hg]; exact (below_size (by repeat (first | (with_reducible first | exact HB.out | apply below_alloc | apply pw_below_drewN | apply below_drew1) | exact HB.out))) : w.heap.size ≤ gb193)); clear HB; have HB := n0_; have BK193 := n1_; have GW193 := n2_; have GE193 := n3_; clear n0_ n1_ n2_ n3_; clear hb hbox hg) | ((with_reducible refine gate_dst (N := 3) rfl ?_); refine box_event ?hg (N := 3) ?hd (cs := #[.string a1_0, .int .i64 a1_1, .slice A1_2 l1_2.length c1_2, .slice A1_3 l1_3.length c1_3, .int .u64 a1_4]) (t := 26) ?hr ?_; (case hd => rfl); (case hg => rfl); (case hr => first | (go_simp; done) | (go_simp; rfl)); intro gb194 hg w10 hbox hb; have n0_ := Aside0.mk (blk_below (g := gb193) (o := .cells #[.string a0_0, .int .i64 a0_1, .slice A0_2 l0_2.length c0_2, .slice A0_3 l0_3.length c0_3, .int .u64 a0_4] 26 (0, 0)) (by (with_reducible repeat (first | refine blk_drewN ?_ _ | refine blk_drew ?_ | refine blk_alloc ?_ _)); exact BK193.out) hb); have n1_ := Aside0.mk (below_step (by repeat (first | (with_reducible first | exact HB.out | apply below_alloc | apply pw_below_drewN | apply below_drew1 | refine below_set ?_ GE193.out) | exact HB.out)) hb); have n2_ := Aside0.mk (hbox); have n3_ := Aside0.mk ((by rw [hg]; exact (below_size (by repeat (first | (with_reducible first | exact HB.out | apply below_alloc | apply pw_below_drewN | apply below_drew1 | refine below_set ?_ GE193.out) | exact HB.out))) : w.heap.size ≤ gb194)); have n4_ := Aside0.mk ((by rw [hg]; exact (below_size (by repeat (first | (with_reducible first | exact HB.out | apply below_alloc | apply pw_below_drewN | apply below_drew1 | refine below_set ?_ GE193.out) | exact HB.out))) : w.heap.size ≤ gb194)); have n5_ := Aside0.mk ((by rw [hg]; exact Nat.ne_of_lt (blk_lt (g := gb193) (o := .cells #[.string a0_0, .int .i64 a0_1, .slice A0_2 l0_2.length c0_2, .slice A0_3 l0_3.length c0_3, .int .u64 a0_4] 26 (0, 0)) (by (with_reducible repeat (first | refine blk_drewN ?_ _ | refine blk_drew ?_ | refine blk_alloc ?_ _)); exact BK193.out)) : gb193 ≠ gb194)); have n6_ := Aside0.mk ((by rw [hg]; exact Nat.ne_of_gt (blk_lt (g := gb193) (o := .cells #[.string a0_0, .int .i64 a0_1, .slice A0_2 l0_2.length c0_2, .slice A0_3 l0_3.length c0_3, .int .u64 a0_4] 26 (0, 0)) (by (with_reducible repeat (first | refine blk_drewN ?_ _ | refine blk_drew ?_ | refine blk_alloc ?_ _)); exact BK193.out)) : gb194 ≠ gb193)); clear BK193; clear HB; have BK193 := n0_; have HB := n1_; have BK194 := n2_; have GW194 := n3_; have GE194 := n4_; have NB193_194 := n5_; have NB194_193 := n6_; clear n0_ n1_ n2_ n3_ n4_ n5_ n6_; clear hb hbox hg; have hnb11 := NB193_194.out; have hnc11 := NB194_193.out; have hcz12_0 : w10.cell? ⟨gb193, 0, none⟩ = some (.string a0_0) := (blk_cell BK193.out 0).trans rfl; have hcz12_1 : w10.cell? ⟨gb193, 1, none⟩ = some (.int .i64 a0_1) := (blk_cell BK193.out 1).trans rfl; have hcz12_2 : w10.cell? ⟨gb193, 2, none⟩ = some (.slice A0_2 l0_2.length c0_2) := (blk_cell BK193.out 2).trans rfl; have hcz12_3 : w10.cell? ⟨gb193, 3, none⟩ = some (.slice A0_3 l0_3.length c0_3) := (blk_cell BK193.out 3).trans rfl; have hcz12_4 : w10.cell? ⟨gb193, 4, none⟩ = some (.int .u64 a0_4) := (blk_cell BK193.out 4).trans rfl; have hfz12_0 := blk_frozen BK193.out 0; have hfz12_1 := blk_frozen BK193.out 1; have hfz12_2 := blk_frozen BK193.out 2; have hfz12_3 := blk_frozen BK193.out 3; have hfz12_4 := blk_frozen BK193.out 4; have hcz13_0 : w10.cell? ⟨gb194, 0, none⟩ = some (.string a1_0) := (blk_cell BK194.out 0).trans rfl; have hcz13_1 : w10.cell? ⟨gb194, 1, none⟩ = some (.int .i64 a1_1) := (blk_cell BK194.out 1).trans rfl; have hcz13_2 : w10.cell? ⟨gb194, 2, none⟩ = some (.slice A1_2 l1_2.length c1_2) := (blk_cell BK194.out 2).trans rfl; have hcz13_3 : w10.cell? ⟨gb194, 3, none⟩ = some (.slice A1_3 l1_3.length c1_3) := (blk_cell BK194.out 3).trans rfl; have hcz13_4 : w10.cell? ⟨gb194, 4, none⟩ = some (.int .u64 a1_4) := (blk_cell BK194.out 4).trans rfl; have hfz13_0 := blk_frozen BK194.out 0; have hfz13_1 := blk_frozen BK194.out 1; have hfz13_2 := blk_frozen BK194.out 2; have hfz13_3 := blk_frozen BK194.out 3; have hfz13_4 := blk_frozen BK194.out 4) | (go_at_call 37; (with_reducible refine (cellarerref06_Same.calls k _ _ l0_2 _ _ l1_2 true _ ?side1 ?side2 ?side3 ?side4 A6.out).mono ?_); (case side1 => repeat (first | exact (Kd.C_below HR0_2.out HB.out) | (with_reducible refine Kd.C_alloc ?_ _) | (with_reducible refine Kd.C_drewN ?_ _) | (with_reducible refine Kd.C_drew ?_))); (case side2 => exact HC0_2.out); (case side3 => repeat (first | exact (Kd.C_below HR1_2.out HB.out) | (with_reducible refine Kd.C_alloc ?_ _) | (with_reducible refine Kd.C_drewN ?_ _) | (with_reducible refine Kd.C_drew ?_))); (case side4 => exact HC1_2.out); rintro e w' ⟨rfl, ⟨nd, rfl⟩⟩) | (go_at_call 38; (with_reducible refine (cellarerref08_Same.calls k _ _ l0_3 _ _ l1_3 t196 _ ?side1 ?side2 ?side3 ?side4 A8.out).mono ?_); (case side1 => repeat (first | exact (Kd.C_below HR0_3.out (by repeat (first | (with_reducible first | exact HB.out | apply below_alloc | apply pw_below_drewN | apply below_drew1 | refine below_set ?_ GE193.out | refine below_set ?_ GE194.out) | exact HB.out))) | (with_reducible refine Kd.C_alloc ?_ _) | (with_reducible refine Kd.C_drewN ?_ _) | (with_reducible refine Kd.C_drew ?_))); (case side2 => exact HC0_3.out); (case side3 => repeat (first | exact (Kd.C_below HR1_3.out (by repeat (first | (with_reducible first | exact HB.out | apply below_alloc | apply pw_below_drewN | apply below_drew1 | refine below_set ?_ GE193.out | refine below_set ?_ GE194.out) | exact HB.out))) | (with_reducible refine Kd.C_alloc ?_ _) | (with_reducible refine Kd.C_drewN ?_ _) | (with_reducible refine Kd.C_drew ?_))); (case side4 => exact HC1_3.out); rintro e w' ⟨rfl, ⟨nd, rfl⟩⟩))
     go_ret
     exact ⟨by first | rfl | (simp [errW_none, errW_some] <;> rfl) | (simp [*, errW_none, errW_some] <;> rfl), by repeat (first | (with_reducible first | exact HB.out | apply below_alloc | apply pw_below_drewN | apply below_drew1 | refine below_set ?_ GE193.out | refine below_set ?_ GE194.out) | exact HB.out)⟩
    ·replace c7 := Bool.eq_false_iff.mpr c7
     subst c7
     have H1 : (some false) = some r := by rw [if_neg (show ¬ (false = true) by decide)] at H; exact H
     clear H
     have H := H1
     clear H1
     obtain rfl := Option.some.inj H
     go_enter Tryz.func13, Tryz.ntmps13
     go_wp2_with (first | ((with_reducible refine gate_dst (N := 2) rfl ?_); refine box_event ?hg (N := 2) ?hd (cs := #[.string a0_0, .int .i64 a0_1, .slice A0_2 l0_2.length c0_2, .slice A0_3 l0_3.length c0_3, .int .u64 a0_4]) (t := 26) ?hr ?_; (case hd => rfl); (case hg => rfl); (case hr => first | (go_simp; done) | (go_simp; rfl)); intro gb193 hg w14 hbox hb; have n0_ := Aside0.mk (below_step (by repeat (first | (with_reducible first | exact HB.out | apply below_alloc | apply pw_below_drewN | apply below_drew1) | exact HB.out)) hb); have n1_ := Aside0.mk (hbox); have n2_ := Aside0.mk ((by rw [hg]; exact (below_size (by repeat (first | (with_reducible first | exact HB.out | apply below_alloc | apply pw_below_drewN | apply below_drew1) | exact HB.out))) : w.heap.size ≤ gb193)); have n3_ := Aside0.mk ((by rw [hg]; exact (below_size (by repeat (first | (with_reducible first | exact HB.out | apply below_alloc | apply pw_below_drewN | apply below_drew1) | exact HB.out))) : w.heap.size ≤ gb193)); clear HB; have HB := n0_; have BK193 := n1_; have GW193 := n2_; have GE193 := n3_; clear n0_ n1_ n2_ n3_; clear hb hbox hg) | ((with_reducible refine gate_dst (N := 3) rfl ?_); refine box_event ?hg (N := 3) ?hd (cs := #[.string a1_0, .int .i64 a1_1, .slice A1_2 l1_2.length c1_2, .slice A1_3 l1_3.length c1_3, .int .u64 a1_4]) (t := 26) ?hr ?_; (case hd => rfl); (case hg => rfl); (case hr => first | (go_simp; done) | (go_simp; rfl)); intro gb194 hg w15 hbox hb; have n0_ := Aside0.mk (blk_below (g := gb193) (o := .cells #[.string a0_0, .int .i64 a0_1, .slice A0_2 l0_2.length c0_2, .slice A0_3 l0_3.length c0_3, .int .u64 a0_4] 26 (0, 0)) (by (with_reducible repeat (first | refine blk_drewN ?_ _ | refine blk_drew ?_ | refine blk_alloc ?_ _)); exact BK193.out) hb); have n1_ := Aside0.mk (below_step (by repeat (first | (with_reducible first | exact HB.out | apply below_alloc | apply pw_below_drewN | apply below_drew1 | refine below_set ?_ GE193.out) | exact HB.out)) hb); have n2_ := Aside0.mk (hbox); have n3_ := Aside0.mk ((by rw [hg]; exact (below_size (by repeat (first | (with_reducible first | exact HB.out | apply below_alloc | apply pw_below_drewN | apply below_drew1 | refine below_set ?_ GE193.out) | exact HB.out))) : w.heap.size ≤ gb194)); have n4_ := Aside0.mk ((by rw [hg]; exact (below_size (by repeat (first | (with_reducible first | exact HB.out | apply below_alloc | apply pw_below_drewN | apply below_drew1 | refine below_set ?_ GE193.out) | exact HB.out))) : w.heap.size ≤ gb194)); have n5_ := Aside0.mk ((by rw [hg]; exact Nat.ne_of_lt (blk_lt (g := gb193) (o := .cells #[.string a0_0, .int .i64 a0_1, .slice A0_2 l0_2.length c0_2, .slice A0_3 l0_3.length c0_3, .int .u64 a0_4] 26 (0, 0)) (by (with_reducible repeat (first | refine blk_drewN ?_ _ | refine blk_drew ?_ | refine blk_alloc ?_ _)); exact BK193.out)) : gb193 ≠ gb194)); have n6_ := Aside0.mk ((by rw [hg]; exact Nat.ne_of_gt (blk_lt (g := gb193) (o := .cells #[.string a0_0, .int .i64 a0_1, .slice A0_2 l0_2.length c0_2, .slice A0_3 l0_3.length c0_3, .int .u64 a0_4] 26 (0, 0)) (by (with_reducible repeat (first | refine blk_drewN ?_ _ | refine blk_drew ?_ | refine blk_alloc ?_ _)); exact BK193.out)) : gb194 ≠ gb193)); clear BK193; clear HB; have BK193 := n0_; have HB := n1_; have BK194 := n2_; have GW194 := n3_; have GE194 := n4_; have NB193_194 := n5_; have NB194_193 := n6_; clear n0_ n1_ n2_ n3_ n4_ n5_ n6_; clear hb hbox hg; have hnb16 := NB193_194.out; have hnc16 := NB194_193.out; have hcz17_0 : w15.cell? ⟨gb193, 0, none⟩ = some (.string a0_0) := (blk_cell BK193.out 0).trans rfl; have hcz17_1 : w15.cell? ⟨gb193, 1, none⟩ = some (.int .i64 a0_1) := (blk_cell BK193.out 1).trans rfl; have hcz17_2 : w15.cell? ⟨gb193, 2, none⟩ = some (.slice A0_2 l0_2.length c0_2) := (blk_cell BK193.out 2).trans rfl; have hcz17_3 : w15.cell? ⟨gb193, 3, none⟩ = some (.slice A0_3 l0_3.length c0_3) := (blk_cell BK193.out 3).trans rfl; have hcz17_4 : w15.cell? ⟨gb193, 4, none⟩ = some (.int .u64 a0_4) := (blk_cell BK193.out 4).trans rfl; have hfz17_0 := blk_frozen BK193.out 0; have hfz17_1 := blk_frozen BK193.out 1; have hfz17_2 := blk_frozen BK193.out 2; have hfz17_3 := blk_frozen BK193.out 3; have hfz17_4 := blk_frozen BK193.out 4; have hcz18_0 : w15.cell? ⟨gb194, 0, none⟩ = some (.string a1_0) := (blk_cell BK194.out 0).trans rfl; have hcz18_1 : w15.cell? ⟨gb194, 1, none⟩ = some (.int .i64 a1_1) := (blk_cell BK194.out 1).trans rfl; have hcz18_2 : w15.cell? ⟨gb194, 2, none⟩ = some (.slice A1_2 l1_2.length c1_2) := (blk_cell BK194.out 2).trans rfl; have hcz18_3 : w15.cell? ⟨gb194, 3, none⟩ = some (.slice A1_3 l1_3.length c1_3) := (blk_cell BK194.out 3).trans rfl; have hcz18_4 : w15.cell? ⟨gb194, 4, none⟩ = some (.int .u64 a1_4) := (blk_cell BK194.out 4).trans rfl; have hfz18_0 := blk_frozen BK194.out 0; have hfz18_1 := blk_frozen BK194.out 1; have hfz18_2 := blk_frozen BK194.out 2; have hfz18_3 := blk_frozen BK194.out 3; have hfz18_4 := blk_frozen BK194.out 4) | (go_at_call 37; (with_reducible refine (cellarerref06_Same.calls k _ _ l0_2 _ _ l1_2 false _ ?side1 ?side2 ?side3 ?side4 A6.out).mono ?_); (case side1 => repeat (first | exact (Kd.C_below HR0_2.out HB.out) | (with_reducible refine Kd.C_alloc ?_ _) | (with_reducible refine Kd.C_drewN ?_ _) | (with_reducible refine Kd.C_drew ?_))); (case side2 => exact HC0_2.out); (case side3 => repeat (first | exact (Kd.C_below HR1_2.out HB.out) | (with_reducible refine Kd.C_alloc ?_ _) | (with_reducible refine Kd.C_drewN ?_ _) | (with_reducible refine Kd.C_drew ?_))); (case side4 => exact HC1_2.out); rintro e w' ⟨rfl, ⟨nd, rfl⟩⟩))
     go_ret
     exact ⟨by first | rfl | (simp [errW_none, errW_some] <;> rfl) | (simp [*, errW_none, errW_some] <;> rfl), by repeat (first | (with_reducible first | exact HB.out | apply below_alloc | apply pw_below_drewN | apply below_drew1 | refine below_set ?_ GE193.out | refine below_set ?_ GE194.out) | exact HB.out)⟩
   ·rw [if_neg c5] at H
    have c5b0 : (a0_4 == a1_4) = false := beq_eq_false_iff_ne.mpr c5
    have c5b1 : (a0_4 != a1_4) = true := bne_iff_ne.mpr c5
    obtain rfl := Option.some.inj H
    go_enter Tryz.func13, Tryz.ntmps13
    go_wp2_with (first | ((with_reducible refine gate_dst (N := 2) rfl ?_); refine box_event ?hg (N := 2) ?hd (cs := #[.string a0_0, .int .i64 a0_1, .slice A0_2 l0_2.length c0_2, .slice A0_3 l0_3.length c0_3, .int .u64 a0_4]) (t := 26) ?hr ?_; (case hd => rfl); (case hg => rfl); (case hr => first | (go_simp; done) | (go_simp; rfl)); intro gb193 hg w19 hbox hb; have n0_ := Aside0.mk (below_step (by repeat (first | (with_reducible first | exact HB.out | apply below_alloc | apply pw_below_drewN | apply below_drew1) | exact HB.out)) hb); have n1_ := Aside0.mk (hbox); have n2_ := Aside0.mk ((by rw [hg]; exact (below_size (by repeat (first | (with_reducible first | exact HB.out | apply below_alloc | apply pw_below_drewN | apply below_drew1) | exact HB.out))) : w.heap.size ≤ gb193)); have n3_ := Aside0.mk ((by rw [hg]; exact (below_size (by repeat (first | (with_reducible first | exact HB.out | apply below_alloc | apply pw_below_drewN | apply below_drew1) | exact HB.out))) : w.heap.size ≤ gb193)); clear HB; have HB := n0_; have BK193 := n1_; have GW193 := n2_; have GE193 := n3_; clear n0_ n1_ n2_ n3_; clear hb hbox hg) | ((with_reducible refine gate_dst (N := 3) rfl ?_); refine box_event ?hg (N := 3) ?hd (cs := #[.string a1_0, .int .i64 a1_1, .slice A1_2 l1_2.length c1_2, .slice A1_3 l1_3.length c1_3, .int .u64 a1_4]) (t := 26) ?hr ?_; (case hd => rfl); (case hg => rfl); (case hr => first | (go_simp; done) | (go_simp; rfl)); intro gb194 hg w20 hbox hb; have n0_ := Aside0.mk (blk_below (g := gb193) (o := .cells #[.string a0_0, .int .i64 a0_1, .slice A0_2 l0_2.length c0_2, .slice A0_3 l0_3.length c0_3, .int .u64 a0_4] 26 (0, 0)) (by (with_reducible repeat (first | refine blk_drewN ?_ _ | refine blk_drew ?_ | refine blk_alloc ?_ _)); exact BK193.out) hb); have n1_ := Aside0.mk (below_step (by repeat (first | (with_reducible first | exact HB.out | apply below_alloc | apply pw_below_drewN | apply below_drew1 | refine below_set ?_ GE193.out) | exact HB.out)) hb); have n2_ := Aside0.mk (hbox); have n3_ := Aside0.mk ((by rw [hg]; exact (below_size (by repeat (first | (with_reducible first | exact HB.out | apply below_alloc | apply pw_below_drewN | apply below_drew1 | refine below_set ?_ GE193.out) | exact HB.out))) : w.heap.size ≤ gb194)); have n4_ := Aside0.mk ((by rw [hg]; exact (below_size (by repeat (first | (with_reducible first | exact HB.out | apply below_alloc | apply pw_below_drewN | apply below_drew1 | refine below_set ?_ GE193.out) | exact HB.out))) : w.heap.size ≤ gb194)); have n5_ := Aside0.mk ((by rw [hg]; exact Nat.ne_of_lt (blk_lt (g := gb193) (o := .cells #[.string a0_0, .int .i64 a0_1, .slice A0_2 l0_2.length c0_2, .slice A0_3 l0_3.length c0_3, .int .u64 a0_4] 26 (0, 0)) (by (with_reducible repeat (first | refine blk_drewN ?_ _ | refine blk_drew ?_ | refine blk_alloc ?_ _)); exact BK193.out)) : gb193 ≠ gb194)); have n6_ := Aside0.mk ((by rw [hg]; exact Nat.ne_of_gt (blk_lt (g := gb193) (o := .cells #[.string a0_0, .int .i64 a0_1, .slice A0_2 l0_2.length c0_2, .slice A0_3 l0_3.length c0_3, .int .u64 a0_4] 26 (0, 0)) (by (with_reducible repeat (first | refine blk_drewN ?_ _ | refine blk_drew ?_ | refine blk_alloc ?_ _)); exact BK193.out)) : gb194 ≠ gb193)); clear BK193; clear HB; have BK193 := n0_; have HB := n1_; have BK194 := n2_; have GW194 := n3_; have GE194 := n4_; have NB193_194 := n5_; have NB194_193 := n6_; clear n0_ n1_ n2_ n3_ n4_ n5_ n6_; clear hb hbox hg; have hnb21 := NB193_194.out; have hnc21 := NB194_193.out; have hcz22_0 : w20.cell? ⟨gb193, 0, none⟩ = some (.string a0_0) := (blk_cell BK193.out 0).trans rfl; have hcz22_1 : w20.cell? ⟨gb193, 1, none⟩ = some (.int .i64 a0_1) := (blk_cell BK193.out 1).trans rfl; have hcz22_2 : w20.cell? ⟨gb193, 2, none⟩ = some (.slice A0_2 l0_2.length c0_2) := (blk_cell BK193.out 2).trans rfl; have hcz22_3 : w20.cell? ⟨gb193, 3, none⟩ = some (.slice A0_3 l0_3.length c0_3) := (blk_cell BK193.out 3).trans rfl; have hcz22_4 : w20.cell? ⟨gb193, 4, none⟩ = some (.int .u64 a0_4) := (blk_cell BK193.out 4).trans rfl; have hfz22_0 := blk_frozen BK193.out 0; have hfz22_1 := blk_frozen BK193.out 1; have hfz22_2 := blk_frozen BK193.out 2; have hfz22_3 := blk_frozen BK193.out 3; have hfz22_4 := blk_frozen BK193.out 4; have hcz23_0 : w20.cell? ⟨gb194, 0, none⟩ = some (.string a1_0) := (blk_cell BK194.out 0).trans rfl; have hcz23_1 : w20.cell? ⟨gb194, 1, none⟩ = some (.int .i64 a1_1) := (blk_cell BK194.out 1).trans rfl; have hcz23_2 : w20.cell? ⟨gb194, 2, none⟩ = some (.slice A1_2 l1_2.length c1_2) := (blk_cell BK194.out 2).trans rfl; have hcz23_3 : w20.cell? ⟨gb194, 3, none⟩ = some (.slice A1_3 l1_3.length c1_3) := (blk_cell BK194.out 3).trans rfl; have hcz23_4 : w20.cell? ⟨gb194, 4, none⟩ = some (.int .u64 a1_4) := (blk_cell BK194.out 4).trans rfl; have hfz23_0 := blk_frozen BK194.out 0; have hfz23_1 := blk_frozen BK194.out 1; have hfz23_2 := blk_frozen BK194.out 2; have hfz23_3 := blk_frozen BK194.out 3; have hfz23_4 := blk_frozen BK194.out 4))
    go_ret
    exact ⟨by first | rfl | (simp [errW_none, errW_some] <;> rfl) | (simp [*, errW_none, errW_some] <;> rfl), by repeat (first | (with_reducible first | exact HB.out | apply below_alloc | apply pw_below_drewN | apply below_drew1 | refine below_set ?_ GE193.out | refine below_set ?_ GE194.out) | exact HB.out)⟩
  ·rw [if_neg c4] at H
   have c4b0 : (a0_1 == a1_1) = false := beq_eq_false_iff_ne.mpr c4
   have c4b1 : (a0_1 != a1_1) = true := bne_iff_ne.mpr c4
   obtain rfl := Option.some.inj H
   go_enter Tryz.func13, Tryz.ntmps13
   go_wp2_with (first | ((with_reducible refine gate_dst (N := 2) rfl ?_); refine box_event ?hg (N := 2) ?hd (cs := #[.string a0_0, .int .i64 a0_1, .slice A0_2 l0_2.length c0_2, .slice A0_3 l0_3.length c0_3, .int .u64 a0_4]) (t := 26) ?hr ?_; (case hd => rfl); (case hg => rfl); (case hr => first | (go_simp; done) | (go_simp; rfl)); intro gb193 hg w24 hbox hb; have n0_ := Aside0.mk (below_step (by repeat (first | (with_reducible first | exact HB.out | apply below_alloc | apply pw_below_drewN | apply below_drew1) | exact HB.out)) hb); have n1_ := Aside0.mk (hbox); have n2_ := Aside0.mk ((by rw [hg]; exact (below_size (by repeat (first | (with_reducible first | exact HB.out | apply below_alloc | apply pw_below_drewN | apply below_drew1) | exact HB.out))) : w.heap.size ≤ gb193)); have n3_ := Aside0.mk ((by rw [hg]; exact (below_size (by repeat (first | (with_reducible first | exact HB.out | apply below_alloc | apply pw_below_drewN | apply below_drew1) | exact HB.out))) : w.heap.size ≤ gb193)); clear HB; have HB := n0_; have BK193 := n1_; have GW193 := n2_; have GE193 := n3_; clear n0_ n1_ n2_ n3_; clear hb hbox hg) | ((with_reducible refine gate_dst (N := 3) rfl ?_); refine box_event ?hg (N := 3) ?hd (cs := #[.string a1_0, .int .i64 a1_1, .slice A1_2 l1_2.length c1_2, .slice A1_3 l1_3.length c1_3, .int .u64 a1_4]) (t := 26) ?hr ?_; (case hd => rfl); (case hg => rfl); (case hr => first | (go_simp; done) | (go_simp; rfl)); intro gb194 hg w25 hbox hb; have n0_ := Aside0.mk (blk_below (g := gb193) (o := .cells #[.string a0_0, .int .i64 a0_1, .slice A0_2 l0_2.length c0_2, .slice A0_3 l0_3.length c0_3, .int .u64 a0_4] 26 (0, 0)) (by (with_reducible repeat (first | refine blk_drewN ?_ _ | refine blk_drew ?_ | refine blk_alloc ?_ _)); exact BK193.out) hb); have n1_ := Aside0.mk (below_step (by repeat (first | (with_reducible first | exact HB.out | apply below_alloc | apply pw_below_drewN | apply below_drew1 | refine below_set ?_ GE193.out) | exact HB.out)) hb); have n2_ := Aside0.mk (hbox); have n3_ := Aside0.mk ((by rw [hg]; exact (below_size (by repeat (first | (with_reducible first | exact HB.out | apply below_alloc | apply pw_below_drewN | apply below_drew1 | refine below_set ?_ GE193.out) | exact HB.out))) : w.heap.size ≤ gb194)); have n4_ := Aside0.mk ((by rw [hg]; exact (below_size (by repeat (first | (with_reducible first | exact HB.out | apply below_alloc | apply pw_below_drewN | apply below_drew1 | refine below_set ?_ GE193.out) | exact HB.out))) : w.heap.size ≤ gb194)); have n5_ := Aside0.mk ((by rw [hg]; exact Nat.ne_of_lt (blk_lt (g := gb193) (o := .cells #[.string a0_0, .int .i64 a0_1, .slice A0_2 l0_2.length c0_2, .slice A0_3 l0_3.length c0_3, .int .u64 a0_4] 26 (0, 0)) (by (with_reducible repeat (first | refine blk_drewN ?_ _ | refine blk_drew ?_ | refine blk_alloc ?_ _)); exact BK193.out)) : gb193 ≠ gb194)); have n6_ := Aside0.mk ((by rw [hg]; exact Nat.ne_of_gt (blk_lt (g := gb193) (o := .cells #[.string a0_0, .int .i64 a0_1, .slice A0_2 l0_2.length c0_2, .slice A0_3 l0_3.length c0_3, .int .u64 a0_4] 26 (0, 0)) (by (with_reducible repeat (first | refine blk_drewN ?_ _ | refine blk_drew ?_ | refine blk_alloc ?_ _)); exact BK193.out)) : gb194 ≠ gb193)); clear BK193; clear HB; have BK193 := n0_; have HB := n1_; have BK194 := n2_; have GW194 := n3_; have GE194 := n4_; have NB193_194 := n5_; have NB194_193 := n6_; clear n0_ n1_ n2_ n3_ n4_ n5_ n6_; clear hb hbox hg; have hnb26 := NB193_194.out; have hnc26 := NB194_193.out; have hcz27_0 : w25.cell? ⟨gb193, 0, none⟩ = some (.string a0_0) := (blk_cell BK193.out 0).trans rfl; have hcz27_1 : w25.cell? ⟨gb193, 1, none⟩ = some (.int .i64 a0_1) := (blk_cell BK193.out 1).trans rfl; have hcz27_2 : w25.cell? ⟨gb193, 2, none⟩ = some (.slice A0_2 l0_2.length c0_2) := (blk_cell BK193.out 2).trans rfl; have hcz27_3 : w25.cell? ⟨gb193, 3, none⟩ = some (.slice A0_3 l0_3.length c0_3) := (blk_cell BK193.out 3).trans rfl; have hcz27_4 : w25.cell? ⟨gb193, 4, none⟩ = some (.int .u64 a0_4) := (blk_cell BK193.out 4).trans rfl; have hfz27_0 := blk_frozen BK193.out 0; have hfz27_1 := blk_frozen BK193.out 1; have hfz27_2 := blk_frozen BK193.out 2; have hfz27_3 := blk_frozen BK193.out 3; have hfz27_4 := blk_frozen BK193.out 4; have hcz28_0 : w25.cell? ⟨gb194, 0, none⟩ = some (.string a1_0) := (blk_cell BK194.out 0).trans rfl; have hcz28_1 : w25.cell? ⟨gb194, 1, none⟩ = some (.int .i64 a1_1) := (blk_cell BK194.out 1).trans rfl; have hcz28_2 : w25.cell? ⟨gb194, 2, none⟩ = some (.slice A1_2 l1_2.length c1_2) := (blk_cell BK194.out 2).trans rfl; have hcz28_3 : w25.cell? ⟨gb194, 3, none⟩ = some (.slice A1_3 l1_3.length c1_3) := (blk_cell BK194.out 3).trans rfl; have hcz28_4 : w25.cell? ⟨gb194, 4, none⟩ = some (.int .u64 a1_4) := (blk_cell BK194.out 4).trans rfl; have hfz28_0 := blk_frozen BK194.out 0; have hfz28_1 := blk_frozen BK194.out 1; have hfz28_2 := blk_frozen BK194.out 2; have hfz28_3 := blk_frozen BK194.out 3; have hfz28_4 := blk_frozen BK194.out 4))
   go_ret
   exact ⟨by first | rfl | (simp [errW_none, errW_some] <;> rfl) | (simp [*, errW_none, errW_some] <;> rfl), by repeat (first | (with_reducible first | exact HB.out | apply below_alloc | apply pw_below_drewN | apply below_drew1 | refine below_set ?_ GE193.out | refine below_set ?_ GE194.out) | exact HB.out)⟩
 ·rw [if_neg c3] at H
  have c3b0 : (a0_0.toList == a1_0.toList) = false := beq_eq_false_iff_ne.mpr c3
  have c3b1 : (a0_0.toList != a1_0.toList) = true := bne_iff_ne.mpr c3
  obtain rfl := Option.some.inj H
  go_enter Tryz.func13, Tryz.ntmps13
  go_wp2_with (first | ((with_reducible refine gate_dst (N := 2) rfl ?_); refine box_event ?hg (N := 2) ?hd (cs := #[.string a0_0, .int .i64 a0_1, .slice A0_2 l0_2.length c0_2, .slice A0_3 l0_3.length c0_3, .int .u64 a0_4]) (t := 26) ?hr ?_; (case hd => rfl); (case hg => rfl); (case hr => first | (go_simp; done) | (go_simp; rfl)); intro gb193 hg w29 hbox hb; have n0_ := Aside0.mk (below_step (by repeat (first | (with_reducible first | exact HB.out | apply below_alloc | apply pw_below_drewN | apply below_drew1) | exact HB.out)) hb); have n1_ := Aside0.mk (hbox); have n2_ := Aside0.mk ((by rw [hg]; exact (below_size (by repeat (first | (with_reducible first | exact HB.out | apply below_alloc | apply pw_below_drewN | apply below_drew1) | exact HB.out))) : w.heap.size ≤ gb193)); have n3_ := Aside0.mk ((by rw [hg]; exact (below_size (by repeat (first | (with_reducible first | exact HB.out | apply below_alloc | apply pw_below_drewN | apply below_drew1) | exact HB.out))) : w.heap.size ≤ gb193)); clear HB; have HB := n0_; have BK193 := n1_; have GW193 := n2_; have GE193 := n3_; clear n0_ n1_ n2_ n3_; clear hb hbox hg) | ((with_reducible refine gate_dst (N := 3) rfl ?_); refine box_event ?hg (N := 3) ?hd (cs := #[.string a1_0, .int .i64 a1_1, .slice A1_2 l1_2.length c1_2, .slice A1_3 l1_3.length c1_3, .int .u64 a1_4]) (t := 26) ?hr ?_; (case hd => rfl); (case hg => rfl); (case hr => first | (go_simp; done) | (go_simp; rfl)); intro gb194 hg w30 hbox hb; have n0_ := Aside0.mk (blk_below (g := gb193) (o := .cells #[.string a0_0, .int .i64 a0_1, .slice A0_2 l0_2.length c0_2, .slice A0_3 l0_3.length c0_3, .int .u64 a0_4] 26 (0, 0)) (by (with_reducible repeat (first | refine blk_drewN ?_ _ | refine blk_drew ?_ | refine blk_alloc ?_ _)); exact BK193.out) hb); have n1_ := Aside0.mk (below_step (by repeat (first | (with_reducible first | exact HB.out | apply below_alloc | apply pw_below_drewN | apply below_drew1 | refine below_set ?_ GE193.out) | exact HB.out)) hb); have n2_ := Aside0.mk (hbox); have n3_ := Aside0.mk ((by rw [hg]; exact (below_size (by repeat (first | (with_reducible first | exact HB.out | apply below_alloc | apply pw_below_drewN | apply below_drew1 | refine below_set ?_ GE193.out) | exact HB.out))) : w.heap.size ≤ gb194)); have n4_ := Aside0.mk ((by rw [hg]; exact (below_size (by repeat (first | (with_reducible first | exact HB.out | apply below_alloc | apply pw_below_drewN | apply below_drew1 | refine below_set ?_ GE193.out) | exact HB.out))) : w.heap.size ≤ gb194)); have n5_ := Aside0.mk ((by rw [hg]; exact Nat.ne_of_lt (blk_lt (g := gb193) (o := .cells #[.string a0_0, .int .i64 a0_1, .slice A0_2 l0_2.length c0_2, .slice A0_3 l0_3.length c0_3, .int .u64 a0_4] 26 (0, 0)) (by (with_reducible repeat (first | refine blk_drewN ?_ _ | refine blk_drew ?_ | refine blk_alloc ?_ _)); exact BK193.out)) : gb193 ≠ gb194)); have n6_ := Aside0.mk ((by rw [hg]; exact Nat.ne_of_gt (blk_lt (g := gb193) (o := .cells #[.string a0_0, .int .i64 a0_1, .slice A0_2 l0_2.length c0_2, .slice A0_3 l0_3.length c0_3, .int .u64 a0_4] 26 (0, 0)) (by (with_reducible repeat (first | refine blk_drewN ?_ _ | refine blk_drew ?_ | refine blk_alloc ?_ _)); exact BK193.out)) : gb194 ≠ gb193)); clear BK193; clear HB; have BK193 := n0_; have HB := n1_; have BK194 := n2_; have GW194 := n3_; have GE194 := n4_; have NB193_194 := n5_; have NB194_193 := n6_; clear n0_ n1_ n2_ n3_ n4_ n5_ n6_; clear hb hbox hg; have hnb31 := NB193_194.out; have hnc31 := NB194_193.out; have hcz32_0 : w30.cell? ⟨gb193, 0, none⟩ = some (.string a0_0) := (blk_cell BK193.out 0).trans rfl; have hcz32_1 : w30.cell? ⟨gb193, 1, none⟩ = some (.int .i64 a0_1) := (blk_cell BK193.out 1).trans rfl; have hcz32_2 : w30.cell? ⟨gb193, 2, none⟩ = some (.slice A0_2 l0_2.length c0_2) := (blk_cell BK193.out 2).trans rfl; have hcz32_3 : w30.cell? ⟨gb193, 3, none⟩ = some (.slice A0_3 l0_3.length c0_3) := (blk_cell BK193.out 3).trans rfl; have hcz32_4 : w30.cell? ⟨gb193, 4, none⟩ = some (.int .u64 a0_4) := (blk_cell BK193.out 4).trans rfl; have hfz32_0 := blk_frozen BK193.out 0; have hfz32_1 := blk_frozen BK193.out 1; have hfz32_2 := blk_frozen BK193.out 2; have hfz32_3 := blk_frozen BK193.out 3; have hfz32_4 := blk_frozen BK193.out 4; have hcz33_0 : w30.cell? ⟨gb194, 0, none⟩ = some (.string a1_0) := (blk_cell BK194.out 0).trans rfl; have hcz33_1 : w30.cell? ⟨gb194, 1, none⟩ = some (.int .i64 a1_1) := (blk_cell BK194.out 1).trans rfl; have hcz33_2 : w30.cell? ⟨gb194, 2, none⟩ = some (.slice A1_2 l1_2.length c1_2) := (blk_cell BK194.out 2).trans rfl; have hcz33_3 : w30.cell? ⟨gb194, 3, none⟩ = some (.slice A1_3 l1_3.length c1_3) := (blk_cell BK194.out 3).trans rfl; have hcz33_4 : w30.cell? ⟨gb194, 4, none⟩ = some (.int .u64 a1_4) := (blk_cell BK194.out 4).trans rfl; have hfz33_0 := blk_frozen BK194.out 0; have hfz33_1 := blk_frozen BK194.out 1; have hfz33_2 := blk_frozen BK194.out 2; have hfz33_3 := blk_frozen BK194.out 3; have hfz33_4 := blk_frozen BK194.out 4))
  go_ret
  exact ⟨by first | rfl | (simp [errW_none, errW_some] <;> rfl) | (simp [*, errW_none, errW_some] <;> rfl), by repeat (first | (with_reducible first | exact HB.out | apply below_alloc | apply pw_below_drewN | apply below_drew1 | refine below_set ?_ GE193.out | refine below_set ?_ GE194.out) | exact HB.out)⟩

-- NOT PRINTED: function 87 (parts_place)

-- NOT PRINTED: function 89 (api_Part_int)

-- NOT PRINTED: function 91 (api_Part_91)

-- NOT PRINTED: function 135 (api_Part_135)

-- NOT PRINTED: function 173 (api_Part_173)

-- NOT PRINTED: function 164 (api_Part_164)

-- NOT PRINTED: function 136 (api_Part_136)

-- NOT PRINTED: function 92 (api_Part_92)

-- NOT PRINTED: function 185 (atomic_LoadUint32)

-- NOT PRINTED: function 178 (atomic_Bool_Load)

-- NOT PRINTED: function 200 (race_Disable)

-- NOT PRINTED: function 201 (atomic_CompareAndSwapInt32)

-- NOT PRINTED: function 202 (race_Enable)

-- NOT PRINTED: function 203 (race_Acquire)

-- NOT PRINTED: function 206 (atomic_AddInt32)

-- NOT PRINTED: function 208 (sync_runtime_canSpin)

-- NOT PRINTED: function 209 (sync_runtime_doSpin)

-- NOT PRINTED: function 210 (sync_throw)

-- NOT PRINTED: function 211 (sync_runtime_nanotime)

-- NOT PRINTED: function 212 (sync_runtime_SemacquireMutex)

-- NOT PRINTED: function 204 (sync_Mutex_lockSlow)

-- NOT PRINTED: function 194 (sync_Mutex_Lock_194)

-- NOT PRINTED: function 186 (sync_Mutex_Lock_186)

-- NOT PRINTED: function 205 (race_ReleaseMerge)

-- NOT PRINTED: function 213 (sync_fatal)

-- NOT PRINTED: function 214 (sync_runtime_Semrelease)

-- NOT PRINTED: function 207 (sync_Mutex_unlockSlow)

-- NOT PRINTED: function 195 (sync_Mutex_Unlock_195)

-- NOT PRINTED: function 187 (sync_Mutex_Unlock_187)

-- NOT PRINTED: function 196 (atomic_StoreUint32)

-- NOT PRINTED: function 197 (atomic_b32)

-- NOT PRINTED: function 188 (atomic_Bool_Store)

-- NOT PRINTED: function 179 (sync_Once_doSlow)

-- NOT PRINTED: function 174 (sync_Once_Do)

-- NOT PRINTED: function 165 (tag_table_made)

-- NOT PRINTED: function 137 (tag_More)

-- NOT PRINTED: function 93 (tag_Of)

-- NOT PRINTED: function 42 (parts_Lay)

-- NOT PRINTED: function 15 (bucket_Lay)

-- NOT PRINTED: function 145 (api_Entry)

-- NOT PRINTED: function 104 (index_find)

-- NOT PRINTED: function 105 (api_Version_105)

-- NOT PRINTED: function 49 (index_Get)

-- NOT PRINTED: function 161 (index_At)

-- NOT PRINTED: function 132 (index_Put)

-- NOT PRINTED: function 84 (bucket_work_versions)

-- NOT PRINTED: function 50 (bucket_laid)

-- NOT PRINTED: function 19 (bucket_Put)

-- NOT PRINTED: function 44 (parts_Find)

-- NOT PRINTED: function 138 (api_Piece_138)

-- NOT PRINTED: function 95 (api_Piece_95)

-- NOT PRINTED: function 97 (parts_upload_data)

-- NOT PRINTED: function 167 (abi_NoEscape)

-- NOT PRINTED: function 141 (strings_Builder_copyCheck)

-- NOT PRINTED: function 98 (strings_Builder_WriteString)

-- NOT PRINTED: function 99 (strings_Builder_Len)

/-! ### tag_octets: function 142 -/
def tag_octets.f (a0 : Int) : Option (ByteArray) := some (strOfNums (([(a0 / 16777216) % 256, (a0 / 65536) % 256, (a0 / 256) % 256, (a0) % 256] : List Int)))
set_option maxHeartbeats 8000000 in
set_option maxRecDepth 100000 in
theorem tag_octets.calls (a0 : Int) (r : ByteArray) (w : World) (h : tag_octets.f a0 = some r) :
  Calls Tryz.prog 142 #[.int .u32 a0] w fun e w' => e = .returned (.string r) ∧ Below w.heap.size w w' := by
 have HB := Aside0.mk (Below.refl w.heap.size w)
 have H : (some (strOfNums (([(a0 / 16777216) % 256, (a0 / 65536) % 256, (a0 / 256) % 256, (a0) % 256] : List Int)))) = some r := h
 clear h
 obtain ⟨y214, hy214⟩ : ∃ y_ : List Int, y_ = (([(a0 / 16777216) % 256, (a0 / 65536) % 256, (a0 / 256) % 256, (a0) % 256] : List Int)) := ⟨_, rfl⟩
 replace H : (some (strOfNums y214)) = some r := by first | (rw [hy214]; with_reducible exact H) | (have H2_ := (Option.bind_some _ _).symm.trans H; rw [hy214]; with_reducible exact H2_) | (have H2_ := (Option.bind_some _ _).symm.trans H; with_reducible exact H2_) | with_reducible exact H | (rw [hy214]; exact H) | exact H
 have Ny214 := Aside0.mk hy214
 clear hy214
 obtain rfl := Option.some.inj H
 go_enter Tryz.func142, Tryz.ntmps142
 go_wp2_with (first | ((with_reducible refine gate_dst (N := 14) rfl ?_); refine Kd.R_lit (Kd.int .u8) _ 5 ?hg (N := 14) ?hd (xs := ([(a0 / 16777216) % 256, (a0 / 65536) % 256, (a0 / 256) % 256, (a0) % 256] : List Int)) (inner := [.int .u8 ((a0 / 16777216) % 256), .int .u8 ((a0 / 65536) % 256), .int .u8 ((a0 / 256) % 256), .int .u8 ((a0) % 256)]) (ok := fun _ => True) (okp := fun _ => True) ?hr ?hp (fun _ hk => hk) trivial (Below.refl _ _) (Nat.le_refl _) (by simp) ?_; (case hd => rfl); (case hg => rfl); (case hr => first | (go_simp; done) | (go_simp; rfl)); (case hp => exact (Reps.one (show Kd.M (Kd.int .u8) _ _ _ ((a0 / 16777216) % 256) [.int .u8 ((a0 / 16777216) % 256)] from rfl) (Reps.one (show Kd.M (Kd.int .u8) _ _ _ ((a0 / 65536) % 256) [.int .u8 ((a0 / 65536) % 256)] from rfl) (Reps.one (show Kd.M (Kd.int .u8) _ _ _ ((a0 / 256) % 256) [.int .u8 ((a0 / 256) % 256)] from rfl) (Reps.one (show Kd.M (Kd.int .u8) _ _ _ ((a0) % 256) [.int .u8 ((a0) % 256)] from rfl) (Reps.none _ _)))))); intro v215 w2 ho3 hb hg_ hnew_; clear hg_ hnew_; (first | rw [← Ny214.out] at ho3 | (simp only [Int.reduceToNat] at ho3; rw [← Ny214.out] at ho3)); have n0_ := Aside0.mk (Kd.R_lower ho3 (below_size (by repeat (first | (with_reducible first | exact HB.out | apply below_alloc | apply pw_below_drewN | apply below_drew1) | exact HB.out)))); have n1_ := Aside0.mk (below_step (by repeat (first | (with_reducible first | exact HB.out | apply below_alloc | apply pw_below_drewN | apply below_drew1) | exact HB.out)) hb); clear HB; have HO216 := n0_; have HB := n1_; clear n0_ n1_; clear hb ho3; have hcv4 := own_string (P := Tryz.prog) Tryz.underlying157 Tryz.underlying5 Tryz.underlying9 (Kd.own_of_R HO216.out)))
 go_ret
 exact ⟨by first | rfl | (simp [errW_none, errW_some] <;> rfl) | (simp [*, errW_none, errW_some] <;> rfl), by repeat (first | (with_reducible first | exact HB.out | apply below_alloc | apply pw_below_drewN | apply below_drew1) | exact HB.out)⟩

-- NOT PRINTED: function 143 (tag_Text)

-- NOT PRINTED: function 180 (strconv_small)

-- NOT PRINTED: function 189 (strconv_log10Pow2)

-- NOT PRINTED: function 190 (bits_Len64)

-- NOT PRINTED: function 191 (strconv_bool2_int)

-- NOT PRINTED: function 181 (strconv_numDigits)

-- NOT PRINTED: function 182 (strconv_formatBase10)

-- NOT PRINTED: function 192 (strconv_isPowerOfTwo)

-- NOT PRINTED: function 198 (bits_TrailingZeros32)

-- NOT PRINTED: function 199 (bits_TrailingZeros64)

-- NOT PRINTED: function 193 (bits_TrailingZeros)

-- NOT PRINTED: function 183 (strconv_formatBits)

-- NOT PRINTED: function 176 (strconv_FormatInt)

-- NOT PRINTED: function 168 (strconv_Itoa_168)

-- NOT PRINTED: function 144 (strconv_Itoa_144)

-- NOT PRINTED: function 100 (tag_Many)

-- NOT PRINTED: function 101 (strings_Builder_String)

-- NOT PRINTED: function 46 (parts_Whole)

-- NOT PRINTED: function 102 (api_Upload_102)

-- NOT PRINTED: function 47 (parts_Abort)

-- NOT PRINTED: function 17 (bucket_Whole)

-- NOT PRINTED: function 103 (chain_at)

-- NOT PRINTED: function 48 (chain_Get)

-- NOT PRINTED: function 18 (bucket_Get)

-- NOT PRINTED: function 26 (bucket_New)

-- NOT PRINTED: function 27 (bucket_Turn)

-- NOT PRINTED: function 39 (bucket_Delete)

-- NOT PRINTED: function 40 (bucket_Drop)

/-! ### bucket_Empty: function 41 -/
def bucket_Empty.f (a0_0 : ByteArray) (a0_1 : Int) (l0_2 : List (S56)) (l0_3 : List (S101)) (a0_4 : Int) : Option (Bool) := if (l0_2.length : Int) = 0 then (some ((l0_3.length : Int) == 0)) else (some false)
set_option maxHeartbeats 8000000 in
set_option maxRecDepth 100000 in
theorem bucket_Empty.calls (a0_0 : ByteArray) (a0_1 : Int) (A0_2 : Option Addr) (c0_2 : Nat) (l0_2 : List (S56)) (A0_3 : Option Addr) (c0_3 : Nat) (l0_3 : List (S101)) (a0_4 : Int) (r : Bool) (w : World) (hr0_2 : Kd.C k56 w A0_2 l0_2.length l0_2) (hc0_2 : l0_2.length ≤ c0_2) (hr0_3 : Kd.C k101 w A0_3 l0_3.length l0_3) (hc0_3 : l0_3.length ≤ c0_3) (h : bucket_Empty.f a0_0 a0_1 l0_2 l0_3 a0_4 = some r) :
  Calls Tryz.prog 41 #[.agg #[.string a0_0, .int .i64 a0_1, .slice A0_2 l0_2.length c0_2, .slice A0_3 l0_3.length c0_3, .int .u64 a0_4]] w fun e w' => e = .returned (.bool r) ∧ Below w.heap.size w w' := by
 have hu26 := Tryz.underlying26
 have HR0_2 := Aside0.mk hr0_2
 have HC0_2 := Aside0.mk hc0_2
 clear hr0_2 hc0_2
 have HR0_3 := Aside0.mk hr0_3
 have HC0_3 := Aside0.mk hc0_3
 clear hr0_3 hc0_3
 have HB := Aside0.mk (Below.refl w.heap.size w)
 have H : (if (l0_2.length : Int) = 0 then (some ((l0_3.length : Int) == 0)) else (some false)) = some r := h
 clear h
 by_cases c2 : (l0_2.length : Int) = 0
 ·rw [if_pos c2] at H
  have c2b0 : ((l0_2.length : Int) == 0) = true := beq_iff_eq.mpr c2
  have c2b1 : ((l0_2.length : Int) != 0) = false := bne_eq_false_iff_eq.mpr c2
  clear c2
  obtain rfl := Option.some.inj H
  go_enter Tryz.func41, Tryz.ntmps41
  go_wp2_with (first | ((with_reducible refine gate_dst (N := 1) rfl ?_); (try (refine gate_guard (by rfl) ?_; dsimp only)); refine box_event ?hg (N := 1) ?hd (cs := #[.string a0_0, .int .i64 a0_1, .slice A0_2 l0_2.length c0_2, .slice A0_3 l0_3.length c0_3, .int .u64 a0_4]) (t := 26) ?hr ?_; (case hd => rfl); (case hg => rfl); (case hr => first | (go_simp; done) | (go_simp; rfl)); intro gb248 hg w3 hbox hb; have n0_ := Aside0.mk (below_step (by repeat (first | (with_reducible first | exact HB.out | apply below_alloc | apply pw_below_drewN | apply below_drew1) | exact HB.out)) hb); have n1_ := Aside0.mk (hbox); have n2_ := Aside0.mk ((by rw [hg]; exact (below_size (by repeat (first | (with_reducible first | exact HB.out | apply below_alloc | apply pw_below_drewN | apply below_drew1) | exact HB.out))) : w.heap.size ≤ gb248)); have n3_ := Aside0.mk ((by rw [hg]; exact (below_size (by repeat (first | (with_reducible first | exact HB.out | apply below_alloc | apply pw_below_drewN | apply below_drew1) | exact HB.out))) : w.heap.size ≤ gb248)); clear HB; have HB := n0_; have BK248 := n1_; have GW248 := n2_; have GE248 := n3_; clear n0_ n1_ n2_ n3_; clear hb hbox hg; have hcz4_0 : w3.cell? ⟨gb248, 0, none⟩ = some (.string a0_0) := (blk_cell BK248.out 0).trans rfl; have hcz4_1 : w3.cell? ⟨gb248, 1, none⟩ = some (.int .i64 a0_1) := (blk_cell BK248.out 1).trans rfl; have hcz4_2 : w3.cell? ⟨gb248, 2, none⟩ = some (.slice A0_2 l0_2.length c0_2) := (blk_cell BK248.out 2).trans rfl; have hcz4_3 : w3.cell? ⟨gb248, 3, none⟩ = some (.slice A0_3 l0_3.length c0_3) := (blk_cell BK248.out 3).trans rfl; have hcz4_4 : w3.cell? ⟨gb248, 4, none⟩ = some (.int .u64 a0_4) := (blk_cell BK248.out 4).trans rfl; have hfz4_0 := blk_frozen BK248.out 0; have hfz4_1 := blk_frozen BK248.out 1; have hfz4_2 := blk_frozen BK248.out 2; have hfz4_3 := blk_frozen BK248.out 3; have hfz4_4 := blk_frozen BK248.out 4))
  go_ret
  exact ⟨by first | rfl | (simp [errW_none, errW_some] <;> rfl) | (simp [*, errW_none, errW_some] <;> rfl), by repeat (first | (with_reducible first | exact HB.out | apply below_alloc | apply pw_below_drewN | apply below_drew1 | refine below_set ?_ GE248.out) | exact HB.out)⟩
 ·rw [if_neg c2] at H
  have c2b0 : ((l0_2.length : Int) == 0) = false := beq_eq_false_iff_ne.mpr c2
  have c2b1 : ((l0_2.length : Int) != 0) = true := bne_iff_ne.mpr c2
  have c2b2 : ¬ (l0_2 = []) := fun h_ => c2 (by rw [h_]; rfl)
  obtain rfl := Option.some.inj H
  go_enter Tryz.func41, Tryz.ntmps41
  go_wp2_with (first | ((with_reducible refine gate_dst (N := 1) rfl ?_); (try (refine gate_guard (by rfl) ?_; dsimp only)); refine box_event ?hg (N := 1) ?hd (cs := #[.string a0_0, .int .i64 a0_1, .slice A0_2 l0_2.length c0_2, .slice A0_3 l0_3.length c0_3, .int .u64 a0_4]) (t := 26) ?hr ?_; (case hd => rfl); (case hg => rfl); (case hr => first | (go_simp; done) | (go_simp; rfl)); intro gb248 hg w5 hbox hb; have n0_ := Aside0.mk (below_step (by repeat (first | (with_reducible first | exact HB.out | apply below_alloc | apply pw_below_drewN | apply below_drew1) | exact HB.out)) hb); have n1_ := Aside0.mk (hbox); have n2_ := Aside0.mk ((by rw [hg]; exact (below_size (by repeat (first | (with_reducible first | exact HB.out | apply below_alloc | apply pw_below_drewN | apply below_drew1) | exact HB.out))) : w.heap.size ≤ gb248)); have n3_ := Aside0.mk ((by rw [hg]; exact (below_size (by repeat (first | (with_reducible first | exact HB.out | apply below_alloc | apply pw_below_drewN | apply below_drew1) | exact HB.out))) : w.heap.size ≤ gb248)); clear HB; have HB := n0_; have BK248 := n1_; have GW248 := n2_; have GE248 := n3_; clear n0_ n1_ n2_ n3_; clear hb hbox hg; have hcz6_0 : w5.cell? ⟨gb248, 0, none⟩ = some (.string a0_0) := (blk_cell BK248.out 0).trans rfl; have hcz6_1 : w5.cell? ⟨gb248, 1, none⟩ = some (.int .i64 a0_1) := (blk_cell BK248.out 1).trans rfl; have hcz6_2 : w5.cell? ⟨gb248, 2, none⟩ = some (.slice A0_2 l0_2.length c0_2) := (blk_cell BK248.out 2).trans rfl; have hcz6_3 : w5.cell? ⟨gb248, 3, none⟩ = some (.slice A0_3 l0_3.length c0_3) := (blk_cell BK248.out 3).trans rfl; have hcz6_4 : w5.cell? ⟨gb248, 4, none⟩ = some (.int .u64 a0_4) := (blk_cell BK248.out 4).trans rfl; have hfz6_0 := blk_frozen BK248.out 0; have hfz6_1 := blk_frozen BK248.out 1; have hfz6_2 := blk_frozen BK248.out 2; have hfz6_3 := blk_frozen BK248.out 3; have hfz6_4 := blk_frozen BK248.out 4))
  go_ret
  exact ⟨by first | rfl | (simp [errW_none, errW_some] <;> rfl) | (simp [*, errW_none, errW_some] <;> rfl), by repeat (first | (with_reducible first | exact HB.out | apply below_alloc | apply pw_below_drewN | apply below_drew1 | refine below_set ?_ GE248.out) | exact HB.out)⟩

-- NOT PRINTED: function 14 (cellarerlaw09_awake)

end Go.Proofs.YtekooapbdgippaaGreatDoor.Q
namespace Go.Proofs.YtekooapbdgippaaGreatDoor.Q
open Go.RowKit Go.Proofs.YtekooapbdgippaaGreatDoorW.PrintWords Go.Proofs.YtekooapbdgippaaGreatDoorW.PrintLast Go.Proofs.YtekooapbdgippaaGreatDoorW.PrintMore
attribute [local go_sem] max2_int min2_int max_two min_two max_three min_three max_four min_four
set_option linter.unusedVariables false
set_option linter.unusedSimpArgs false

/-! ### cellarerref04_step: function 43 -/
def cellarerref04_step.l0 : Nat → Int → Int → Option (Int)
 | 0, _, _ => none
 | k + 1, x0, x5 => if x5 < 8 then (if (Int.tmod x0 2) = 1 then (cellarerref04_step.l0 k (Go.bits .xor .u32 ((Int.tdiv x0 2) % 4294967296) 2197175160) (wrap64 (x5 + 1))) else (cellarerref04_step.l0 k ((Int.tdiv x0 2) % 4294967296) (wrap64 (x5 + 1)))) else (some x0)
def cellarerref04_step.f (k : Nat) (a0 : Int) (a1 : Int) : Option (Int) := cellarerref04_step.l0 k (Go.bits .xor .u32 a0 ((a1) % 4294967296)) 0
set_option maxHeartbeats 8000000 in
set_option maxRecDepth 100000 in
theorem cellarerref04_step.calls (k : Nat) (a0 : Int) (a1 : Int) (r : Int) (w : World) (h : cellarerref04_step.f k a0 a1 = some r) :
  Calls Tryz.prog 43 #[.int .u32 a0, .int .u8 a1] w fun e w' => e = .returned (.int .u32 r) ∧ Drawn0 w w' := by
 have H : (cellarerref04_step.l0 k (Go.bits .xor .u32 a0 ((a1) % 4294967296)) 0) = some r := h
 clear h
 have H' := Aside0.mk H
 clear H
 go_enter Tryz.func43, Tryz.ntmps43
 go_wp2
 go_loopg [0, 5] k (fun kq v0 v5 w' => ∃ (x0_1 : Int) (x5_1 : Int), v0 = .int .u32 x0_1 ∧ v5 = .int .i64 x5_1 ∧ Aside0 (cellarerref04_step.l0 kq x0_1 x5_1 = some r) ∧ Aside0 (kq ≤ k) ∧ Drawn0 w w')
 case atStart => exact ⟨(Go.bits .xor .u32 a0 ((a1) % 4294967296)), (0), (by first | rfl | (simp; done) | (simp [*]; done)), (by first | rfl | (simp; done) | (simp [*]; done)), H', ⟨Nat.le_refl _⟩, by repeat (first | exact Drawn0.refl _ | apply Drawn0.step)⟩
 case round =>
  clear H'
  try clear p2
  obtain ⟨x0_1, x5_1, rfl, rfl, HA, HK1, ⟨m1, rfl⟩⟩ := hrel
  cases gk with
  | zero => exact absurd HA.out (by simp [cellarerref04_step.l0])
  | succ k1 =>
   have H := HA.out
   clear HA
   simp only [cellarerref04_step.l0] at H
   by_cases c3 : x5_1 < 8
   ·rw [if_pos c3] at H
    have c3b0 : decide (x5_1 < 8) = true := decide_eq_true c3
    clear c3
    by_cases c4 : (Int.tmod x0_1 2) = 1
    ·rw [if_pos c4] at H
     have c4b0 : ((Int.tmod x0_1 2) == 1) = true := beq_iff_eq.mpr c4
     have c4b1 : ((Int.tmod x0_1 2) != 1) = false := bne_eq_false_iff_eq.mpr c4
     clear c4
     have H' := Aside0.mk H
     clear H
     go_wp2
     go_roundg k1
     case measure => have := HK1.out; omega
     case rel => exact ⟨(Go.bits .xor .u32 ((Int.tdiv x0_1 2) % 4294967296) 2197175160), (wrap64 (x5_1 + 1)), (by first | rfl | (simp; done) | (simp [*]; done)), (by first | rfl | (simp; done) | (simp [*]; done)), H', ⟨by have := HK1.out; omega⟩, by repeat (first | exact Drawn0.refl _ | apply Drawn0.step)⟩
    ·rw [if_neg c4] at H
     have c4b0 : ((Int.tmod x0_1 2) == 1) = false := beq_eq_false_iff_ne.mpr c4
     have c4b1 : ((Int.tmod x0_1 2) != 1) = true := bne_iff_ne.mpr c4
     have H' := Aside0.mk H
     clear H
     go_wp2
     go_roundg k1
     case measure => have := HK1.out; omega
     case rel => exact ⟨((Int.tdiv x0_1 2) % 4294967296), (wrap64 (x5_1 + 1)), (by first | rfl | (simp; done) | (simp [*]; done)), (by first | rfl | (simp; done) | (simp [*]; done)), H', ⟨by have := HK1.out; omega⟩, by repeat (first | exact Drawn0.refl _ | apply Drawn0.step)⟩
   ·rw [if_neg c3] at H
    have c3b0 : decide (x5_1 < 8) = false := decide_eq_false c3
    clear c3
    obtain rfl := Option.some.inj H
    go_wp2
    go_ret
    exact ⟨by first | rfl | (simp; done) | (simp [*]; done), by repeat (first | exact Drawn0.refl _ | apply Drawn0.step)⟩

/-! ### cellarerref04_Of: function 16 -/
def cellarerref04_Of.l0 : Nat → ByteArray → Int → Int → Option (Int)
 | 0, _, _, _ => none
 | k + 1, x0, x3, x4 => if x4 < (x0.size : Int) then (if 0 ≤ x4 then ((cellarerref04_step.f k x3 (bt x0 x4)).bind fun t249 => (cellarerref04_Of.l0 k x0 t249 (wrap64 (x4 + 1)))) else (none)) else (some ((4294967295 - x3) % 4294967296))
def cellarerref04_Of.f (k : Nat) (a0 : ByteArray) : Option (Int) := cellarerref04_Of.l0 k a0 4294967295 0
set_option maxHeartbeats 8000000 in
set_option maxRecDepth 100000 in
theorem cellarerref04_Of.calls (k : Nat) (a0 : ByteArray) (r : Int) (w : World) (h : cellarerref04_Of.f k a0 = some r) :
  Calls Tryz.prog 16 #[.string a0] w fun e w' => e = .returned (.int .u32 r) ∧ Drawn0 w w' := by
 have H : (cellarerref04_Of.l0 k a0 4294967295 0) = some r := h
 clear h
 have H' := Aside0.mk H
 clear H
 go_enter Tryz.func16, Tryz.ntmps16
 go_wp2
 go_loopg [3, 4] k (fun kq v3 v4 w' => ∃ (x3_1 : Int) (x4_1 : Int), v3 = .int .u32 x3_1 ∧ v4 = .int .i64 x4_1 ∧ Aside0 (cellarerref04_Of.l0 kq a0 x3_1 x4_1 = some r) ∧ Aside0 (kq ≤ k) ∧ Drawn0 w w')
 case atStart => exact ⟨(4294967295), (0), (by first | rfl | (simp; done) | (simp [*]; done)), (by first | rfl | (simp; done) | (simp [*]; done)), H', ⟨Nat.le_refl _⟩, by repeat (first | exact Drawn0.refl _ | apply Drawn0.step)⟩
 case round =>
  clear H'
  try clear c1
  obtain ⟨x3_1, x4_1, rfl, rfl, HA, HK1, ⟨m1, rfl⟩⟩ := hrel
  cases gk with
  | zero => exact absurd HA.out (by simp [cellarerref04_Of.l0])
  | succ k1 =>
   have H := HA.out
   clear HA
   simp only [cellarerref04_Of.l0] at H
   by_cases c2 : x4_1 < (a0.size : Int)
   ·rw [if_pos c2] at H
    have c2b0 : decide (x4_1 < (a0.size : Int)) = true := decide_eq_true c2
    clear c2
    by_cases c3 : 0 ≤ x4_1
    ·rw [if_pos c3] at H
     have c3b0 : decide (0 ≤ x4_1) = true := decide_eq_true c3
     clear c3
     replace H := Option.bind_eq_some_iff.mp H
     obtain ⟨t249, A50, H⟩ := H
     replace H : (cellarerref04_Of.l0 k1 a0 t249 (wrap64 (x4_1 + 1))) = some r := H
     have A5 := Aside0.mk A50
     clear A50
     have H' := Aside0.mk H
     clear H
     have p4 : 0 ≤ (x4_1 : Int) := of_decide_eq_true (by first | (with_reducible assumption) | assumption)
     have q4 : x4_1 < (a0.size : Int) := of_decide_eq_true (by first | (with_reducible assumption) | assumption)
     have hx4 := bt_at a0 x4_1
     replace p4 := eq_true p4
     replace q4 := eq_true q4
     go_wp2_with (first | ((with_reducible refine gate_callee (f := 43) rfl ?_); refine goesL_ (some 15) rfl rfl Tryz.func43 (by kernel_rfl) rfl #[.int .u32 x3_1, .int .u8 (bt a0 x4_1)] rfl (by (try simp only [List.map_toArray, List.map_cons, List.map_nil]); first | done | rfl | (simp only [List.length_drop, List.length_take]; rfl)) ?_; (with_reducible refine (cellarerref04_step.calls k1 x3_1 (bt a0 x4_1) t249 _ A5.out).mono ?_); rintro e w' ⟨rfl, ⟨nd, rfl⟩⟩; refine ⟨_, rfl, ?_⟩))
     go_roundg k1
     case measure => have := HK1.out; omega
     case rel => exact ⟨(t249), (wrap64 (x4_1 + 1)), (by first | rfl | (simp; done) | (simp [*]; done)), (by first | rfl | (simp; done) | (simp [*]; done)), H', ⟨by have := HK1.out; omega⟩, by repeat (first | exact Drawn0.refl _ | apply Drawn0.step)⟩
    ·rw [if_neg c3] at H
     exact absurd H (by simp)
   ·rw [if_neg c2] at H
    have c2b0 : decide (x4_1 < (a0.size : Int)) = false := decide_eq_false c2
    clear c2
    obtain rfl := Option.some.inj H
    go_wp2
    go_ret
    exact ⟨by first | rfl | (simp; done) | (simp [*]; done), by repeat (first | exact Drawn0.refl _ | apply Drawn0.step)⟩

-- NOT PRINTED: function 3 (cellarerlaw09_BucketParts)

/-! ### cellarerref06_Octets: function 53 -/
/-! ### cellarerref08_Octets: function 54 -/
/-! ### cellarerref09_Octets: function 20 -/
-- NOT PRINTED: function 55 (cellarerref01_Bucket)

-- NOT PRINTED: function 152 (cellarerref01_keys)

-- NOT PRINTED: function 111 (cellarerref01_Key)

-- NOT PRINTED: function 153 (cellarerref05_May)

-- NOT PRINTED: function 112 (cellarerref05_Check)

-- NOT PRINTED: function 56 (cellarerref06_May)

-- NOT PRINTED: function 154 (cellarerref08_part)

-- NOT PRINTED: function 155 (cellarerref08_number)

-- NOT PRINTED: function 113 (cellarerref08_One)

-- NOT PRINTED: function 57 (cellarerref08_May)

-- NOT PRINTED: function 21 (cellarerref09_May)

-- NOT PRINTED: function 4 (cellarerlaw09_BucketRoom)

-- NOT PRINTED: function 22 (cellarerlaw09_Cut)

-- NOT PRINTED: function 58 (bucket_Abort)

-- NOT PRINTED: function 23 (cellarerlaw09_Do)

-- NOT PRINTED: function 114 (cellarerref06_Get)

-- NOT PRINTED: function 156 (cellarerref05_without)

-- NOT PRINTED: function 115 (cellarerref05_Put)

-- NOT PRINTED: function 118 (cellarerref05_Drop)

-- NOT PRINTED: function 116 (cellarerref05_Delete)

-- NOT PRINTED: function 157 (cellarerref06_Put)

-- NOT PRINTED: function 117 (cellarerref09_with)

-- NOT PRINTED: function 59 (cellarerref09_Laid)

-- NOT PRINTED: function 60 (cellarerref09_Drop)

-- NOT PRINTED: function 61 (cellarerref09_Turn)

-- NOT PRINTED: function 119 (cellarerref08_Begin)

-- NOT PRINTED: function 62 (cellarerref09_Begin)

-- NOT PRINTED: function 122 (cellarerref08_Find)

-- NOT PRINTED: function 120 (cellarerref08_Lay)

-- NOT PRINTED: function 63 (cellarerref09_Lay)

-- NOT PRINTED: function 121 (cellarerref08_Abort)

-- NOT PRINTED: function 64 (cellarerref09_Abort)

-- NOT PRINTED: function 171 (cellarerref04_Text)

-- NOT PRINTED: function 172 (cellarerref04_Count)

-- NOT PRINTED: function 158 (cellarerref04_Many)

-- NOT PRINTED: function 123 (cellarerref08_Whole)

-- NOT PRINTED: function 65 (cellarerref09_Whole)

-- NOT PRINTED: function 24 (cellarerlaw09_Own)

-- NOT PRINTED: function 5 (cellarerlaw09_BucketDoes)

-- NOT PRINTED: function 6 (cellarerlaw09_BucketStays)

-- NOT PRINTED: function 7 (cellarerlaw09_BucketOff)

-- NOT PRINTED: function 8 (cellarerlaw09_BucketTurns)

-- NOT PRINTED: function 159 (api_Version_159)

-- NOT PRINTED: function 130 (chain_versions_find)

-- NOT PRINTED: function 74 (chain_Find)

-- NOT PRINTED: function 29 (bucket_Find)

-- NOT PRINTED: function 9 (cellarerlaw09_BucketKeeps)

end Go.Proofs.YtekooapbdgippaaGreatDoor.Q
namespace Go.Proofs.YtekooapbdgippaaGreatDoor.Q
open Go.RowKit Go.Proofs.YtekooapbdgippaaGreatDoorW.PrintWords Go.Proofs.YtekooapbdgippaaGreatDoorW.PrintLast Go.Proofs.YtekooapbdgippaaGreatDoorW.PrintMore
open List renaming getElem_toArray → zA, getElem_cons_zero → zB, getElem_cons_succ → zC, setIfInBounds_toArray → zD, set_cons_zero → zE, set_cons_succ → zF
set_option linter.unusedVariables false
set_option linter.unusedSimpArgs false
set_option maxHeartbeats 8000000
set_option maxRecDepth 100000
theorem zh {p : Prop} (h : p) : Hid p := h
theorem zb {w : World} {g : Nat} {t : TypeId} {cs : Array Value} (h : w.heap[g]? = some (.cells cs t (0, 0))) (i : Nat) (v : Value) (e : cs[i]? = some v := by rfl) : w.cell? ⟨g, i, none⟩ = some v := (blk_cell h i).trans e
theorem zk {w w1 : World} {g : Nat} {o : Obj} (h : Hid (w.heap[g]? = some o)) (hb : Below w.heap.size w w1) : Hid (w1.heap[g]? = some o) := blk_below h.out hb
theorem zc {α : Type} {d : Kd α} {w w1 : World} {A : Option Addr} {n : Nat} {xs : List α} (h : Hid (Kd.C d w A n xs)) (hb : Below w.heap.size w w1) : Hid (Kd.C d w1 A n xs) := Kd.C_below h.out hb
theorem zj {w : World} {g : Nat} {t : TypeId} {cs : Array Value} (h : Hid (w.heap[g]? = some (.cells cs t (0, 0)))) (i : Nat) : w.cell? ⟨g, i, none⟩ = cs[i]? := blk_cell h.out i
theorem zz2 {w : World} {g : Nat} {t : TypeId} {x0 x1 : Value} {r : List Value} (h : w.heap[g]? = some (.cells (x0 :: x1 :: r).toArray t (0, 0))) : w.cell? ⟨g, 0, none⟩ = some x0 ∧ w.cell? ⟨g, 1, none⟩ = some x1 :=
 ⟨(blk_cell h 0).trans rfl, (blk_cell h 1).trans rfl⟩
theorem zz3 {w : World} {g : Nat} {t : TypeId} {x0 x1 x2 : Value} {r : List Value} (h : w.heap[g]? = some (.cells (x0 :: x1 :: x2 :: r).toArray t (0, 0))) : w.cell? ⟨g, 0, none⟩ = some x0 ∧ w.cell? ⟨g, 1, none⟩ = some x1 ∧ w.cell? ⟨g, 2, none⟩ = some x2 :=
 ⟨(blk_cell h 0).trans rfl, (blk_cell h 1).trans rfl, (blk_cell h 2).trans rfl⟩
theorem zz4 {w : World} {g : Nat} {t : TypeId} {x0 x1 x2 x3 : Value} {r : List Value} (h : w.heap[g]? = some (.cells (x0 :: x1 :: x2 :: x3 :: r).toArray t (0, 0))) : w.cell? ⟨g, 0, none⟩ = some x0 ∧ w.cell? ⟨g, 1, none⟩ = some x1 ∧ w.cell? ⟨g, 2, none⟩ = some x2 ∧ w.cell? ⟨g, 3, none⟩ = some x3 :=
 ⟨(blk_cell h 0).trans rfl, (blk_cell h 1).trans rfl, (blk_cell h 2).trans rfl, (blk_cell h 3).trans rfl⟩
theorem zz5 {w : World} {g : Nat} {t : TypeId} {x0 x1 x2 x3 x4 : Value} {r : List Value} (h : w.heap[g]? = some (.cells (x0 :: x1 :: x2 :: x3 :: x4 :: r).toArray t (0, 0))) : w.cell? ⟨g, 0, none⟩ = some x0 ∧ w.cell? ⟨g, 1, none⟩ = some x1 ∧ w.cell? ⟨g, 2, none⟩ = some x2 ∧ w.cell? ⟨g, 3, none⟩ = some x3 ∧ w.cell? ⟨g, 4, none⟩ = some x4 :=
 ⟨(blk_cell h 0).trans rfl, (blk_cell h 1).trans rfl, (blk_cell h 2).trans rfl, (blk_cell h 3).trans rfl, (blk_cell h 4).trans rfl⟩
theorem zz6 {w : World} {g : Nat} {t : TypeId} {x0 x1 x2 x3 x4 x5 : Value} {r : List Value} (h : w.heap[g]? = some (.cells (x0 :: x1 :: x2 :: x3 :: x4 :: x5 :: r).toArray t (0, 0))) : w.cell? ⟨g, 0, none⟩ = some x0 ∧ w.cell? ⟨g, 1, none⟩ = some x1 ∧ w.cell? ⟨g, 2, none⟩ = some x2 ∧ w.cell? ⟨g, 3, none⟩ = some x3 ∧ w.cell? ⟨g, 4, none⟩ = some x4 ∧ w.cell? ⟨g, 5, none⟩ = some x5 :=
 ⟨(blk_cell h 0).trans rfl, (blk_cell h 1).trans rfl, (blk_cell h 2).trans rfl, (blk_cell h 3).trans rfl, (blk_cell h 4).trans rfl, (blk_cell h 5).trans rfl⟩
theorem zz7 {w : World} {g : Nat} {t : TypeId} {x0 x1 x2 x3 x4 x5 x6 : Value} {r : List Value} (h : w.heap[g]? = some (.cells (x0 :: x1 :: x2 :: x3 :: x4 :: x5 :: x6 :: r).toArray t (0, 0))) : w.cell? ⟨g, 0, none⟩ = some x0 ∧ w.cell? ⟨g, 1, none⟩ = some x1 ∧ w.cell? ⟨g, 2, none⟩ = some x2 ∧ w.cell? ⟨g, 3, none⟩ = some x3 ∧ w.cell? ⟨g, 4, none⟩ = some x4 ∧ w.cell? ⟨g, 5, none⟩ = some x5 ∧ w.cell? ⟨g, 6, none⟩ = some x6 :=
 ⟨(blk_cell h 0).trans rfl, (blk_cell h 1).trans rfl, (blk_cell h 2).trans rfl, (blk_cell h 3).trans rfl, (blk_cell h 4).trans rfl, (blk_cell h 5).trans rfl, (blk_cell h 6).trans rfl⟩
theorem zz8 {w : World} {g : Nat} {t : TypeId} {x0 x1 x2 x3 x4 x5 x6 x7 : Value} {r : List Value} (h : w.heap[g]? = some (.cells (x0 :: x1 :: x2 :: x3 :: x4 :: x5 :: x6 :: x7 :: r).toArray t (0, 0))) : w.cell? ⟨g, 0, none⟩ = some x0 ∧ w.cell? ⟨g, 1, none⟩ = some x1 ∧ w.cell? ⟨g, 2, none⟩ = some x2 ∧ w.cell? ⟨g, 3, none⟩ = some x3 ∧ w.cell? ⟨g, 4, none⟩ = some x4 ∧ w.cell? ⟨g, 5, none⟩ = some x5 ∧ w.cell? ⟨g, 6, none⟩ = some x6 ∧ w.cell? ⟨g, 7, none⟩ = some x7 :=
 ⟨(blk_cell h 0).trans rfl, (blk_cell h 1).trans rfl, (blk_cell h 2).trans rfl, (blk_cell h 3).trans rfl, (blk_cell h 4).trans rfl, (blk_cell h 5).trans rfl, (blk_cell h 6).trans rfl, (blk_cell h 7).trans rfl⟩
section
open Go.WideMaps Go.Maps
theorem keepc {w w' : World} {p : Addr} {v : Value} (hb : Below w.heap.size w w') (h : w.cell? p = some v) : w'.cell? p = some v:=pw_cell_below hb h
theorem keepB {w w1 w2 : World} (h : Hid (Below w.heap.size w w1)) (hb : Below w1.heap.size w1 w2) : Hid (Below w.heap.size w w2):=h.out.trans (hb.mono h.out.size)
theorem outB {B : Nat} {w w1 : World} (h : Hid (Below B w w1)) : Below B w w1:=h
theorem keepD {B : Nat} {w w1 : World} (h : Hid (Below B w w1)) : Hid (Below B w w1.drew):=h.out.drew
theorem below_drewN (B : Nat) (w : World) (n : Nat) : Below B w (w.drewN n):=pw_below_drewN (Below.refl _ _) _
theorem keepN {B : Nat} {w w1 : World} (h : Hid (Below B w w1)) (n : Nat) : Hid (Below B w (w1.drewN n)):=h.out.trans (below_drewN _ _ _)
theorem quiet0 {P : Program} {f : FuncId} {args : Array Value} {w : World} {n : Nat} {v : Value} (h : Calls P f args (w.drewN n) fun e w'=>e = .returned v ∧ Drawn0 (w.drewN n) w') :
  Calls P f args (w.drewN n) fun e w''=>e = .returned v ∧ ∃ m,w'' = w.drewN m :=
 Calls.quiet_of (h.mono fun _ _ h=>⟨h.1,h.2.out⟩)
section
variable {P : Program} {w : World} {ops : Array Oper} {rest : List Oper} {o : Oper} {a : Go.Act} {Q : Exit → Go.Act → World → Prop}
theorem zx {B0 : World} (HB : Hid (Below B0.heap.size B0 w)) {N : Tmp} {cs : Array Value} {t : TypeId}
 (hr : (execOp a.eval o).run P w = .ok (.value (.pointer (some ⟨w.heap.size,0,none⟩))) (w.alloc (.cells cs t (0,0))))
 (h : ∀ g w1,Hid (w1.heap[g]? = some (.cells cs t (0,0))) → Hid (B0.heap.size ≤ g) → Hid (Below B0.heap.size B0 w1) → Below w.heap.size w w1 → g = w.heap.size → wpList P ops Q rest (a.put o.dst (.pointer (some ⟨g,0,none⟩))) w1)
 (hgd : o.guard = none:=by rfl) (hd : o.dst = some N:=by rfl) : wpList P ops Q (o :: rest) a w :=
 box_event hgd hd hr fun g hg w1 hb hbel=>h g w1 hb (by unfold Hid;rw [hg];exact HB.out.size) (keepB HB hbel) hbel hg
end
end
section
open Go.WideMaps Go.Maps
/-- a call of a function of Go code enters it -/
theorem enters {P : Program} {f : FuncId} {fn : Func} (hf : P.funcs[f]? = some fn) (hname : (fn.name == "runtime.NumGoroutine") = false) (hb : fn.body.isSome = true) : ∀ (args : Array Value) (w : World), (callFunc f args).run P w = .ok (.enter f args) w := by
 intro args w
 have h1 : fn.name ≠ "runtime.NumGoroutine" := by simpa using hname
 obtain ⟨c,hc⟩:=Option.isSome_iff_exists.1 hb
 simp [callFunc,hf,h1,hc,mark]
theorem grown_cell {w w' : World} {row : Option Nat} {p : Addr} {v : Value} (hg : w.grownBy w' row) (hne : some p.block ≠ row) (hc : w.cell? p = some v) : w'.cell? p = some v :=
 (World.cell?_of_block (hg.block p.block (World.block_lt_of_cell? w _ hc) hne)).trans hc
structure Only (g : Nat) (w w' : World) : Prop where
 os : w'.os = w.os
 tape : w'.tape = w.tape
 output : w'.output = w.output
 size : w.heap.size ≤ w'.heap.size
 block : ∀ k,k < w.heap.size → k ≠ g → w'.heap[k]? = w.heap[k]?
theorem Only.refl (g : Nat) (w : World) : Only g w w:=⟨rfl,rfl,rfl,Nat.le_refl _,fun _ _ _=>rfl⟩
theorem Only.set {g : Nat} {w w' : World} (h : Only g w w') (j : Nat) (v : Value) : Only g w (w'.setCell ⟨g,j,none⟩ v) :=
 ⟨h.os,h.tape,h.output,by simpa [World.setCell] using h.size,fun k hk hg=>(Below.heap_setCell _ _ _ _ hg).trans (h.block k hk hg)⟩
theorem Only.drewN {g : Nat} {w w' : World} (h : Only g w w') (n : Nat) : Only g w (w'.drewN n):=⟨h.os,h.tape,h.output,h.size,h.block⟩
theorem Only.cell {g : Nat} {w w' : World} (h : Only g w w') {p : Addr} {v : Value} (hp : p.block ≠ g) (hc : w.cell? p = some v) : w'.cell? p = some v :=
 (World.cell?_of_block (w:=w) (h.block p.block (World.block_lt_of_cell? w _ hc) hp)).trans hc
theorem Only.below {g B : Nat} {w0 w w' : World} (h : Only g w w') (hb : Below B w0 w) (hB : B ≤ w.heap.size) (hg : B ≤ g) : Below B w0 w' :=
 hb.trans ⟨h.os,h.tape,h.output,h.size,fun k hk=>h.block k (by omega) (by omega)⟩
theorem Only.trans {g : Nat} {w w1 w2 : World} (h : Only g w w1) (k : Only g w1 w2) : Only g w w2 :=
 ⟨k.os.trans h.os,k.tape.trans h.tape,k.output.trans h.output,Nat.le_trans h.size k.size,fun i hi hg=>(k.block i (Nat.lt_of_lt_of_le hi h.size) hg).trans (h.block i hi hg)⟩
def RawAt (w : World) (ad : Addr) (cs : List Value) : Prop:=∀ (j : Nat) (u : Value),cs[j]? = some u → w.cell? (ad.add j) = some u
structure RowsOf {α : Type} (d : Kd α) (w : World) (l : List α) (rows : List (List Value)) : Prop where
 len : rows.length = l.length
 at_ : ∀ (j : Nat) (x : α) (c : List Value),l[j]? = some x → rows[j]? = some c → d.K w x c
theorem flat_len {rows : List (List Value)} {sz : Nat} (h : ∀ c ∈ rows,c.length = sz) : rows.flatten.length = rows.length * sz:=by
 induction rows with
 | nil=>simp
 | cons c rows ih =>
  rw [List.flatten_cons,List.length_append,ih (fun d hd=>h d (List.mem_cons_of_mem _ hd)),h c List.mem_cons_self,List.length_cons,Nat.add_mul]
  omega
theorem flat_at {rows : List (List Value)} {sz : Nat} (h : ∀ c ∈ rows,c.length = sz) (j i : Nat) (hi : i < sz) : rows.flatten[j * sz + i]? = (rows[j]?).bind (fun c=>c[i]?):=by
 induction rows generalizing j with
 | nil=>simp
 | cons c rows ih =>
  have hc:=h c List.mem_cons_self
  rw [List.flatten_cons]
  rcases j with _ | j
  ·rw [List.getElem?_append_left (by omega)];simp
  ·rw [List.getElem?_append_right (by rw [hc,Nat.add_mul];omega),hc,show (j + 1) * sz + i - sz = j * sz + i by rw [Nat.add_mul];omega,ih (fun d hd=>h d (List.mem_cons_of_mem _ hd))]
   simp
section
variable {α : Type} {d : Kd α} {w w1 : World} {l : List α} {rows : List (List Value)} {ad : Addr}
theorem RowsOf.lens (h : RowsOf d w l rows) : ∀ c ∈ rows,c.length = d.sz:=by
 intro c hc
 obtain ⟨j,hj,rfl⟩:=List.getElem_of_mem hc
 exact d.K_len (h.at_ j _ _ (List.getElem?_eq_getElem (by have:=h.len;omega)) (List.getElem?_eq_getElem hj))
theorem RowsOf.one (h : RowsOf d w l rows) : ∀ u ∈ rows.flatten,u.oneCell' = true:=by
 intro u hu
 obtain ⟨c,hc,hu⟩:=List.mem_flatten.1 hu
 obtain ⟨j,hj,rfl⟩:=List.getElem_of_mem hc
 exact d.K_one (h.at_ j _ _ (List.getElem?_eq_getElem (by have:=h.len;omega)) (List.getElem?_eq_getElem hj)) u hu
theorem RowsOf.below (h : RowsOf d w l rows) (hb : Below w.heap.size w w1) : RowsOf d w1 l rows:=⟨h.len,fun j x c h1 h2=>d.K_below hb (h.at_ j x c h1 h2)⟩
theorem RowsOf.set (h : RowsOf d w l rows) (i : Nat) (x : α) (c : List Value) (hx : d.K w x c) : RowsOf d w (l.set i x) (rows.set i c):=by
 refine ⟨by simpa using h.len,fun j y c' h1 h2=>?_⟩
 rw [List.getElem?_set] at h1 h2
 by_cases e : i = j
 ·subst e
  rw [if_pos rfl] at h1 h2
  by_cases hl : i < l.length
  ·rw [if_pos hl] at h1;rw [if_pos (by have:=h.len;omega)] at h2
   injection h1 with h1;injection h2 with h2;subst h1;subst h2;exact hx
  ·rw [if_neg hl] at h1;cases h1
 ·rw [if_neg e] at h1 h2;exact h.at_ j y c' h1 h2
theorem RowsOf.append {l2 : List α} {rows2 : List (List Value)} (h : RowsOf d w l rows) (h2 : RowsOf d w l2 rows2) : RowsOf d w (l ++ l2) (rows ++ rows2):=by
 refine ⟨by simp [h.len,h2.len],fun j x c hx hc=>?_⟩
 rcases Nat.lt_or_ge j l.length with hj | hj
 ·rw [List.getElem?_append_left hj] at hx
  rw [List.getElem?_append_left (by have:=h.len;omega)] at hc
  exact h.at_ j x c hx hc
 ·rw [List.getElem?_append_right hj] at hx
  rw [List.getElem?_append_right (by have:=h.len;omega),h.len] at hc
  exact h2.at_ _ x c hx hc
theorem RowsOf.take (h : RowsOf d w l rows) (n : Nat) : RowsOf d w (l.take n) (rows.take n):=by
 refine ⟨by simp [h.len],fun j x c hx hc=>?_⟩
 rw [List.getElem?_take] at hx hc
 split at hx
 ·rename_i hj;rw [if_pos hj] at hc;exact h.at_ j x c hx hc
 ·cases hx
theorem RowsOf.drop (h : RowsOf d w l rows) (n : Nat) : RowsOf d w (l.drop n) (rows.drop n):=by
 refine ⟨by simp [h.len],fun j x c hx hc=>?_⟩
 rw [List.getElem?_drop] at hx hc
 exact h.at_ _ x c hx hc
theorem RowsOf.one_ (x : α) (c : List Value) (h : d.K w x c) : RowsOf d w [x] [c]:=by
 refine ⟨rfl,fun j y e hy he=>?_⟩
 rcases j with _ | j
 ·simp at hy he;subst hy;subst he;exact h
 ·simp at hy
theorem RowsOf.nil_ : RowsOf d w ([] : List α) []:=⟨rfl,fun j y e hy he=>by simp at hy⟩
/-- What a slice that is read holds, cell by cell. -/
theorem C_rows (h : Kd.C d w (some ad) l.length l) : ∃ rows,RowsOf d w l rows ∧ RawAt w ad rows.flatten:=by
 obtain ⟨h1,h2,h3⟩:=h
 rcases Nat.eq_zero_or_pos l.length with h0 | h0
 ·have : l = []:=List.length_eq_zero_iff.1 h0
  subst this
  exact ⟨[],RowsOf.nil_,fun j u hu=>by simp at hu⟩
 ·obtain ⟨ad',e,hc⟩:=h3 h0
  obtain rfl : ad = ad':=by injection e
  have : ∀ j : Nat,∃ c : List Value,∀ x,l[j]? = some x → c.length = d.sz ∧ d.K w x c ∧ ∀ i u,c[i]? = some u → w.cell? (ad.add (j * d.sz + i)) = some u:=fun j=>by
   cases hx : l[j]? with
   | none=>exact ⟨[],fun x hx'=>by cases hx'⟩
   | some x=>obtain ⟨c,hc'⟩:=hc j x hx;exact ⟨c,fun y hy=>by injection hy with hy;subst hy;exact hc'⟩
  obtain ⟨f,hf⟩:=Classical.skolem.1 this
  have hr : RowsOf d w l ((List.range l.length).map f):=by
   refine ⟨by simp,fun j x c hx hcj=>?_⟩
   rw [List.getElem?_map] at hcj
   have hj:=(List.getElem?_eq_some_iff.1 hx).1
   rw [List.getElem?_range hj] at hcj
   injection hcj with hcj
   subst hcj
   exact (hf j x hx).2.1
  refine ⟨_,hr,fun k u hu=>?_⟩
  have hlen:=flat_len hr.lens
  have hk:=(List.getElem?_eq_some_iff.1 hu).1
  have hsz : 0 < d.sz:=by
   rcases Nat.eq_zero_or_pos d.sz with hz | hz
   ·rw [hlen,hz] at hk;omega
   ·exact hz
  have e1 : k = k / d.sz * d.sz + k % d.sz:=by rw [Nat.mul_comm];exact (Nat.div_add_mod k d.sz).symm
  rw [e1,flat_at hr.lens _ _ (Nat.mod_lt _ hsz)] at hu
  rw [List.getElem?_map] at hu
  have hj : k / d.sz < l.length:=by
   rw [hlen] at hk
   simp only [List.length_map,List.length_range] at hk
   exact Nat.div_lt_of_lt_mul (by rw [Nat.mul_comm];exact hk)
  rw [List.getElem?_range hj] at hu
  rw [e1]
  exact (hf _ _ (List.getElem?_eq_getElem hj)).2.2 _ _ hu
/-- And back. -/
theorem rows_C (h : RowsOf d w l rows) (hr : RawAt w ad rows.flatten) (hn : l.length ≤ 9223372036854775807) : Kd.C d w (some ad) l.length l:=by
 refine ⟨rfl,hn,fun _=>⟨ad,rfl,fun j x hx=>?_⟩⟩
 have hj:=(List.getElem?_eq_some_iff.1 hx).1
 have hj' : j < rows.length:=by have:=h.len;omega
 refine ⟨rows[j],h.lens _ (List.getElem_mem hj'),h.at_ j x _ hx (List.getElem?_eq_getElem hj'),fun i u hu=>hr _ _ ?_⟩
 have hi : i < d.sz:=by have:=(List.getElem?_eq_some_iff.1 hu).1;rw [h.lens _ (List.getElem_mem hj')] at this;exact this
 rw [flat_at h.lens j i hi,List.getElem?_eq_getElem hj',Option.bind_some]
 exact hu
end
theorem own_raw {w : World} {base n g cap sz : Nat} {e : TypeId} {cs : List Value} (h : w.ownsRow base e sz (.slice (some ⟨g,0,none⟩) n cap) n cs) : RawAt w ⟨g,0,none⟩ cs:=by
 intro j u hu
 rcases h.2 with ⟨h1,_⟩ | ⟨g',cap',cur,hv,hg,hh,hn,hm,hsz,hcur⟩
 ·cases h1
 ·injection hv with e1 e2 e3
  injection e1 with e1;injection e1 with e1
  subst e1
  have : (Addr.add ⟨g,0,none⟩ j) = ⟨g,j,none⟩:=by unfold Addr.add;split <;> simp_all
  rw [this,blk_cell hh]
  have hj:=(List.getElem?_eq_some_iff.1 hu).1
  rw [← hcur,List.getElem?_take] at hu
  split at hu
  ·simpa using hu
  ·cases hu
theorem Only.setRow {g : Nat} {w w' : World} (h : Only g w w') (cs : Array Value) : Only g w (w'.setRow g cs) :=
 ⟨h.os,h.tape,h.output,by simpa [World.setRow] using h.size,fun k hk hg=>(setRow_other _ _ _ _ hg).trans (h.block k hk hg)⟩
theorem Only.blk {g k : Nat} {w w' : World} {o : Obj} (h : Only g w w') (hk : w.heap[k]? = some o) (hg : k ≠ g) : w'.heap[k]? = some o:=(h.block k (blk_lt hk) hg).trans hk
/-- copy, elements of any number of cells. -/
theorem run_copy_cells {P : Program} (w : World) (dT sT ty elem : TypeId) (g o dLen dCap : Nat) (a : Addr) (sLen sCap sz : Nat) (cur : Array Value) (t : TypeId) (cs : List Value)
  (hu : P.underlying dT = some (.slice elem)) (hs : (P.info? elem).map (·.size) = some sz)
  (hg : w.heap[g]? = some (.cells cur t (0,0))) (hn : cs.length = Nat.min sLen dLen * sz)
  (hsrc : ∀ j v,cs[j]? = some v → w.cell? (a.add j) = some v) (hfit : o + cs.length ≤ cur.size) (h1 : ∀ v ∈ cs,v.oneCell' = true) :
  (Builtin.copy_ #[dT,sT] ty #[.slice (some ⟨g,o,none⟩) dLen dCap,.slice (some a) sLen sCap]).run P w =
   .ok (goInt (Nat.min sLen dLen)) (w.setRow g (splice cur.toList o cs).toArray):=by
 have hl:=run_loadCells_list (P:=P) w a cs hsrc
 have hst:=run_storeCells_at P g o t cs 0 cur w hg (by simpa using hfit) h1
 cases hq : P.info? elem with
 | none=>simp [hq] at hs
 | some i =>
  have hi : i.size = sz:=by simpa [hq] using hs
  rw [hn] at hl
  have hm : Nat.min sLen dLen = min sLen dLen:=rfl
  rw [hm] at hl ⊢
  simp [Builtin.copy_,run_underlying hu,Builtin.lenOf,Builtin.firstCells,sizeOf,typeInfo,hq,hi,hl,hst,hm,splice]
theorem wpList_copy_cells {P : Program} {w : World} {ops : Array Oper} {rest : List Oper} {o : Oper} {a : Act} {Q : Exit → Act → World → Prop} (hgd : o.guard = none) (d s : Operand) (dT sT : TypeId)
  (ho : o.op = .call { callee:=.builtin .copy,args:=#[d,s],argTypes:=#[dT,sT] }) (elem : TypeId) (sz : Nat) (hu : P.underlying dT = some (.slice elem)) (hsz : (P.info? elem).map (·.size) = some sz)
  (g off dLen dCap : Nat) (ad : Addr) (sLen sCap : Nat) (hd : a.eval d = .slice (some ⟨g,off,none⟩) dLen dCap) (hs : a.eval s = .slice (some ad) sLen sCap)
  (cur : Array Value) (t : TypeId) (hg : w.heap[g]? = some (.cells cur t (0,0))) (cs : List Value) (hn : cs.length = Nat.min sLen dLen * sz)
  (hsrc : ∀ j v,cs[j]? = some v → w.cell? (ad.add j) = some v) (hfit : off + cs.length ≤ cur.size) (h1 : ∀ v ∈ cs,v.oneCell' = true)
  (h : ∀ w',Hid (w' = w.setRow g (splice cur.toList off cs).toArray) → wpList P ops Q rest (a.put o.dst (goInt (Nat.min sLen dLen))) w') : wpList P ops Q (o :: rest) a w:=by
 refine wpList_plain hgd fun K hK=>?_
 have hrun:=run_copy_cells (P:=P) w dT sT o.type elem g off dLen dCap ad sLen sCap sz cur t cs hu hsz hg hn hsrc hfit h1
 unfold Oper.wp
 simp [execOp,ho,resolve,invoke,builtin,hd,hs,hrun,Result.andThen]
 exact hK _ _ (h _ rfl)
/-- append(s, make([]T, m)...) where s has no room: the new row, written out. -/
theorem run_zeros_grow {P : Program} (w : World) (t ti ty e : TypeId) (i : TypeInfo) (z : Value) (ht : P.underlying t = some (.slice e)) {k : IntKind} (hti : P.underlying ti = some (.int k)) (hi : P.info? e = some i) (hz : i.zero = some z)
  (hzs : z.cells.size = i.size) (hsz : 0 < i.size) (A : Addr) (n cap : Nat) (xs : List Value) (hx : xs.length = n * i.size) (hxs : ∀ j u,xs[j]? = some u → w.cell? (A.add j) = some u) (kx : IntKind) (m : Nat) (hm : 0 < m)
  (hcap : cap < n + m) (hle : n + m ≤ 1000000) (hby : i.bytes ≤ 1000) :
  (Builtin.append_ #[t,ti] ty #[.slice (some A) n cap,.int kx m]).run P w =
   .ok (.slice (some ⟨w.heap.size,0,none⟩) (n + m) (grownCap w (n + m) cap e)) (w.drew.alloc (.cells (xs ++ ((Builtin.zeroCells z.cells m).toList ++ (Builtin.zeroCells z.cells (grownCap w (n + m) cap e - (n + m))).toList)).toArray e)):=by
 have hw : IntKind.i64.wrap (m : Int) = m:=by rw [IntKind.wrap_i64];omega
 have hneg : ¬ ((m : Int) < 0):=by omega
 have hb1 : m * i.bytes ≤ 1000000 * 1000:=Nat.mul_le_mul (by omega) hby
 have hbig : ¬ (281474976710656 < (m : Int) * (i.bytes : Int)):=by rw [← Int.natCast_mul];omega
 have hn : ¬ (n + m ≤ cap):=by omega
 have h63' : ¬ (9223372036854775807 < ((n : Int) + (m : Int))):=by omega
 have hb2 : (n + m) * i.bytes ≤ 1000000 * 1000:=Nat.mul_le_mul hle hby
 have hfit:=growslice_fits (bytes:=i.bytes) hcap (by omega)
 have h48' : ¬ (281474976710656 < Builtin.nextslicecap (n + m) cap * i.bytes):=by omega
 have hmz : ¬ (m * i.size = 0):=Nat.mul_ne_zero (by omega) (by omega)
 have hfo:=run_firstCells_some (P:=P) w.drew i.size n A n cap xs hx (by simpa using hxs)
 simp [Builtin.append_,run_underlying ht,run_underlying hti,sizeOf,typeInfo,zeroValue,hi,hz,asInt,asIntOf,hw,hneg,hbig,hn,h63',h48',Question.forced,hfo,newRow,grownCap,hmz]
 congr 2
 apply Array.ext'
 simp [List.append_assoc]
theorem wpList_zeros_grow {P : Program} {w : World} {ops : Array Oper} {rest : List Oper} {o : Oper} {a : Act} {Q : Exit → Act → World → Prop} (hgd : o.guard = none) (s x : Operand) (t ti : TypeId)
  (ho : o.op = .call { callee:=.builtin .append,args:=#[s,x],argTypes:=#[t,ti] }) (e : TypeId) (i : TypeInfo) (z : Value) (ht : P.underlying t = some (.slice e)) (k : IntKind) (hti : P.underlying ti = some (.int k)) (hi : P.info? e = some i) (hz : i.zero = some z)
  (hzs : z.cells.size = i.size) (hsz : 0 < i.size) (A : Addr) (n cap : Nat) (xs : List Value) (hs : a.eval s = .slice (some A) n cap) (hx : xs.length = n * i.size) (hxs : ∀ j u,xs[j]? = some u → w.cell? (A.add j) = some u) (kx : IntKind) (m : Nat) (hxm : a.eval x = .int kx m) (hm : 0 < m)
  (hcap : cap < n + m) (hle : n + m ≤ 1000000) (hby : i.bytes ≤ 1000) (Zf : Nat → List Value) (hZ : ∀ m,(Builtin.zeroCells z.cells m).toList = Zf m)
  (h : ∀ nc w',n + m ≤ nc → nc ≤ maxLen → Hid (w' = w.drew.alloc (.cells (xs ++ (Zf m ++ Zf (nc - (n + m)))).toArray e)) → wpList P ops Q rest (a.put o.dst (.slice (some ⟨w.heap.size,0,none⟩) (n + m) nc)) w') : wpList P ops Q (o :: rest) a w:=by
 refine wpList_plain hgd fun K hK=>?_
 have hrun:=run_zeros_grow (P:=P) w t ti o.type e i z ht hti hi hz hzs hsz A n cap xs hx hxs kx m hm hcap hle hby
 unfold Oper.wp
 simp only [execOp,ho,resolve,invoke,builtin,Sem.run_bind,Sem.run_pure,Result.andThen_ok,List.map_toArray,List.map_cons,List.map_nil,hs,hxm,hrun]
 exact hK _ _ (h _ _ (grownCap_ge _ _ _ _) (grownCap_le_maxLen _ _ _ _ (by unfold maxLen;omega)) (by unfold Hid;rw [hZ,hZ]))
/-- clear(s) of a row. -/
theorem run_clear_cells {P : Program} (w : World) (t ty e : TypeId) (i : TypeInfo) (z : Value) (ht : P.underlying t = some (.slice e)) (hi : P.info? e = some i) (hz : i.zero = some z)
  (g o n cap : Nat) (cur : Array Value) (te : TypeId) (hg : w.heap[g]? = some (.cells cur te (0,0))) (hn : 0 < n) (hfit : o + n * z.cells.size ≤ cur.size) (h1 : ∀ v ∈ (Builtin.zeroCells z.cells n).toList,v.oneCell' = true) :
  (Builtin.clear_ #[t] ty #[.slice (some ⟨g,o,none⟩) n cap]).run P w = .ok (.tuple #[]) (w.setRow g (splice cur.toList o (Builtin.zeroCells z.cells n).toList).toArray):=by
 have hst:=run_storeCells_at P g o te (Builtin.zeroCells z.cells n).toList 0 cur w hg (by simpa [size_zeroCells] using hfit) h1
 obtain ⟨n,rfl⟩ : ∃ m,n = m + 1:=⟨n - 1,by omega⟩
 simp [Builtin.clear_,run_underlying ht,typeInfo,zeroValue,hi,hz,hst,splice]
theorem wpList_clear_cells {P : Program} {w : World} {ops : Array Oper} {rest : List Oper} {o : Oper} {a : Act} {Q : Exit → Act → World → Prop} (hgd : o.guard = none) (s : Operand) (t : TypeId)
  (ho : o.op = .call { callee:=.builtin .clear,args:=#[s],argTypes:=#[t] }) (e : TypeId) (i : TypeInfo) (z : Value) (ht : P.underlying t = some (.slice e)) (hi : P.info? e = some i) (hz : i.zero = some z)
  (g off n cap : Nat) (hs : a.eval s = .slice (some ⟨g,off,none⟩) n cap) (cur : Array Value) (te : TypeId) (hg : w.heap[g]? = some (.cells cur te (0,0))) (hn : 0 < n) (hfit : off + n * z.cells.size ≤ cur.size) (h1 : ∀ v ∈ (Builtin.zeroCells z.cells n).toList,v.oneCell' = true) (Zf : Nat → List Value) (hZ : ∀ m,(Builtin.zeroCells z.cells m).toList = Zf m)
  (h : ∀ w',Hid (w' = w.setRow g (splice cur.toList off (Zf n)).toArray) → wpList P ops Q rest (a.put o.dst (.tuple #[])) w') : wpList P ops Q (o :: rest) a w:=by
 refine wpList_plain hgd fun K hK=>?_
 have hrun:=run_clear_cells (P:=P) w t o.type e i z ht hi hz g off n cap cur te hg hn hfit h1
 unfold Oper.wp
 simp only [execOp,ho,resolve,invoke,builtin,Sem.run_bind,Sem.run_pure,Result.andThen_ok,List.map_toArray,List.map_cons,List.map_nil,hs,hrun]
 exact hK _ _ (h _ (by unfold Hid;rw [hZ]))
theorem zero_one {z : Value} (h : ∀ v ∈ z.cells.toList,v.oneCell' = true) (hz : 0 < z.cells.size) (n : Nat) : ∀ v ∈ (Builtin.zeroCells z.cells n).toList,v.oneCell' = true:=by
 intro v hv
 simp only [Builtin.zeroCells,Array.toList_map,List.mem_map] at hv
 obtain ⟨i,_,rfl⟩:=hv
 have hi : i % z.cells.size < z.cells.size:=Nat.mod_lt _ hz
 rw [getElem!_pos z.cells _ hi]
 exact h _ (by simp)
section
variable {P : Program} {w : World} {ops : Array Oper} {rest : List Oper} {o : Oper} {a : Act} {Q : Exit → Act → World → Prop} {K : Act → World → Prop} {E : Prop}
theorem run_store_row {g off : Nat} {t : TypeId} {cur : Array Value} (e : TypeId) (u : Value) (seg : List Value) (hh : w.heap[g]? = some (.cells cur t (0,0))) (hu : u.cells.toList = seg) (ht : (P.info? e).map (·.size) = some seg.length)
  (hfit : off + seg.length ≤ cur.size) (h1 : ∀ q ∈ seg,q.oneCell' = true) : (Instr.storeAt e (.pointer (some ⟨g,off,none⟩)) u).run P w = .ok () (w.setRow g (splice cur.toList off seg).toArray):=by
 obtain ⟨i,hi,hsz⟩:=Option.map_eq_some_iff.1 ht
 have hc : u.cells.size = i.size:=by rw [hsz,← hu,Array.length_toList]
 have hst:=run_storeCells_at P g off t seg 0 cur w hh (by simpa using hfit) h1
 simp only [Nat.add_zero] at hst
 simp [Instr.storeAt,Instr.sureAddr,storeVar,sizeOf,typeInfo,hi,hc,hu,hst,splice]
theorem wp_store_row (hN : o.dst = none) (e : TypeId) (p x : Operand) (ho : o.op = .store e p x) (g off : Nat) (cur : Array Value) (t : TypeId) (u : Value) (seg : List Value) (haddr : a.eval p = .pointer (some ⟨g,off,none⟩)) (hx : a.eval x = u)
  (hh : w.heap[g]? = some (.cells cur t (0,0))) (hu : u.cells.toList = seg) (ht : (P.info? e).map (·.size) = some seg.length) (hfit : off + seg.length ≤ cur.size) (h1 : ∀ q ∈ seg,q.oneCell' = true)
  (h : ∀ w1,Hid (w1.heap[g]? = some (.cells (splice cur.toList off seg).toArray t (0,0))) → Hid (Only g w w1) → K a w1) : Oper.wp P o a w K Q:=by
 have hrun:=run_store_row (P:=P) (w:=w) e u seg hh hu ht hfit h1
 unfold Oper.wp execOp
 simp only [ho,haddr,hx,Sem.run_bind,Sem.run_pure,Result.andThen_ok,hrun]
 show K (a.put o.dst undef) _
 rw [hN]
 exact h _ (setRow_heap _ _ _ _ _ _ hh) ((Only.refl g w).setRow _)
theorem wpList_store_row (hN : o.dst = none) (hgd : o.guard = none) (e : TypeId) (p x : Operand) (ho : o.op = .store e p x) (g off : Nat) (cur : Array Value) (t : TypeId) (u : Value) (seg : List Value) (haddr : a.eval p = .pointer (some ⟨g,off,none⟩)) (hx : a.eval x = u)
  (hh : w.heap[g]? = some (.cells cur t (0,0))) (hu : u.cells.toList = seg) (ht : (P.info? e).map (·.size) = some seg.length) (hfit : off + seg.length ≤ cur.size) (h1 : ∀ q ∈ seg,q.oneCell' = true)
  (h : ∀ w1,Hid (w1.heap[g]? = some (.cells (splice cur.toList off seg).toArray t (0,0))) → Hid (Only g w w1) → wpList P ops Q rest a w1) : wpList P ops Q (o :: rest) a w :=
 wpList_plain hgd fun _ hK=>wp_store_row hN e p x ho g off cur t u seg haddr hx hh hu ht hfit h1 fun w1 h2 h3=>hK _ _ (h w1 h2 h3)
end
section
variable {P : Program}
/-- append, the second slice of another type with the same elements. -/
theorem wpList_append_own2 (w : World) {ops : Array Oper} {rest : List Oper} {o : Oper} {a : Act} {Q : Exit → Act → World → Prop} (hgd : o.guard = none) (s x : Operand) (t tx : TypeId)
  (ho : o.op = .call { callee:=.builtin .append,args:=#[s,x],argTypes:=#[t,tx] }) {e : TypeId} (htx : P.underlying tx = some (.slice e))
  (base : Nat) (e' : TypeId) (i : TypeInfo) (z : Value) (size bytes : Nat) (ht : P.underlying t = some (.slice e')) (hi : P.info? e' = some i) (hz : i.zero = some z)
  (hsize : i.size = size) (hby : i.bytes = bytes) (hzs : z.cells.size = size) (hsz : 0 < size)
  (v : Value) (n : Nat) (xs : List Value) (hs : a.eval s = v) (hown : w.ownsRow base e' size v n xs)
  (ad : Addr) (m c : Nat) (news : List Value) (hx : a.eval x = .slice (some ad) m c) (hl : news.length = m * size) (hnews : ∀ j u,news[j]? = some u → w.cell? (ad.add j) = some u) (h1 : ∀ u ∈ news,u.oneCell' = true)
  (h63 : n + m ≤ maxLen) (hbytes : (n + m) * bytes ≤ 140737488355328) (hbase : base ≤ w.heap.size)
  (h : ∀ v' w',w'.ownsRow base e' size v' (n + m) (xs ++ news) → w.grownBy w' v.ownBlock → (v' = .slice none 0 0 ↔ v = .slice none 0 0 ∧ m = 0) → wpList P ops Q rest (a.put o.dst v') w') : wpList P ops Q (o :: rest) a w:=by
 refine wpList_plain hgd fun K hK=>?_
 obtain ⟨v',w',hr,h2,h3,h4⟩:=run_append_own (P:=P) w base t o.type e' i z size bytes ht hi hz hsize hby hzs hsz v n xs hown ad m c news hl hnews h1 h63 hbytes hbase
 have hr' : (Builtin.append_ #[t,tx] o.type #[v,.slice (some ad) m c]).run P w = .ok v' w':=by
  rw [← hr]
  obtain ⟨A0,c0,rfl⟩ : ∃ A0 c0,v = .slice A0 n c0:=by
   rcases hown.2 with ⟨h1,h2⟩ | ⟨g,cap,cur,h1,_⟩
   ·exact ⟨none,0,by rw [h1,h2]⟩
   ·exact ⟨_,cap,h1⟩
  cases A0 <;> simp [Builtin.append_,run_underlying ht,run_underlying htx,sizeOf,typeInfo,hi]
 unfold Oper.wp execOp
 simp only [ho,resolve,invoke,builtin,Sem.run_bind,Sem.run_pure,Result.andThen_ok,List.map_toArray,List.map_cons,List.map_nil,hs,hx,hr']
 exact hK _ _ (h v' w' h2 h3 h4)
end
section
variable {α : Type} {d : Kd α} {w w1 : World} {l l2 : List α} {A : Option Addr} {n : Nat}
theorem Only.to (g : Nat) {w w' : World} (h : Only g w w') {B : Nat} (hB : B ≤ w.heap.size) (hg : B ≤ g) : Below B w w':=h.below (Below.refl _ _) hB hg
theorem grown_below {w w' : World} (h : w.grownBy w' none) : Below w.heap.size w w':=⟨h.os,h.tape,h.output,h.size,fun k hk=>h.block k hk (by simp)⟩
theorem C_len (h : Kd.C d w A n l) : n = l.length:=h.1.symm
theorem C_addr (h : Kd.C d w A n l) (hn : 0 < n) : ∃ ad,A = some ad:=by obtain ⟨ad,e,_⟩:=h.2.2 hn;exact ⟨ad,e⟩
theorem C_take (h : Kd.C d w A n l) (i : Nat) (hi : i ≤ n) : Kd.C d w A i (l.take i):=by
 obtain ⟨h1,h2,h3⟩:=h
 refine ⟨by rw [List.length_take];omega,by omega,fun h0=>?_⟩
 obtain ⟨ad,e,hc⟩:=h3 (by omega)
 refine ⟨ad,e,fun j x hx=>hc j x ?_⟩
 rw [List.getElem?_take] at hx
 split at hx
 ·exact hx
 ·cases hx
theorem C_drop {ad : Addr} (h : Kd.C d w (some ad) n l) (k : Nat) (hk : k ≤ n) : Kd.C d w (some (ad.add (k * d.sz))) (n - k) (l.drop k):=by
 obtain ⟨h1,h2,h3⟩:=h
 refine ⟨by rw [List.length_drop];omega,by omega,fun h0=>?_⟩
 obtain ⟨ad',e,hc⟩:=h3 (by omega)
 obtain rfl : ad = ad':=by injection e
 refine ⟨_,rfl,fun j x hx=>?_⟩
 rw [List.getElem?_drop] at hx
 obtain ⟨c,h4,h5,h6⟩:=hc _ _ hx
 refine ⟨c,h4,h5,fun i u hu=>?_⟩
 rw [Addr.add_add,← Nat.add_assoc,← Nat.add_mul]
 exact h6 i u hu
theorem C_none (h : Kd.C d w none n l) : n = 0 ∧ l = []:=by
 rcases Nat.eq_zero_or_pos n with h0 | h0
 ·exact ⟨h0,List.length_eq_zero_iff.1 (by rw [h.1];exact h0)⟩
 ·obtain ⟨ad,e,_⟩:=h.2.2 h0;cases e
theorem C_mt (d : Kd α) (w : World) (A : Option Addr) : Kd.C d w A 0 []:=⟨rfl,by omega,fun h=>absurd h (Nat.lt_irrefl _)⟩
end
theorem own_C {α : Type} {d : Kd α} {w : World} {l : List α} {rows : List (List Value)} {base e k : Nat} {v : Value} (h : w.ownsRow base e d.sz v k rows.flatten) (hr : RowsOf d w l rows) (hk : k = l.length) (hm : l.length ≤ 9223372036854775807) :
  ∃ A c,v = .slice A k c ∧ k ≤ c ∧ Kd.C d w A k l:=by
 subst hk
 have h':=h
 rcases h.2 with ⟨h1,h0⟩ | ⟨g,cap,cur,rfl,_,_,h2,_⟩
 ·refine ⟨none,0,by rw [h1,h0],by omega,?_⟩
  have : l = []:=List.length_eq_zero_iff.1 h0
  subst this
  exact C_mt _ _ _
 ·exact ⟨_,cap,rfl,h2,rows_C hr (own_raw h') hm⟩
section
variable {P : Program} {α : Type} {d : Kd α} {w : World} {ops : Array Oper} {rest : List Oper} {o : Oper} {a : Act} {Q : Exit → Act → World → Prop} {K : Act → World → Prop}
theorem run_append_C (t ty e : TypeId) (i : TypeInfo) (z : Value) (bytes : Nat) (ht : P.underlying t = some (.slice e)) (hi : P.info? e = some i) (hz : i.zero = some z) (hsize : i.size = d.sz) (hby : i.bytes = bytes) (hzs : z.cells.size = d.sz) (hsz : 0 < d.sz)
  (A : Option Addr) (n cap : Nat) (l : List α) (hC : Kd.C d w A n l) (hnone : A = none → cap = 0) (B : Option Addr) (m c : Nat) (l2 : List α) (hC2 : Kd.C d w B m l2) (hcap : n ≤ cap) (hfull : cap < n + m ∨ m = 0) (b1 : n + m ≤ 1000000) (bb : bytes ≤ 1000) :
  ∃ A' c' w',(Builtin.append_ #[t,t] ty #[.slice A n cap,.slice B m c]).run P w = .ok (.slice A' (n + m) c') w' ∧ Kd.C d w' A' (n + m) (l ++ l2) ∧ n + m ≤ c' ∧ (A' = none → c' = 0) ∧ Below w.heap.size w w':=by
 have hl:=hC.1
 have hl2:=hC2.1
 rcases Nat.eq_zero_or_pos m with h0 | h0
 ·subst h0
  have : l2 = []:=List.length_eq_zero_iff.1 hl2
  subst this
  rw [List.append_nil]
  refine ⟨A,cap,w,?_,hC,hcap,hnone,Below.refl _ _⟩
  cases A <;> cases B <;> simp [Builtin.append_,run_underlying ht,sizeOf,typeInfo,hi,Builtin.lenOf,hcap,storeCells,Builtin.firstCells,loadCells,loadCellsFrom]
 ·have hlt : cap < n + m:=by omega
  obtain ⟨bd,rfl⟩:=C_addr hC2 h0
  subst hl2
  obtain ⟨rows2,r2,q2⟩:=C_rows hC2
  have hbytes : (n + l2.length) * bytes ≤ 140737488355328:=Nat.le_trans (Nat.mul_le_mul b1 bb) (by decide)
  have fin : ∀ (rows : List (List Value)) (v' : Value) (w' : World),RowsOf d w l rows → w'.ownsRow w.heap.size e d.sz v' (n + l2.length) (rows.flatten ++ rows2.flatten) → w.grownBy w' none →
    ∃ A' c',v' = .slice A' (n + l2.length) c' ∧ Kd.C d w' A' (n + l2.length) (l ++ l2) ∧ n + l2.length ≤ c' ∧ (A' = none → c' = 0) ∧ Below w.heap.size w w':=by
   intro rows v' w' hr ho hg
   have hb:=grown_below hg
   rw [← List.flatten_append] at ho
   obtain ⟨A',c',e1,e2,e3⟩:=own_C ho ((hr.below hb).append (r2.below hb)) (by rw [List.length_append];omega) (by rw [List.length_append];omega)
   refine ⟨A',c',e1,e3,e2,fun h=>?_,hb⟩
   subst h
   have:=(C_none e3).1
   omega
  cases A with
  | none =>
   obtain ⟨rfl,rfl⟩:=C_none hC
   obtain rfl:=hnone rfl
   obtain ⟨v',w',hrun,ho,hg,_⟩:=run_append_own (P:=P) w w.heap.size t ty e i z d.sz bytes ht hi hz hsize hby hzs hsz (.slice none 0 0) 0 [] (World.ownsRow_nil w _ e d.sz) bd l2.length c rows2.flatten (by rw [flat_len r2.lens,r2.len]) q2 r2.one (by unfold maxLen;omega) hbytes (Nat.le_refl _)
   obtain ⟨A',c',rfl,k1,k2,k3,k4⟩:=fin [] v' w' RowsOf.nil_ (by simpa using ho) (by simpa [Value.ownBlock] using hg)
   exact ⟨A',c',w',hrun,k1,k2,k3,k4⟩
  | some ad =>
   subst hl
   obtain ⟨rows,r1,q1⟩:=C_rows hC
   obtain ⟨v',w',hrun,ho,hg⟩:=run_append_arg_grows (P:=P) w t ty e i z d.sz bytes ht hi hz hsize hby hzs hsz ad l.length cap rows.flatten (by rw [flat_len r1.lens,r1.len]) q1 bd l2.length c rows2.flatten (by rw [flat_len r2.lens,r2.len]) q2 hlt (by unfold maxLen;omega) hbytes
   obtain ⟨A',c',rfl,k1,k2,k3,k4⟩:=fin rows v' w' r1 ho hg
   exact ⟨A',c',w',hrun,k1,k2,k3,k4⟩
theorem wp_append_C (s x : Operand) (t : TypeId) (ho : o.op = .call { callee:=.builtin .append,args:=#[s,x],argTypes:=#[t,t] })
  (e : TypeId) (i : TypeInfo) (z : Value) (bytes : Nat) (ht : P.underlying t = some (.slice e)) (hi : P.info? e = some i) (hz : i.zero = some z) (hsize : i.size = d.sz) (hby : i.bytes = bytes) (hzs : z.cells.size = d.sz) (hsz : 0 < d.sz)
  (A : Option Addr) (n cap : Nat) (l : List α) (hs : a.eval s = .slice A n cap) (hC : Kd.C d w A n l) (hnone : A = none → cap = 0) (B : Option Addr) (m c : Nat) (l2 : List α) (hx : a.eval x = .slice B m c) (hC2 : Kd.C d w B m l2) (hcap : n ≤ cap) (hfull : cap < n + m ∨ m = 0) (b1 : n + m ≤ 1000000) (bb : bytes ≤ 1000)
  (hK : ∀ A' c' w',Hid (Kd.C d w' A' (n + m) (l ++ l2)) → n + m ≤ c' → Hid (A' = none → c' = 0) → Hid (Below w.heap.size w w') → K (a.put o.dst (.slice A' (n + m) c')) w') : Oper.wp P o a w K Q:=by
 obtain ⟨A',c',w',hrun,k1,k2,k3,k4⟩:=run_append_C (P:=P) t o.type e i z bytes ht hi hz hsize hby hzs hsz A n cap l hC hnone B m c l2 hC2 hcap hfull b1 bb
 unfold Oper.wp
 simp [execOp,ho,resolve,invoke,builtin,hs,hx,hrun,Result.andThen]
 exact hK _ _ _ k1 k2 k3 k4
theorem wpList_append_C (hgd : o.guard = none) (s x : Operand) (t : TypeId) (ho : o.op = .call { callee:=.builtin .append,args:=#[s,x],argTypes:=#[t,t] })
  (e : TypeId) (i : TypeInfo) (z : Value) (bytes : Nat) (ht : P.underlying t = some (.slice e)) (hi : P.info? e = some i) (hz : i.zero = some z) (hsize : i.size = d.sz) (hby : i.bytes = bytes) (hzs : z.cells.size = d.sz) (hsz : 0 < d.sz)
  (A : Option Addr) (n cap : Nat) (l : List α) (hs : a.eval s = .slice A n cap) (hC : Kd.C d w A n l) (hnone : A = none → cap = 0) (B : Option Addr) (m c : Nat) (l2 : List α) (hx : a.eval x = .slice B m c) (hC2 : Kd.C d w B m l2) (hcap : n ≤ cap) (hfull : cap < n + m ∨ m = 0) (b1 : n + m ≤ 1000000) (bb : bytes ≤ 1000)
  (hK : ∀ A' c' w',Hid (Kd.C d w' A' (n + m) (l ++ l2)) → n + m ≤ c' → Hid (A' = none → c' = 0) → Hid (Below w.heap.size w w') → wpList P ops Q rest (a.put o.dst (.slice A' (n + m) c')) w') : wpList P ops Q (o :: rest) a w :=
 wpList_plain hgd fun K hK'=>wp_append_C s x t ho e i z bytes ht hi hz hsize hby hzs hsz A n cap l hs hC hnone B m c l2 hx hC2 hcap hfull b1 bb fun A' c' w' h1 h2 h3 h4=>hK' _ _ (hK A' c' w' h1 h2 h3 h4)
end
theorem zl {g k : Nat} {w w' : World} {o : Obj} (h : Hid (Only g w w')) (hk : Hid (w.heap[k]? = some o)) (hg : k ≠ g) : Hid (w'.heap[k]? = some o):=h.out.blk hk.out hg
theorem zo {g : Nat} {w0 w w' : World} (h : Hid (Only g w w')) (hb : Hid (Below w0.heap.size w0 w)) (hg : Hid (w0.heap.size ≤ g)) : Hid (Below w0.heap.size w0 w'):=h.out.below hb.out hb.out.size hg.out
section
variable {P : Program} {w : World} {ops : Array Oper} {rest : List Oper} {o : Oper} {a : Go.Act} {Q : Exit → Go.Act → World → Prop}
theorem zs (e : TypeId) (p x : Operand) (g off : Nat) (t : TypeId) (seg : List Value) {cur : Array Value} (hh : Hid (w.heap[g]? = some (.cells cur t (0,0)))) (ht : (P.info? e).map (·.size) = some seg.length)
 (h : ∀ w1,Hid (w1.heap[g]? = some (.cells (splice cur.toList off seg).toArray t (0,0))) → Hid (Only g w w1) → wpList P ops Q rest a w1) (hN : o.dst = none:=by rfl) (hgd : o.guard = none:=by rfl) (ho : o.op = .store e p x:=by rfl)
 (haddr : a.eval p = .pointer (some ⟨g,off,none⟩):=by rfl) (hx : a.eval x = .agg seg.toArray:=by rfl) (hu : (Value.agg seg.toArray).cells.toList = seg:=by rfl) (hfit : off + seg.length ≤ cur.size:=by exact Nat.le_of_ble_eq_true rfl)
 (h1 : ∀ q ∈ seg,q.oneCell' = true:=by simp [Value.oneCell']) : wpList P ops Q (o :: rest) a w:=wpList_store_row hN hgd e p x ho g off cur t _ seg haddr hx hh.out hu ht hfit h1 h
theorem zq (e : TypeId) (p x : Operand) (g off : Nat) (t : TypeId) (q : Value) {cur : Array Value} (hh : Hid (w.heap[g]? = some (.cells cur t (0,0)))) (ht : (P.info? e).map (·.size) = some 1)
 (h : ∀ w1,Hid (w1.heap[g]? = some (.cells (splice cur.toList off [q]).toArray t (0,0))) → Hid (Only g w w1) → wpList P ops Q rest a w1) (hN : o.dst = none:=by rfl) (hgd : o.guard = none:=by rfl) (ho : o.op = .store e p x:=by rfl)
 (haddr : a.eval p = .pointer (some ⟨g,off,none⟩):=by rfl) (hx : a.eval x = q:=by rfl) (hu : q.cells.toList = [q]:=by rfl) (hfit : off + 1 ≤ cur.size:=by exact Nat.le_of_ble_eq_true rfl)
 (h1 : ∀ r ∈ [q],r.oneCell' = true:=by simp [Value.oneCell']) : wpList P ops Q (o :: rest) a w:=wpList_store_row hN hgd e p x ho g off cur t _ [q] haddr hx hh.out hu ht hfit h1 h
end
end
section
theorem once_disable (w : World) : (callFunc 200 #[]).run Tryz.prog w = .ok (.value (.tuple #[])) w:=run_call_mark0 Tryz.func200 (by kernel_rfl) (by kernel_rfl) (by kernel_rfl) .disable (by kernel_rfl) w
theorem once_enable (w : World) : (callFunc 202 #[]).run Tryz.prog w = .ok (.value (.tuple #[])) w:=run_call_mark0 Tryz.func202 (by kernel_rfl) (by kernel_rfl) (by kernel_rfl) .enable (by kernel_rfl) w
theorem once_acquire (a : Addr) (w : World) : (callFunc 203 #[.pointer (some a)]).run Tryz.prog w = .ok (.value (.tuple #[])) w:=run_call_marked Tryz.func203 (by kernel_rfl) (by kernel_rfl) (by kernel_rfl) .acquire (by kernel_rfl) a w
theorem once_release (a : Addr) (w : World) : (callFunc 205 #[.pointer (some a)]).run Tryz.prog w = .ok (.value (.tuple #[])) w:=run_call_marked Tryz.func205 (by kernel_rfl) (by kernel_rfl) (by kernel_rfl) .releaseMerge (by kernel_rfl) a w
theorem once_store (a : Addr) (x : Value) (u : FrameMode) (w : World) (hc : w.cell? a = some x) (hz : w.frozen? a = false) :
  CallsD Tryz.prog 188 #[.pointer (some a),.bool true] u w fun e u' w'=>u' = u ∧ (e = .returned (.tuple #[]) ∧ w' = w.drew.setCell a (.int .u32 1)):=by
 have hc' : w.drew.cell? a = some x:=by go_simp
 have hz' : w.drew.frozen? a = false:=by go_simp
 have hst:=run_call_store (P:=Tryz.prog) Tryz.func196 (by kernel_rfl) (by kernel_rfl) (by kernel_rfl) (by kernel_rfl) (k:=.u32) (y:=1) hc' hz'
 go_enter_d Tryz.func188,Tryz.ntmps188
 go_wp2
 go_region_calls
 all_goals (go_end0;exact ⟨rfl,rfl⟩)
theorem once_unlock (a : Addr) (u : FrameMode) (w : World) (hc : w.cell? a = some (.int .i32 1)) (hz : w.frozen? a = false) :
  CallsD Tryz.prog 187 #[.pointer (some a)] u w fun e u' w'=>u' = u ∧ (e = .returned (.tuple #[]) ∧ w' = w.setCell a (.int .i32 0)):=by
 have hd:=once_disable
 have he:=once_enable
 have hr:=once_release
 have hadd:=run_call_add (P:=Tryz.prog) Tryz.func206 (by kernel_rfl) (by kernel_rfl) (by kernel_rfl) .i32 (by kernel_rfl) (y:=-1) (s:=0) hc hz (by simp [go_sem];rfl)
 have hcv:=run_convert_to_unsafe (P:=Tryz.prog) (src:=270) (dst:=242) Tryz.underlying270 Tryz.underlying242 (by kernel_rfl) hc
 go_enter_d Tryz.func187,Tryz.ntmps187
 go_wp2
 go_end0
 go_wp2
 go_end0
 exact ⟨rfl,rfl⟩
theorem once_lock (a : Addr) (w : World) (hc : w.cell? a = some (.int .i32 0)) (hz : w.frozen? a = false) :
  Calls Tryz.prog 186 #[.pointer (some a)] w fun e w'=>e = .returned (.tuple #[]) ∧ w' = w.setCell a (.int .i32 1):=by
 have hd:=once_disable
 have he:=once_enable
 have ha:=once_acquire
 have hcas:=run_call_cas_hit (P:=Tryz.prog) Tryz.func201 (by kernel_rfl) (by kernel_rfl) (by kernel_rfl) .i32 (by kernel_rfl) (y:=1) hc hz
 have hc' : (w.setCell a (.int .i32 1)).cell? a = some (.int .i32 1):=World.cell?_setCell_same w a _ hc
 have hcv:=run_convert_to_unsafe (P:=Tryz.prog) (src:=270) (dst:=242) Tryz.underlying270 Tryz.underlying242 (by kernel_rfl) hc'
 go_enter Tryz.func186,Tryz.ntmps186
 go_wp2
 first | go_end0 | (simp only [Exit.inBlock,Exit.then];refine bodyPost_ret (results_none rfl _ _ _) rfl ?_) | refine bodyPost_ret (results_none rfl _ _ _) rfl ?_
 go_wp2
 go_end0
 exact ⟨rfl,rfl⟩
end
section
theorem bits32_range (op : BinOp) (x y : Int) : 0 ≤ bits op .u32 x y ∧ bits op .u32 x y < 4294967296:=by
 have : ∀ n : Int,IntKind.u32.wrap n = n % 4294967296:=fun n=>by simp [IntKind.wrap,IntKind.bits,IntKind.signed]
 unfold bits
 rw [this]
 omega
theorem bits8_range (op : BinOp) (x y : Int) : 0 ≤ bits op .u8 x y ∧ bits op .u8 x y < 256:=by
 have : ∀ n : Int,IntKind.u8.wrap n = n % 256:=fun n=>by simp [IntKind.wrap,IntKind.bits,IntKind.signed]
 unfold bits
 rw [this]
 omega
def tone (x : Int) : Int:=bits .xor .u32 (x / 2) (2197175160 * bits .and .u32 x 1 % 4294967296)
def ttimes : Nat → Int → Int
 | 0,x=>x
 | m + 1,x=>tone (ttimes m x)
def tab (i : Nat) : Int:=ttimes 8 i
theorem tone_range (x : Int) : 0 ≤ tone x ∧ tone x < 4294967296:=bits32_range _ _ _
def TabTo (k : Nat) (cs cs' : Array Value) : Prop:=cs'.size = 259 ∧ cs'[0]? = cs[0]? ∧ cs'[1]? = cs[1]? ∧ ∀ i,i < k → cs'[3 + i]? = some (.int .u32 (tab i))
theorem TabTo.start {cs : Array Value} (h : cs.size = 259) : TabTo 0 cs cs:=⟨h,rfl,rfl,fun i hi=>absurd hi (Nat.not_lt_zero _)⟩
theorem TabTo.step {k : Nat} {cs cs' : Array Value} (h : TabTo k cs cs') (hk : k < 256) {x : Int} (hx : ttimes 8 k = x) : TabTo (k + 1) cs (cs'.setIfInBounds (3 + k) (.int .u32 x)):=by
 obtain ⟨h1,h2,h3,h4⟩:=h
 refine ⟨by simpa using h1,?_,?_,fun i hi=>?_⟩
 ·rw [Array.getElem?_setIfInBounds,if_neg (by omega)];exact h2
 ·rw [Array.getElem?_setIfInBounds,if_neg (by omega)];exact h3
 ·rw [Array.getElem?_setIfInBounds]
  by_cases e : i = k
  ·subst e;rw [if_pos rfl,if_pos (by omega),← hx];rfl
  ·rw [if_neg (by omega)];exact h4 i (by omega)
theorem made_fill (b : Nat) (pl : Addr) (hpb : pl.block ≠ b) (cs : Array Value) (w : World) (hp : w.cell? pl = some (.pointer (some ⟨b,0,none⟩)))
  (hb : w.heap[b]? = some (.cells cs 238 (0,0))) (hsz : cs.size = 259) :
  Calls Tryz.prog 175 #[.pointer (some pl)] w fun e w'=>e = .returned (.tuple #[]) ∧ Only b w w' ∧ ∃ cs',w'.heap[b]? = some (.cells cs' 238 (0,0)) ∧ TabTo 256 cs cs':=by
 have HO:=Only.refl b w
 have HP:=zh hp;clear hp
 have HBK:=zh hb;clear hb
 have HSZ:=zh hsz;clear hsz
 go_enter Tryz.func175,Tryz.ntmps175
 go_wp2
 go_loopw [1,2,3] (fun _ _ i wr=>∃ (k : Nat) (cs' : Array Value),i = .int .i64 k ∧ k ≤ 256 ∧ Hid (Only b w wr) ∧ Hid (wr.heap[b]? = some (.cells cs' 238 (0,0))) ∧ Hid (TabTo k cs cs')) (fun _ _ i _=>256 - (intOf i).toNat)
 case atStart=>exact ⟨0,cs,rfl,by omega,HO,HBK,TabTo.start HSZ.out⟩
 case round =>
  obtain ⟨k,cs',rfl,hk,ho,hbk,ht⟩:=hrel
  by_cases hlt : k < 256
  ·go_wp2
   go_loop [2,8] (fun c j=>∃ (m : Nat) (x : Int),j = .int .i64 m ∧ m ≤ 8 ∧ c = .int .u32 x ∧ 0 ≤ x ∧ x < 4294967296 ∧ Hid (ttimes m k = x)) (fun _ j=>8 - (intOf j).toNat)
   case atStart=>exact ⟨0,k,rfl,by omega,rfl,by omega,by omega,rfl⟩
   case round =>
    obtain ⟨m,x,rfl,hm,rfl,hx0,hx1,hx⟩:=hrel
    by_cases hlt2 : m < 8
    ·go_wp2
     go_round
     case rel=>exact ⟨m + 1,_,by go_num,by omega,rfl,(tone_range x).1,(tone_range x).2,by unfold Hid;rw [← hx.out];rfl⟩
     case measure=>simp [intOf];omega
    ·obtain rfl : m = 8:=by omega
     have hP:=ho.out.cell hpb HP.out
     obtain ⟨y,hy⟩ : ∃ y,wr.cell? ⟨b,3 + k,none⟩ = some y:=by
      rw [blk_cell hbk.out];exact ⟨_,Array.getElem?_eq_getElem (by have:=ht.out.1;omega)⟩
     have hf:=blk_frozen hbk.out (3 + k)
     have hbk2:=zh (blk_set hbk.out (3 + k) (.int .u32 x))
     have ht2:=zh (ht.out.step hlt hx.out)
     go_wp2
     go_roundw
     case rel=>exact ⟨k + 1,_,by go_num,by omega,ho.out.set _ _,hbk2,ht2⟩
     case measure=>simp [intOf];omega
  ·obtain rfl : k = 256:=by omega
   go_wp2
   go_end0
   exact ⟨rfl,ho.out,cs',hbk.out,ht.out⟩
end
section
theorem once_load0 (a : Addr) (w : World) (h : w.cell? a = some (.int .u32 0)) : Calls Tryz.prog 178 #[.pointer (some a)] w fun e w'=>e = .returned (.bool false) ∧ w' = w:=by
 have hl:=run_call_load (P:=Tryz.prog) Tryz.func185 (by kernel_rfl) (by kernel_rfl) (by kernel_rfl) .u32 (by kernel_rfl) h
 go_enter Tryz.func178,Tryz.ntmps178
 go_wp2
 go_ret
 exact ⟨rfl,rfl⟩
/-- doSlow, the Once not yet done and its lock free. -/
theorem once_slow (b : Nat) (pl : Addr) (hpb : pl.block ≠ b) (cs : Array Value) (w : World) (hp : w.cell? pl = some (.pointer (some ⟨b,0,none⟩)))
  (hb : w.heap[b]? = some (.cells cs 238 (0,0))) (hsz : cs.size = 259) (h0 : cs[0]? = some (.int .u32 0)) (h1 : cs[1]? = some (.int .i32 0)) :
  Calls Tryz.prog 179 #[.pointer (some ⟨b,0,none⟩),.func (.func 175) #[] #[.pointer (some pl)]] w fun e w'=>e = .returned (.tuple #[]) ∧
   Only b w w' ∧ ∃ cs',w'.heap[b]? = some (.cells cs' 238 (0,0)) ∧ ∀ i,i < 256 → cs'[3 + i]? = some (.int .u32 (tab i)):=by
 have hb1:=blk_set hb 1 (.int .i32 1)
 have HL:=zh (once_load0 ⟨b,0,none⟩ (w.setCell ⟨b,1,none⟩ (.int .i32 1)) ((blk_cell hb1 0).trans (by simpa using h0)))
 have hnot : ∀ (x : Bool) (w : World),(Op.unary .not (.bool x)).run Tryz.prog w = .ok (.bool (!x)) w:=fun _ _=>rfl
 have hc1 : w.cell? ⟨b,1,none⟩ = some (.int .i32 0):=(blk_cell hb 1).trans h1
 have hf1:=blk_frozen hb 1
 have HB1:=zh hb1;clear hb1
 have HO:=zh ((Only.refl b w).set 1 (.int .i32 1))
 have HP:=zh hp;clear hp
 have HS:=zh (show (cs.setIfInBounds 1 (.int .i32 1)).size = 259 by simpa using hsz)
 have HC0:=zh (show (cs.setIfInBounds 1 (.int .i32 1))[0]? = some (.int .u32 0) by simpa using h0)
 have HC1:=zh (show (cs.setIfInBounds 1 (.int .i32 1))[1]? = some (.int .i32 1) by rw [Array.getElem?_setIfInBounds,if_pos rfl,if_pos (by omega)])
 clear hb h0 h1 hsz
 go_enter_defers Tryz.func179,Tryz.ntmps179
 go_wp2_with (first | (go_at_call 186;refine (once_lock ⟨b,1,none⟩ _ (by go_simp) (by go_simp)).mono ?_;rintro e w' ⟨rfl,rfl⟩) | (go_at_call 178;refine HL.out.mono ?_;rintro e w' ⟨rfl,rfl⟩) | (go_at_call 175;refine (made_fill b pl hpb _ _ (HO.out.cell hpb HP.out) HB1.out HS.out).mono ?_;rintro e w2 ⟨rfl,ho2,cs2,hb2,ht2⟩;have HO2:=zh ho2;have HB2:=zh hb2;have HT2:=zh ht2;clear ho2 hb2 ht2))
 refine leaves_cons (f:=188) (args:=#[.pointer (some ⟨b,0,none⟩),.bool true]) (by simp) (by simp [go_sem]) ?_
 refine (once_store ⟨b,0,none⟩ (.int .u32 0) .returning _ ?_ (blk_frozen HB2.out 0)).mono ?_
 ·rw [zj HB2 0,HT2.out.2.1];exact HC0.out
 rintro e u' w'' ⟨rfl,rfl,rfl⟩
 refine leaves_cons (f:=187) (args:=#[.pointer (some ⟨b,1,none⟩)]) (by simp [settle]) (by simp [go_sem]) ?_
 have HB3:=zh (blk_set (blk_drew HB2.out) 0 (.int .u32 1))
 refine (once_unlock ⟨b,1,none⟩ _ _ ?_ (blk_frozen HB3.out 1)).mono ?_
 ·rw [zj HB3 1,Array.getElem?_setIfInBounds,if_neg (by omega),HT2.out.2.2.1];exact HC1.out
 rintro e u' w'' ⟨rfl,rfl,rfl⟩
 have HB4:=zh (blk_set HB3.out 1 (.int .i32 0))
 have HO4:=zh (((((HO.out.trans HO2.out).drewN 1).set 0 (.int .u32 1)).set 1 (.int .i32 0)))
 have HT:=zh (show ∀ i,i < 256 → ((cs2.setIfInBounds 0 (.int .u32 1)).setIfInBounds 1 (.int .i32 0))[3 + i]? = some (.int .u32 (tab i)) from fun i hi=>by
  rw [Array.getElem?_setIfInBounds,if_neg (by omega),Array.getElem?_setIfInBounds,if_neg (by omega)];exact HT2.out.2.2.2 i hi)
 have hres : ∀ (a : Array Value) (w : World),(results Tryz.f179 a).run Tryz.prog w = .ok (.tuple #[]) w:=fun a w=>results_none (by kernel_rfl) _ _ _
 simp [Leaves,settle,hres]
 exact ⟨HO4.out,_,HB4.out,HT.out⟩
theorem once_do (b : Nat) (pl : Addr) (hpb : pl.block ≠ b) (cs : Array Value) (w : World) (hp : w.cell? pl = some (.pointer (some ⟨b,0,none⟩)))
  (hb : w.heap[b]? = some (.cells cs 238 (0,0))) (hsz : cs.size = 259) (h0 : cs[0]? = some (.int .u32 0)) (h1 : cs[1]? = some (.int .i32 0)) :
  Calls Tryz.prog 174 #[.pointer (some ⟨b,0,none⟩),.func (.func 175) #[] #[.pointer (some pl)]] w fun e w'=>e = .returned (.tuple #[]) ∧
   Only b w w' ∧ ∃ cs',w'.heap[b]? = some (.cells cs' 238 (0,0)) ∧ ∀ i,i < 256 → cs'[3 + i]? = some (.int .u32 (tab i)):=by
 have HL:=zh (once_load0 ⟨b,0,none⟩ w ((blk_cell hb 0).trans h0))
 have HS:=zh (once_slow b pl hpb cs w hp hb hsz h0 h1)
 have hc0:=(blk_cell hb 0).trans h0
 clear hp hb hsz h0 h1
 go_enter Tryz.func174,Tryz.ntmps174
 go_wp2_with (first | (go_at_call 178;refine HL.out.mono ?_;rintro e w' ⟨rfl,rfl⟩) | (go_at_call 179;refine HS.out.mono ?_;rintro e w' ⟨rfl,ho,hr⟩;have HR:=zh hr;have HO:=zh ho;clear ho hr))
 go_end0
 exact ⟨rfl,HO.out,HR.out⟩
theorem tag_made (b : Nat) (cs : Array Value) (w : World) (hb : w.heap[b]? = some (.cells cs 238 (0,0))) (hsz : cs.size = 259) (h0 : cs[0]? = some (.int .u32 0)) (h1 : cs[1]? = some (.int .i32 0)) :
  Calls Tryz.prog 165 #[.pointer (some ⟨b,0,none⟩)] w fun e w'=>e = .returned (.pointer (some ⟨b,3,none⟩)) ∧
   Only b w w' ∧ ∃ cs',w'.heap[b]? = some (.cells cs' 238 (0,0)) ∧ ∀ i,i < 256 → cs'[3 + i]? = some (.int .u32 (tab i)):=by
 have hlt:=blk_lt hb
 have hc0:=(blk_cell hb 0).trans h0
 have HS:=zh (once_do b ⟨w.heap.size,0,none⟩ (by show w.heap.size ≠ b;omega) cs (w.alloc (.cells #[.pointer (some ⟨b,0,none⟩)] 247)) (by simp [go_sem]) (blk_alloc hb _) hsz h0 h1)
 have HW:=zh (show (w.alloc (.cells #[.pointer (some ⟨b,0,none⟩)] 247)).cell? ⟨w.heap.size,0,none⟩ = some (.pointer (some ⟨b,0,none⟩)) by simp [go_sem])
 have HN:=zh (show w.heap.size ≠ b by omega)
 clear hb hsz h0 h1 hlt
 go_enter Tryz.func165,Tryz.ntmps165
 go_wp2_with (go_at_call 174;refine HS.out.mono ?_;rintro e w1 ⟨rfl,ho,hr⟩;have HR:=zh hr;have HO:=zh ho;clear ho hr;have hw1:=HO.out.cell HN.out HW.out)
 go_ret
 refine ⟨rfl,?_,HR.out⟩
 have h:=HO.out
 exact ⟨h.os,h.tape,h.output,Nat.le_trans (by simp) h.size,fun k hk hg=>(h.block k (by simp;omega) hg).trans (Below.heap_alloc _ _ _ hk)⟩
end
section
def tagZ : Array Value:=#[.int .u32 0,.int .i32 0,.int .u32 0] ++ Array.replicate 256 (.int .u32 0)
theorem tagZ_size : tagZ.size = 259:=by simp [tagZ]
theorem tagZ_0 : tagZ[0]? = some (.int .u32 0):=by simp [tagZ]
theorem tagZ_1 : tagZ[1]? = some (.int .i32 0):=by simp [tagZ]
theorem tag_alloc (w : World) : (Instr.alloc 238 true (.tuple #[])).run Tryz.prog w = .ok (.pointer (some ⟨w.heap.size,0,none⟩)) (w.alloc (.cells tagZ 238)):=by kernel_rfl
def tagStep (c x : Int) : Int:=bits .xor .u32 (tab (bits .xor .u8 (c % 256) x).toNat) (c / 256)
def tagRun (c : Int) (l : List UInt8) : Int:=l.foldl (fun c x=>tagStep c x.toNat) c
theorem tagStep_range (c x : Int) : 0 ≤ tagStep c x ∧ tagStep c x < 4294967296:=bits32_range _ _ _
def tagNot (t : Int) : Int:=bits .xor .u32 IntKind.u32.max t
theorem tagNot_range (t : Int) : 0 ≤ tagNot t ∧ tagNot t < 4294967296:=bits32_range _ _ _
theorem tagRun_snoc (c : Int) (s : ByteArray) (k : Nat) (h : k < s.size) : tagRun c (s.data.toList.take (k + 1)) = tagStep (tagRun c (s.data.toList.take k)) s[k].toNat:=by
 rw [List.take_succ_eq_append_getElem (by simpa using h)]
 unfold tagRun
 rw [List.foldl_append]
 rfl
def tagMore (t : Int) (s : ByteArray) : Int:=tagNot (tagRun (tagNot t) s.data.toList)
theorem tag_More.walk (t : Int) (s : ByteArray) (hs : s.size ≤ 9223372036854775807) (w : World) :
  Calls Tryz.prog 137 #[.int .u32 t,.string s] w fun e w'=>e = .returned (.int .u32 (tagMore t s)) ∧ Below w.heap.size w w':=by
 have hal:=tag_alloc
 have hb:=blk_new w (.cells tagZ 238)
 have HM:=zh (tag_made w.heap.size tagZ (w.alloc (.cells tagZ 238)) hb tagZ_size tagZ_0 tagZ_1)
 have HB0:=zh ((Below.refl w.heap.size w).alloc (Nat.le_refl _) (.cells tagZ 238))
 clear hb
 go_enter Tryz.func137,Tryz.ntmps137
 go_wp2_with (go_at_call 165;refine HM.out.mono ?_;rintro e w1 ⟨rfl,ho,hr⟩;have HR:=zh hr;have HB1:=zh (ho.below HB0.out (by simp) (Nat.le_refl _));clear ho hr)
 clear hal HM HB0
 obtain ⟨cs,hb1,hcs⟩:=HR.out
 have HBK:=zh hb1
 have HCS:=zh hcs
 clear HR hb1 hcs
 go_loopw [7,14] (fun c i wr=>∃ (k : Nat) (x : Int),i = .int .i64 k ∧ k ≤ s.size ∧ c = .int .u32 x ∧ 0 ≤ x ∧ x < 4294967296 ∧ Hid (tagRun (tagNot t) (s.data.toList.take k) = x) ∧ Hid (wr.heap[w.heap.size]? = some (.cells cs 238 (0,0))) ∧ Hid (Below w.heap.size w wr)) (fun _ i _=>s.size - (intOf i).toNat)
 case atStart=>exact ⟨0,tagNot t,rfl,Nat.zero_le _,rfl,(tagNot_range t).1,(tagNot_range t).2,rfl,HBK,HB1⟩
 case round =>
  obtain ⟨k,x,rfl,hk,rfl,hx0,hx1,hx,hbk,hbl⟩:=hrel
  by_cases hlt : k < s.size
  ·have r1:=(bits8_range .xor (x % 256) s[k].toNat).1
   have r2:=(bits8_range .xor (x % 256) s[k].toNat).2
   have hc:=(blk_cell hbk.out (3 + (bits .xor .u8 (x % 256) s[k].toNat).toNat)).trans (HCS.out _ (by omega))
   have hn:=zh ((tagRun_snoc (tagNot t) s k hlt).trans (by rw [hx.out]))
   go_wp2
   go_quiet (fail)
   go_wp2
   go_roundw
   case rel=>exact ⟨k + 1,_,by go_num,by omega,rfl,(tagStep_range x s[k].toNat).1,(tagStep_range x s[k].toNat).2,hn,hbk,hbl.out.trans (below_drewN _ _ _)⟩
   case measure=>simp [intOf];omega
  ·have he : tagRun (tagNot t) s.data.toList = x:=by
    have:=hx.out;rw [List.take_of_length_le (by simp;omega)] at this;exact this
   have HE:=zh he;clear he
   go_wp2
   go_ret
   exact ⟨by unfold tagMore;rw [HE.out];rfl,hbl.out⟩
end
section
theorem bd_info5 : (Tryz.prog.info? 5).map (fun i=>(i.zero,i.size,i.bytes)) = some (some (.int .u8 0),1,1):=by kernel_rfl
theorem bd_size : (Tryz.prog.info? 159).map (·.size) = some 2:=by kernel_rfl
theorem bd_lies : liesAt Tryz.prog Tryz.prog.depth 159 (2 / Tryz.prog.cellsOf 159) 0 159 1 = true:=by kernel_rfl
theorem bd_check_used (b : Nat) (w : World) (h0 : w.cell? ⟨b,0,none⟩ = some (.pointer (some ⟨b,0,none⟩))) :
  Calls Tryz.prog 141 #[.pointer (some ⟨b,0,none⟩)] w fun e w'=>e = .returned (.tuple #[]) ∧ w' = w:=by
 obtain ⟨j,hj,_⟩:=Option.map_eq_some_iff.1 bd_size
 go_enter Tryz.func141,Tryz.ntmps141
 go_wp2
 rw [Lib.run_neq_ptr_same w _ Tryz.underlying156 hj]
 go_wp2
 go_end0
 exact ⟨rfl,rfl⟩
theorem bd_check_fresh (b : Nat) (w : World) (h0 : w.cell? ⟨b,0,none⟩ = some (.pointer none)) (hsh : w.shape? b = some (159,2)) (hfz : w.frozen? ⟨b,0,none⟩ = false) :
  Calls Tryz.prog 141 #[.pointer (some ⟨b,0,none⟩)] w fun e w'=>e = .returned (.tuple #[]) ∧ w' = w.setCell ⟨b,0,none⟩ (.pointer (some ⟨b,0,none⟩)):=by
 obtain ⟨j,hj,hjs⟩:=Option.map_eq_some_iff.1 bd_size
 go_enter Tryz.func141,Tryz.ntmps141
 go_wp2
 rw [Lib.run_to_unsafe w ⟨b,0,none⟩ Tryz.underlying156 Tryz.underlying242 hj (by rw [hjs];decide) hsh (Nat.zero_lt_succ 1)]
 simp only [Result.andThen]
 rw [Oper.upon_value]
 go_wp2
 rw [run_callFunc_extern Tryz.func167 (by kernel_rfl) (by kernel_rfl) (by kernel_rfl) (e:=Extern.AbiNoEscape.same) (by kernel_rfl)]
 rw [Lib.run_noEscape]
 simp only [Result.andThen]
 rw [Oper.upon_value]
 go_wp2
 rw [Lib.run_from_unsafe w ⟨b,0,none⟩ Tryz.underlying242 Tryz.underlying156 hj hsh bd_lies]
 simp only [Result.andThen]
 rw [Oper.upon_value]
 go_wp2
 go_end0
 exact ⟨rfl,rfl⟩
end
end Go.Proofs.YtekooapbdgippaaGreatDoor.Q
/-
 DERIVED: THE SHELF's CONTRACTS AT THIS DUMP, IN PLAIN WORDS (tools/lay-plain.mjs out of 'TryzShelf.lean', which tools/lay-shelf.mjs wrote): THE SAME DECLARATIONS UNDER THE SAME NAMES: 'import', 'namespace', 'open', 'def', 'theorem' AND NOTHING ELSE: no command of the shelf's: FOR A HAND-IN. Each laying: the table of numbers ('.._ren') and one theorem, a field a fact of the dump's own or the kernel's comparison; each contract: ONE APPLICATION.
-/
namespace Go.Proofs
open Go.Shelf
def Tryz.lays170_ren : Go.Shelf.Ren := ⟨fun | 170 => 99 | n => n, fun | 70 => 156 | 3 => 3 | 0 => 0 | 72 => 159 | 37 => 157 | 5 => 5 | n => n, fun | n => n⟩
theorem Tryz.lays170 : Go.Proofs.Lays.n170 Tryz.prog Tryz.lays170_ren := {
 mixed := by kernel_rfl
 f170 := Tryz.func99.trans (congrArg some (by kernel_rfl))
 t0 := Tryz.underlying0
 a0 := Tryz.isAgg0
 z0 := Tryz.sizeOf0
 v0 := Tryz.zeroValue0
 t3 := Tryz.underlying3
 a3 := Tryz.isAgg3
 z3 := Tryz.sizeOf3
 v3 := Tryz.zeroValue3
 t37 := Tryz.underlying157
 a37 := Tryz.isAgg157
 z37 := Tryz.sizeOf157
 v37 := Tryz.zeroValue157
 t70 := Tryz.underlying156
 a70 := Tryz.isAgg156
 z70 := Tryz.sizeOf156
 v70 := Tryz.zeroValue156
 t72 := Tryz.underlying159
 a72 := Tryz.isAgg159
 z72 := Tryz.sizeOf159
 v72 := Tryz.zeroValue159 }
open Go.RowKit in
/-- (*strings.Builder).Len: "Len returns the number of accumulated bytes; b.Len() == len(b.String()).": the world is as it was. (LAID: no walk: one application.) -/
theorem Tryz.Builder_Len (B b : Nat) (bs : List Value) (w : World) (h : Lib.IsBuilder 159 5 B b bs w) :
  Calls Tryz.prog 99 #[.pointer (some ⟨b, 0, none⟩)] w fun e w' => e = .returned (.int .i64 bs.length) ∧ w' = w := Any.Builder_Len Tryz.lays170 B b bs w h
def Tryz.lays169_ren : Go.Shelf.Ren := ⟨fun | 169 => 101 | n => n, fun | 70 => 156 | 9 => 9 | 0 => 0 | 72 => 159 | 37 => 157 | 127 => 213 | 3 => 3 | 5 => 5 | n => n, fun | n => n⟩
theorem Tryz.lays169 : Go.Proofs.Lays.n169 Tryz.prog Tryz.lays169_ren := {
 mixed := by kernel_rfl
 f169 := Tryz.func101.trans (congrArg some (by kernel_rfl))
 t0 := Tryz.underlying0
 a0 := Tryz.isAgg0
 z0 := Tryz.sizeOf0
 v0 := Tryz.zeroValue0
 t3 := Tryz.underlying3
 a3 := Tryz.isAgg3
 z3 := Tryz.sizeOf3
 v3 := Tryz.zeroValue3
 t9 := Tryz.underlying9
 a9 := Tryz.isAgg9
 z9 := Tryz.sizeOf9
 v9 := Tryz.zeroValue9
 t37 := Tryz.underlying157
 a37 := Tryz.isAgg157
 z37 := Tryz.sizeOf157
 v37 := Tryz.zeroValue157
 t70 := Tryz.underlying156
 a70 := Tryz.isAgg156
 z70 := Tryz.sizeOf156
 v70 := Tryz.zeroValue156
 t72 := Tryz.underlying159
 a72 := Tryz.isAgg159
 z72 := Tryz.sizeOf159
 v72 := Tryz.zeroValue159
 t127 := Tryz.underlying213
 a127 := Tryz.isAgg213
 z127 := Tryz.sizeOf213
 v127 := Tryz.zeroValue213 }
theorem Tryz.Builder_Extra_169 : Builder.Extra Tryz.prog Tryz.lays169_ren := {
 sizeBuilder := by kernel_rfl
 liesBuilder := by kernel_rfl
 t5 := Tryz.underlying5
 a5 := Tryz.isAgg5
 z5 := Tryz.sizeOf5
 v5 := Tryz.zeroValue5
 infoByte := by kernel_rfl
 cellsByte := by kernel_rfl
 sizeByte := by kernel_rfl
 neB5 := by decide }
open Go.RowKit in
/-- (*strings.Builder).String: "String returns the accumulated string.": WHATEVER THE BUILDER HOLDS. (LAID: no walk: one application.) -/
theorem Tryz.Builder_String_any (B b : Nat) (l : List UInt8) (w : World) (h : Lib.IsBuilder 159 5 B b (Lib.byteCells l) w) (hBw : B ≤ w.heap.size) :
  Calls Tryz.prog 101 #[.pointer (some ⟨b, 0, none⟩)] w fun e w' => e = .returned (.string ⟨l.toArray⟩) ∧ Below B w w' := Any.Builder_String_any Tryz.lays169 Tryz.Builder_Extra_169 B b l w h hBw
def Tryz.lays171_ren : Go.Shelf.Ren := ⟨fun | 171 => 144 | 243 => 168 | 246 => 176 | 283 => 180 | 284 => 181 | 285 => 182 | 286 => 183 | 129 => 190 | 317 => 189 | 318 => 191 | 319 => 192 | 320 => 193 | 337 => 198 | 338 => 199 | n => n, fun | 3 => 3 | 9 => 9 | 2 => 2 | 4 => 4 | 171 => 251 | 0 => 0 | 53 => 24 | 37 => 157 | 5 => 5 | 173 => 253 | 212 => 262 | 51 => 36 | 20 => 20 | 213 => 263 | 46 => 206 | 232 => 276 | 233 => 277 | n => n, fun | 17 => 0 | 18 => 1 | 19 => 2 | n => n⟩
theorem Tryz.lays171 : Go.Proofs.Lays.n171 Tryz.prog Tryz.lays171_ren := {
 mixed := by kernel_rfl
 f129 := Tryz.func190.trans (congrArg some (by kernel_rfl))
 f171 := Tryz.func144.trans (congrArg some (by kernel_rfl))
 f243 := Tryz.func168.trans (congrArg some (by kernel_rfl))
 f246 := Tryz.func176.trans (congrArg some (by kernel_rfl))
 f283 := Tryz.func180.trans (congrArg some (by kernel_rfl))
 f284 := Tryz.func181.trans (congrArg some (by kernel_rfl))
 f285 := Tryz.func182.trans (congrArg some (by kernel_rfl))
 f286 := Tryz.func183.trans (congrArg some (by kernel_rfl))
 f317 := Tryz.func189.trans (congrArg some (by kernel_rfl))
 f318 := Tryz.func191.trans (congrArg some (by kernel_rfl))
 f319 := Tryz.func192.trans (congrArg some (by kernel_rfl))
 f320 := Tryz.func193.trans (congrArg some (by kernel_rfl))
 f337 := Tryz.func198.trans (congrArg some (by kernel_rfl))
 f338 := Tryz.func199.trans (congrArg some (by kernel_rfl))
 t0 := Tryz.underlying0
 a0 := Tryz.isAgg0
 z0 := Tryz.sizeOf0
 v0 := Tryz.zeroValue0
 t2 := Tryz.underlying2
 a2 := Tryz.isAgg2
 z2 := Tryz.sizeOf2
 v2 := Tryz.zeroValue2
 t3 := Tryz.underlying3
 a3 := Tryz.isAgg3
 z3 := Tryz.sizeOf3
 v3 := Tryz.zeroValue3
 t4 := Tryz.underlying4
 a4 := Tryz.isAgg4
 z4 := Tryz.sizeOf4
 v4 := Tryz.zeroValue4
 t5 := Tryz.underlying5
 a5 := Tryz.isAgg5
 z5 := Tryz.sizeOf5
 v5 := Tryz.zeroValue5
 t9 := Tryz.underlying9
 a9 := Tryz.isAgg9
 z9 := Tryz.sizeOf9
 v9 := Tryz.zeroValue9
 t20 := Tryz.underlying20
 a20 := Tryz.isAgg20
 z20 := Tryz.sizeOf20
 v20 := Tryz.zeroValue20
 t37 := Tryz.underlying157
 a37 := Tryz.isAgg157
 z37 := Tryz.sizeOf157
 v37 := Tryz.zeroValue157
 t46 := Tryz.underlying206
 a46 := Tryz.isAgg206
 z46 := Tryz.sizeOf206
 v46 := Tryz.zeroValue206
 t51 := Tryz.underlying36
 a51 := Tryz.isAgg36
 z51 := Tryz.sizeOf36
 v51 := Tryz.zeroValue36
 t53 := Tryz.underlying24
 a53 := Tryz.isAgg24
 z53 := Tryz.sizeOf24
 v53 := Tryz.zeroValue24
 t171 := Tryz.underlying251
 a171 := Tryz.isAgg251
 z171 := Tryz.sizeOf251
 v171 := Tryz.zeroValue251
 t173 := Tryz.underlying253
 a173 := Tryz.isAgg253
 z173 := Tryz.sizeOf253
 v173 := Tryz.zeroValue253
 t212 := Tryz.underlying262
 a212 := Tryz.isAgg262
 z212 := Tryz.sizeOf262
 v212 := Tryz.zeroValue262
 t213 := Tryz.underlying263
 a213 := Tryz.isAgg263
 z213 := Tryz.sizeOf263
 t232 := Tryz.underlying276
 a232 := Tryz.isAgg276
 z232 := Tryz.sizeOf276
 v232 := Tryz.zeroValue276
 t233 := Tryz.underlying277
 a233 := Tryz.isAgg277
 z233 := Tryz.sizeOf277
 v233 := Tryz.zeroValue277
 g17 := by kernel_rfl
 g18 := by kernel_rfl
 g19 := by kernel_rfl }
open Go.RowKit Go.Sort Go.Lib in
/-- THE ROAD WITHOUT THE TABLE: 0 <= i < 100: NO PREMISE ON THE WORLD, AND THE WORLD IS AS IT WAS: a row that keeps its argument in that range need list no table ('laid = []'). (LAID: no walk: one application.) -/
theorem Tryz.strconv_Itoa_small (i : Nat) (hi : i < 100) (w : World) :
  Calls Tryz.prog 144 #[.int .i64 i] w fun e w' => e = .returned (.string ⟨(Lib.decDigits i).toArray⟩) ∧ w' = w := Any.strconv_Itoa_small Tryz.lays171 i hi w
end Go.Proofs
