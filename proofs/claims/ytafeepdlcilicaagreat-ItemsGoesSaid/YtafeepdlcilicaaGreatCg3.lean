/- The law ItemsGoes of the seat: a depot's items, turned by the changes between two depots, go to the other's. Part 24 of 26. -/
import Derived.Test.YtafeepdlcilicaaGreatCg2
import Derived.Maps.OwnSet
import Derived.Maps.RangeWalk
import Derived.Lib.BufferMore
import Derived.Lib.Bytealg
import Derived.Test.YtafeepdlcilicaaGreatCg1
import Derived.Shelf.Strings.Builder1
import Derived.Shelf.Small.Bits
import Derived.Shelf.Small.Wraps
import Derived.Shelf.Strings.BuilderF
import Derived.Shelf.Strings.BuilderK
import Derived.Shelf.Strconv.Itoa0
import Derived.Shelf.Strings.Search1
import Derived.Shelf.Strings.Search2
import Derived.Shelf.Strings.Cut
import Derived.Shelf.LaysM
import Derived.Shelf.Strings.Shaped
import Derived.Shelf.Strings.Prefix
import Derived.Ground.Names2Prog
import Derived.Shelf.Slices.SearchI
import Derived.Test.YtafeepdlcilicaaGreatProg
import Derived.Shelf.SlSortCmp.WholeK
import Derived.Lib.Builder
import Derived.Lib.AppendStr
import Derived.Deep.DeepMust
-- H5
namespace Go.Proofs.YtafeepdlcilicaaGreat.Q
open Go.WideMaps Go.RowKit Go.Proofs.YtafeepdlcilicaaGreatW.PrintWords Go.Proofs.YtafeepdlcilicaaGreatW.PrintLast Go.Proofs.YtafeepdlcilicaaGreatW.PrintMore Go.Maps
set_option linter.unusedVariables false
set_option linter.unusedSimpArgs false
open List (getElem_toArray getElem_cons_zero getElem_cons_succ setIfInBounds_toArray set_cons_zero set_cons_succ)

/-! ### parts.fine, parts.Check -/
attribute [local go_sem] Oper.semAt_some
def numB (i : Int) : Bool := decide (1 ≤ i) && decide (i ≤ 281474976710655)
def mayB (p : S82) : Bool := decide (1 ≤ p.f0) && (decide (p.f0 ≤ 1000) && decide (p.f1.size ≤ 2000))
theorem num_of (i : Int) : parts_numbered.f i = some (numB i) := by
 unfold parts_numbered.f numB
 by_cases h : i ≥ 1 <;> simp [h]
theorem may_of (p : S82) : parts_may.f p.f0 p.f1 = some (mayB p) := by
 unfold parts_may.f mayB
 by_cases h : p.f0 ≥ 1
 ·by_cases h2 : p.f0 ≤ 1000
  ·rw [if_pos h, if_pos h2]; simp [h, h2]; omega
  ·rw [if_pos h, if_neg h2]; simp [h, h2]
 ·rw [if_neg h]; simp; omega
def adjB (l : List S82) (j : Nat) : Bool := mayB (l.getD j z82) && (decide (j = 0) || decide ((l.getD (j - 1) z82).f0 < (l.getD j z82).f0))
theorem wrap64_of {x : Int} (h0 : -9223372036854775808 ≤ x) (h1 : x ≤ 9223372036854775807) : wrap64 x = x := by unfold wrap64; omega
def fineB (u : Int) (key : ByteArray) (l : List S82) : Bool := numB u && (keyB key && (decide (l.length ≤ 30) && allFrom (adjB l) 0 l.length))
def adjU (l : List S41) (j : Nat) : Bool := fineB (l.getD j z41).f0 (l.getD j z41).f1 (l.getD j z41).f2 && (decide (j = 0) || decide ((l.getD (j - 1) z41).f0 < (l.getD j z41).f0))
def checkB (l : List S41) : Bool := decide (l.length ≤ 10) && allFrom (adjU l) 0 l.length
set_option maxHeartbeats 8000000 in
set_option maxRecDepth 100000 in
theorem fine_calls {w : World} {A : Option Addr} {c : Nat} {l : List S82} (u : Int) (key : ByteArray) (hr : Kd.C k82 w A l.length l) (hc : l.length ≤ c) :
  Calls Tryz.prog 109 #[.agg #[.int .u64 u, .string key, .slice A l.length c]] w fun e w' => e = .returned (.bool (fineB u key l)) ∧ Below w.heap.size w w' := by
 have HB0 := Lib.hid ((Below.refl w.heap.size w).alloc (Nat.le_refl _) (.cells #[.int .u64 u, .string key, .slice A l.length c] 162))
 have K0 := Lib.hid (blk_new w (.cells #[.int .u64 u, .string key, .slice A l.length c] 162))
 have HR := Lib.hid hr
 have hlen : (l.length : Int) ≤ 9223372036854775807 := by have := hr.2.1; omega
 clear hr
 have HNU := Lib.hid (num_of u)
 have HKY : Hid (name_Key.f key = some (keyB key)) := rfl
 cases q1 : numB u
 ·have HE : Hid (fineB u key l = false) := by unfold Hid fineB; simp [q1]
  rw [q1] at HNU
  clear q1
  go_enter Tryz.func109, Tryz.ntmps109
  go_wp2_with (first | (go_at_call 139; refine (parts_numbered.calls u _ _ HNU.out).mono ?_; rintro e w1 ⟨rfl, hd⟩; have hb := hd.below; have HB1 := keepB HB0 hb; have K1 := Lib.hid (blk_below K0.out hb); have d1_1 := (blk_cell K1.out 1).trans rfl; have d1_2 := (blk_cell K1.out 2).trans rfl; clear hd hb))
  go_ret
  exact ⟨by rw [HE.out]; rfl, HB1.out⟩
 rw [q1] at HNU
 cases q2 : keyB key
 ·have HE : Hid (fineB u key l = false) := by unfold Hid fineB; simp [q1, q2]
  rw [q2] at HKY
  clear q1 q2
  go_enter Tryz.func109, Tryz.ntmps109
  go_wp2_with (first | (go_at_call 139; refine (parts_numbered.calls u _ _ HNU.out).mono ?_; rintro e w1 ⟨rfl, hd⟩; have hb := hd.below; have HB1 := keepB HB0 hb; have K1 := Lib.hid (blk_below K0.out hb); have d1_1 := (blk_cell K1.out 1).trans rfl; have d1_2 := (blk_cell K1.out 2).trans rfl; clear hd hb) | (go_at_call 107; refine (name_Key.calls key _ _ HKY.out).mono ?_; rintro e w2 ⟨rfl, hb⟩; have HB2 := keepB HB1 hb; have K2 := Lib.hid (blk_below K1.out hb); have d2_2 := (blk_cell K2.out 2).trans rfl; clear hb))
  go_ret
  exact ⟨by rw [HE.out]; rfl, HB2.out⟩
 rw [q2] at HKY
 by_cases p3 : 30 < l.length
 ·have HE : Hid (fineB u key l = false) := by unfold Hid fineB; rw [decide_eq_false (show ¬ l.length ≤ 30 by omega)]; simp
  have d3 : decide ((30 : Int) < (l.length : Int)) = true := by simp; omega
  clear q1 q2
  go_enter Tryz.func109, Tryz.ntmps109
  go_wp2_with (first | (go_at_call 139; refine (parts_numbered.calls u _ _ HNU.out).mono ?_; rintro e w1 ⟨rfl, hd⟩; have hb := hd.below; have HB1 := keepB HB0 hb; have K1 := Lib.hid (blk_below K0.out hb); have d1_1 := (blk_cell K1.out 1).trans rfl; have d1_2 := (blk_cell K1.out 2).trans rfl; clear hd hb) | (go_at_call 107; refine (name_Key.calls key _ _ HKY.out).mono ?_; rintro e w2 ⟨rfl, hb⟩; have HB2 := keepB HB1 hb; have K2 := Lib.hid (blk_below K1.out hb); have d2_2 := (blk_cell K2.out 2).trans rfl; clear hb))
  go_ret
  exact ⟨by rw [HE.out]; rfl, HB2.out⟩
 have d3 : decide ((30 : Int) < (l.length : Int)) = false := by simp; omega
 have HEX : Hid (fineB u key l = allFrom (adjB l) 0 l.length) := by
  unfold Hid fineB
  rw [q1, q2, decide_eq_true (show l.length ≤ 30 by omega)]; rfl
 clear q1 q2
 go_enter Tryz.func109, Tryz.ntmps109
 go_wp2_with (first | (go_at_call 139; refine (parts_numbered.calls u _ _ HNU.out).mono ?_; rintro e w1 ⟨rfl, hd⟩; have hb := hd.below; have HB1 := keepB HB0 hb; have K1 := Lib.hid (blk_below K0.out hb); have d1_1 := (blk_cell K1.out 1).trans rfl; have d1_2 := (blk_cell K1.out 2).trans rfl; clear hd hb) | (go_at_call 107; refine (name_Key.calls key _ _ HKY.out).mono ?_; rintro e w2 ⟨rfl, hb⟩; have HB2 := keepB HB1 hb; have K2 := Lib.hid (blk_below K1.out hb); have d2_2 := (blk_cell K2.out 2).trans rfl; clear hb))
 go_loopw [24] (fun i wr => ∃ (k : Nat), i = .int .i64 k ∧ k ≤ l.length ∧ Hid (allFrom (adjB l) 0 k = true) ∧ Hid (wr.heap[w.heap.size]? = some (.cells #[.int .u64 u, .string key, .slice A l.length c] 162 (0, 0))) ∧ Hid (Below w.heap.size w wr)) (fun i _ => l.length - (intOf i).toNat)
 case atStart => exact ⟨0, rfl, Nat.zero_le _, rfl, K2, HB2⟩
 case round =>
  obtain ⟨k, rfl, hk, hall, hkb, hb⟩ := hrel
  by_cases hlt : k < l.length
  ·have HNO : Hid (adjB l k = false → fineB u key l = false) := fun h => by
    rw [HEX.out, allFrom_false k (Nat.zero_le _) (by omega) h]
   have HYES : Hid (adjB l k = true → allFrom (adjB l) 0 (k + 1) = true) := fun h => by
    rw [allFrom_snoc, hall.out, Nat.zero_add, h]; rfl
   have HAT : Hid (adjB l k = (mayB l[k] && (decide (k = 0) || decide ((l.getD (k - 1) z82).f0 < l[k].f0)))) := by
    unfold Hid adjB; rw [getD_at l k _ hlt]
   clear hall
   obtain ⟨ad, e', hc0, hc1⟩ := atPart HR.out hb.out k hlt
   subst e'
   have dx_2 := (blk_cell hkb.out 2).trans rfl
   have gne : wr.heap.size ≠ w.heap.size := by have := blk_lt hkb.out; omega
   have HM := Lib.hid (may_of l[k])
   cases hm : mayB l[k]
   ·have HE : Hid (fineB u key l = false) := HNO.out (by rw [HAT.out, hm]; rfl)
    rw [hm] at HM
    clear hm HNO HYES HAT
    generalize l[k] = x at *
    go_wp2
    skip
    refine wp_region_held_drew (S := fun W => W.cell? ⟨wr.heap.size, 0, none⟩ = some (.int .i64 x.f0) ∧ W.cell? ⟨wr.heap.size, 1, none⟩ = some (.string x.f1) ∧ W.cell? ⟨w.heap.size, 2, none⟩ = some (.slice (some ad) l.length c) ∧ Hid (Below wr.heap.size wr W)) (by kernel_rfl) ?_ (fun hHeld => ?_)
    ·exact ⟨by simp [go_sem], by simp [go_sem], keepc ((Below.refl wr.heap.size wr).alloc (Nat.le_refl _) _).drew dx_2, ((Below.refl wr.heap.size wr).alloc (Nat.le_refl _) _).drew⟩
    refine tk (i := 0) (v := ?v0g1) rfl hHeld (Or.inl ⟨rfl, ?y0g1⟩) ?r0g1
    case y0g1 => (intro w h; obtain ⟨s0, s1, s2, s3⟩ := h; go_simp; try with_reducible rfl)
    try simp only [getElem_toArray, getElem_cons_zero, getElem_cons_succ, Act.put, setIfInBounds_toArray, set_cons_zero, set_cons_succ]
    refine wpAnyH_ready (rs := [1]) (by kernel_rfl) (by simp) ?_
    refine AllReadyH.cons (o := _) rfl (fun K hK => ?_) AllReadyH.nil
    rw [if_pos (by rfl)]
    go_simp
    obtain ⟨s0, s1, s2, s3⟩ := hHeld
    refine (parts_may.calls x.f0 x.f1 _ _ HM.out).mono ?_
    rintro e8 w8 ⟨rfl, hb8⟩
    refine hK.out _ _ ⟨keepc hb8 s0, keepc hb8 s1, keepc hb8 s2, keepB s3 hb8⟩ (fun hHeld => ?_)
    clear hK K hb8 s0 s1 s2 s3
    try simp only [getElem_toArray, getElem_cons_zero, getElem_cons_succ, Act.put, setIfInBounds_toArray, set_cons_zero, set_cons_succ]
    refine tk (i := 2) (v := ?v2g1) rfl hHeld (Or.inl ⟨rfl, ?y2g1⟩) ?r2g1
    case y2g1 => (intro w h; obtain ⟨s0, s1, s2, s3⟩ := h; go_simp; try with_reducible rfl)
    try simp only [getElem_toArray, getElem_cons_zero, getElem_cons_succ, Act.put, setIfInBounds_toArray, set_cons_zero, set_cons_succ]
    refine tk (i := 3) (v := ?v3g1) rfl hHeld (Or.inl ⟨rfl, ?y3g1⟩) ?r3g1
    case y3g1 => (intro w h; obtain ⟨s0, s1, s2, s3⟩ := h; go_simp; try with_reducible rfl)
    try simp only [getElem_toArray, getElem_cons_zero, getElem_cons_succ, Act.put, setIfInBounds_toArray, set_cons_zero, set_cons_succ]
    refine tku (i := 4) rfl hHeld rfl ?_
    try simp only [getElem_toArray, getElem_cons_zero, getElem_cons_succ, Act.put, setIfInBounds_toArray, set_cons_zero, set_cons_succ]
    refine tku (i := 5) rfl hHeld rfl ?_
    try simp only [getElem_toArray, getElem_cons_zero, getElem_cons_succ, Act.put, setIfInBounds_toArray, set_cons_zero, set_cons_succ]
    refine tku (i := 6) rfl hHeld rfl ?_
    try simp only [getElem_toArray, getElem_cons_zero, getElem_cons_succ, Act.put, setIfInBounds_toArray, set_cons_zero, set_cons_succ]
    refine tku (i := 7) rfl hHeld rfl ?_
    try simp only [getElem_toArray, getElem_cons_zero, getElem_cons_succ, Act.put, setIfInBounds_toArray, set_cons_zero, set_cons_succ]
    refine tku (i := 8) rfl hHeld rfl ?_
    try simp only [getElem_toArray, getElem_cons_zero, getElem_cons_succ, Act.put, setIfInBounds_toArray, set_cons_zero, set_cons_succ]
    refine tku (i := 9) rfl hHeld rfl ?_
    try simp only [getElem_toArray, getElem_cons_zero, getElem_cons_succ, Act.put, setIfInBounds_toArray, set_cons_zero, set_cons_succ]
    refine tku (i := 10) rfl hHeld rfl ?_
    try simp only [getElem_toArray, getElem_cons_zero, getElem_cons_succ, Act.put, setIfInBounds_toArray, set_cons_zero, set_cons_succ]
    refine tku (i := 11) rfl hHeld rfl ?_
    try simp only [getElem_toArray, getElem_cons_zero, getElem_cons_succ, Act.put, setIfInBounds_toArray, set_cons_zero, set_cons_succ]
    refine tku (i := 12) rfl hHeld rfl ?_
    try simp only [getElem_toArray, getElem_cons_zero, getElem_cons_succ, Act.put, setIfInBounds_toArray, set_cons_zero, set_cons_succ]
    refine tku (i := 13) rfl hHeld rfl ?_
    try simp only [getElem_toArray, getElem_cons_zero, getElem_cons_succ, Act.put, setIfInBounds_toArray, set_cons_zero, set_cons_succ]
    refine tku (i := 14) rfl hHeld rfl ?_
    try simp only [getElem_toArray, getElem_cons_zero, getElem_cons_succ, Act.put, setIfInBounds_toArray, set_cons_zero, set_cons_succ]
    refine tku (i := 15) rfl hHeld rfl ?_
    try simp only [getElem_toArray, getElem_cons_zero, getElem_cons_succ, Act.put, setIfInBounds_toArray, set_cons_zero, set_cons_succ]
    refine tku (i := 16) rfl hHeld rfl ?_
    try simp only [getElem_toArray, getElem_cons_zero, getElem_cons_succ, Act.put, setIfInBounds_toArray, set_cons_zero, set_cons_succ]
    refine tku (i := 17) rfl hHeld rfl ?_
    try simp only [getElem_toArray, getElem_cons_zero, getElem_cons_succ, Act.put, setIfInBounds_toArray, set_cons_zero, set_cons_succ]
    refine tk (i := 18) (v := ?v18g1) rfl hHeld (Or.inl ⟨rfl, ?y18g1⟩) ?r18g1
    case y18g1 => (intro w h; obtain ⟨s0, s1, s2, s3⟩ := h; go_simp; try with_reducible rfl)
    try simp only [getElem_toArray, getElem_cons_zero, getElem_cons_succ, Act.put, setIfInBounds_toArray, set_cons_zero, set_cons_succ]
    refine wpAnyH_done (by kernel_rfl) ?_ _
    have HW := keepB hb hHeld.2.2.2
    clear hHeld
    go_wp2
    go_ret
    exact ⟨by rw [HE.out]; rfl, HW.out⟩
   ·rw [hm] at HM HAT
    clear hm
    by_cases h0 : (0 : Int) < (k : Int)
    ·obtain ⟨j, rfl⟩ : ∃ j, k = j + 1 := ⟨k - 1, by omega⟩
     have hj : j < l.length := by omega
     obtain ⟨ad', e3, hd0, hd1⟩ := atPart HR.out hb.out j hj
     injection e3 with e3
     subst e3
     clear hd1
     rw [Nat.add_sub_cancel, getD_at l j _ hj, decide_eq_false (Nat.succ_ne_zero j), Bool.false_or] at HAT
     have e1 : IntKind.i64.wrap (((j + 1 : Nat) : Int) - 1) = (j : Int) := by simp [IntKind.wrap, IntKind.bits, IntKind.signed]; omega
     have p4 : (0 : Int) ≤ (j : Int) := by omega
     have p5 : (j : Int) < (l.length : Int) := by omega
     generalize l[j].f0 = q at *
     generalize l[j + 1] = x at *
     generalize hk1 : j + 1 = k at *
     have h0n : 0 < k := by omega
     have h0d : decide (0 < k) = true := decide_eq_true h0n
     by_cases hup : q < x.f0
     ·have HN : Hid (allFrom (adjB l) 0 (k + 1) = true) := HYES.out (by rw [HAT.out, decide_eq_true hup]; rfl)
      have hup2 : decide (x.f0 ≤ q) = false := decide_eq_false (by omega)
      clear HNO HYES HAT
      go_wp2
      skip
      refine wp_region_held_drew (S := fun W => W.cell? (ad.add (j * 2)) = some (.int .i64 q) ∧ W.cell? ⟨wr.heap.size, 0, none⟩ = some (.int .i64 x.f0) ∧ W.cell? ⟨wr.heap.size, 1, none⟩ = some (.string x.f1) ∧ W.cell? ⟨w.heap.size, 2, none⟩ = some (.slice (some ad) l.length c) ∧ Hid (Below wr.heap.size wr W)) (by kernel_rfl) ?_ (fun hHeld => ?_)
      ·exact ⟨keepc ((Below.refl wr.heap.size wr).alloc (Nat.le_refl _) _).drew hd0, by simp [go_sem], by simp [go_sem], keepc ((Below.refl wr.heap.size wr).alloc (Nat.le_refl _) _).drew dx_2, ((Below.refl wr.heap.size wr).alloc (Nat.le_refl _) _).drew⟩
      refine tk (i := 0) (v := ?v0g2) rfl hHeld (Or.inl ⟨rfl, ?y0g2⟩) ?r0g2
      case y0g2 => (intro w h; obtain ⟨s0, s1, s2, s3, s4⟩ := h; go_simp; try with_reducible rfl)
      try simp only [getElem_toArray, getElem_cons_zero, getElem_cons_succ, Act.put, setIfInBounds_toArray, set_cons_zero, set_cons_succ]
      refine wpAnyH_ready (rs := [1]) (by kernel_rfl) (by simp) ?_
      refine AllReadyH.cons (o := _) rfl (fun K hK => ?_) AllReadyH.nil
      rw [if_pos (by rfl)]
      go_simp
      obtain ⟨s0, s1, s2, s3, s4⟩ := hHeld
      refine (parts_may.calls x.f0 x.f1 _ _ HM.out).mono ?_
      rintro e8 w8 ⟨rfl, hb8⟩
      refine hK.out _ _ ⟨keepc hb8 s0, keepc hb8 s1, keepc hb8 s2, keepc hb8 s3, keepB s4 hb8⟩ (fun hHeld => ?_)
      clear hK K hb8 s0 s1 s2 s3 s4
      try simp only [getElem_toArray, getElem_cons_zero, getElem_cons_succ, Act.put, setIfInBounds_toArray, set_cons_zero, set_cons_succ]
      refine tk (i := 2) (v := ?v2g2) rfl hHeld (Or.inl ⟨rfl, ?y2g2⟩) ?r2g2
      case y2g2 => (intro w h; obtain ⟨s0, s1, s2, s3, s4⟩ := h; go_simp; try with_reducible rfl)
      try simp only [getElem_toArray, getElem_cons_zero, getElem_cons_succ, Act.put, setIfInBounds_toArray, set_cons_zero, set_cons_succ]
      refine tk (i := 3) (v := ?v3g2) rfl hHeld (Or.inl ⟨rfl, ?y3g2⟩) ?r3g2
      case y3g2 => (intro w h; obtain ⟨s0, s1, s2, s3, s4⟩ := h; go_simp; try with_reducible rfl)
      try simp only [getElem_toArray, getElem_cons_zero, getElem_cons_succ, Act.put, setIfInBounds_toArray, set_cons_zero, set_cons_succ]
      refine tk (i := 4) (v := ?v4g2) rfl hHeld (Or.inl ⟨rfl, ?y4g2⟩) ?r4g2
      case y4g2 => (intro w h; obtain ⟨s0, s1, s2, s3, s4⟩ := h; go_simp; try with_reducible rfl)
      try simp only [getElem_toArray, getElem_cons_zero, getElem_cons_succ, Act.put, setIfInBounds_toArray, set_cons_zero, set_cons_succ]
      refine tk (i := 5) (v := ?v5g2) rfl hHeld (Or.inl ⟨rfl, ?y5g2⟩) ?r5g2
      case y5g2 => (intro w h; obtain ⟨s0, s1, s2, s3, s4⟩ := h; go_simp; try with_reducible rfl)
      try simp only [getElem_toArray, getElem_cons_zero, getElem_cons_succ, Act.put, setIfInBounds_toArray, set_cons_zero, set_cons_succ]
      refine tk (i := 6) (v := ?v6g2) rfl hHeld (Or.inl ⟨rfl, ?y6g2⟩) ?r6g2
      case y6g2 => (intro w h; obtain ⟨s0, s1, s2, s3, s4⟩ := h; go_simp; try with_reducible rfl)
      try simp only [getElem_toArray, getElem_cons_zero, getElem_cons_succ, Act.put, setIfInBounds_toArray, set_cons_zero, set_cons_succ]
      refine tk (i := 7) (v := ?v7g2) rfl hHeld (Or.inl ⟨rfl, ?y7g2⟩) ?r7g2
      case y7g2 => (intro w h; obtain ⟨s0, s1, s2, s3, s4⟩ := h; go_simp; try with_reducible rfl)
      try simp only [getElem_toArray, getElem_cons_zero, getElem_cons_succ, Act.put, setIfInBounds_toArray, set_cons_zero, set_cons_succ]
      refine tk (i := 8) (v := ?v8g2) rfl hHeld (Or.inl ⟨rfl, ?y8g2⟩) ?r8g2
      case y8g2 => (intro w h; obtain ⟨s0, s1, s2, s3, s4⟩ := h; go_simp; try with_reducible rfl)
      try simp only [getElem_toArray, getElem_cons_zero, getElem_cons_succ, Act.put, setIfInBounds_toArray, set_cons_zero, set_cons_succ]
      refine tk (i := 9) (v := ?v9g2) rfl hHeld (Or.inl ⟨rfl, ?y9g2⟩) ?r9g2
      case y9g2 => (intro w h; obtain ⟨s0, s1, s2, s3, s4⟩ := h; go_simp; try with_reducible rfl)
      try simp only [getElem_toArray, getElem_cons_zero, getElem_cons_succ, Act.put, setIfInBounds_toArray, set_cons_zero, set_cons_succ]
      refine tk (i := 10) (v := ?v10g2) rfl hHeld (Or.inl ⟨rfl, ?y10g2⟩) ?r10g2
      case y10g2 => (intro w h; obtain ⟨s0, s1, s2, s3, s4⟩ := h; go_simp; try with_reducible rfl)
      try simp only [getElem_toArray, getElem_cons_zero, getElem_cons_succ, Act.put, setIfInBounds_toArray, set_cons_zero, set_cons_succ]
      refine tk (i := 11) (v := ?v11g2) rfl hHeld (Or.inl ⟨rfl, ?y11g2⟩) ?r11g2
      case y11g2 => (intro w h; obtain ⟨s0, s1, s2, s3, s4⟩ := h; go_simp; try with_reducible rfl)
      try simp only [getElem_toArray, getElem_cons_zero, getElem_cons_succ, Act.put, setIfInBounds_toArray, set_cons_zero, set_cons_succ]
      refine tk (i := 12) (v := ?v12g2) rfl hHeld (Or.inl ⟨rfl, ?y12g2⟩) ?r12g2
      case y12g2 => (intro w h; obtain ⟨s0, s1, s2, s3, s4⟩ := h; go_simp; try with_reducible rfl)
      try simp only [getElem_toArray, getElem_cons_zero, getElem_cons_succ, Act.put, setIfInBounds_toArray, set_cons_zero, set_cons_succ]
      refine tk (i := 13) (v := ?v13g2) rfl hHeld (Or.inl ⟨rfl, ?y13g2⟩) ?r13g2
      case y13g2 => (intro w h; obtain ⟨s0, s1, s2, s3, s4⟩ := h; go_simp; try with_reducible rfl)
      try simp only [getElem_toArray, getElem_cons_zero, getElem_cons_succ, Act.put, setIfInBounds_toArray, set_cons_zero, set_cons_succ]
      refine tk (i := 14) (v := ?v14g2) rfl hHeld (Or.inl ⟨rfl, ?y14g2⟩) ?r14g2
      case y14g2 => (intro w h; obtain ⟨s0, s1, s2, s3, s4⟩ := h; go_simp; try with_reducible rfl)
      try simp only [getElem_toArray, getElem_cons_zero, getElem_cons_succ, Act.put, setIfInBounds_toArray, set_cons_zero, set_cons_succ]
      refine tk (i := 15) (v := ?v15g2) rfl hHeld (Or.inl ⟨rfl, ?y15g2⟩) ?r15g2
      case y15g2 => (intro w h; obtain ⟨s0, s1, s2, s3, s4⟩ := h; go_simp; try with_reducible rfl)
      try simp only [getElem_toArray, getElem_cons_zero, getElem_cons_succ, Act.put, setIfInBounds_toArray, set_cons_zero, set_cons_succ]
      refine tk (i := 16) (v := ?v16g2) rfl hHeld (Or.inl ⟨rfl, ?y16g2⟩) ?r16g2
      case y16g2 => (intro w h; obtain ⟨s0, s1, s2, s3, s4⟩ := h; go_simp; try with_reducible rfl)
      try simp only [getElem_toArray, getElem_cons_zero, getElem_cons_succ, Act.put, setIfInBounds_toArray, set_cons_zero, set_cons_succ]
      refine tk (i := 17) (v := ?v17g2) rfl hHeld (Or.inl ⟨rfl, ?y17g2⟩) ?r17g2
      case y17g2 => (intro w h; obtain ⟨s0, s1, s2, s3, s4⟩ := h; go_simp; try with_reducible rfl)
      try simp only [getElem_toArray, getElem_cons_zero, getElem_cons_succ, Act.put, setIfInBounds_toArray, set_cons_zero, set_cons_succ]
      refine tk (i := 18) (v := ?v18g2) rfl hHeld (Or.inl ⟨rfl, ?y18g2⟩) ?r18g2
      case y18g2 => (intro w h; obtain ⟨s0, s1, s2, s3, s4⟩ := h; go_simp; try with_reducible rfl)
      try simp only [getElem_toArray, getElem_cons_zero, getElem_cons_succ, Act.put, setIfInBounds_toArray, set_cons_zero, set_cons_succ]
      refine wpAnyH_done (by kernel_rfl) ?_ _
      have HW := keepB hb hHeld.2.2.2.2
      have HKX := Lib.hid (blk_below hkb.out (outB hHeld.2.2.2.2))
      clear hHeld
      go_wp2
      go_roundw
      case rel => exact ⟨k + 1, by go_num, by omega, HN, HKX, HW⟩
      case measure => simp [intOf]; omega
     ·have HE : Hid (fineB u key l = false) := HNO.out (by rw [HAT.out, decide_eq_false hup]; rfl)
      have hup2 : decide (x.f0 ≤ q) = true := decide_eq_true (by omega)
      clear HNO HYES HAT
      go_wp2
      skip
      refine wp_region_held_drew (S := fun W => W.cell? (ad.add (j * 2)) = some (.int .i64 q) ∧ W.cell? ⟨wr.heap.size, 0, none⟩ = some (.int .i64 x.f0) ∧ W.cell? ⟨wr.heap.size, 1, none⟩ = some (.string x.f1) ∧ W.cell? ⟨w.heap.size, 2, none⟩ = some (.slice (some ad) l.length c) ∧ Hid (Below wr.heap.size wr W)) (by kernel_rfl) ?_ (fun hHeld => ?_)
      ·exact ⟨keepc ((Below.refl wr.heap.size wr).alloc (Nat.le_refl _) _).drew hd0, by simp [go_sem], by simp [go_sem], keepc ((Below.refl wr.heap.size wr).alloc (Nat.le_refl _) _).drew dx_2, ((Below.refl wr.heap.size wr).alloc (Nat.le_refl _) _).drew⟩
      refine tk (i := 0) (v := ?v0g3) rfl hHeld (Or.inl ⟨rfl, ?y0g3⟩) ?r0g3
      case y0g3 => (intro w h; obtain ⟨s0, s1, s2, s3, s4⟩ := h; go_simp; try with_reducible rfl)
      try simp only [getElem_toArray, getElem_cons_zero, getElem_cons_succ, Act.put, setIfInBounds_toArray, set_cons_zero, set_cons_succ]
      refine wpAnyH_ready (rs := [1]) (by kernel_rfl) (by simp) ?_
      refine AllReadyH.cons (o := _) rfl (fun K hK => ?_) AllReadyH.nil
      rw [if_pos (by rfl)]
      go_simp
      obtain ⟨s0, s1, s2, s3, s4⟩ := hHeld
      refine (parts_may.calls x.f0 x.f1 _ _ HM.out).mono ?_
      rintro e8 w8 ⟨rfl, hb8⟩
      refine hK.out _ _ ⟨keepc hb8 s0, keepc hb8 s1, keepc hb8 s2, keepc hb8 s3, keepB s4 hb8⟩ (fun hHeld => ?_)
      clear hK K hb8 s0 s1 s2 s3 s4
      try simp only [getElem_toArray, getElem_cons_zero, getElem_cons_succ, Act.put, setIfInBounds_toArray, set_cons_zero, set_cons_succ]
      refine tk (i := 2) (v := ?v2g3) rfl hHeld (Or.inl ⟨rfl, ?y2g3⟩) ?r2g3
      case y2g3 => (intro w h; obtain ⟨s0, s1, s2, s3, s4⟩ := h; go_simp; try with_reducible rfl)
      try simp only [getElem_toArray, getElem_cons_zero, getElem_cons_succ, Act.put, setIfInBounds_toArray, set_cons_zero, set_cons_succ]
      refine tk (i := 3) (v := ?v3g3) rfl hHeld (Or.inl ⟨rfl, ?y3g3⟩) ?r3g3
      case y3g3 => (intro w h; obtain ⟨s0, s1, s2, s3, s4⟩ := h; go_simp; try with_reducible rfl)
      try simp only [getElem_toArray, getElem_cons_zero, getElem_cons_succ, Act.put, setIfInBounds_toArray, set_cons_zero, set_cons_succ]
      refine tk (i := 4) (v := ?v4g3) rfl hHeld (Or.inl ⟨rfl, ?y4g3⟩) ?r4g3
      case y4g3 => (intro w h; obtain ⟨s0, s1, s2, s3, s4⟩ := h; go_simp; try with_reducible rfl)
      try simp only [getElem_toArray, getElem_cons_zero, getElem_cons_succ, Act.put, setIfInBounds_toArray, set_cons_zero, set_cons_succ]
      refine tk (i := 5) (v := ?v5g3) rfl hHeld (Or.inl ⟨rfl, ?y5g3⟩) ?r5g3
      case y5g3 => (intro w h; obtain ⟨s0, s1, s2, s3, s4⟩ := h; go_simp; try with_reducible rfl)
      try simp only [getElem_toArray, getElem_cons_zero, getElem_cons_succ, Act.put, setIfInBounds_toArray, set_cons_zero, set_cons_succ]
      refine tk (i := 6) (v := ?v6g3) rfl hHeld (Or.inl ⟨rfl, ?y6g3⟩) ?r6g3
      case y6g3 => (intro w h; obtain ⟨s0, s1, s2, s3, s4⟩ := h; go_simp; try with_reducible rfl)
      try simp only [getElem_toArray, getElem_cons_zero, getElem_cons_succ, Act.put, setIfInBounds_toArray, set_cons_zero, set_cons_succ]
      refine tk (i := 7) (v := ?v7g3) rfl hHeld (Or.inl ⟨rfl, ?y7g3⟩) ?r7g3
      case y7g3 => (intro w h; obtain ⟨s0, s1, s2, s3, s4⟩ := h; go_simp; try with_reducible rfl)
      try simp only [getElem_toArray, getElem_cons_zero, getElem_cons_succ, Act.put, setIfInBounds_toArray, set_cons_zero, set_cons_succ]
      refine tk (i := 8) (v := ?v8g3) rfl hHeld (Or.inl ⟨rfl, ?y8g3⟩) ?r8g3
      case y8g3 => (intro w h; obtain ⟨s0, s1, s2, s3, s4⟩ := h; go_simp; try with_reducible rfl)
      try simp only [getElem_toArray, getElem_cons_zero, getElem_cons_succ, Act.put, setIfInBounds_toArray, set_cons_zero, set_cons_succ]
      refine tk (i := 9) (v := ?v9g3) rfl hHeld (Or.inl ⟨rfl, ?y9g3⟩) ?r9g3
      case y9g3 => (intro w h; obtain ⟨s0, s1, s2, s3, s4⟩ := h; go_simp; try with_reducible rfl)
      try simp only [getElem_toArray, getElem_cons_zero, getElem_cons_succ, Act.put, setIfInBounds_toArray, set_cons_zero, set_cons_succ]
      refine tk (i := 10) (v := ?v10g3) rfl hHeld (Or.inl ⟨rfl, ?y10g3⟩) ?r10g3
      case y10g3 => (intro w h; obtain ⟨s0, s1, s2, s3, s4⟩ := h; go_simp; try with_reducible rfl)
      try simp only [getElem_toArray, getElem_cons_zero, getElem_cons_succ, Act.put, setIfInBounds_toArray, set_cons_zero, set_cons_succ]
      refine tk (i := 11) (v := ?v11g3) rfl hHeld (Or.inl ⟨rfl, ?y11g3⟩) ?r11g3
      case y11g3 => (intro w h; obtain ⟨s0, s1, s2, s3, s4⟩ := h; go_simp; try with_reducible rfl)
      try simp only [getElem_toArray, getElem_cons_zero, getElem_cons_succ, Act.put, setIfInBounds_toArray, set_cons_zero, set_cons_succ]
      refine tk (i := 12) (v := ?v12g3) rfl hHeld (Or.inl ⟨rfl, ?y12g3⟩) ?r12g3
      case y12g3 => (intro w h; obtain ⟨s0, s1, s2, s3, s4⟩ := h; go_simp; try with_reducible rfl)
      try simp only [getElem_toArray, getElem_cons_zero, getElem_cons_succ, Act.put, setIfInBounds_toArray, set_cons_zero, set_cons_succ]
      refine tk (i := 13) (v := ?v13g3) rfl hHeld (Or.inl ⟨rfl, ?y13g3⟩) ?r13g3
      case y13g3 => (intro w h; obtain ⟨s0, s1, s2, s3, s4⟩ := h; go_simp; try with_reducible rfl)
      try simp only [getElem_toArray, getElem_cons_zero, getElem_cons_succ, Act.put, setIfInBounds_toArray, set_cons_zero, set_cons_succ]
      refine tk (i := 14) (v := ?v14g3) rfl hHeld (Or.inl ⟨rfl, ?y14g3⟩) ?r14g3
      case y14g3 => (intro w h; obtain ⟨s0, s1, s2, s3, s4⟩ := h; go_simp; try with_reducible rfl)
      try simp only [getElem_toArray, getElem_cons_zero, getElem_cons_succ, Act.put, setIfInBounds_toArray, set_cons_zero, set_cons_succ]
      refine tk (i := 15) (v := ?v15g3) rfl hHeld (Or.inl ⟨rfl, ?y15g3⟩) ?r15g3
      case y15g3 => (intro w h; obtain ⟨s0, s1, s2, s3, s4⟩ := h; go_simp; try with_reducible rfl)
      try simp only [getElem_toArray, getElem_cons_zero, getElem_cons_succ, Act.put, setIfInBounds_toArray, set_cons_zero, set_cons_succ]
      refine tk (i := 16) (v := ?v16g3) rfl hHeld (Or.inl ⟨rfl, ?y16g3⟩) ?r16g3
      case y16g3 => (intro w h; obtain ⟨s0, s1, s2, s3, s4⟩ := h; go_simp; try with_reducible rfl)
      try simp only [getElem_toArray, getElem_cons_zero, getElem_cons_succ, Act.put, setIfInBounds_toArray, set_cons_zero, set_cons_succ]
      refine tk (i := 17) (v := ?v17g3) rfl hHeld (Or.inl ⟨rfl, ?y17g3⟩) ?r17g3
      case y17g3 => (intro w h; obtain ⟨s0, s1, s2, s3, s4⟩ := h; go_simp; try with_reducible rfl)
      try simp only [getElem_toArray, getElem_cons_zero, getElem_cons_succ, Act.put, setIfInBounds_toArray, set_cons_zero, set_cons_succ]
      refine tk (i := 18) (v := ?v18g3) rfl hHeld (Or.inl ⟨rfl, ?y18g3⟩) ?r18g3
      case y18g3 => (intro w h; obtain ⟨s0, s1, s2, s3, s4⟩ := h; go_simp; try with_reducible rfl)
      try simp only [getElem_toArray, getElem_cons_zero, getElem_cons_succ, Act.put, setIfInBounds_toArray, set_cons_zero, set_cons_succ]
      refine wpAnyH_done (by kernel_rfl) ?_ _
      have HW := keepB hb hHeld.2.2.2.2
      clear hHeld
      go_wp2
      go_ret
      exact ⟨by rw [HE.out]; rfl, HW.out⟩
    ·have HN : Hid (allFrom (adjB l) 0 (k + 1) = true) := HYES.out (by
      rw [HAT.out]
      obtain rfl : k = 0 := by omega
      rfl)
     generalize l[k] = x at *
     have h0n : ¬ 0 < k := by omega
     have h0d : decide (0 < k) = false := decide_eq_false h0n
     clear HNO HYES HAT
     go_wp2
     skip
     refine wp_region_held_drew (S := fun W => W.cell? ⟨wr.heap.size, 0, none⟩ = some (.int .i64 x.f0) ∧ W.cell? ⟨wr.heap.size, 1, none⟩ = some (.string x.f1) ∧ W.cell? ⟨w.heap.size, 2, none⟩ = some (.slice (some ad) l.length c) ∧ Hid (Below wr.heap.size wr W)) (by kernel_rfl) ?_ (fun hHeld => ?_)
     ·exact ⟨by simp [go_sem], by simp [go_sem], keepc ((Below.refl wr.heap.size wr).alloc (Nat.le_refl _) _).drew dx_2, ((Below.refl wr.heap.size wr).alloc (Nat.le_refl _) _).drew⟩
     refine tk (i := 0) (v := ?v0g4) rfl hHeld (Or.inl ⟨rfl, ?y0g4⟩) ?r0g4
     case y0g4 => (intro w h; obtain ⟨s0, s1, s2, s3⟩ := h; go_simp; try with_reducible rfl)
     try simp only [getElem_toArray, getElem_cons_zero, getElem_cons_succ, Act.put, setIfInBounds_toArray, set_cons_zero, set_cons_succ]
     refine wpAnyH_ready (rs := [1]) (by kernel_rfl) (by simp) ?_
     refine AllReadyH.cons (o := _) rfl (fun K hK => ?_) AllReadyH.nil
     rw [if_pos (by rfl)]
     go_simp
     obtain ⟨s0, s1, s2, s3⟩ := hHeld
     refine (parts_may.calls x.f0 x.f1 _ _ HM.out).mono ?_
     rintro e8 w8 ⟨rfl, hb8⟩
     refine hK.out _ _ ⟨keepc hb8 s0, keepc hb8 s1, keepc hb8 s2, keepB s3 hb8⟩ (fun hHeld => ?_)
     clear hK K hb8 s0 s1 s2 s3
     try simp only [getElem_toArray, getElem_cons_zero, getElem_cons_succ, Act.put, setIfInBounds_toArray, set_cons_zero, set_cons_succ]
     refine tk (i := 2) (v := ?v2g4) rfl hHeld (Or.inl ⟨rfl, ?y2g4⟩) ?r2g4
     case y2g4 => (intro w h; obtain ⟨s0, s1, s2, s3⟩ := h; go_simp; try with_reducible rfl)
     try simp only [getElem_toArray, getElem_cons_zero, getElem_cons_succ, Act.put, setIfInBounds_toArray, set_cons_zero, set_cons_succ]
     refine tk (i := 3) (v := ?v3g4) rfl hHeld (Or.inl ⟨rfl, ?y3g4⟩) ?r3g4
     case y3g4 => (intro w h; obtain ⟨s0, s1, s2, s3⟩ := h; go_simp; try with_reducible rfl)
     try simp only [getElem_toArray, getElem_cons_zero, getElem_cons_succ, Act.put, setIfInBounds_toArray, set_cons_zero, set_cons_succ]
     refine tk (i := 4) (v := ?v4g4) rfl hHeld (Or.inl ⟨rfl, ?y4g4⟩) ?r4g4
     case y4g4 => (intro w h; obtain ⟨s0, s1, s2, s3⟩ := h; go_simp; try with_reducible rfl)
     try simp only [getElem_toArray, getElem_cons_zero, getElem_cons_succ, Act.put, setIfInBounds_toArray, set_cons_zero, set_cons_succ]
     refine tk (i := 5) (v := ?v5g4) rfl hHeld (Or.inl ⟨rfl, ?y5g4⟩) ?r5g4
     case y5g4 => (intro w h; obtain ⟨s0, s1, s2, s3⟩ := h; go_simp; try with_reducible rfl)
     try simp only [getElem_toArray, getElem_cons_zero, getElem_cons_succ, Act.put, setIfInBounds_toArray, set_cons_zero, set_cons_succ]
     refine tk (i := 6) (v := ?v6g4) rfl hHeld (Or.inl ⟨rfl, ?y6g4⟩) ?r6g4
     case y6g4 => (intro w h; obtain ⟨s0, s1, s2, s3⟩ := h; go_simp; try with_reducible rfl)
     try simp only [getElem_toArray, getElem_cons_zero, getElem_cons_succ, Act.put, setIfInBounds_toArray, set_cons_zero, set_cons_succ]
     refine tku (i := 7) rfl hHeld rfl ?_
     try simp only [getElem_toArray, getElem_cons_zero, getElem_cons_succ, Act.put, setIfInBounds_toArray, set_cons_zero, set_cons_succ]
     refine tku (i := 8) rfl hHeld rfl ?_
     try simp only [getElem_toArray, getElem_cons_zero, getElem_cons_succ, Act.put, setIfInBounds_toArray, set_cons_zero, set_cons_succ]
     refine tku (i := 9) rfl hHeld rfl ?_
     try simp only [getElem_toArray, getElem_cons_zero, getElem_cons_succ, Act.put, setIfInBounds_toArray, set_cons_zero, set_cons_succ]
     refine tku (i := 10) rfl hHeld rfl ?_
     try simp only [getElem_toArray, getElem_cons_zero, getElem_cons_succ, Act.put, setIfInBounds_toArray, set_cons_zero, set_cons_succ]
     refine tku (i := 11) rfl hHeld rfl ?_
     try simp only [getElem_toArray, getElem_cons_zero, getElem_cons_succ, Act.put, setIfInBounds_toArray, set_cons_zero, set_cons_succ]
     refine tku (i := 12) rfl hHeld rfl ?_
     try simp only [getElem_toArray, getElem_cons_zero, getElem_cons_succ, Act.put, setIfInBounds_toArray, set_cons_zero, set_cons_succ]
     refine tku (i := 13) rfl hHeld rfl ?_
     try simp only [getElem_toArray, getElem_cons_zero, getElem_cons_succ, Act.put, setIfInBounds_toArray, set_cons_zero, set_cons_succ]
     refine tku (i := 14) rfl hHeld rfl ?_
     try simp only [getElem_toArray, getElem_cons_zero, getElem_cons_succ, Act.put, setIfInBounds_toArray, set_cons_zero, set_cons_succ]
     refine tku (i := 15) rfl hHeld rfl ?_
     try simp only [getElem_toArray, getElem_cons_zero, getElem_cons_succ, Act.put, setIfInBounds_toArray, set_cons_zero, set_cons_succ]
     refine tku (i := 16) rfl hHeld rfl ?_
     try simp only [getElem_toArray, getElem_cons_zero, getElem_cons_succ, Act.put, setIfInBounds_toArray, set_cons_zero, set_cons_succ]
     refine tk (i := 17) (v := ?v17g4) rfl hHeld (Or.inl ⟨rfl, ?y17g4⟩) ?r17g4
     case y17g4 => (intro w h; obtain ⟨s0, s1, s2, s3⟩ := h; go_simp; try with_reducible rfl)
     try simp only [getElem_toArray, getElem_cons_zero, getElem_cons_succ, Act.put, setIfInBounds_toArray, set_cons_zero, set_cons_succ]
     refine tk (i := 18) (v := ?v18g4) rfl hHeld (Or.inl ⟨rfl, ?y18g4⟩) ?r18g4
     case y18g4 => (intro w h; obtain ⟨s0, s1, s2, s3⟩ := h; go_simp; try with_reducible rfl)
     try simp only [getElem_toArray, getElem_cons_zero, getElem_cons_succ, Act.put, setIfInBounds_toArray, set_cons_zero, set_cons_succ]
     refine wpAnyH_done (by kernel_rfl) ?_ _
     have HW := keepB hb hHeld.2.2.2
     have HKX := Lib.hid (blk_below hkb.out (outB hHeld.2.2.2))
     clear hHeld
     go_wp2
     go_roundw
     case rel => exact ⟨k + 1, by go_num, by omega, HN, HKX, HW⟩
     case measure => simp [intOf]; omega
  ·have HE : Hid (fineB u key l = true) := by
    obtain rfl : k = l.length := by omega
    exact HEX.out.trans hall.out
   go_wp2
   go_ret
   exact ⟨by rw [HE.out]; rfl, hb.out⟩
set_option maxHeartbeats 8000000 in
set_option maxRecDepth 100000 in
theorem check_calls {w : World} {A : Option Addr} {c : Nat} {l : List S41} (hr : Kd.C k41 w A l.length l) (hc : l.length ≤ c) :
  Calls Tryz.prog 52 #[.slice A l.length c] w fun e w' => e = .returned (.int .i64 (errB (checkB l))) ∧ Below w.heap.size w w' := by
 have HB0 : Hid (Below w.heap.size w w) := Below.refl _ _
 have HR := Lib.hid hr
 have hlen : (l.length : Int) ≤ 9223372036854775807 := by have := hr.2.1; omega
 clear hr
 by_cases p3 : 10 < l.length
 ·have HE : Hid (checkB l = false) := by unfold Hid checkB; rw [decide_eq_false (show ¬ l.length ≤ 10 by omega)]; simp
  have d3 : decide ((10 : Int) < (l.length : Int)) = true := by simp; omega
  go_enter Tryz.func52, Tryz.ntmps52
  go_wp2
  go_ret
  exact ⟨by rw [HE.out]; rfl, HB0.out⟩
 have d3 : decide ((10 : Int) < (l.length : Int)) = false := by simp; omega
 have HEX : Hid (checkB l = allFrom (adjU l) 0 l.length) := by
  unfold Hid checkB
  rw [decide_eq_true (show l.length ≤ 10 by omega)]; rfl
 go_enter Tryz.func52, Tryz.ntmps52
 go_wp2
 go_loopw [10] (fun i wr => ∃ (k : Nat), i = .int .i64 k ∧ k ≤ l.length ∧ Hid (allFrom (adjU l) 0 k = true) ∧ Hid (Below w.heap.size w wr)) (fun i _ => l.length - (intOf i).toNat)
 case atStart => exact ⟨0, rfl, Nat.zero_le _, rfl, HB0⟩
 case round =>
  obtain ⟨k, rfl, hk, hall, hb⟩ := hrel
  by_cases hlt : k < l.length
  ·have HNO : Hid (adjU l k = false → checkB l = false) := fun h => by
    rw [HEX.out, allFrom_false k (Nat.zero_le _) (by omega) h]
   have HYES : Hid (adjU l k = true → allFrom (adjU l) 0 (k + 1) = true) := fun h => by
    rw [allFrom_snoc, hall.out, Nat.zero_add, h]; rfl
   have HAT : Hid (adjU l k = (fineB l[k].f0 l[k].f1 l[k].f2 && (decide (k = 0) || decide ((l.getD (k - 1) z41).f0 < l[k].f0)))) := by
    unfold Hid adjU; rw [getD_at l k _ hlt]
   clear hall
   obtain ⟨ad, A2, c2, e', hc0, hc1, hc2, hl2, hC2⟩ := atUpload HR.out hb.out k hlt
   subst e'
   have HFC := Lib.hid (fun (W : World) (h : Below wr.heap.size wr W) => fine_calls (w := W) (c := c2) l[k].f0 l[k].f1 (Kd.C_below hC2 h) hl2)
   clear hC2
   cases hm : fineB l[k].f0 l[k].f1 l[k].f2
   ·have HE : Hid (checkB l = false) := HNO.out (by rw [HAT.out, hm]; rfl)
    rw [hm] at HFC
    clear hm HNO HYES HAT
    generalize l[k] = x at *
    go_wp2
    skip
    refine wp_region_held_drew (S := fun W => W.cell? ⟨wr.heap.size, 0, none⟩ = some (.int .u64 x.f0) ∧ W.cell? ⟨wr.heap.size, 1, none⟩ = some (.string x.f1) ∧ W.cell? ⟨wr.heap.size, 2, none⟩ = some (.slice A2 x.f2.length c2) ∧ Hid (Below wr.heap.size wr W)) (by kernel_rfl) ?_ (fun hHeld => ?_)
    ·exact ⟨by simp [go_sem], by simp [go_sem], by simp [go_sem], ((Below.refl wr.heap.size wr).alloc (Nat.le_refl _) _).drew⟩
    refine tk (i := 0) (v := ?v0g5) rfl hHeld (Or.inl ⟨rfl, ?y0g5⟩) ?r0g5
    case y0g5 => (intro w h; obtain ⟨s0, s1, s2, s3⟩ := h; go_simp; try with_reducible rfl)
    try simp only [getElem_toArray, getElem_cons_zero, getElem_cons_succ, Act.put, setIfInBounds_toArray, set_cons_zero, set_cons_succ]
    refine wpAnyH_ready (rs := [1]) (by kernel_rfl) (by simp) ?_
    refine AllReadyH.cons (o := _) rfl (fun K hK => ?_) AllReadyH.nil
    rw [if_pos (by rfl)]
    go_simp
    obtain ⟨s0, s1, s2, s3⟩ := hHeld
    refine (HFC.out _ (outB s3)).mono ?_
    rintro e8 w8 ⟨rfl, hb8⟩
    refine hK.out _ _ ⟨keepc hb8 s0, keepc hb8 s1, keepc hb8 s2, keepB s3 hb8⟩ (fun hHeld => ?_)
    clear hK K hb8 s0 s1 s2 s3
    try simp only [getElem_toArray, getElem_cons_zero, getElem_cons_succ, Act.put, setIfInBounds_toArray, set_cons_zero, set_cons_succ]
    refine tk (i := 2) (v := ?v2g5) rfl hHeld (Or.inl ⟨rfl, ?y2g5⟩) ?r2g5
    case y2g5 => (intro w h; obtain ⟨s0, s1, s2, s3⟩ := h; go_simp; try with_reducible rfl)
    try simp only [getElem_toArray, getElem_cons_zero, getElem_cons_succ, Act.put, setIfInBounds_toArray, set_cons_zero, set_cons_succ]
    refine tk (i := 3) (v := ?v3g5) rfl hHeld (Or.inl ⟨rfl, ?y3g5⟩) ?r3g5
    case y3g5 => (intro w h; obtain ⟨s0, s1, s2, s3⟩ := h; go_simp; try with_reducible rfl)
    try simp only [getElem_toArray, getElem_cons_zero, getElem_cons_succ, Act.put, setIfInBounds_toArray, set_cons_zero, set_cons_succ]
    refine tku (i := 4) rfl hHeld rfl ?_
    try simp only [getElem_toArray, getElem_cons_zero, getElem_cons_succ, Act.put, setIfInBounds_toArray, set_cons_zero, set_cons_succ]
    refine tku (i := 5) rfl hHeld rfl ?_
    try simp only [getElem_toArray, getElem_cons_zero, getElem_cons_succ, Act.put, setIfInBounds_toArray, set_cons_zero, set_cons_succ]
    refine tku (i := 6) rfl hHeld rfl ?_
    try simp only [getElem_toArray, getElem_cons_zero, getElem_cons_succ, Act.put, setIfInBounds_toArray, set_cons_zero, set_cons_succ]
    refine tku (i := 7) rfl hHeld rfl ?_
    try simp only [getElem_toArray, getElem_cons_zero, getElem_cons_succ, Act.put, setIfInBounds_toArray, set_cons_zero, set_cons_succ]
    refine tku (i := 8) rfl hHeld rfl ?_
    try simp only [getElem_toArray, getElem_cons_zero, getElem_cons_succ, Act.put, setIfInBounds_toArray, set_cons_zero, set_cons_succ]
    refine tku (i := 9) rfl hHeld rfl ?_
    try simp only [getElem_toArray, getElem_cons_zero, getElem_cons_succ, Act.put, setIfInBounds_toArray, set_cons_zero, set_cons_succ]
    refine tku (i := 10) rfl hHeld rfl ?_
    try simp only [getElem_toArray, getElem_cons_zero, getElem_cons_succ, Act.put, setIfInBounds_toArray, set_cons_zero, set_cons_succ]
    refine tku (i := 11) rfl hHeld rfl ?_
    try simp only [getElem_toArray, getElem_cons_zero, getElem_cons_succ, Act.put, setIfInBounds_toArray, set_cons_zero, set_cons_succ]
    refine tku (i := 12) rfl hHeld rfl ?_
    try simp only [getElem_toArray, getElem_cons_zero, getElem_cons_succ, Act.put, setIfInBounds_toArray, set_cons_zero, set_cons_succ]
    refine tku (i := 13) rfl hHeld rfl ?_
    try simp only [getElem_toArray, getElem_cons_zero, getElem_cons_succ, Act.put, setIfInBounds_toArray, set_cons_zero, set_cons_succ]
    refine tku (i := 14) rfl hHeld rfl ?_
    try simp only [getElem_toArray, getElem_cons_zero, getElem_cons_succ, Act.put, setIfInBounds_toArray, set_cons_zero, set_cons_succ]
    refine tku (i := 15) rfl hHeld rfl ?_
    try simp only [getElem_toArray, getElem_cons_zero, getElem_cons_succ, Act.put, setIfInBounds_toArray, set_cons_zero, set_cons_succ]
    refine tku (i := 16) rfl hHeld rfl ?_
    try simp only [getElem_toArray, getElem_cons_zero, getElem_cons_succ, Act.put, setIfInBounds_toArray, set_cons_zero, set_cons_succ]
    refine tk (i := 17) (v := ?v17g5) rfl hHeld (Or.inl ⟨rfl, ?y17g5⟩) ?r17g5
    case y17g5 => (intro w h; obtain ⟨s0, s1, s2, s3⟩ := h; go_simp; try with_reducible rfl)
    try simp only [getElem_toArray, getElem_cons_zero, getElem_cons_succ, Act.put, setIfInBounds_toArray, set_cons_zero, set_cons_succ]
    refine wpAnyH_done (by kernel_rfl) ?_ _
    have HW := keepB hb hHeld.2.2.2
    clear hHeld
    go_wp2
    go_ret
    exact ⟨by rw [HE.out]; rfl, HW.out⟩
   ·rw [hm] at HFC HAT
    clear hm
    by_cases h0 : (0 : Int) < (k : Int)
    ·obtain ⟨j, rfl⟩ : ∃ j, k = j + 1 := ⟨k - 1, by omega⟩
     have hj : j < l.length := by omega
     obtain ⟨ad', A4, c4, e3, hd0, hd1, hd2, hm2, hD2⟩ := atUpload HR.out hb.out j hj
     injection e3 with e3
     subst e3
     clear hd1 hd2 hm2 hD2
     rw [Nat.add_sub_cancel, getD_at l j _ hj, decide_eq_false (Nat.succ_ne_zero j), Bool.false_or] at HAT
     have e1 : IntKind.i64.wrap (((j + 1 : Nat) : Int) - 1) = (j : Int) := by simp [IntKind.wrap, IntKind.bits, IntKind.signed]; omega
     have p4 : (0 : Int) ≤ (j : Int) := by omega
     have p5 : (j : Int) < (l.length : Int) := by omega
     generalize l[j].f0 = q at *
     generalize l[j + 1] = x at *
     generalize hk1 : j + 1 = k at *
     have h0n : 0 < k := by omega
     have h0d : decide (0 < k) = true := decide_eq_true h0n
     by_cases hup : q < x.f0
     ·have HN : Hid (allFrom (adjU l) 0 (k + 1) = true) := HYES.out (by rw [HAT.out, decide_eq_true hup]; rfl)
      have hup2 : decide (x.f0 ≤ q) = false := decide_eq_false (by omega)
      clear HNO HYES HAT
      go_wp2
      skip
      refine wp_region_held_drew (S := fun W => W.cell? (ad.add (j * 3)) = some (.int .u64 q) ∧ W.cell? ⟨wr.heap.size, 0, none⟩ = some (.int .u64 x.f0) ∧ W.cell? ⟨wr.heap.size, 1, none⟩ = some (.string x.f1) ∧ W.cell? ⟨wr.heap.size, 2, none⟩ = some (.slice A2 x.f2.length c2) ∧ Hid (Below wr.heap.size wr W)) (by kernel_rfl) ?_ (fun hHeld => ?_)
      ·exact ⟨keepc ((Below.refl wr.heap.size wr).alloc (Nat.le_refl _) _).drew hd0, by simp [go_sem], by simp [go_sem], by simp [go_sem], ((Below.refl wr.heap.size wr).alloc (Nat.le_refl _) _).drew⟩
      refine tk (i := 0) (v := ?v0g6) rfl hHeld (Or.inl ⟨rfl, ?y0g6⟩) ?r0g6
      case y0g6 => (intro w h; obtain ⟨s0, s1, s2, s3, s4⟩ := h; go_simp; try with_reducible rfl)
      try simp only [getElem_toArray, getElem_cons_zero, getElem_cons_succ, Act.put, setIfInBounds_toArray, set_cons_zero, set_cons_succ]
      refine wpAnyH_ready (rs := [1]) (by kernel_rfl) (by simp) ?_
      refine AllReadyH.cons (o := _) rfl (fun K hK => ?_) AllReadyH.nil
      rw [if_pos (by rfl)]
      go_simp
      obtain ⟨s0, s1, s2, s3, s4⟩ := hHeld
      refine (HFC.out _ (outB s4)).mono ?_
      rintro e8 w8 ⟨rfl, hb8⟩
      refine hK.out _ _ ⟨keepc hb8 s0, keepc hb8 s1, keepc hb8 s2, keepc hb8 s3, keepB s4 hb8⟩ (fun hHeld => ?_)
      clear hK K hb8 s0 s1 s2 s3 s4
      try simp only [getElem_toArray, getElem_cons_zero, getElem_cons_succ, Act.put, setIfInBounds_toArray, set_cons_zero, set_cons_succ]
      refine tk (i := 2) (v := ?v2g6) rfl hHeld (Or.inl ⟨rfl, ?y2g6⟩) ?r2g6
      case y2g6 => (intro w h; obtain ⟨s0, s1, s2, s3, s4⟩ := h; go_simp; try with_reducible rfl)
      try simp only [getElem_toArray, getElem_cons_zero, getElem_cons_succ, Act.put, setIfInBounds_toArray, set_cons_zero, set_cons_succ]
      refine tk (i := 3) (v := ?v3g6) rfl hHeld (Or.inl ⟨rfl, ?y3g6⟩) ?r3g6
      case y3g6 => (intro w h; obtain ⟨s0, s1, s2, s3, s4⟩ := h; go_simp; try with_reducible rfl)
      try simp only [getElem_toArray, getElem_cons_zero, getElem_cons_succ, Act.put, setIfInBounds_toArray, set_cons_zero, set_cons_succ]
      refine tk (i := 4) (v := ?v4g6) rfl hHeld (Or.inl ⟨rfl, ?y4g6⟩) ?r4g6
      case y4g6 => (intro w h; obtain ⟨s0, s1, s2, s3, s4⟩ := h; go_simp; try with_reducible rfl)
      try simp only [getElem_toArray, getElem_cons_zero, getElem_cons_succ, Act.put, setIfInBounds_toArray, set_cons_zero, set_cons_succ]
      refine tk (i := 5) (v := ?v5g6) rfl hHeld (Or.inl ⟨rfl, ?y5g6⟩) ?r5g6
      case y5g6 => (intro w h; obtain ⟨s0, s1, s2, s3, s4⟩ := h; go_simp; try with_reducible rfl)
      try simp only [getElem_toArray, getElem_cons_zero, getElem_cons_succ, Act.put, setIfInBounds_toArray, set_cons_zero, set_cons_succ]
      refine tk (i := 6) (v := ?v6g6) rfl hHeld (Or.inl ⟨rfl, ?y6g6⟩) ?r6g6
      case y6g6 => (intro w h; obtain ⟨s0, s1, s2, s3, s4⟩ := h; go_simp; try with_reducible rfl)
      try simp only [getElem_toArray, getElem_cons_zero, getElem_cons_succ, Act.put, setIfInBounds_toArray, set_cons_zero, set_cons_succ]
      refine tk (i := 7) (v := ?v7g6) rfl hHeld (Or.inl ⟨rfl, ?y7g6⟩) ?r7g6
      case y7g6 => (intro w h; obtain ⟨s0, s1, s2, s3, s4⟩ := h; go_simp; try with_reducible rfl)
      try simp only [getElem_toArray, getElem_cons_zero, getElem_cons_succ, Act.put, setIfInBounds_toArray, set_cons_zero, set_cons_succ]
      refine tk (i := 8) (v := ?v8g6) rfl hHeld (Or.inl ⟨rfl, ?y8g6⟩) ?r8g6
      case y8g6 => (intro w h; obtain ⟨s0, s1, s2, s3, s4⟩ := h; go_simp; try with_reducible rfl)
      try simp only [getElem_toArray, getElem_cons_zero, getElem_cons_succ, Act.put, setIfInBounds_toArray, set_cons_zero, set_cons_succ]
      refine tk (i := 9) (v := ?v9g6) rfl hHeld (Or.inl ⟨rfl, ?y9g6⟩) ?r9g6
      case y9g6 => (intro w h; obtain ⟨s0, s1, s2, s3, s4⟩ := h; go_simp; try with_reducible rfl)
      try simp only [getElem_toArray, getElem_cons_zero, getElem_cons_succ, Act.put, setIfInBounds_toArray, set_cons_zero, set_cons_succ]
      refine tk (i := 10) (v := ?v10g6) rfl hHeld (Or.inl ⟨rfl, ?y10g6⟩) ?r10g6
      case y10g6 => (intro w h; obtain ⟨s0, s1, s2, s3, s4⟩ := h; go_simp; try with_reducible rfl)
      try simp only [getElem_toArray, getElem_cons_zero, getElem_cons_succ, Act.put, setIfInBounds_toArray, set_cons_zero, set_cons_succ]
      refine tk (i := 11) (v := ?v11g6) rfl hHeld (Or.inl ⟨rfl, ?y11g6⟩) ?r11g6
      case y11g6 => (intro w h; obtain ⟨s0, s1, s2, s3, s4⟩ := h; go_simp; try with_reducible rfl)
      try simp only [getElem_toArray, getElem_cons_zero, getElem_cons_succ, Act.put, setIfInBounds_toArray, set_cons_zero, set_cons_succ]
      refine tk (i := 12) (v := ?v12g6) rfl hHeld (Or.inl ⟨rfl, ?y12g6⟩) ?r12g6
      case y12g6 => (intro w h; obtain ⟨s0, s1, s2, s3, s4⟩ := h; go_simp; try with_reducible rfl)
      try simp only [getElem_toArray, getElem_cons_zero, getElem_cons_succ, Act.put, setIfInBounds_toArray, set_cons_zero, set_cons_succ]
      refine tk (i := 13) (v := ?v13g6) rfl hHeld (Or.inl ⟨rfl, ?y13g6⟩) ?r13g6
      case y13g6 => (intro w h; obtain ⟨s0, s1, s2, s3, s4⟩ := h; go_simp; try with_reducible rfl)
      try simp only [getElem_toArray, getElem_cons_zero, getElem_cons_succ, Act.put, setIfInBounds_toArray, set_cons_zero, set_cons_succ]
      refine tk (i := 14) (v := ?v14g6) rfl hHeld (Or.inl ⟨rfl, ?y14g6⟩) ?r14g6
      case y14g6 => (intro w h; obtain ⟨s0, s1, s2, s3, s4⟩ := h; go_simp; try with_reducible rfl)
      try simp only [getElem_toArray, getElem_cons_zero, getElem_cons_succ, Act.put, setIfInBounds_toArray, set_cons_zero, set_cons_succ]
      refine tk (i := 15) (v := ?v15g6) rfl hHeld (Or.inl ⟨rfl, ?y15g6⟩) ?r15g6
      case y15g6 => (intro w h; obtain ⟨s0, s1, s2, s3, s4⟩ := h; go_simp; try with_reducible rfl)
      try simp only [getElem_toArray, getElem_cons_zero, getElem_cons_succ, Act.put, setIfInBounds_toArray, set_cons_zero, set_cons_succ]
      refine tk (i := 16) (v := ?v16g6) rfl hHeld (Or.inl ⟨rfl, ?y16g6⟩) ?r16g6
      case y16g6 => (intro w h; obtain ⟨s0, s1, s2, s3, s4⟩ := h; go_simp; try with_reducible rfl)
      try simp only [getElem_toArray, getElem_cons_zero, getElem_cons_succ, Act.put, setIfInBounds_toArray, set_cons_zero, set_cons_succ]
      refine tk (i := 17) (v := ?v17g6) rfl hHeld (Or.inl ⟨rfl, ?y17g6⟩) ?r17g6
      case y17g6 => (intro w h; obtain ⟨s0, s1, s2, s3, s4⟩ := h; go_simp; try with_reducible rfl)
      try simp only [getElem_toArray, getElem_cons_zero, getElem_cons_succ, Act.put, setIfInBounds_toArray, set_cons_zero, set_cons_succ]
      refine wpAnyH_done (by kernel_rfl) ?_ _
      have HW := keepB hb hHeld.2.2.2.2
      clear hHeld
      go_wp2
      go_roundw
      case rel => exact ⟨k + 1, by go_num, by omega, HN, HW⟩
      case measure => simp [intOf]; omega
     ·have HE : Hid (checkB l = false) := HNO.out (by rw [HAT.out, decide_eq_false hup]; rfl)
      have hup2 : decide (x.f0 ≤ q) = true := decide_eq_true (by omega)
      clear HNO HYES HAT
      go_wp2
      skip
      refine wp_region_held_drew (S := fun W => W.cell? (ad.add (j * 3)) = some (.int .u64 q) ∧ W.cell? ⟨wr.heap.size, 0, none⟩ = some (.int .u64 x.f0) ∧ W.cell? ⟨wr.heap.size, 1, none⟩ = some (.string x.f1) ∧ W.cell? ⟨wr.heap.size, 2, none⟩ = some (.slice A2 x.f2.length c2) ∧ Hid (Below wr.heap.size wr W)) (by kernel_rfl) ?_ (fun hHeld => ?_)
      ·exact ⟨keepc ((Below.refl wr.heap.size wr).alloc (Nat.le_refl _) _).drew hd0, by simp [go_sem], by simp [go_sem], by simp [go_sem], ((Below.refl wr.heap.size wr).alloc (Nat.le_refl _) _).drew⟩
      refine tk (i := 0) (v := ?v0g7) rfl hHeld (Or.inl ⟨rfl, ?y0g7⟩) ?r0g7
      case y0g7 => (intro w h; obtain ⟨s0, s1, s2, s3, s4⟩ := h; go_simp; try with_reducible rfl)
      try simp only [getElem_toArray, getElem_cons_zero, getElem_cons_succ, Act.put, setIfInBounds_toArray, set_cons_zero, set_cons_succ]
      refine wpAnyH_ready (rs := [1]) (by kernel_rfl) (by simp) ?_
      refine AllReadyH.cons (o := _) rfl (fun K hK => ?_) AllReadyH.nil
      rw [if_pos (by rfl)]
      go_simp
      obtain ⟨s0, s1, s2, s3, s4⟩ := hHeld
      refine (HFC.out _ (outB s4)).mono ?_
      rintro e8 w8 ⟨rfl, hb8⟩
      refine hK.out _ _ ⟨keepc hb8 s0, keepc hb8 s1, keepc hb8 s2, keepc hb8 s3, keepB s4 hb8⟩ (fun hHeld => ?_)
      clear hK K hb8 s0 s1 s2 s3 s4
      try simp only [getElem_toArray, getElem_cons_zero, getElem_cons_succ, Act.put, setIfInBounds_toArray, set_cons_zero, set_cons_succ]
      refine tk (i := 2) (v := ?v2g7) rfl hHeld (Or.inl ⟨rfl, ?y2g7⟩) ?r2g7
      case y2g7 => (intro w h; obtain ⟨s0, s1, s2, s3, s4⟩ := h; go_simp; try with_reducible rfl)
      try simp only [getElem_toArray, getElem_cons_zero, getElem_cons_succ, Act.put, setIfInBounds_toArray, set_cons_zero, set_cons_succ]
      refine tk (i := 3) (v := ?v3g7) rfl hHeld (Or.inl ⟨rfl, ?y3g7⟩) ?r3g7
      case y3g7 => (intro w h; obtain ⟨s0, s1, s2, s3, s4⟩ := h; go_simp; try with_reducible rfl)
      try simp only [getElem_toArray, getElem_cons_zero, getElem_cons_succ, Act.put, setIfInBounds_toArray, set_cons_zero, set_cons_succ]
      refine tk (i := 4) (v := ?v4g7) rfl hHeld (Or.inl ⟨rfl, ?y4g7⟩) ?r4g7
      case y4g7 => (intro w h; obtain ⟨s0, s1, s2, s3, s4⟩ := h; go_simp; try with_reducible rfl)
      try simp only [getElem_toArray, getElem_cons_zero, getElem_cons_succ, Act.put, setIfInBounds_toArray, set_cons_zero, set_cons_succ]
      refine tk (i := 5) (v := ?v5g7) rfl hHeld (Or.inl ⟨rfl, ?y5g7⟩) ?r5g7
      case y5g7 => (intro w h; obtain ⟨s0, s1, s2, s3, s4⟩ := h; go_simp; try with_reducible rfl)
      try simp only [getElem_toArray, getElem_cons_zero, getElem_cons_succ, Act.put, setIfInBounds_toArray, set_cons_zero, set_cons_succ]
      refine tk (i := 6) (v := ?v6g7) rfl hHeld (Or.inl ⟨rfl, ?y6g7⟩) ?r6g7
      case y6g7 => (intro w h; obtain ⟨s0, s1, s2, s3, s4⟩ := h; go_simp; try with_reducible rfl)
      try simp only [getElem_toArray, getElem_cons_zero, getElem_cons_succ, Act.put, setIfInBounds_toArray, set_cons_zero, set_cons_succ]
      refine tk (i := 7) (v := ?v7g7) rfl hHeld (Or.inl ⟨rfl, ?y7g7⟩) ?r7g7
      case y7g7 => (intro w h; obtain ⟨s0, s1, s2, s3, s4⟩ := h; go_simp; try with_reducible rfl)
      try simp only [getElem_toArray, getElem_cons_zero, getElem_cons_succ, Act.put, setIfInBounds_toArray, set_cons_zero, set_cons_succ]
      refine tk (i := 8) (v := ?v8g7) rfl hHeld (Or.inl ⟨rfl, ?y8g7⟩) ?r8g7
      case y8g7 => (intro w h; obtain ⟨s0, s1, s2, s3, s4⟩ := h; go_simp; try with_reducible rfl)
      try simp only [getElem_toArray, getElem_cons_zero, getElem_cons_succ, Act.put, setIfInBounds_toArray, set_cons_zero, set_cons_succ]
      refine tk (i := 9) (v := ?v9g7) rfl hHeld (Or.inl ⟨rfl, ?y9g7⟩) ?r9g7
      case y9g7 => (intro w h; obtain ⟨s0, s1, s2, s3, s4⟩ := h; go_simp; try with_reducible rfl)
      try simp only [getElem_toArray, getElem_cons_zero, getElem_cons_succ, Act.put, setIfInBounds_toArray, set_cons_zero, set_cons_succ]
      refine tk (i := 10) (v := ?v10g7) rfl hHeld (Or.inl ⟨rfl, ?y10g7⟩) ?r10g7
      case y10g7 => (intro w h; obtain ⟨s0, s1, s2, s3, s4⟩ := h; go_simp; try with_reducible rfl)
      try simp only [getElem_toArray, getElem_cons_zero, getElem_cons_succ, Act.put, setIfInBounds_toArray, set_cons_zero, set_cons_succ]
      refine tk (i := 11) (v := ?v11g7) rfl hHeld (Or.inl ⟨rfl, ?y11g7⟩) ?r11g7
      case y11g7 => (intro w h; obtain ⟨s0, s1, s2, s3, s4⟩ := h; go_simp; try with_reducible rfl)
      try simp only [getElem_toArray, getElem_cons_zero, getElem_cons_succ, Act.put, setIfInBounds_toArray, set_cons_zero, set_cons_succ]
      refine tk (i := 12) (v := ?v12g7) rfl hHeld (Or.inl ⟨rfl, ?y12g7⟩) ?r12g7
      case y12g7 => (intro w h; obtain ⟨s0, s1, s2, s3, s4⟩ := h; go_simp; try with_reducible rfl)
      try simp only [getElem_toArray, getElem_cons_zero, getElem_cons_succ, Act.put, setIfInBounds_toArray, set_cons_zero, set_cons_succ]
      refine tk (i := 13) (v := ?v13g7) rfl hHeld (Or.inl ⟨rfl, ?y13g7⟩) ?r13g7
      case y13g7 => (intro w h; obtain ⟨s0, s1, s2, s3, s4⟩ := h; go_simp; try with_reducible rfl)
      try simp only [getElem_toArray, getElem_cons_zero, getElem_cons_succ, Act.put, setIfInBounds_toArray, set_cons_zero, set_cons_succ]
      refine tk (i := 14) (v := ?v14g7) rfl hHeld (Or.inl ⟨rfl, ?y14g7⟩) ?r14g7
      case y14g7 => (intro w h; obtain ⟨s0, s1, s2, s3, s4⟩ := h; go_simp; try with_reducible rfl)
      try simp only [getElem_toArray, getElem_cons_zero, getElem_cons_succ, Act.put, setIfInBounds_toArray, set_cons_zero, set_cons_succ]
      refine tk (i := 15) (v := ?v15g7) rfl hHeld (Or.inl ⟨rfl, ?y15g7⟩) ?r15g7
      case y15g7 => (intro w h; obtain ⟨s0, s1, s2, s3, s4⟩ := h; go_simp; try with_reducible rfl)
      try simp only [getElem_toArray, getElem_cons_zero, getElem_cons_succ, Act.put, setIfInBounds_toArray, set_cons_zero, set_cons_succ]
      refine tk (i := 16) (v := ?v16g7) rfl hHeld (Or.inl ⟨rfl, ?y16g7⟩) ?r16g7
      case y16g7 => (intro w h; obtain ⟨s0, s1, s2, s3, s4⟩ := h; go_simp; try with_reducible rfl)
      try simp only [getElem_toArray, getElem_cons_zero, getElem_cons_succ, Act.put, setIfInBounds_toArray, set_cons_zero, set_cons_succ]
      refine tk (i := 17) (v := ?v17g7) rfl hHeld (Or.inl ⟨rfl, ?y17g7⟩) ?r17g7
      case y17g7 => (intro w h; obtain ⟨s0, s1, s2, s3, s4⟩ := h; go_simp; try with_reducible rfl)
      try simp only [getElem_toArray, getElem_cons_zero, getElem_cons_succ, Act.put, setIfInBounds_toArray, set_cons_zero, set_cons_succ]
      refine wpAnyH_done (by kernel_rfl) ?_ _
      have HW := keepB hb hHeld.2.2.2.2
      clear hHeld
      go_wp2
      go_ret
      exact ⟨by rw [HE.out]; rfl, HW.out⟩
    ·have HN : Hid (allFrom (adjU l) 0 (k + 1) = true) := HYES.out (by
      rw [HAT.out]
      obtain rfl : k = 0 := by omega
      rfl)
     generalize l[k] = x at *
     have h0n : ¬ 0 < k := by omega
     have h0d : decide (0 < k) = false := decide_eq_false h0n
     clear HNO HYES HAT
     go_wp2
     skip
     refine wp_region_held_drew (S := fun W => W.cell? ⟨wr.heap.size, 0, none⟩ = some (.int .u64 x.f0) ∧ W.cell? ⟨wr.heap.size, 1, none⟩ = some (.string x.f1) ∧ W.cell? ⟨wr.heap.size, 2, none⟩ = some (.slice A2 x.f2.length c2) ∧ Hid (Below wr.heap.size wr W)) (by kernel_rfl) ?_ (fun hHeld => ?_)
     ·exact ⟨by simp [go_sem], by simp [go_sem], by simp [go_sem], ((Below.refl wr.heap.size wr).alloc (Nat.le_refl _) _).drew⟩
     refine tk (i := 0) (v := ?v0g8) rfl hHeld (Or.inl ⟨rfl, ?y0g8⟩) ?r0g8
     case y0g8 => (intro w h; obtain ⟨s0, s1, s2, s3⟩ := h; go_simp; try with_reducible rfl)
     try simp only [getElem_toArray, getElem_cons_zero, getElem_cons_succ, Act.put, setIfInBounds_toArray, set_cons_zero, set_cons_succ]
     refine wpAnyH_ready (rs := [1]) (by kernel_rfl) (by simp) ?_
     refine AllReadyH.cons (o := _) rfl (fun K hK => ?_) AllReadyH.nil
     rw [if_pos (by rfl)]
     go_simp
     obtain ⟨s0, s1, s2, s3⟩ := hHeld
     refine (HFC.out _ (outB s3)).mono ?_
     rintro e8 w8 ⟨rfl, hb8⟩
     refine hK.out _ _ ⟨keepc hb8 s0, keepc hb8 s1, keepc hb8 s2, keepB s3 hb8⟩ (fun hHeld => ?_)
     clear hK K hb8 s0 s1 s2 s3
     try simp only [getElem_toArray, getElem_cons_zero, getElem_cons_succ, Act.put, setIfInBounds_toArray, set_cons_zero, set_cons_succ]
     refine tk (i := 2) (v := ?v2g8) rfl hHeld (Or.inl ⟨rfl, ?y2g8⟩) ?r2g8
     case y2g8 => (intro w h; obtain ⟨s0, s1, s2, s3⟩ := h; go_simp; try with_reducible rfl)
     try simp only [getElem_toArray, getElem_cons_zero, getElem_cons_succ, Act.put, setIfInBounds_toArray, set_cons_zero, set_cons_succ]
     refine tk (i := 3) (v := ?v3g8) rfl hHeld (Or.inl ⟨rfl, ?y3g8⟩) ?r3g8
     case y3g8 => (intro w h; obtain ⟨s0, s1, s2, s3⟩ := h; go_simp; try with_reducible rfl)
     try simp only [getElem_toArray, getElem_cons_zero, getElem_cons_succ, Act.put, setIfInBounds_toArray, set_cons_zero, set_cons_succ]
     refine tk (i := 4) (v := ?v4g8) rfl hHeld (Or.inl ⟨rfl, ?y4g8⟩) ?r4g8
     case y4g8 => (intro w h; obtain ⟨s0, s1, s2, s3⟩ := h; go_simp; try with_reducible rfl)
     try simp only [getElem_toArray, getElem_cons_zero, getElem_cons_succ, Act.put, setIfInBounds_toArray, set_cons_zero, set_cons_succ]
     refine tk (i := 5) (v := ?v5g8) rfl hHeld (Or.inl ⟨rfl, ?y5g8⟩) ?r5g8
     case y5g8 => (intro w h; obtain ⟨s0, s1, s2, s3⟩ := h; go_simp; try with_reducible rfl)
     try simp only [getElem_toArray, getElem_cons_zero, getElem_cons_succ, Act.put, setIfInBounds_toArray, set_cons_zero, set_cons_succ]
     refine tk (i := 6) (v := ?v6g8) rfl hHeld (Or.inl ⟨rfl, ?y6g8⟩) ?r6g8
     case y6g8 => (intro w h; obtain ⟨s0, s1, s2, s3⟩ := h; go_simp; try with_reducible rfl)
     try simp only [getElem_toArray, getElem_cons_zero, getElem_cons_succ, Act.put, setIfInBounds_toArray, set_cons_zero, set_cons_succ]
     refine tku (i := 7) rfl hHeld rfl ?_
     try simp only [getElem_toArray, getElem_cons_zero, getElem_cons_succ, Act.put, setIfInBounds_toArray, set_cons_zero, set_cons_succ]
     refine tku (i := 8) rfl hHeld rfl ?_
     try simp only [getElem_toArray, getElem_cons_zero, getElem_cons_succ, Act.put, setIfInBounds_toArray, set_cons_zero, set_cons_succ]
     refine tku (i := 9) rfl hHeld rfl ?_
     try simp only [getElem_toArray, getElem_cons_zero, getElem_cons_succ, Act.put, setIfInBounds_toArray, set_cons_zero, set_cons_succ]
     refine tku (i := 10) rfl hHeld rfl ?_
     try simp only [getElem_toArray, getElem_cons_zero, getElem_cons_succ, Act.put, setIfInBounds_toArray, set_cons_zero, set_cons_succ]
     refine tku (i := 11) rfl hHeld rfl ?_
     try simp only [getElem_toArray, getElem_cons_zero, getElem_cons_succ, Act.put, setIfInBounds_toArray, set_cons_zero, set_cons_succ]
     refine tku (i := 12) rfl hHeld rfl ?_
     try simp only [getElem_toArray, getElem_cons_zero, getElem_cons_succ, Act.put, setIfInBounds_toArray, set_cons_zero, set_cons_succ]
     refine tku (i := 13) rfl hHeld rfl ?_
     try simp only [getElem_toArray, getElem_cons_zero, getElem_cons_succ, Act.put, setIfInBounds_toArray, set_cons_zero, set_cons_succ]
     refine tku (i := 14) rfl hHeld rfl ?_
     try simp only [getElem_toArray, getElem_cons_zero, getElem_cons_succ, Act.put, setIfInBounds_toArray, set_cons_zero, set_cons_succ]
     refine tku (i := 15) rfl hHeld rfl ?_
     try simp only [getElem_toArray, getElem_cons_zero, getElem_cons_succ, Act.put, setIfInBounds_toArray, set_cons_zero, set_cons_succ]
     refine tk (i := 16) (v := ?v16g8) rfl hHeld (Or.inl ⟨rfl, ?y16g8⟩) ?r16g8
     case y16g8 => (intro w h; obtain ⟨s0, s1, s2, s3⟩ := h; go_simp; try with_reducible rfl)
     try simp only [getElem_toArray, getElem_cons_zero, getElem_cons_succ, Act.put, setIfInBounds_toArray, set_cons_zero, set_cons_succ]
     refine tk (i := 17) (v := ?v17g8) rfl hHeld (Or.inl ⟨rfl, ?y17g8⟩) ?r17g8
     case y17g8 => (intro w h; obtain ⟨s0, s1, s2, s3⟩ := h; go_simp; try with_reducible rfl)
     try simp only [getElem_toArray, getElem_cons_zero, getElem_cons_succ, Act.put, setIfInBounds_toArray, set_cons_zero, set_cons_succ]
     refine wpAnyH_done (by kernel_rfl) ?_ _
     have HW := keepB hb hHeld.2.2.2
     clear hHeld
     go_wp2
     go_roundw
     case rel => exact ⟨k + 1, by go_num, by omega, HN, HW⟩
     case measure => simp [intOf]; omega
  ·have HE : Hid (checkB l = true) := by
    obtain rfl : k = l.length := by omega
    exact HEX.out.trans hall.out
   go_wp2
   go_ret
   exact ⟨by rw [HE.out]; rfl, hb.out⟩
end Go.Proofs.YtafeepdlcilicaaGreat.Q

-- H6
namespace Go.Proofs.YtafeepdlcilicaaGreat.Q
open Go.WideMaps Go.RowKit Go.Proofs.YtafeepdlcilicaaGreatW.PrintWords Go.Proofs.YtafeepdlcilicaaGreatW.PrintLast Go.Proofs.YtafeepdlcilicaaGreatW.PrintMore Go.Maps
set_option linter.unusedVariables false
set_option linter.unusedSimpArgs false

/-! ### octets in plain words -/
def octV (l : List S80) : Nat := (l.map (fun v => v.f1.size)).sum
def octE (l : List S38) : Nat := (l.map (fun x => octV x.f1)).sum
def cntE (l : List S38) : Nat := (l.map (fun x => x.f1.length)).sum
def octP (l : List S82) : Nat := (l.map (fun v => v.f1.size)).sum
def octU (l : List S41) : Nat := (l.map (fun x => octP x.f2)).sum
def bigN : Int := 9223372036854775807
theorem rdV' (l : List S80) (i : Nat) (h : i < l.length) : rd_T80 l (i : Int) = l[i] := rdVersion l i h
theorem rdE' (l : List S38) (i : Nat) (h : i < l.length) : rd_T38 l (i : Int) = l[i] := rdEntry l i h
theorem rdU' (l : List S41) (i : Nat) (h : i < l.length) : rd_T41 l (i : Int) = l[i] := rdUpload l i h
theorem rdP' (l : List S82) (i : Nat) (h : i < l.length) : rd_T82 l (i : Int) = l[i] := rdPart l i h
theorem succ_w (i : Nat) (h : (i : Int) < bigN) : wrap64 ((i : Int) + 1) = ((i + 1 : Nat) : Int) := by unfold bigN at h; rw [wrap64_of (by omega) (by omega)]; omega
theorem sum_w (a b : Nat) (h : ((a + b : Nat) : Int) ≤ bigN) : wrap64 ((a : Int) + (b : Int)) = ((a + b : Nat) : Int) := by unfold bigN at h; rw [wrap64_of (by omega) (by omega)]; omega
theorem count_l1 (L : List S38) (n i : Nat) (k : Nat) (hi : (i : Int) < bigN) (vs : List S80) (hv : (vs.length : Int) ≤ bigN) : ∀ (d j acc : Nat), j + d = vs.length → ((acc + octV (vs.drop j) : Nat) : Int) ≤ bigN →
  index_Count.l1 (k + d + 1) n acc L (L.length : Int) i vs (vs.length : Int) (j : Int) = index_Count.l0 k n ((acc + octV (vs.drop j) : Nat) : Int) L (L.length : Int) ((i + 1 : Nat) : Int) := by
 intro d
 induction d with
 | zero =>
  intro j acc hj hb
  rw [show k + 0 + 1 = k + 1 from rfl]
  simp only [index_Count.l1]
  rw [if_neg (by omega), succ_w i hi, List.drop_eq_nil_of_le (by omega)]
  rfl
 | succ d ih =>
  intro j acc hj hb
  have hj' : j < vs.length := by omega
  rw [List.drop_eq_getElem_cons hj'] at hb ⊢
  have e : octV (vs[j] :: vs.drop (j + 1)) = vs[j].f1.size + octV (vs.drop (j + 1)) := by unfold octV; rw [List.map_cons, List.sum_cons]
  rw [e] at hb ⊢
  rw [show k + (d + 1) + 1 = (k + d + 1) + 1 from rfl]
  generalize hK : k + d + 1 = K
  simp only [index_Count.l1]
  subst hK
  rw [if_pos (by omega), if_pos (by omega), if_pos (by omega), rdV' vs j hj', succ_w j (by omega), sum_w acc _ (by omega), ih (j + 1) (acc + vs[j].f1.size) (by omega) (by omega), Nat.add_assoc]
def needE : List S38 → Nat
 | [] => 1
 | x :: xs => needE xs + x.f1.length + 2
theorem count_l0 (L : List S38) (hL : (L.length : Int) ≤ bigN) (hV : ∀ x ∈ L, (x.f1.length : Int) ≤ bigN) : ∀ (xs : List S38) (i n acc : Nat), xs = L.drop i → i ≤ L.length → ((n + cntE xs : Nat) : Int) ≤ bigN → ((acc + octE xs : Nat) : Int) ≤ bigN →
  index_Count.l0 (needE xs) n acc L (L.length : Int) (i : Int) = some (((n + cntE xs : Nat) : Int), ((acc + octE xs : Nat) : Int)) := by
 intro xs
 induction xs with
 | nil =>
  intro i n acc hx hi hn ha
  have : L.length ≤ i := by
   have := congrArg List.length hx
   rw [List.length_drop] at this; simp at this; omega
  simp only [needE, index_Count.l0]
  rw [if_neg (by omega)]
  rfl
 | cons x xs ih =>
  intro i n acc hx hi hn ha
  have hlen : i < L.length := by
   have := congrArg List.length hx
   rw [List.length_drop] at this; simp only [List.length_cons] at this; omega
  rw [List.drop_eq_getElem_cons hlen] at hx
  injection hx with hx1 hx2
  have e1 : cntE (x :: xs) = x.f1.length + cntE xs := by unfold cntE; rw [List.map_cons, List.sum_cons]
  have e2 : octE (x :: xs) = octV x.f1 + octE xs := by unfold octE; rw [List.map_cons, List.sum_cons]
  rw [e1] at hn ⊢; rw [e2] at ha ⊢
  show index_Count.l0 (needE xs + x.f1.length + 1 + 1) _ _ _ _ _ = _
  generalize hK : needE xs + x.f1.length + 1 = K
  simp only [index_Count.l0]
  subst hK
  rw [if_pos (by omega), if_pos (by omega), if_pos (by omega), rdE' L i hlen, ← hx1, sum_w n _ (by omega)]
  have := count_l1 L (n + x.f1.length) i (needE xs) (by omega) x.f1 (by rw [hx1]; exact hV _ (List.getElem_mem hlen)) x.f1.length 0 acc (by omega) (by rw [List.drop_zero]; omega)
  rw [show ((0 : Nat) : Int) = 0 from rfl, List.drop_zero] at this
  rw [this, ih (i + 1) _ _ hx2 (by omega) (by omega) (by omega), Nat.add_assoc, Nat.add_assoc]
theorem count_f (L : List S38) (hL : (L.length : Int) ≤ bigN) (hV : ∀ x ∈ L, (x.f1.length : Int) ≤ bigN) (hc : (cntE L : Int) ≤ bigN) (ho : (octE L : Int) ≤ bigN) : index_Count.f (needE L) L = some ((cntE L : Int), (octE L : Int)) := by
 unfold index_Count.f
 have := count_l0 L hL hV L 0 0 0 rfl (Nat.zero_le _) (by simpa using hc) (by simpa using ho)
 simpa using this
theorem octs_l1 (L : List S41) (i : Nat) (k : Nat) (hi : (i : Int) < bigN) (vs : List S82) (hv : (vs.length : Int) ≤ bigN) : ∀ (d j acc : Nat), j + d = vs.length → ((acc + octP (vs.drop j) : Nat) : Int) ≤ bigN →
  parts_Octets.l1 (k + d + 1) acc L (L.length : Int) i vs (vs.length : Int) (j : Int) = parts_Octets.l0 k ((acc + octP (vs.drop j) : Nat) : Int) L (L.length : Int) ((i + 1 : Nat) : Int) := by
 intro d
 induction d with
 | zero =>
  intro j acc hj hb
  rw [show k + 0 + 1 = k + 1 from rfl]
  simp only [parts_Octets.l1]
  rw [if_neg (by omega), succ_w i hi, List.drop_eq_nil_of_le (by omega)]
  rfl
 | succ d ih =>
  intro j acc hj hb
  have hj' : j < vs.length := by omega
  rw [List.drop_eq_getElem_cons hj'] at hb ⊢
  have e : octP (vs[j] :: vs.drop (j + 1)) = vs[j].f1.size + octP (vs.drop (j + 1)) := by unfold octP; rw [List.map_cons, List.sum_cons]
  rw [e] at hb ⊢
  rw [show k + (d + 1) + 1 = (k + d + 1) + 1 from rfl]
  generalize hK : k + d + 1 = K
  simp only [parts_Octets.l1]
  subst hK
  rw [if_pos (by omega), if_pos (by omega), if_pos (by omega), rdP' vs j hj', succ_w j (by omega), sum_w acc _ (by omega), ih (j + 1) (acc + vs[j].f1.size) (by omega) (by omega), Nat.add_assoc]
def needP : List S41 → Nat
 | [] => 1
 | x :: xs => needP xs + x.f2.length + 2
theorem octs_l0 (L : List S41) (hL : (L.length : Int) ≤ bigN) (hV : ∀ x ∈ L, (x.f2.length : Int) ≤ bigN) : ∀ (xs : List S41) (i acc : Nat), xs = L.drop i → i ≤ L.length → ((acc + octU xs : Nat) : Int) ≤ bigN →
  parts_Octets.l0 (needP xs) acc L (L.length : Int) (i : Int) = some ((acc + octU xs : Nat) : Int) := by
 intro xs
 induction xs with
 | nil =>
  intro i acc hx hi ha
  have : L.length ≤ i := by
   have := congrArg List.length hx
   rw [List.length_drop] at this; simp at this; omega
  simp only [needP, parts_Octets.l0]
  rw [if_neg (by omega)]
  rfl
 | cons x xs ih =>
  intro i acc hx hi ha
  have hlen : i < L.length := by
   have := congrArg List.length hx
   rw [List.length_drop] at this; simp only [List.length_cons] at this; omega
  rw [List.drop_eq_getElem_cons hlen] at hx
  injection hx with hx1 hx2
  have e2 : octU (x :: xs) = octP x.f2 + octU xs := by unfold octU; rw [List.map_cons, List.sum_cons]
  rw [e2] at ha ⊢
  show parts_Octets.l0 (needP xs + x.f2.length + 1 + 1) _ _ _ _ = _
  generalize hK : needP xs + x.f2.length + 1 = K
  simp only [parts_Octets.l0]
  subst hK
  rw [if_pos (by omega), if_pos (by omega), if_pos (by omega), rdU' L i hlen, ← hx1]
  have := octs_l1 L i (needP xs) (by omega) x.f2 (by rw [hx1]; exact hV _ (List.getElem_mem hlen)) x.f2.length 0 acc (by omega) (by rw [List.drop_zero]; omega)
  rw [show ((0 : Nat) : Int) = 0 from rfl, List.drop_zero] at this
  rw [this, ih (i + 1) _ hx2 (by omega) (by omega), Nat.add_assoc]
theorem octs_f (L : List S41) (hL : (L.length : Int) ≤ bigN) (hV : ∀ x ∈ L, (x.f2.length : Int) ≤ bigN) (ho : (octU L : Int) ≤ bigN) : parts_Octets.f (needP L) L = some (octU L : Int) := by
 unfold parts_Octets.f
 have := octs_l0 L hL hV L 0 0 rfl (Nat.zero_le _) (by simpa using ho)
 simpa using this
theorem sum_le {α : Type} (f : α → Nat) (m : Nat) : ∀ l : List α, (∀ x ∈ l, f x ≤ m) → (l.map f).sum ≤ m * l.length
 | [], _ => by simp
 | x :: l, h => by
  rw [List.map_cons, List.sum_cons, List.length_cons, Nat.mul_succ]
  have h1 := h x List.mem_cons_self
  have h2 := sum_le f m l (fun y hy => h y (List.mem_cons_of_mem _ hy))
  omega
theorem chain_small {l : List S80} (h : chainB l = true) : l.length ≤ 20 ∧ (∀ v ∈ l, mayV v = true) ∧ chB l = true := by
 unfold chainB at h
 simp only [Bool.and_eq_true, decide_eq_true_eq, Bool.not_eq_true', List.any_eq_false] at h
 exact ⟨h.1, fun v hv => by have := h.2.1 v hv; unfold badV at this; simpa using this, h.2.2⟩
theorem mayV_small {v : S80} (h : mayV v = true) : v.f0 ≤ 281474976710655 ∧ v.f1.size ≤ 2000 ∧ 0 ≤ v.f3 ∧ v.f3 ≤ 1099511627775 := by
 unfold mayV at h
 simp only [Bool.and_eq_true, decide_eq_true_eq] at h
 exact ⟨h.1, by omega, h.2.2.2.1, h.2.2.2.2⟩
theorem octV_le {l : List S80} (h : chainB l = true) : octV l ≤ 40000 := by
 obtain ⟨h1, h2, _⟩ := chain_small h
 have := sum_le (fun v : S80 => v.f1.size) 2000 l (fun v hv => (mayV_small (h2 v hv)).2.1)
 unfold octV; omega
theorem index_at {l : List S38} (h : indexB l = true) : l.length ≤ 60 ∧ ∀ j (hj : j < l.length), keyB l[j].f0 = true ∧ upB l j = true ∧ l[j].f1.length ≠ 0 ∧ chainB l[j].f1 = true := by
 unfold indexB at h
 simp only [Bool.and_eq_true, decide_eq_true_eq] at h
 refine ⟨h.1, fun j hj => ?_⟩
 have := allFrom_at h.2 j (Nat.zero_le _) (by omega)
 unfold ixAt at this
 rw [getD_at l j _ hj] at this
 simp only [Bool.and_eq_true, Bool.not_eq_true', beq_eq_false_iff_ne] at this
 exact ⟨this.1, this.2.1, this.2.2.1, this.2.2.2⟩
theorem index_mem {l : List S38} (h : indexB l = true) : ∀ x ∈ l, keyB x.f0 = true ∧ x.f1.length ≠ 0 ∧ chainB x.f1 = true := by
 intro x hx
 obtain ⟨j, hj, rfl⟩ := List.getElem_of_mem hx
 obtain ⟨h1, _, h3, h4⟩ := (index_at h).2 j hj
 exact ⟨h1, h3, h4⟩
theorem octE_le {l : List S38} (h : indexB l = true) : octE l ≤ 2400000 ∧ cntE l ≤ 1200 := by
 have h1 := (index_at h).1
 have a := sum_le (fun x : S38 => octV x.f1) 40000 l (fun x hx => octV_le (index_mem h x hx).2.2)
 have b := sum_le (fun x : S38 => x.f1.length) 20 l (fun x hx => (chain_small (index_mem h x hx).2.2).1)
 unfold octE cntE
 constructor <;> omega
theorem fine_small {u : Int} {key : ByteArray} {l : List S82} (h : fineB u key l = true) : numB u = true ∧ keyB key = true ∧ l.length ≤ 30 ∧ ∀ p ∈ l, mayB p = true := by
 unfold fineB at h
 simp only [Bool.and_eq_true, decide_eq_true_eq] at h
 refine ⟨h.1, h.2.1, h.2.2.1, fun p hp => ?_⟩
 obtain ⟨j, hj, rfl⟩ := List.getElem_of_mem hp
 have := allFrom_at h.2.2.2 j (Nat.zero_le _) (by omega)
 unfold adjB at this
 rw [getD_at l j _ hj] at this
 simp only [Bool.and_eq_true] at this
 exact this.1
theorem check_mem {l : List S41} (h : checkB l = true) : l.length ≤ 10 ∧ ∀ u ∈ l, fineB u.f0 u.f1 u.f2 = true := by
 unfold checkB at h
 simp only [Bool.and_eq_true, decide_eq_true_eq] at h
 refine ⟨h.1, fun u hu => ?_⟩
 obtain ⟨j, hj, rfl⟩ := List.getElem_of_mem hu
 have := allFrom_at h.2 j (Nat.zero_le _) (by omega)
 unfold adjU at this
 rw [getD_at l j _ hj] at this
 simp only [Bool.and_eq_true] at this
 exact this.1
theorem mayB_small {p : S82} (h : mayB p = true) : 1 ≤ p.f0 ∧ p.f0 ≤ 1000 ∧ p.f1.size ≤ 2000 := by
 unfold mayB at h
 simp only [Bool.and_eq_true, decide_eq_true_eq] at h
 exact h
theorem octU_le {l : List S41} (h : checkB l = true) : octU l ≤ 600000 := by
 obtain ⟨h1, h2⟩ := check_mem h
 have a := sum_le (fun u : S41 => octP u.f2) 60000 l (fun u hu => by
  obtain ⟨_, _, h3, h4⟩ := fine_small (h2 u hu)
  have := sum_le (fun p : S82 => p.f1.size) 2000 u.f2 (fun p hp => (mayB_small (h4 p hp)).2.2)
  show (u.f2.map _).sum ≤ _
  omega)
 unfold octU; omega
theorem fuel_up {α : Type} {f : Nat → Option α} (hm : ∀ k, LeO (f k) (f (k + 1))) {k : Nat} {r : α} (h : f k = some r) : ∀ d, f (k + d) = some r
 | 0 => h
 | d + 1 => hm _ _ (fuel_up hm h d)
def octB (L : List S38) (U : List S41) : Int := (octE L : Int) + (octU U : Int)
theorem octets_calls {w : World} {A2 A3 : Option Addr} {c2 c3 : Nat} (nm : ByteArray) (st : Int) (L : List S38) (U : List S41) (la : Int) (h2 : Kd.C k38 w A2 L.length L) (g2 : L.length ≤ c2) (h3 : Kd.C k41 w A3 U.length U) (g3 : U.length ≤ c3) (hL : indexB L = true) (hU : checkB U = true) :
  Calls Tryz.prog 53 #[.agg #[.string nm, .int .i64 st, .slice A2 L.length c2, .slice A3 U.length c3, .int .u64 la]] w fun e w' => e = .returned (.int .i64 (octB L U)) ∧ Below w.heap.size w w' := by
 have a1 := octE_le hL
 have a2 := octU_le hU
 have a3 := index_at hL
 have a4 := check_mem hU
 have e1 := count_f L (by unfold bigN; omega) (fun x hx => by unfold bigN; have := (chain_small (index_mem hL x hx).2.2).1; omega) (by unfold bigN; omega) (by unfold bigN; omega)
 have e2 := octs_f U (by unfold bigN; omega) (fun x hx => by unfold bigN; have := (fine_small (a4.2 x hx)).2.2.1; omega) (by unfold bigN; omega)
 have m1 := fun d => fuel_up (fun k => index_Count.mono L k) e1 d
 have m2 := fun d => fuel_up (fun k => parts_Octets.mono U k) e2 d
 refine bucket_octets.calls (needE L + needP U) nm st A2 c2 L A3 c3 U la _ w h2 g2 h3 g3 ?_
 unfold bucket_octets.f
 rw [m1, Option.bind_some, Nat.add_comm (needE L), m2, Option.bind_some]
 unfold octB
 rw [wrap64_of (by omega) (by omega)]
end Go.Proofs.YtafeepdlcilicaaGreat.Q

-- H7
namespace Go.Proofs.YtafeepdlcilicaaGreat.Q
open Go.WideMaps Go.RowKit Go.Proofs.YtafeepdlcilicaaGreatW.PrintWords Go.Proofs.YtafeepdlcilicaaGreatW.PrintLast Go.Proofs.YtafeepdlcilicaaGreatW.PrintMore Go.Maps
set_option linter.unusedVariables false
set_option linter.unusedSimpArgs false

/-! ### what lies behind a bucket's last number; what is late -/
def farB (last st : Int) (v : S80) : Bool := decide (last < v.f0) || ((st == 0) && !(v.f0 == 0))
def updB (last : Int) (u : S41) : Bool := decide (last < u.f0)
def lateV (now : Int) (v : S80) : Bool := decide (now < v.f3)
def lateE (now : Int) (x : S38) : Bool := x.f1.any (lateV now)
set_option maxHeartbeats 2000000 in
set_option maxRecDepth 100000 in
theorem farB.walk (v : S80) (last st : Int) (g : Nat) (w : World) (h4 : w.cell? ⟨g, 4, none⟩ = some (.int .u64 last)) (h1 : w.cell? ⟨g, 1, none⟩ = some (.int .i64 st)) :
  Calls Tryz.prog 54 #[.agg #[.int .u64 v.f0, .string v.f1, .bool v.f2, .int .i64 v.f3], .pointer (some ⟨g, 0, none⟩)] w fun e w' => e = .returned (.bool (farB last st v)) ∧ Below w.heap.size w w' := by
 have HB0 : Hid (Below w.heap.size w w) := Below.refl _ _
 have e0 := World.new_ne w _ h4
 have hlt := World.block_lt_of_cell? w _ h4
 obtain ⟨a, s, m, t⟩ := v
 by_cases p1 : last < a
 ·have HE : Hid (farB last st ⟨a, s, m, t⟩ = true) := by unfold Hid farB; simp [p1]
  go_enter Tryz.func54, Tryz.ntmps54
  go_wp2
  go_ret
  exact ⟨by rw [HE.out]; rfl, HB0.out.alloc (Nat.le_refl _) _⟩
 ·cases p2 : (st == 0)
  ·have HE : Hid (farB last st ⟨a, s, m, t⟩ = false) := by unfold Hid farB; simp [p1, p2]
   go_enter Tryz.func54, Tryz.ntmps54
   go_wp2
   go_ret
   exact ⟨by rw [HE.out]; rfl, HB0.out.alloc (Nat.le_refl _) _⟩
  ·have HE : Hid (farB last st ⟨a, s, m, t⟩ = (a != 0)) := by unfold Hid farB; simp [p1, p2, bne]
   go_enter Tryz.func54, Tryz.ntmps54
   go_wp2
   go_ret
   exact ⟨by rw [HE.out]; rfl, HB0.out.alloc (Nat.le_refl _) _⟩
set_option maxHeartbeats 2000000 in
set_option maxRecDepth 100000 in
theorem updB.walk (u : S41) (A2 : Option Addr) (c2 : Nat) (last : Int) (g : Nat) (w : World) (h4 : w.cell? ⟨g, 4, none⟩ = some (.int .u64 last)) :
  Calls Tryz.prog 57 #[.agg #[.int .u64 u.f0, .string u.f1, .slice A2 u.f2.length c2], .pointer (some ⟨g, 0, none⟩)] w fun e w' => e = .returned (.bool (updB last u)) ∧ Below w.heap.size w w' := by
 have HB0 : Hid (Below w.heap.size w w) := Below.refl _ _
 have e0 := World.new_ne w _ h4
 have hlt := World.block_lt_of_cell? w _ h4
 go_enter Tryz.func57, Tryz.ntmps57
 go_wp2
 go_ret
 exact ⟨rfl, HB0.out.alloc (Nat.le_refl _) _⟩
set_option maxHeartbeats 2000000 in
set_option maxRecDepth 100000 in
theorem lateV.walk (v : S80) (now : Int) (g : Nat) (w : World) (h0 : w.cell? ⟨g, 0, none⟩ = some (.int .i64 now)) :
  Calls Tryz.prog 60 #[.agg #[.int .u64 v.f0, .string v.f1, .bool v.f2, .int .i64 v.f3], .pointer (some ⟨g, 0, none⟩)] w fun e w' => e = .returned (.bool (lateV now v)) ∧ Below w.heap.size w w' := by
 have HB0 : Hid (Below w.heap.size w w) := Below.refl _ _
 have e0 := World.new_ne w _ h0
 have hlt := World.block_lt_of_cell? w _ h0
 go_enter Tryz.func60, Tryz.ntmps60
 go_wp2
 go_ret
 exact ⟨rfl, HB0.out.alloc (Nat.le_refl _) _⟩
set_option maxHeartbeats 2000000 in
set_option maxRecDepth 100000 in
theorem idx_far.walk (A : Option Addr) (c : Nat) (l : List S80) (last st : Int) (g : Nat) (w : World) (hr : Kd.C k80 w A l.length l) (h4 : w.cell? ⟨g, 4, none⟩ = some (.int .u64 last)) (h1 : w.cell? ⟨g, 1, none⟩ = some (.int .i64 st)) :
  Calls Tryz.prog 112 #[.slice A l.length c, .func (.func 54) #[] #[.pointer (some ⟨g, 0, none⟩)]] w fun e w' => e = .returned (.int .i64 (posI (l.findIdx? (farB last st)))) ∧ Below w.heap.size w w' := by
 have HR := Lib.hid hr
 have hlen : (l.length : Int) ≤ 9223372036854775807 := by have := hr.2.1; omega
 clear hr
 have HB0 : Hid (Below w.heap.size w w) := Below.refl _ _
 have Hh4 := Lib.hid h4; clear h4
 have Hh1 := Lib.hid h1; clear h1
 go_enter Tryz.func112, Tryz.ntmps112
 go_wp2
 go_loopw [5, 8] (fun _ i wr => ∃ (k : Nat), i = .int .i64 k ∧ k ≤ l.length ∧ Hid (∀ j (hj : j < k) (hl : j < l.length), (farB last st) l[j] = false) ∧ Hid (Below w.heap.size w wr)) (fun _ i _ => l.length - (intOf i).toNat)
 case atStart => exact ⟨0, rfl, Nat.zero_le _, fun j hj => absurd hj (Nat.not_lt_zero _), HB0⟩
 case round =>
  obtain ⟨k, rfl, hk, hall, hb⟩ := hrel
  by_cases hlt : k < l.length
  ·obtain ⟨ad, e', hc0, hc1, hc2, hc3⟩ := atVersion HR.out hb.out k hlt
   subst e'
   have Hwh4 := Lib.hid (keepc hb.out Hh4.out)
   have Hwh1 := Lib.hid (keepc hb.out Hh1.out)
   have HC := Lib.hid (farB.walk l[k] last st g wr Hwh4.out Hwh1.out)
   cases hp : (farB last st) l[k]
   ·have hn : Hid (∀ j (hj : j < k + 1) (hl : j < l.length), (farB last st) l[j] = false) := fun j hj hl => by
     rcases Nat.eq_or_lt_of_le (Nat.le_of_lt_succ hj) with rfl | h
     ·exact hp
     ·exact hall.out j h hl
    rw [hp] at HC
    clear hp
    go_wp2_with (go_at_call 54; refine HC.out.mono ?_; rintro e w1 ⟨rfl, hb1⟩; have HB1 := Lib.hid hb1; clear hb1)
    go_roundw
    case rel => exact ⟨k + 1, by go_num, by omega, hn, keepB hb HB1.out⟩
    case measure => simp [intOf]; omega
   ·have hn : Hid (l.findIdx? (farB last st) = some k) := by
     unfold Hid
     rw [List.findIdx?_eq_some_iff_getElem]
     exact ⟨hlt, hp, fun j hj => by rw [hall.out j hj (by omega)]; simp⟩
    rw [hp] at HC
    clear hp
    go_wp2_with (go_at_call 54; refine HC.out.mono ?_; rintro e w1 ⟨rfl, hb1⟩; have HB1 := Lib.hid hb1; clear hb1)
    go_ret
    exact ⟨by rw [hn.out]; rfl, keepB hb HB1.out⟩
  ·have hn : Hid (l.findIdx? (farB last st) = none) := by
    unfold Hid
    rw [List.findIdx?_eq_none_iff]
    intro u hu
    obtain ⟨j, hj, rfl⟩ := List.getElem_of_mem hu
    exact hall.out j (by omega) hj
   go_wp2
   go_ret
   exact ⟨by rw [hn.out]; rfl, hb.out⟩
theorem cont_far.walk (A : Option Addr) (c : Nat) (l : List S80) (last st : Int) (g : Nat) (w : World) (hr : Kd.C k80 w A l.length l) (h4 : w.cell? ⟨g, 4, none⟩ = some (.int .u64 last)) (h1 : w.cell? ⟨g, 1, none⟩ = some (.int .i64 st)) :
  Calls Tryz.prog 55 #[.slice A l.length c, .func (.func 54) #[] #[.pointer (some ⟨g, 0, none⟩)]] w fun e w' => e = .returned (.bool (l.any (farB last st))) ∧ Below w.heap.size w w' := by
 have H := Lib.hid (idx_far.walk A c l last st g w hr h4 h1)
 clear hr h4 h1
 have HA := Lib.hid (pos_any l (farB last st))
 generalize posI (l.findIdx? (farB last st)) = r at H HA
 generalize l.any (farB last st) = q at HA ⊢
 go_enter Tryz.func55, Tryz.ntmps55
 go_wp2_with (go_at_call 112; refine H.out.mono ?_; rintro e w1 ⟨rfl, hb⟩; have HB := Lib.hid hb; clear hb)
 go_ret
 refine ⟨?_, HB.out⟩
 show Ending.returned (.bool (decide (0 ≤ r))) = _
 rw [HA.out]
set_option maxHeartbeats 2000000 in
set_option maxRecDepth 100000 in
theorem idx_upd.walk (A : Option Addr) (c : Nat) (l : List S41) (last : Int) (g : Nat) (w : World) (hr : Kd.C k41 w A l.length l) (h4 : w.cell? ⟨g, 4, none⟩ = some (.int .u64 last)) :
  Calls Tryz.prog 83 #[.slice A l.length c, .func (.func 57) #[] #[.pointer (some ⟨g, 0, none⟩)]] w fun e w' => e = .returned (.int .i64 (posI (l.findIdx? (updB last)))) ∧ Below w.heap.size w w' := by
 have HR := Lib.hid hr
 have hlen : (l.length : Int) ≤ 9223372036854775807 := by have := hr.2.1; omega
 clear hr
 have HB0 : Hid (Below w.heap.size w w) := Below.refl _ _
 have Hh4 := Lib.hid h4; clear h4
 go_enter Tryz.func83, Tryz.ntmps83
 go_wp2
 go_loopw [5, 8] (fun _ i wr => ∃ (k : Nat), i = .int .i64 k ∧ k ≤ l.length ∧ Hid (∀ j (hj : j < k) (hl : j < l.length), (updB last) l[j] = false) ∧ Hid (Below w.heap.size w wr)) (fun _ i _ => l.length - (intOf i).toNat)
 case atStart => exact ⟨0, rfl, Nat.zero_le _, fun j hj => absurd hj (Nat.not_lt_zero _), HB0⟩
 case round =>
  obtain ⟨k, rfl, hk, hall, hb⟩ := hrel
  by_cases hlt : k < l.length
  ·obtain ⟨ad, A2, c2, e', hc0, hc1, hc2, hl2, hC2⟩ := atUpload HR.out hb.out k hlt
   subst e'
   have Hwh4 := Lib.hid (keepc hb.out Hh4.out)
   have HC := Lib.hid (updB.walk l[k] A2 c2 last g wr Hwh4.out)
   have HCC2 := Lib.hid hC2; clear hC2
   cases hp : (updB last) l[k]
   ·have hn : Hid (∀ j (hj : j < k + 1) (hl : j < l.length), (updB last) l[j] = false) := fun j hj hl => by
     rcases Nat.eq_or_lt_of_le (Nat.le_of_lt_succ hj) with rfl | h
     ·exact hp
     ·exact hall.out j h hl
    rw [hp] at HC
    clear hp
    go_wp2_with (go_at_call 57; refine HC.out.mono ?_; rintro e w1 ⟨rfl, hb1⟩; have HB1 := Lib.hid hb1; clear hb1)
    go_roundw
    case rel => exact ⟨k + 1, by go_num, by omega, hn, keepB hb HB1.out⟩
    case measure => simp [intOf]; omega
   ·have hn : Hid (l.findIdx? (updB last) = some k) := by
     unfold Hid
     rw [List.findIdx?_eq_some_iff_getElem]
     exact ⟨hlt, hp, fun j hj => by rw [hall.out j hj (by omega)]; simp⟩
    rw [hp] at HC
    clear hp
    go_wp2_with (go_at_call 57; refine HC.out.mono ?_; rintro e w1 ⟨rfl, hb1⟩; have HB1 := Lib.hid hb1; clear hb1)
    go_ret
    exact ⟨by rw [hn.out]; rfl, keepB hb HB1.out⟩
  ·have hn : Hid (l.findIdx? (updB last) = none) := by
    unfold Hid
    rw [List.findIdx?_eq_none_iff]
    intro u hu
    obtain ⟨j, hj, rfl⟩ := List.getElem_of_mem hu
    exact hall.out j (by omega) hj
   go_wp2
   go_ret
   exact ⟨by rw [hn.out]; rfl, hb.out⟩
theorem cont_upd.walk (A : Option Addr) (c : Nat) (l : List S41) (last : Int) (g : Nat) (w : World) (hr : Kd.C k41 w A l.length l) (h4 : w.cell? ⟨g, 4, none⟩ = some (.int .u64 last)) :
  Calls Tryz.prog 56 #[.slice A l.length c, .func (.func 57) #[] #[.pointer (some ⟨g, 0, none⟩)]] w fun e w' => e = .returned (.bool (l.any (updB last))) ∧ Below w.heap.size w w' := by
 have H := Lib.hid (idx_upd.walk A c l last g w hr h4)
 clear hr h4
 have HA := Lib.hid (pos_any l (updB last))
 generalize posI (l.findIdx? (updB last)) = r at H HA
 generalize l.any (updB last) = q at HA ⊢
 go_enter Tryz.func56, Tryz.ntmps56
 go_wp2_with (go_at_call 83; refine H.out.mono ?_; rintro e w1 ⟨rfl, hb⟩; have HB := Lib.hid hb; clear hb)
 go_ret
 refine ⟨?_, HB.out⟩
 show Ending.returned (.bool (decide (0 ≤ r))) = _
 rw [HA.out]
set_option maxHeartbeats 2000000 in
set_option maxRecDepth 100000 in
theorem idx_lateV.walk (A : Option Addr) (c : Nat) (l : List S80) (now : Int) (g : Nat) (w : World) (hr : Kd.C k80 w A l.length l) (h0 : w.cell? ⟨g, 0, none⟩ = some (.int .i64 now)) :
  Calls Tryz.prog 112 #[.slice A l.length c, .func (.func 60) #[] #[.pointer (some ⟨g, 0, none⟩)]] w fun e w' => e = .returned (.int .i64 (posI (l.findIdx? (lateV now)))) ∧ Below w.heap.size w w' := by
 have HR := Lib.hid hr
 have hlen : (l.length : Int) ≤ 9223372036854775807 := by have := hr.2.1; omega
 clear hr
 have HB0 : Hid (Below w.heap.size w w) := Below.refl _ _
 have Hh0 := Lib.hid h0; clear h0
 go_enter Tryz.func112, Tryz.ntmps112
 go_wp2
 go_loopw [5, 8] (fun _ i wr => ∃ (k : Nat), i = .int .i64 k ∧ k ≤ l.length ∧ Hid (∀ j (hj : j < k) (hl : j < l.length), (lateV now) l[j] = false) ∧ Hid (Below w.heap.size w wr)) (fun _ i _ => l.length - (intOf i).toNat)
 case atStart => exact ⟨0, rfl, Nat.zero_le _, fun j hj => absurd hj (Nat.not_lt_zero _), HB0⟩
 case round =>
  obtain ⟨k, rfl, hk, hall, hb⟩ := hrel
  by_cases hlt : k < l.length
  ·obtain ⟨ad, e', hc0, hc1, hc2, hc3⟩ := atVersion HR.out hb.out k hlt
   subst e'
   have Hwh0 := Lib.hid (keepc hb.out Hh0.out)
   have HC := Lib.hid (lateV.walk l[k] now g wr Hwh0.out)
   cases hp : (lateV now) l[k]
   ·have hn : Hid (∀ j (hj : j < k + 1) (hl : j < l.length), (lateV now) l[j] = false) := fun j hj hl => by
     rcases Nat.eq_or_lt_of_le (Nat.le_of_lt_succ hj) with rfl | h
     ·exact hp
     ·exact hall.out j h hl
    rw [hp] at HC
    clear hp
    go_wp2_with (go_at_call 60; refine HC.out.mono ?_; rintro e w1 ⟨rfl, hb1⟩; have HB1 := Lib.hid hb1; clear hb1)
    go_roundw
    case rel => exact ⟨k + 1, by go_num, by omega, hn, keepB hb HB1.out⟩
    case measure => simp [intOf]; omega
   ·have hn : Hid (l.findIdx? (lateV now) = some k) := by
     unfold Hid
     rw [List.findIdx?_eq_some_iff_getElem]
     exact ⟨hlt, hp, fun j hj => by rw [hall.out j hj (by omega)]; simp⟩
    rw [hp] at HC
    clear hp
    go_wp2_with (go_at_call 60; refine HC.out.mono ?_; rintro e w1 ⟨rfl, hb1⟩; have HB1 := Lib.hid hb1; clear hb1)
    go_ret
    exact ⟨by rw [hn.out]; rfl, keepB hb HB1.out⟩
  ·have hn : Hid (l.findIdx? (lateV now) = none) := by
    unfold Hid
    rw [List.findIdx?_eq_none_iff]
    intro u hu
    obtain ⟨j, hj, rfl⟩ := List.getElem_of_mem hu
    exact hall.out j (by omega) hj
   go_wp2
   go_ret
   exact ⟨by rw [hn.out]; rfl, hb.out⟩
theorem cont_lateV.walk (A : Option Addr) (c : Nat) (l : List S80) (now : Int) (g : Nat) (w : World) (hr : Kd.C k80 w A l.length l) (h0 : w.cell? ⟨g, 0, none⟩ = some (.int .i64 now)) :
  Calls Tryz.prog 55 #[.slice A l.length c, .func (.func 60) #[] #[.pointer (some ⟨g, 0, none⟩)]] w fun e w' => e = .returned (.bool (l.any (lateV now))) ∧ Below w.heap.size w w' := by
 have H := Lib.hid (idx_lateV.walk A c l now g w hr h0)
 clear hr h0
 have HA := Lib.hid (pos_any l (lateV now))
 generalize posI (l.findIdx? (lateV now)) = r at H HA
 generalize l.any (lateV now) = q at HA ⊢
 go_enter Tryz.func55, Tryz.ntmps55
 go_wp2_with (go_at_call 112; refine H.out.mono ?_; rintro e w1 ⟨rfl, hb⟩; have HB := Lib.hid hb; clear hb)
 go_ret
 refine ⟨?_, HB.out⟩
 show Ending.returned (.bool (decide (0 ≤ r))) = _
 rw [HA.out]
set_option maxHeartbeats 2000000 in
set_option maxRecDepth 100000 in
theorem lateE.walk (x : S38) (A1 : Option Addr) (c1 : Nat) (now : Int) (g : Nat) (w : World) (hC : Kd.C k80 w A1 x.f1.length x.f1) (h0 : w.cell? ⟨g, 0, none⟩ = some (.int .i64 now)) :
  Calls Tryz.prog 59 #[.agg #[.string x.f0, .slice A1 x.f1.length c1], .pointer (some ⟨g, 0, none⟩)] w fun e w' => e = .returned (.bool (lateE now x)) ∧ Below w.heap.size w w' := by
 have HB1 := Lib.hid ((Below.refl w.heap.size w).alloc (Nat.le_refl _) (.cells #[.string x.f0, .slice A1 x.f1.length c1] 38))
 have HC := Lib.hid (cont_lateV.walk A1 c1 x.f1 now g _ (Kd.C_below hC HB1.out) (keepc HB1.out h0))
 clear hC h0
 unfold lateE
 generalize x.f1.any (lateV now) = q at *
 go_enter Tryz.func59, Tryz.ntmps59
 go_wp2_with (go_at_call 55; refine HC.out.mono ?_; rintro e w1 ⟨rfl, hb⟩; have HB := Lib.hid hb; clear hb)
 go_ret
 exact ⟨rfl, keepB HB1 HB.out⟩
set_option maxHeartbeats 2000000 in
set_option maxRecDepth 100000 in
theorem idx_lateE.walk (A : Option Addr) (c : Nat) (l : List S38) (now : Int) (g : Nat) (w : World) (hr : Kd.C k38 w A l.length l) (h0 : w.cell? ⟨g, 0, none⟩ = some (.int .i64 now)) :
  Calls Tryz.prog 81 #[.slice A l.length c, .func (.func 59) #[] #[.pointer (some ⟨g, 0, none⟩)]] w fun e w' => e = .returned (.int .i64 (posI (l.findIdx? (lateE now)))) ∧ Below w.heap.size w w' := by
 have HR := Lib.hid hr
 have hlen : (l.length : Int) ≤ 9223372036854775807 := by have := hr.2.1; omega
 clear hr
 have HB0 : Hid (Below w.heap.size w w) := Below.refl _ _
 have Hh0 := Lib.hid h0; clear h0
 go_enter Tryz.func81, Tryz.ntmps81
 go_wp2
 go_loopw [5, 8] (fun _ i wr => ∃ (k : Nat), i = .int .i64 k ∧ k ≤ l.length ∧ Hid (∀ j (hj : j < k) (hl : j < l.length), (lateE now) l[j] = false) ∧ Hid (Below w.heap.size w wr)) (fun _ i _ => l.length - (intOf i).toNat)
 case atStart => exact ⟨0, rfl, Nat.zero_le _, fun j hj => absurd hj (Nat.not_lt_zero _), HB0⟩
 case round =>
  obtain ⟨k, rfl, hk, hall, hb⟩ := hrel
  by_cases hlt : k < l.length
  ·obtain ⟨ad, A1, c1, e', hc0, hc1, hl1, hC1⟩ := atEntry HR.out hb.out k hlt
   subst e'
   have Hwh0 := Lib.hid (keepc hb.out Hh0.out)
   have HC := Lib.hid (lateE.walk l[k] A1 c1 now g wr hC1 Hwh0.out)
   have HCC1 := Lib.hid hC1; clear hC1
   cases hp : (lateE now) l[k]
   ·have hn : Hid (∀ j (hj : j < k + 1) (hl : j < l.length), (lateE now) l[j] = false) := fun j hj hl => by
     rcases Nat.eq_or_lt_of_le (Nat.le_of_lt_succ hj) with rfl | h
     ·exact hp
     ·exact hall.out j h hl
    rw [hp] at HC
    clear hp
    go_wp2_with (go_at_call 59; refine HC.out.mono ?_; rintro e w1 ⟨rfl, hb1⟩; have HB1 := Lib.hid hb1; clear hb1)
    go_roundw
    case rel => exact ⟨k + 1, by go_num, by omega, hn, keepB hb HB1.out⟩
    case measure => simp [intOf]; omega
   ·have hn : Hid (l.findIdx? (lateE now) = some k) := by
     unfold Hid
     rw [List.findIdx?_eq_some_iff_getElem]
     exact ⟨hlt, hp, fun j hj => by rw [hall.out j hj (by omega)]; simp⟩
    rw [hp] at HC
    clear hp
    go_wp2_with (go_at_call 59; refine HC.out.mono ?_; rintro e w1 ⟨rfl, hb1⟩; have HB1 := Lib.hid hb1; clear hb1)
    go_ret
    exact ⟨by rw [hn.out]; rfl, keepB hb HB1.out⟩
  ·have hn : Hid (l.findIdx? (lateE now) = none) := by
    unfold Hid
    rw [List.findIdx?_eq_none_iff]
    intro u hu
    obtain ⟨j, hj, rfl⟩ := List.getElem_of_mem hu
    exact hall.out j (by omega) hj
   go_wp2
   go_ret
   exact ⟨by rw [hn.out]; rfl, hb.out⟩
theorem cont_lateE.walk (A : Option Addr) (c : Nat) (l : List S38) (now : Int) (g : Nat) (w : World) (hr : Kd.C k38 w A l.length l) (h0 : w.cell? ⟨g, 0, none⟩ = some (.int .i64 now)) :
  Calls Tryz.prog 58 #[.slice A l.length c, .func (.func 59) #[] #[.pointer (some ⟨g, 0, none⟩)]] w fun e w' => e = .returned (.bool (l.any (lateE now))) ∧ Below w.heap.size w w' := by
 have H := Lib.hid (idx_lateE.walk A c l now g w hr h0)
 clear hr h0
 have HA := Lib.hid (pos_any l (lateE now))
 generalize posI (l.findIdx? (lateE now)) = r at H HA
 generalize l.any (lateE now) = q at HA ⊢
 go_enter Tryz.func58, Tryz.ntmps58
 go_wp2_with (go_at_call 81; refine H.out.mono ?_; rintro e w1 ⟨rfl, hb⟩; have HB := Lib.hid hb; clear hb)
 go_ret
 refine ⟨?_, HB.out⟩
 show Ending.returned (.bool (decide (0 ≤ r))) = _
 rw [HA.out]
set_option maxHeartbeats 2000000 in
set_option maxRecDepth 100000 in
theorem late.walk (b : S35) (A2 A3 : Option Addr) (c2 c3 : Nat) (now : Int) (w : World) (h2 : Kd.C k38 w A2 b.f2.length b.f2) :
  Calls Tryz.prog 30 #[.agg #[.string b.f0, .int .i64 b.f1, .slice A2 b.f2.length c2, .slice A3 b.f3.length c3, .int .u64 b.f4], .int .i64 now] w fun e w' => e = .returned (.bool (b.f2.any (lateE now))) ∧ Below w.heap.size w w' := by
 have HB1 := (Below.refl w.heap.size w).alloc (Nat.le_refl _) (.cells #[.string b.f0, .int .i64 b.f1, .slice A2 b.f2.length c2, .slice A3 b.f3.length c3, .int .u64 b.f4] 35)
 have HB2 := Lib.hid (HB1.alloc (by simp) (.cells #[.int .i64 now] 3))
 have HC := Lib.hid (cont_lateE.walk A2 c2 b.f2 now (w.heap.size + 1) _ (Kd.C_below h2 HB2.out) (by simp [go_sem]))
 clear h2 HB1
 generalize b.f2.any (lateE now) = q at *
 go_enter Tryz.func30, Tryz.ntmps30
 go_wp2_with (go_at_call 58; refine HC.out.mono ?_; rintro e w1 ⟨rfl, hb⟩; have HB := Lib.hid hb; clear hb)
 go_ret
 exact ⟨rfl, keepB HB2 HB.out⟩
end Go.Proofs.YtafeepdlcilicaaGreat.Q

-- H8
namespace Go.Proofs.YtafeepdlcilicaaGreat.Q
open Go.WideMaps Go.RowKit Go.Proofs.YtafeepdlcilicaaGreatW.PrintWords Go.Proofs.YtafeepdlcilicaaGreatW.PrintLast Go.Proofs.YtafeepdlcilicaaGreatW.PrintMore Go.Maps
set_option linter.unusedVariables false
set_option linter.unusedSimpArgs false

/-! ### bucket.Check -/
def headB (b : S35) : Bool := bnameB b.f0 && (decide (0 ≤ b.f1) && (decide (b.f1 ≤ 2) && decide (b.f4 ≤ 281474976710655)))
def nearB (last st : Int) (x : S38) : Bool := !(x.f1.any (farB last st))
def bucketB (b : S35) : Bool := headB b && (indexB b.f2 && (checkB b.f3 && (decide (octB b.f2 b.f3 ≤ 20000) && (b.f2.all (nearB b.f4 b.f1) && !(b.f3.any (updB b.f4))))))
set_option maxHeartbeats 8000000 in
set_option maxRecDepth 100000 in
theorem bucket.walk (b : S35) (A2 A3 : Option Addr) (c2 c3 : Nat) (w : World) (h2 : Kd.C k38 w A2 b.f2.length b.f2) (g2 : b.f2.length ≤ c2) (h3 : Kd.C k41 w A3 b.f3.length b.f3) (g3 : b.f3.length ≤ c3) :
  Calls Tryz.prog 29 #[.agg #[.string b.f0, .int .i64 b.f1, .slice A2 b.f2.length c2, .slice A3 b.f3.length c3, .int .u64 b.f4]] w fun e w' => e = .returned (.int .i64 (errB (bucketB b))) ∧ Below w.heap.size w w' := by
 have T1 : True := trivial
 have T2 : True := trivial
 have T3 : True := trivial
 have T4 : True := trivial
 have T5 : True := trivial
 have HB0 := Lib.hid ((Below.refl w.heap.size w).alloc (Nat.le_refl _) (.cells #[.string b.f0, .int .i64 b.f1, .slice A2 b.f2.length c2, .slice A3 b.f3.length c3, .int .u64 b.f4] 35))
 have K0 := Lib.hid (blk_new w (.cells #[.string b.f0, .int .i64 b.f1, .slice A2 b.f2.length c2, .slice A3 b.f3.length c3, .int .u64 b.f4] 35))
 have HI := Lib.hid (fun (W : World) (h : Below w.heap.size w W) => index.walk A2 c2 b.f2 W (Kd.C_below h2 h))
 have HP := Lib.hid (fun (W : World) (h : Below w.heap.size w W) => check_calls (w := W) (c := c3) (Kd.C_below h3 h) g3)
 have H2 := Lib.hid h2
 have H3 := Lib.hid h3
 have hlen : (b.f2.length : Int) ≤ 9223372036854775807 := by have := h2.2.1; omega
 clear h2 h3
 cases q1 : bnameB b.f0
 ·have HNM := Lib.hid (fun W => bname.walk b.f0 W)
  rw [q1] at HNM
  have HE : Hid (bucketB b = false) := by unfold Hid bucketB headB; simp [q1]
  clear q1
  go_enter Tryz.func29, Tryz.ntmps29
  go_wp2_with (first | (go_at_call 50; clear T1; refine (HNM.out _).mono ?_; rintro e w1 ⟨rfl, hb⟩; have HB1 := keepB HB0 hb; have K1 := Lib.hid (blk_below K0.out hb); clear hb; have d1_0 := (blk_cell K1.out 0).trans rfl; have d1_1 := (blk_cell K1.out 1).trans rfl; have d1_2 := (blk_cell K1.out 2).trans rfl; have d1_3 := (blk_cell K1.out 3).trans rfl; have d1_4 := (blk_cell K1.out 4).trans rfl))
  go_loopw [3, 46] (fun ok i wr => ok = .bool false ∧ ∃ (k : Nat), i = .int .i64 k ∧ k ≤ b.f2.length ∧ Hid (wr.heap[w.heap.size]? = some (.cells #[.string b.f0, .int .i64 b.f1, .slice A2 b.f2.length c2, .slice A3 b.f3.length c3, .int .u64 b.f4] 35 (0, 0))) ∧ Hid (Below w.heap.size w wr)) (fun _ i _ => b.f2.length - (intOf i).toNat)
  case atStart => exact ⟨rfl, 0, rfl, Nat.zero_le _, K1, HB1⟩
  case round =>
   obtain ⟨rfl, k, rfl, hk, hkb, hb⟩ := hrel
   have dx_0 := (blk_cell hkb.out 0).trans rfl; have dx_1 := (blk_cell hkb.out 1).trans rfl; have dx_2 := (blk_cell hkb.out 2).trans rfl; have dx_3 := (blk_cell hkb.out 3).trans rfl; have dx_4 := (blk_cell hkb.out 4).trans rfl
   by_cases hlt : k < b.f2.length
   ·obtain ⟨ad, A1, c1, e', hc0, hc1, hl1, hC1⟩ := atEntry H2.out hb.out k hlt
    subst e'
    have HC1 := Lib.hid hC1; clear hC1
    go_wp2
    go_roundw
    case rel => exact ⟨rfl, k + 1, by go_num, by omega, blk_alloc hkb.out _, hb.out.alloc hb.out.size _⟩
    case measure => simp [intOf]; omega
   ·go_wp2
    go_ret
    exact ⟨by rw [HE.out]; rfl, hb.out⟩
 ·have HNM := Lib.hid (fun W => bname.walk b.f0 W)
  rw [q1] at HNM
  by_cases p1 : 0 ≤ b.f1
  ·by_cases p2 : b.f1 ≤ 2
   ·by_cases p3 : b.f4 ≤ 281474976710655
    ·cases q2 : indexB b.f2
     ·rw [q2] at HI
      rw [show errB false = 1 from rfl] at HI
      have HE : Hid (bucketB b = false) := by unfold Hid bucketB headB; simp [q1, p1, p2, p3, q2]
      clear q2 q1
      go_enter Tryz.func29, Tryz.ntmps29
      go_wp2_with (first | (go_at_call 50; clear T1; refine (HNM.out _).mono ?_; rintro e w1 ⟨rfl, hb⟩; have HB1 := keepB HB0 hb; have K1 := Lib.hid (blk_below K0.out hb); clear hb; have d1_0 := (blk_cell K1.out 0).trans rfl; have d1_1 := (blk_cell K1.out 1).trans rfl; have d1_2 := (blk_cell K1.out 2).trans rfl; have d1_3 := (blk_cell K1.out 3).trans rfl; have d1_4 := (blk_cell K1.out 4).trans rfl) | (go_at_call 51; clear T2; refine (HI.out _ HB1.out).mono ?_; rintro e w2 ⟨rfl, hb⟩; have HB2 := keepB HB1 hb; have K2 := Lib.hid (blk_below K1.out hb); clear hb; have d2_0 := (blk_cell K2.out 0).trans rfl; have d2_1 := (blk_cell K2.out 1).trans rfl; have d2_2 := (blk_cell K2.out 2).trans rfl; have d2_3 := (blk_cell K2.out 3).trans rfl; have d2_4 := (blk_cell K2.out 4).trans rfl))
      go_loopw [3, 46] (fun ok i wr => ok = .bool false ∧ ∃ (k : Nat), i = .int .i64 k ∧ k ≤ b.f2.length ∧ Hid (wr.heap[w.heap.size]? = some (.cells #[.string b.f0, .int .i64 b.f1, .slice A2 b.f2.length c2, .slice A3 b.f3.length c3, .int .u64 b.f4] 35 (0, 0))) ∧ Hid (Below w.heap.size w wr)) (fun _ i _ => b.f2.length - (intOf i).toNat)
      case atStart => exact ⟨rfl, 0, rfl, Nat.zero_le _, K2, HB2⟩
      case round =>
       obtain ⟨rfl, k, rfl, hk, hkb, hb⟩ := hrel
       have dx_0 := (blk_cell hkb.out 0).trans rfl; have dx_1 := (blk_cell hkb.out 1).trans rfl; have dx_2 := (blk_cell hkb.out 2).trans rfl; have dx_3 := (blk_cell hkb.out 3).trans rfl; have dx_4 := (blk_cell hkb.out 4).trans rfl
       by_cases hlt : k < b.f2.length
       ·obtain ⟨ad, A1, c1, e', hc0, hc1, hl1, hC1⟩ := atEntry H2.out hb.out k hlt
        subst e'
        have HC1 := Lib.hid hC1; clear hC1
        go_wp2
        go_roundw
        case rel => exact ⟨rfl, k + 1, by go_num, by omega, blk_alloc hkb.out _, hb.out.alloc hb.out.size _⟩
        case measure => simp [intOf]; omega
       ·go_wp2
        go_ret
        exact ⟨by rw [HE.out]; rfl, hb.out⟩
     ·rw [q2] at HI
      rw [show errB true = 0 from rfl] at HI
      cases q3 : checkB b.f3
      ·rw [q3] at HP
       rw [show errB false = 1 from rfl] at HP
       have HE : Hid (bucketB b = false) := by unfold Hid bucketB headB; simp [q1, p1, p2, p3, q2, q3]
       clear q3 q2 q1
       go_enter Tryz.func29, Tryz.ntmps29
       go_wp2_with (first | (go_at_call 50; clear T1; refine (HNM.out _).mono ?_; rintro e w1 ⟨rfl, hb⟩; have HB1 := keepB HB0 hb; have K1 := Lib.hid (blk_below K0.out hb); clear hb; have d1_0 := (blk_cell K1.out 0).trans rfl; have d1_1 := (blk_cell K1.out 1).trans rfl; have d1_2 := (blk_cell K1.out 2).trans rfl; have d1_3 := (blk_cell K1.out 3).trans rfl; have d1_4 := (blk_cell K1.out 4).trans rfl) | (go_at_call 51; clear T2; refine (HI.out _ HB1.out).mono ?_; rintro e w2 ⟨rfl, hb⟩; have HB2 := keepB HB1 hb; have K2 := Lib.hid (blk_below K1.out hb); clear hb; have d2_0 := (blk_cell K2.out 0).trans rfl; have d2_1 := (blk_cell K2.out 1).trans rfl; have d2_2 := (blk_cell K2.out 2).trans rfl; have d2_3 := (blk_cell K2.out 3).trans rfl; have d2_4 := (blk_cell K2.out 4).trans rfl) | (go_at_call 52; clear T3; refine (HP.out _ HB2.out).mono ?_; rintro e w3 ⟨rfl, hb⟩; have HB3 := keepB HB2 hb; have K3 := Lib.hid (blk_below K2.out hb); clear hb; have d3_0 := (blk_cell K3.out 0).trans rfl; have d3_1 := (blk_cell K3.out 1).trans rfl; have d3_2 := (blk_cell K3.out 2).trans rfl; have d3_3 := (blk_cell K3.out 3).trans rfl; have d3_4 := (blk_cell K3.out 4).trans rfl))
       go_loopw [3, 46] (fun ok i wr => ok = .bool false ∧ ∃ (k : Nat), i = .int .i64 k ∧ k ≤ b.f2.length ∧ Hid (wr.heap[w.heap.size]? = some (.cells #[.string b.f0, .int .i64 b.f1, .slice A2 b.f2.length c2, .slice A3 b.f3.length c3, .int .u64 b.f4] 35 (0, 0))) ∧ Hid (Below w.heap.size w wr)) (fun _ i _ => b.f2.length - (intOf i).toNat)
       case atStart => exact ⟨rfl, 0, rfl, Nat.zero_le _, K3, HB3⟩
       case round =>
        obtain ⟨rfl, k, rfl, hk, hkb, hb⟩ := hrel
        have dx_0 := (blk_cell hkb.out 0).trans rfl; have dx_1 := (blk_cell hkb.out 1).trans rfl; have dx_2 := (blk_cell hkb.out 2).trans rfl; have dx_3 := (blk_cell hkb.out 3).trans rfl; have dx_4 := (blk_cell hkb.out 4).trans rfl
        by_cases hlt : k < b.f2.length
        ·obtain ⟨ad, A1, c1, e', hc0, hc1, hl1, hC1⟩ := atEntry H2.out hb.out k hlt
         subst e'
         have HC1 := Lib.hid hC1; clear hC1
         go_wp2
         go_roundw
         case rel => exact ⟨rfl, k + 1, by go_num, by omega, blk_alloc hkb.out _, hb.out.alloc hb.out.size _⟩
         case measure => simp [intOf]; omega
        ·go_wp2
         go_ret
         exact ⟨by rw [HE.out]; rfl, hb.out⟩
      ·rw [q3] at HP
       rw [show errB true = 0 from rfl] at HP
       have HO := Lib.hid (fun (W : World) (h : Below w.heap.size w W) => octets_calls (w := W) b.f0 b.f1 b.f2 b.f3 b.f4 (Kd.C_below H2.out h) g2 (Kd.C_below H3.out h) g3 q2 q3)
       by_cases p4 : octB b.f2 b.f3 ≤ 20000
       ·have HEX : Hid (bucketB b = (b.f2.all (nearB b.f4 b.f1) && !(b.f3.any (updB b.f4)))) := by unfold Hid bucketB headB; simp [q1, p1, p2, p3, q2, q3, p4]
        have d4x : decide (octB b.f2 b.f3 ≤ 20000) = true := decide_eq_true p4
        clear q3 q2 q1
        generalize octB b.f2 b.f3 = oc at *
        go_enter Tryz.func29, Tryz.ntmps29
        go_wp2_with (first | (go_at_call 50; clear T1; refine (HNM.out _).mono ?_; rintro e w1 ⟨rfl, hb⟩; have HB1 := keepB HB0 hb; have K1 := Lib.hid (blk_below K0.out hb); clear hb; have d1_0 := (blk_cell K1.out 0).trans rfl; have d1_1 := (blk_cell K1.out 1).trans rfl; have d1_2 := (blk_cell K1.out 2).trans rfl; have d1_3 := (blk_cell K1.out 3).trans rfl; have d1_4 := (blk_cell K1.out 4).trans rfl) | (go_at_call 51; clear T2; refine (HI.out _ HB1.out).mono ?_; rintro e w2 ⟨rfl, hb⟩; have HB2 := keepB HB1 hb; have K2 := Lib.hid (blk_below K1.out hb); clear hb; have d2_0 := (blk_cell K2.out 0).trans rfl; have d2_1 := (blk_cell K2.out 1).trans rfl; have d2_2 := (blk_cell K2.out 2).trans rfl; have d2_3 := (blk_cell K2.out 3).trans rfl; have d2_4 := (blk_cell K2.out 4).trans rfl) | (go_at_call 52; clear T3; refine (HP.out _ HB2.out).mono ?_; rintro e w3 ⟨rfl, hb⟩; have HB3 := keepB HB2 hb; have K3 := Lib.hid (blk_below K2.out hb); clear hb; have d3_0 := (blk_cell K3.out 0).trans rfl; have d3_1 := (blk_cell K3.out 1).trans rfl; have d3_2 := (blk_cell K3.out 2).trans rfl; have d3_3 := (blk_cell K3.out 3).trans rfl; have d3_4 := (blk_cell K3.out 4).trans rfl) | (go_at_call 53; clear T4; refine (HO.out _ HB3.out).mono ?_; rintro e w4 ⟨rfl, hb⟩; have HB4 := keepB HB3 hb; have K4 := Lib.hid (blk_below K3.out hb); clear hb; have d4_0 := (blk_cell K4.out 0).trans rfl; have d4_1 := (blk_cell K4.out 1).trans rfl; have d4_2 := (blk_cell K4.out 2).trans rfl; have d4_3 := (blk_cell K4.out 3).trans rfl; have d4_4 := (blk_cell K4.out 4).trans rfl))
        go_loopw [3, 46] (fun ok i wr => ∃ q : Bool, ok = .bool q ∧ ∃ (k : Nat), i = .int .i64 k ∧ k ≤ b.f2.length ∧ Hid (q = (b.f2.take k).all (nearB b.f4 b.f1)) ∧ Hid (wr.heap[w.heap.size]? = some (.cells #[.string b.f0, .int .i64 b.f1, .slice A2 b.f2.length c2, .slice A3 b.f3.length c3, .int .u64 b.f4] 35 (0, 0))) ∧ Hid (Below w.heap.size w wr)) (fun _ i _ => b.f2.length - (intOf i).toNat)
        case atStart => exact ⟨true, rfl, 0, rfl, Nat.zero_le _, rfl, K4, HB4⟩
        case round =>
         obtain ⟨q, rfl, k, rfl, hk, hq, hkb, hb⟩ := hrel
         have dx_0 := (blk_cell hkb.out 0).trans rfl; have dx_1 := (blk_cell hkb.out 1).trans rfl; have dx_2 := (blk_cell hkb.out 2).trans rfl; have dx_3 := (blk_cell hkb.out 3).trans rfl; have dx_4 := (blk_cell hkb.out 4).trans rfl
         by_cases hlt : k < b.f2.length
         ·obtain ⟨ad, A1, c1, e', hc0, hc1, hl1, hC1⟩ := atEntry H2.out hb.out k hlt
          subst e'
          have hz : (b.f2.take (k + 1)).all (nearB b.f4 b.f1) = ((b.f2.take k).all (nearB b.f4 b.f1) && nearB b.f4 b.f1 b.f2[k]) := by
           rw [List.take_succ_eq_append_getElem hlt, List.all_append]; simp
          have HZ := Lib.hid hz; clear hz
          have gne : wr.heap.size ≠ w.heap.size := by have := blk_lt hkb.out; omega
          have HF := Lib.hid (fun (W : World) (h : Below wr.heap.size wr W) => cont_far.walk A1 c1 b.f2[k].f1 b.f4 b.f1 w.heap.size W (Kd.C_below hC1 h) (keepc h dx_4) (keepc h dx_1))
          clear hC1
          cases q
          ·have HN : Hid (false = (b.f2.take (k + 1)).all (nearB b.f4 b.f1)) := by unfold Hid; rw [HZ.out, ← hq.out]; rfl
           clear HF HZ
           go_wp2
           go_roundw
           case rel => exact ⟨false, rfl, k + 1, by go_num, by omega, HN, blk_alloc hkb.out _, hb.out.alloc hb.out.size _⟩
           case measure => simp [intOf]; omega
          ·have HN : Hid ((!(b.f2[k].f1.any (farB b.f4 b.f1))) = (b.f2.take (k + 1)).all (nearB b.f4 b.f1)) := by unfold Hid; rw [HZ.out, ← hq.out]; rfl
           clear HZ
           generalize b.f2[k].f1.any (farB b.f4 b.f1) = qq at HF HN
           generalize b.f2[k] = x at *
           go_wp2_with (go_at_call 55; refine (HF.out _ ((Below.refl _ _).alloc (Nat.le_refl _) _)).mono ?_; rintro e wz ⟨rfl, hbz⟩; have HBZ := Lib.hid hbz; clear hbz)
           go_roundw
           case rel => exact ⟨!qq, rfl, k + 1, by go_num, by omega, HN, Lib.hid (blk_below (blk_alloc hkb.out _) HBZ.out), (hb.out.alloc hb.out.size _).trans (HBZ.out.mono (by have := hb.out.size; simp; omega))⟩
           case measure => simp [intOf]; omega
         ·have hq2 : q = b.f2.all (nearB b.f4 b.f1) := by have := hq.out; rwa [List.take_of_length_le (by omega)] at this
          cases q
          ·have HE : Hid (bucketB b = false) := by unfold Hid; rw [HEX.out, ← hq2]; rfl
           clear hq2 hq
           go_wp2
           go_ret
           exact ⟨by rw [HE.out]; rfl, hb.out⟩
          ·have HE : Hid (bucketB b = !(b.f3.any (updB b.f4))) := by unfold Hid; rw [HEX.out, ← hq2]; rfl
           clear hq2 hq
           have HU := Lib.hid (cont_upd.walk A3 c3 b.f3 b.f4 w.heap.size wr (Kd.C_below H3.out hb.out) dx_4)
           cases hu : b.f3.any (updB b.f4)
           all_goals
            rw [hu] at HE HU
            clear hu
            go_wp2_with (go_at_call 56; refine HU.out.mono ?_; rintro e wz ⟨rfl, hbz⟩; have HBZ := Lib.hid hbz; clear hbz)
            go_ret
            exact ⟨by rw [HE.out]; rfl, keepB hb HBZ.out⟩
       ·skip
        have HE : Hid (bucketB b = false) := by unfold Hid bucketB headB; simp [q1, p1, p2, p3, q2, q3, p4]
        clear q3 q2 q1
        have d4x : decide (octB b.f2 b.f3 ≤ 20000) = false := decide_eq_false p4
        generalize octB b.f2 b.f3 = oc at *
        go_enter Tryz.func29, Tryz.ntmps29
        go_wp2_with (first | (go_at_call 50; clear T1; refine (HNM.out _).mono ?_; rintro e w1 ⟨rfl, hb⟩; have HB1 := keepB HB0 hb; have K1 := Lib.hid (blk_below K0.out hb); clear hb; have d1_0 := (blk_cell K1.out 0).trans rfl; have d1_1 := (blk_cell K1.out 1).trans rfl; have d1_2 := (blk_cell K1.out 2).trans rfl; have d1_3 := (blk_cell K1.out 3).trans rfl; have d1_4 := (blk_cell K1.out 4).trans rfl) | (go_at_call 51; clear T2; refine (HI.out _ HB1.out).mono ?_; rintro e w2 ⟨rfl, hb⟩; have HB2 := keepB HB1 hb; have K2 := Lib.hid (blk_below K1.out hb); clear hb; have d2_0 := (blk_cell K2.out 0).trans rfl; have d2_1 := (blk_cell K2.out 1).trans rfl; have d2_2 := (blk_cell K2.out 2).trans rfl; have d2_3 := (blk_cell K2.out 3).trans rfl; have d2_4 := (blk_cell K2.out 4).trans rfl) | (go_at_call 52; clear T3; refine (HP.out _ HB2.out).mono ?_; rintro e w3 ⟨rfl, hb⟩; have HB3 := keepB HB2 hb; have K3 := Lib.hid (blk_below K2.out hb); clear hb; have d3_0 := (blk_cell K3.out 0).trans rfl; have d3_1 := (blk_cell K3.out 1).trans rfl; have d3_2 := (blk_cell K3.out 2).trans rfl; have d3_3 := (blk_cell K3.out 3).trans rfl; have d3_4 := (blk_cell K3.out 4).trans rfl) | (go_at_call 53; clear T4; refine (HO.out _ HB3.out).mono ?_; rintro e w4 ⟨rfl, hb⟩; have HB4 := keepB HB3 hb; have K4 := Lib.hid (blk_below K3.out hb); clear hb; have d4_0 := (blk_cell K4.out 0).trans rfl; have d4_1 := (blk_cell K4.out 1).trans rfl; have d4_2 := (blk_cell K4.out 2).trans rfl; have d4_3 := (blk_cell K4.out 3).trans rfl; have d4_4 := (blk_cell K4.out 4).trans rfl))
        go_loopw [3, 46] (fun ok i wr => ok = .bool false ∧ ∃ (k : Nat), i = .int .i64 k ∧ k ≤ b.f2.length ∧ Hid (wr.heap[w.heap.size]? = some (.cells #[.string b.f0, .int .i64 b.f1, .slice A2 b.f2.length c2, .slice A3 b.f3.length c3, .int .u64 b.f4] 35 (0, 0))) ∧ Hid (Below w.heap.size w wr)) (fun _ i _ => b.f2.length - (intOf i).toNat)
        case atStart => exact ⟨rfl, 0, rfl, Nat.zero_le _, K4, HB4⟩
        case round =>
         obtain ⟨rfl, k, rfl, hk, hkb, hb⟩ := hrel
         have dx_0 := (blk_cell hkb.out 0).trans rfl; have dx_1 := (blk_cell hkb.out 1).trans rfl; have dx_2 := (blk_cell hkb.out 2).trans rfl; have dx_3 := (blk_cell hkb.out 3).trans rfl; have dx_4 := (blk_cell hkb.out 4).trans rfl
         by_cases hlt : k < b.f2.length
         ·obtain ⟨ad, A1, c1, e', hc0, hc1, hl1, hC1⟩ := atEntry H2.out hb.out k hlt
          subst e'
          have HC1 := Lib.hid hC1; clear hC1
          go_wp2
          go_roundw
          case rel => exact ⟨rfl, k + 1, by go_num, by omega, blk_alloc hkb.out _, hb.out.alloc hb.out.size _⟩
          case measure => simp [intOf]; omega
         ·go_wp2
          go_ret
          exact ⟨by rw [HE.out]; rfl, hb.out⟩
    ·skip
     have HE : Hid (bucketB b = false) := by unfold Hid bucketB headB; simp [q1, p1, p2, p3]
     clear q1
     go_enter Tryz.func29, Tryz.ntmps29
     go_wp2_with (first | (go_at_call 50; clear T1; refine (HNM.out _).mono ?_; rintro e w1 ⟨rfl, hb⟩; have HB1 := keepB HB0 hb; have K1 := Lib.hid (blk_below K0.out hb); clear hb; have d1_0 := (blk_cell K1.out 0).trans rfl; have d1_1 := (blk_cell K1.out 1).trans rfl; have d1_2 := (blk_cell K1.out 2).trans rfl; have d1_3 := (blk_cell K1.out 3).trans rfl; have d1_4 := (blk_cell K1.out 4).trans rfl))
     go_loopw [3, 46] (fun ok i wr => ok = .bool false ∧ ∃ (k : Nat), i = .int .i64 k ∧ k ≤ b.f2.length ∧ Hid (wr.heap[w.heap.size]? = some (.cells #[.string b.f0, .int .i64 b.f1, .slice A2 b.f2.length c2, .slice A3 b.f3.length c3, .int .u64 b.f4] 35 (0, 0))) ∧ Hid (Below w.heap.size w wr)) (fun _ i _ => b.f2.length - (intOf i).toNat)
     case atStart => exact ⟨rfl, 0, rfl, Nat.zero_le _, K1, HB1⟩
     case round =>
      obtain ⟨rfl, k, rfl, hk, hkb, hb⟩ := hrel
      have dx_0 := (blk_cell hkb.out 0).trans rfl; have dx_1 := (blk_cell hkb.out 1).trans rfl; have dx_2 := (blk_cell hkb.out 2).trans rfl; have dx_3 := (blk_cell hkb.out 3).trans rfl; have dx_4 := (blk_cell hkb.out 4).trans rfl
      by_cases hlt : k < b.f2.length
      ·obtain ⟨ad, A1, c1, e', hc0, hc1, hl1, hC1⟩ := atEntry H2.out hb.out k hlt
       subst e'
       have HC1 := Lib.hid hC1; clear hC1
       go_wp2
       go_roundw
       case rel => exact ⟨rfl, k + 1, by go_num, by omega, blk_alloc hkb.out _, hb.out.alloc hb.out.size _⟩
       case measure => simp [intOf]; omega
      ·go_wp2
       go_ret
       exact ⟨by rw [HE.out]; rfl, hb.out⟩
   ·skip
    have HE : Hid (bucketB b = false) := by unfold Hid bucketB headB; simp [q1, p1, p2]
    clear q1
    go_enter Tryz.func29, Tryz.ntmps29
    go_wp2_with (first | (go_at_call 50; clear T1; refine (HNM.out _).mono ?_; rintro e w1 ⟨rfl, hb⟩; have HB1 := keepB HB0 hb; have K1 := Lib.hid (blk_below K0.out hb); clear hb; have d1_0 := (blk_cell K1.out 0).trans rfl; have d1_1 := (blk_cell K1.out 1).trans rfl; have d1_2 := (blk_cell K1.out 2).trans rfl; have d1_3 := (blk_cell K1.out 3).trans rfl; have d1_4 := (blk_cell K1.out 4).trans rfl))
    go_loopw [3, 46] (fun ok i wr => ok = .bool false ∧ ∃ (k : Nat), i = .int .i64 k ∧ k ≤ b.f2.length ∧ Hid (wr.heap[w.heap.size]? = some (.cells #[.string b.f0, .int .i64 b.f1, .slice A2 b.f2.length c2, .slice A3 b.f3.length c3, .int .u64 b.f4] 35 (0, 0))) ∧ Hid (Below w.heap.size w wr)) (fun _ i _ => b.f2.length - (intOf i).toNat)
    case atStart => exact ⟨rfl, 0, rfl, Nat.zero_le _, K1, HB1⟩
    case round =>
     obtain ⟨rfl, k, rfl, hk, hkb, hb⟩ := hrel
     have dx_0 := (blk_cell hkb.out 0).trans rfl; have dx_1 := (blk_cell hkb.out 1).trans rfl; have dx_2 := (blk_cell hkb.out 2).trans rfl; have dx_3 := (blk_cell hkb.out 3).trans rfl; have dx_4 := (blk_cell hkb.out 4).trans rfl
     by_cases hlt : k < b.f2.length
     ·obtain ⟨ad, A1, c1, e', hc0, hc1, hl1, hC1⟩ := atEntry H2.out hb.out k hlt
      subst e'
      have HC1 := Lib.hid hC1; clear hC1
      go_wp2
      go_roundw
      case rel => exact ⟨rfl, k + 1, by go_num, by omega, blk_alloc hkb.out _, hb.out.alloc hb.out.size _⟩
      case measure => simp [intOf]; omega
     ·go_wp2
      go_ret
      exact ⟨by rw [HE.out]; rfl, hb.out⟩
  ·skip
   have HE : Hid (bucketB b = false) := by unfold Hid bucketB headB; simp [q1, p1]
   clear q1
   go_enter Tryz.func29, Tryz.ntmps29
   go_wp2_with (first | (go_at_call 50; clear T1; refine (HNM.out _).mono ?_; rintro e w1 ⟨rfl, hb⟩; have HB1 := keepB HB0 hb; have K1 := Lib.hid (blk_below K0.out hb); clear hb; have d1_0 := (blk_cell K1.out 0).trans rfl; have d1_1 := (blk_cell K1.out 1).trans rfl; have d1_2 := (blk_cell K1.out 2).trans rfl; have d1_3 := (blk_cell K1.out 3).trans rfl; have d1_4 := (blk_cell K1.out 4).trans rfl))
   go_loopw [3, 46] (fun ok i wr => ok = .bool false ∧ ∃ (k : Nat), i = .int .i64 k ∧ k ≤ b.f2.length ∧ Hid (wr.heap[w.heap.size]? = some (.cells #[.string b.f0, .int .i64 b.f1, .slice A2 b.f2.length c2, .slice A3 b.f3.length c3, .int .u64 b.f4] 35 (0, 0))) ∧ Hid (Below w.heap.size w wr)) (fun _ i _ => b.f2.length - (intOf i).toNat)
   case atStart => exact ⟨rfl, 0, rfl, Nat.zero_le _, K1, HB1⟩
   case round =>
    obtain ⟨rfl, k, rfl, hk, hkb, hb⟩ := hrel
    have dx_0 := (blk_cell hkb.out 0).trans rfl; have dx_1 := (blk_cell hkb.out 1).trans rfl; have dx_2 := (blk_cell hkb.out 2).trans rfl; have dx_3 := (blk_cell hkb.out 3).trans rfl; have dx_4 := (blk_cell hkb.out 4).trans rfl
    by_cases hlt : k < b.f2.length
    ·obtain ⟨ad, A1, c1, e', hc0, hc1, hl1, hC1⟩ := atEntry H2.out hb.out k hlt
     subst e'
     have HC1 := Lib.hid hC1; clear hC1
     go_wp2
     go_roundw
     case rel => exact ⟨rfl, k + 1, by go_num, by omega, blk_alloc hkb.out _, hb.out.alloc hb.out.size _⟩
     case measure => simp [intOf]; omega
    ·go_wp2
     go_ret
     exact ⟨by rw [HE.out]; rfl, hb.out⟩
end Go.Proofs.YtafeepdlcilicaaGreat.Q

-- H9
namespace Go.Proofs.YtafeepdlcilicaaGreat.Q
open Go.WideMaps Go.RowKit Go.Proofs.YtafeepdlcilicaaGreatW.PrintWords Go.Proofs.YtafeepdlcilicaaGreatW.PrintLast Go.Proofs.YtafeepdlcilicaaGreatW.PrintMore Go.Maps
set_option linter.unusedVariables false
set_option linter.unusedSimpArgs false
open List (getElem_toArray getElem_cons_zero getElem_cons_succ setIfInBounds_toArray set_cons_zero set_cons_succ)
/-! ### depot.Check -/
attribute [local go_sem] binOp_string_geq2 Oper.semAt_some
def upD (l : List S35) (k : Nat) : Bool := decide (k = 0) || Op.bytesLess (l.getD (k - 1) z35).f0.toList (l.getD k z35).f0.toList
def depAt (now : Int) (l : List S35) (k : Nat) : Bool := bucketB (l.getD k z35) && (!((l.getD k z35).f2.any (lateE now)) && upD l k)
def depotB (now : Int) (l : List S35) : Bool := decide (0 ≤ now) && (decide (now ≤ 1099511627775) && (decide (l.length ≤ 6) && allFrom (depAt now l) 0 l.length))
set_option maxHeartbeats 16000000 in
set_option maxRecDepth 100000 in
theorem depot.walk (now : Int) (A : Option Addr) (c : Nat) (l : List S35) (w : World) (hr : Kd.C k35 w A l.length l) :
  Calls Tryz.prog 12 #[.agg #[.int .i64 now, .slice A l.length c]] w fun e w' => e = .returned (.int .i64 (errB (depotB now l))) ∧ Below w.heap.size w w' := by
 have HB0 := Lib.hid ((Below.refl w.heap.size w).alloc (Nat.le_refl _) (.cells #[.int .i64 now, .slice A l.length c] 24))
 have K0 := Lib.hid (blk_new w (.cells #[.int .i64 now, .slice A l.length c] 24))
 have HR := Lib.hid hr
 have hlen : (l.length : Int) ≤ 9223372036854775807 := by have := hr.2.1; omega
 clear hr
 by_cases p1 : now < 0
 ·have HE : Hid (depotB now l = false) := by unfold Hid depotB; rw [decide_eq_false (by omega)]; rfl
  go_enter Tryz.func12, Tryz.ntmps12
  go_wp2
  go_ret
  exact ⟨by rw [HE.out]; rfl, HB0.out⟩
 by_cases p2 : 1099511627775 < now
 ·have HE : Hid (depotB now l = false) := by unfold Hid depotB; rw [decide_eq_false (show ¬ now ≤ 1099511627775 by omega)]; simp
  go_enter Tryz.func12, Tryz.ntmps12
  go_wp2
  go_ret
  exact ⟨by rw [HE.out]; rfl, HB0.out⟩
 by_cases p3 : 6 < l.length
 ·have HE : Hid (depotB now l = false) := by unfold Hid depotB; rw [decide_eq_false (show ¬ l.length ≤ 6 by omega)]; simp
  have d3 : decide ((6 : Int) < (l.length : Int)) = true := by simp; omega
  go_enter Tryz.func12, Tryz.ntmps12
  go_wp2
  go_ret
  exact ⟨by rw [HE.out]; rfl, HB0.out⟩
 have d3 : decide ((6 : Int) < (l.length : Int)) = false := by simp; omega
 have HEX : Hid (depotB now l = allFrom (depAt now l) 0 l.length) := by
  unfold Hid depotB
  rw [decide_eq_true (show 0 ≤ now by omega), decide_eq_true (show now ≤ 1099511627775 by omega), decide_eq_true (show l.length ≤ 6 by omega)]; rfl
 go_enter Tryz.func12, Tryz.ntmps12
 go_wp2
 go_loopw [22] (fun i wr => ∃ (k : Nat), i = .int .i64 k ∧ k ≤ l.length ∧ Hid (allFrom (depAt now l) 0 k = true) ∧ Hid (wr.heap[w.heap.size]? = some (.cells #[.int .i64 now, .slice A l.length c] 24 (0, 0))) ∧ Hid (Below w.heap.size w wr)) (fun i _ => l.length - (intOf i).toNat)
 case atStart => exact ⟨0, rfl, Nat.zero_le _, rfl, K0, HB0⟩
 case round =>
  obtain ⟨k, rfl, hk, hall, hkb, hb⟩ := hrel
  by_cases hlt : k < l.length
  ·have HNO : Hid (depAt now l k = false → depotB now l = false) := fun h => by
    rw [HEX.out, allFrom_false k (Nat.zero_le _) (by omega) h]
   have HYES : Hid (depAt now l k = true → allFrom (depAt now l) 0 (k + 1) = true) := fun h => by
    rw [allFrom_snoc, hall.out, Nat.zero_add, h]; rfl
   have HAT : Hid (depAt now l k = (bucketB l[k] && (!(l[k].f2.any (lateE now)) && upD l k))) := by
    unfold Hid depAt; rw [getD_at l k _ hlt]
   clear hall
   obtain ⟨ad, A2, c2, A3, c3, e', hc0, hc1, hc2, hc3, hc4, hl2, hC2, hl3, hC3⟩ := atBucket HR.out hb.out k hlt
   subst e'
   have dx_0 := (blk_cell hkb.out 0).trans rfl; have dx_1 := (blk_cell hkb.out 1).trans rfl
   have gne : wr.heap.size ≠ w.heap.size := by have := blk_lt hkb.out; omega
   have HBC := Lib.hid (fun (W : World) (h : Below wr.heap.size wr W) => bucket.walk l[k] A2 A3 c2 c3 W (Kd.C_below hC2 h) hl2 (Kd.C_below hC3 h) hl3)
   have HLC := Lib.hid (fun (W : World) (h : Below wr.heap.size wr W) => late.walk l[k] A2 A3 c2 c3 now W (Kd.C_below hC2 h))
   clear hC2 hC3
   cases hbk : bucketB l[k]
   ·have HE : Hid (depotB now l = false) := HNO.out (by rw [HAT.out, hbk]; rfl)
    rw [hbk] at HBC
    rw [show errB false = 1 from rfl] at HBC
    clear hbk HNO HYES HAT HLC
    generalize l[k] = x at *
    go_wp2
    skip
    refine wp_region_held_drew (S := fun W => W.cell? ⟨wr.heap.size, 0, none⟩ = some (.string x.f0) ∧ W.cell? ⟨wr.heap.size, 1, none⟩ = some (.int .i64 x.f1) ∧ W.cell? ⟨wr.heap.size, 2, none⟩ = some (.slice A2 x.f2.length c2) ∧ W.cell? ⟨wr.heap.size, 3, none⟩ = some (.slice A3 x.f3.length c3) ∧ W.cell? ⟨wr.heap.size, 4, none⟩ = some (.int .u64 x.f4) ∧ W.cell? ⟨w.heap.size, 0, none⟩ = some (.int .i64 now) ∧ W.cell? ⟨w.heap.size, 1, none⟩ = some (.slice (some ad) l.length c) ∧ Hid (Below wr.heap.size wr W)) (by kernel_rfl) ?_ (fun hHeld => ?_)
    ·exact ⟨by simp [go_sem], by simp [go_sem], by simp [go_sem], by simp [go_sem], by simp [go_sem], keepc ((Below.refl wr.heap.size wr).alloc (Nat.le_refl _) _).drew dx_0, keepc ((Below.refl wr.heap.size wr).alloc (Nat.le_refl _) _).drew dx_1, ((Below.refl wr.heap.size wr).alloc (Nat.le_refl _) _).drew⟩
    refine tk (i := 0) (v := ?v0g1) rfl hHeld (Or.inl ⟨rfl, ?y0g1⟩) ?r0g1
    case y0g1 => (intro w h; obtain ⟨s0, s1, s2, s3, s4, s5, s6, s7⟩ := h; go_simp; try with_reducible rfl)
    try simp only [getElem_toArray, getElem_cons_zero, getElem_cons_succ, Act.put, setIfInBounds_toArray, set_cons_zero, set_cons_succ]
    refine wpAnyH_ready (rs := [1]) (by kernel_rfl) (by simp) ?_
    refine AllReadyH.cons (o := _) rfl (fun K hK => ?_) AllReadyH.nil
    rw [if_pos (by rfl)]
    go_simp
    obtain ⟨s0, s1, s2, s3, s4, s5, s6, s7⟩ := hHeld
    refine (HBC.out _ (outB s7)).mono ?_
    rintro e8 w8 ⟨rfl, hb8⟩
    refine hK.out _ _ ⟨keepc hb8 s0, keepc hb8 s1, keepc hb8 s2, keepc hb8 s3, keepc hb8 s4, keepc hb8 s5, keepc hb8 s6, keepB s7 hb8⟩ (fun hHeld => ?_)
    clear hK K hb8 s0 s1 s2 s3 s4 s5 s6 s7
    try simp only [getElem_toArray, getElem_cons_zero, getElem_cons_succ, Act.put, setIfInBounds_toArray, set_cons_zero, set_cons_succ]
    refine tk (i := 2) (v := ?v2g1) rfl hHeld (Or.inl ⟨rfl, ?y2g1⟩) ?r2g1
    case y2g1 => (intro w h; obtain ⟨s0, s1, s2, s3, s4, s5, s6, s7⟩ := h; go_simp; try with_reducible rfl)
    try simp only [getElem_toArray, getElem_cons_zero, getElem_cons_succ, Act.put, setIfInBounds_toArray, set_cons_zero, set_cons_succ]
    refine tk (i := 3) (v := ?v3g1) rfl hHeld (Or.inl ⟨rfl, ?y3g1⟩) ?r3g1
    case y3g1 => (intro w h; obtain ⟨s0, s1, s2, s3, s4, s5, s6, s7⟩ := h; go_simp; try with_reducible rfl)
    try simp only [getElem_toArray, getElem_cons_zero, getElem_cons_succ, Act.put, setIfInBounds_toArray, set_cons_zero, set_cons_succ]
    refine tku (i := 4) rfl hHeld rfl ?_
    try simp only [getElem_toArray, getElem_cons_zero, getElem_cons_succ, Act.put, setIfInBounds_toArray, set_cons_zero, set_cons_succ]
    refine tku (i := 5) rfl hHeld rfl ?_
    try simp only [getElem_toArray, getElem_cons_zero, getElem_cons_succ, Act.put, setIfInBounds_toArray, set_cons_zero, set_cons_succ]
    refine tku (i := 6) rfl hHeld rfl ?_
    try simp only [getElem_toArray, getElem_cons_zero, getElem_cons_succ, Act.put, setIfInBounds_toArray, set_cons_zero, set_cons_succ]
    refine tku (i := 7) rfl hHeld rfl ?_
    try simp only [getElem_toArray, getElem_cons_zero, getElem_cons_succ, Act.put, setIfInBounds_toArray, set_cons_zero, set_cons_succ]
    refine tk (i := 8) (v := ?v8g1) rfl hHeld (Or.inl ⟨rfl, ?y8g1⟩) ?r8g1
    case y8g1 => (intro w h; obtain ⟨s0, s1, s2, s3, s4, s5, s6, s7⟩ := h; go_simp; try with_reducible rfl)
    try simp only [getElem_toArray, getElem_cons_zero, getElem_cons_succ, Act.put, setIfInBounds_toArray, set_cons_zero, set_cons_succ]
    refine tk (i := 9) (v := ?v9g1) rfl hHeld (Or.inl ⟨rfl, ?y9g1⟩) ?r9g1
    case y9g1 => (intro w h; obtain ⟨s0, s1, s2, s3, s4, s5, s6, s7⟩ := h; go_simp; try with_reducible rfl)
    try simp only [getElem_toArray, getElem_cons_zero, getElem_cons_succ, Act.put, setIfInBounds_toArray, set_cons_zero, set_cons_succ]
    refine tku (i := 10) rfl hHeld rfl ?_
    try simp only [getElem_toArray, getElem_cons_zero, getElem_cons_succ, Act.put, setIfInBounds_toArray, set_cons_zero, set_cons_succ]
    refine tku (i := 11) rfl hHeld rfl ?_
    try simp only [getElem_toArray, getElem_cons_zero, getElem_cons_succ, Act.put, setIfInBounds_toArray, set_cons_zero, set_cons_succ]
    refine tku (i := 12) rfl hHeld rfl ?_
    try simp only [getElem_toArray, getElem_cons_zero, getElem_cons_succ, Act.put, setIfInBounds_toArray, set_cons_zero, set_cons_succ]
    refine tku (i := 13) rfl hHeld rfl ?_
    try simp only [getElem_toArray, getElem_cons_zero, getElem_cons_succ, Act.put, setIfInBounds_toArray, set_cons_zero, set_cons_succ]
    refine tku (i := 14) rfl hHeld rfl ?_
    try simp only [getElem_toArray, getElem_cons_zero, getElem_cons_succ, Act.put, setIfInBounds_toArray, set_cons_zero, set_cons_succ]
    refine tku (i := 15) rfl hHeld rfl ?_
    try simp only [getElem_toArray, getElem_cons_zero, getElem_cons_succ, Act.put, setIfInBounds_toArray, set_cons_zero, set_cons_succ]
    refine tku (i := 16) rfl hHeld rfl ?_
    try simp only [getElem_toArray, getElem_cons_zero, getElem_cons_succ, Act.put, setIfInBounds_toArray, set_cons_zero, set_cons_succ]
    refine tku (i := 17) rfl hHeld rfl ?_
    try simp only [getElem_toArray, getElem_cons_zero, getElem_cons_succ, Act.put, setIfInBounds_toArray, set_cons_zero, set_cons_succ]
    refine tku (i := 18) rfl hHeld rfl ?_
    try simp only [getElem_toArray, getElem_cons_zero, getElem_cons_succ, Act.put, setIfInBounds_toArray, set_cons_zero, set_cons_succ]
    refine tku (i := 19) rfl hHeld rfl ?_
    try simp only [getElem_toArray, getElem_cons_zero, getElem_cons_succ, Act.put, setIfInBounds_toArray, set_cons_zero, set_cons_succ]
    refine tku (i := 20) rfl hHeld rfl ?_
    try simp only [getElem_toArray, getElem_cons_zero, getElem_cons_succ, Act.put, setIfInBounds_toArray, set_cons_zero, set_cons_succ]
    refine tku (i := 21) rfl hHeld rfl ?_
    try simp only [getElem_toArray, getElem_cons_zero, getElem_cons_succ, Act.put, setIfInBounds_toArray, set_cons_zero, set_cons_succ]
    refine tku (i := 22) rfl hHeld rfl ?_
    try simp only [getElem_toArray, getElem_cons_zero, getElem_cons_succ, Act.put, setIfInBounds_toArray, set_cons_zero, set_cons_succ]
    refine tku (i := 23) rfl hHeld rfl ?_
    try simp only [getElem_toArray, getElem_cons_zero, getElem_cons_succ, Act.put, setIfInBounds_toArray, set_cons_zero, set_cons_succ]
    refine tk (i := 24) (v := ?v24g1) rfl hHeld (Or.inl ⟨rfl, ?y24g1⟩) ?r24g1
    case y24g1 => (intro w h; obtain ⟨s0, s1, s2, s3, s4, s5, s6, s7⟩ := h; go_simp; try with_reducible rfl)
    try simp only [getElem_toArray, getElem_cons_zero, getElem_cons_succ, Act.put, setIfInBounds_toArray, set_cons_zero, set_cons_succ]
    refine wpAnyH_done (by kernel_rfl) ?_ _
    have HW := keepB hb hHeld.2.2.2.2.2.2.2
    clear hHeld
    go_wp2
    go_ret
    exact ⟨by rw [HE.out]; rfl, HW.out⟩
   ·rw [hbk] at HBC HAT
    rw [show errB true = 0 from rfl] at HBC
    clear hbk
    cases hla : l[k].f2.any (lateE now)
    ·rw [hla] at HLC HAT
     clear hla
     by_cases h0 : (0 : Int) < (k : Int)
     ·obtain ⟨j, rfl⟩ : ∃ j, k = j + 1 := ⟨k - 1, by omega⟩
      have hj : j < l.length := by omega
      obtain ⟨ad', A4, c4, A5, c5, e3, hd0, hd1, hd2, hd3, hd4, hm2, hD2, hm3, hD3⟩ := atBucket HR.out hb.out j hj
      injection e3 with e3
      subst e3
      clear hd1 hd2 hd3 hd4 hm2 hD2 hm3 hD3
      have HUP : Hid (upD l (j + 1) = Op.bytesLess l[j].f0.toList l[j + 1].f0.toList) := by
       unfold Hid upD
       rw [getD_at l (j + 1) _ hlt, Nat.add_sub_cancel, getD_at l j _ hj, decide_eq_false (Nat.succ_ne_zero j), Bool.false_or]
      rw [HUP.out] at HAT
      clear HUP
      have e1 : IntKind.i64.wrap (((j + 1 : Nat) : Int) - 1) = (j : Int) := by simp [IntKind.wrap, IntKind.bits, IntKind.signed]; omega
      have p4 : (0 : Int) ≤ (j : Int) := by omega
      have p5 : (j : Int) < (l.length : Int) := by omega
      generalize l[j].f0 = q at *
      generalize l[j + 1] = x at *
      generalize hk1 : j + 1 = k at *
      have h0n : 0 < k := by omega
      have h0d : decide (0 < k) = true := decide_eq_true h0n
      cases hup : Op.bytesLess q.toList x.f0.toList
      ·have HE : Hid (depotB now l = false) := HNO.out (by rw [HAT.out, hup]; rfl)
       clear HNO HYES HAT
       go_wp2
       skip
       refine wp_region_held_drew (S := fun W => W.cell? (ad.add (j * 5)) = some (.string q) ∧ W.cell? ⟨wr.heap.size, 0, none⟩ = some (.string x.f0) ∧ W.cell? ⟨wr.heap.size, 1, none⟩ = some (.int .i64 x.f1) ∧ W.cell? ⟨wr.heap.size, 2, none⟩ = some (.slice A2 x.f2.length c2) ∧ W.cell? ⟨wr.heap.size, 3, none⟩ = some (.slice A3 x.f3.length c3) ∧ W.cell? ⟨wr.heap.size, 4, none⟩ = some (.int .u64 x.f4) ∧ W.cell? ⟨w.heap.size, 0, none⟩ = some (.int .i64 now) ∧ W.cell? ⟨w.heap.size, 1, none⟩ = some (.slice (some ad) l.length c) ∧ Hid (Below wr.heap.size wr W)) (by kernel_rfl) ?_ (fun hHeld => ?_)
       ·exact ⟨keepc ((Below.refl wr.heap.size wr).alloc (Nat.le_refl _) _).drew hd0, by simp [go_sem], by simp [go_sem], by simp [go_sem], by simp [go_sem], by simp [go_sem], keepc ((Below.refl wr.heap.size wr).alloc (Nat.le_refl _) _).drew dx_0, keepc ((Below.refl wr.heap.size wr).alloc (Nat.le_refl _) _).drew dx_1, ((Below.refl wr.heap.size wr).alloc (Nat.le_refl _) _).drew⟩
       refine tk (i := 0) (v := ?v0g2) rfl hHeld (Or.inl ⟨rfl, ?y0g2⟩) ?r0g2
       case y0g2 => (intro w h; obtain ⟨s0, s1, s2, s3, s4, s5, s6, s7, s8⟩ := h; go_simp; try with_reducible rfl)
       try simp only [getElem_toArray, getElem_cons_zero, getElem_cons_succ, Act.put, setIfInBounds_toArray, set_cons_zero, set_cons_succ]
       refine wpAnyH_ready (rs := [1]) (by kernel_rfl) (by simp) ?_
       refine AllReadyH.cons (o := _) rfl (fun K hK => ?_) AllReadyH.nil
       rw [if_pos (by rfl)]
       go_simp
       obtain ⟨s0, s1, s2, s3, s4, s5, s6, s7, s8⟩ := hHeld
       refine (HBC.out _ (outB s8)).mono ?_
       rintro e8 w8 ⟨rfl, hb8⟩
       refine hK.out _ _ ⟨keepc hb8 s0, keepc hb8 s1, keepc hb8 s2, keepc hb8 s3, keepc hb8 s4, keepc hb8 s5, keepc hb8 s6, keepc hb8 s7, keepB s8 hb8⟩ (fun hHeld => ?_)
       clear hK K hb8 s0 s1 s2 s3 s4 s5 s6 s7 s8
       try simp only [getElem_toArray, getElem_cons_zero, getElem_cons_succ, Act.put, setIfInBounds_toArray, set_cons_zero, set_cons_succ]
       refine tk (i := 2) (v := ?v2g2) rfl hHeld (Or.inl ⟨rfl, ?y2g2⟩) ?r2g2
       case y2g2 => (intro w h; obtain ⟨s0, s1, s2, s3, s4, s5, s6, s7, s8⟩ := h; go_simp; try with_reducible rfl)
       try simp only [getElem_toArray, getElem_cons_zero, getElem_cons_succ, Act.put, setIfInBounds_toArray, set_cons_zero, set_cons_succ]
       refine tk (i := 3) (v := ?v3g2) rfl hHeld (Or.inl ⟨rfl, ?y3g2⟩) ?r3g2
       case y3g2 => (intro w h; obtain ⟨s0, s1, s2, s3, s4, s5, s6, s7, s8⟩ := h; go_simp; try with_reducible rfl)
       try simp only [getElem_toArray, getElem_cons_zero, getElem_cons_succ, Act.put, setIfInBounds_toArray, set_cons_zero, set_cons_succ]
       refine tk (i := 4) (v := ?v4g2) rfl hHeld (Or.inl ⟨rfl, ?y4g2⟩) ?r4g2
       case y4g2 => (intro w h; obtain ⟨s0, s1, s2, s3, s4, s5, s6, s7, s8⟩ := h; go_simp; try with_reducible rfl)
       try simp only [getElem_toArray, getElem_cons_zero, getElem_cons_succ, Act.put, setIfInBounds_toArray, set_cons_zero, set_cons_succ]
       refine tk (i := 5) (v := ?v5g2) rfl hHeld (Or.inl ⟨rfl, ?y5g2⟩) ?r5g2
       case y5g2 => (intro w h; obtain ⟨s0, s1, s2, s3, s4, s5, s6, s7, s8⟩ := h; go_simp; try with_reducible rfl)
       try simp only [getElem_toArray, getElem_cons_zero, getElem_cons_succ, Act.put, setIfInBounds_toArray, set_cons_zero, set_cons_succ]
       refine tk (i := 6) (v := ?v6g2) rfl hHeld (Or.inl ⟨rfl, ?y6g2⟩) ?r6g2
       case y6g2 => (intro w h; obtain ⟨s0, s1, s2, s3, s4, s5, s6, s7, s8⟩ := h; go_simp; try with_reducible rfl)
       try simp only [getElem_toArray, getElem_cons_zero, getElem_cons_succ, Act.put, setIfInBounds_toArray, set_cons_zero, set_cons_succ]
       refine wpAnyH_ready (rs := [7]) (by kernel_rfl) (by simp) ?_
       refine AllReadyH.cons (o := _) rfl (fun K hK => ?_) AllReadyH.nil
       rw [if_pos (by rfl)]
       go_simp
       obtain ⟨s0, s1, s2, s3, s4, s5, s6, s7, s8⟩ := hHeld
       refine (HLC.out _ (outB s8)).mono ?_
       rintro e8 w8 ⟨rfl, hb8⟩
       refine hK.out _ _ ⟨keepc hb8 s0, keepc hb8 s1, keepc hb8 s2, keepc hb8 s3, keepc hb8 s4, keepc hb8 s5, keepc hb8 s6, keepc hb8 s7, keepB s8 hb8⟩ (fun hHeld => ?_)
       clear hK K hb8 s0 s1 s2 s3 s4 s5 s6 s7 s8
       try simp only [getElem_toArray, getElem_cons_zero, getElem_cons_succ, Act.put, setIfInBounds_toArray, set_cons_zero, set_cons_succ]
       refine tk (i := 8) (v := ?v8g2) rfl hHeld (Or.inl ⟨rfl, ?y8g2⟩) ?r8g2
       case y8g2 => (intro w h; obtain ⟨s0, s1, s2, s3, s4, s5, s6, s7, s8⟩ := h; go_simp; try with_reducible rfl)
       try simp only [getElem_toArray, getElem_cons_zero, getElem_cons_succ, Act.put, setIfInBounds_toArray, set_cons_zero, set_cons_succ]
       refine tk (i := 9) (v := ?v9g2) rfl hHeld (Or.inl ⟨rfl, ?y9g2⟩) ?r9g2
       case y9g2 => (intro w h; obtain ⟨s0, s1, s2, s3, s4, s5, s6, s7, s8⟩ := h; go_simp; try with_reducible rfl)
       try simp only [getElem_toArray, getElem_cons_zero, getElem_cons_succ, Act.put, setIfInBounds_toArray, set_cons_zero, set_cons_succ]
       refine tk (i := 10) (v := ?v10g2) rfl hHeld (Or.inl ⟨rfl, ?y10g2⟩) ?r10g2
       case y10g2 => (intro w h; obtain ⟨s0, s1, s2, s3, s4, s5, s6, s7, s8⟩ := h; go_simp; try with_reducible rfl)
       try simp only [getElem_toArray, getElem_cons_zero, getElem_cons_succ, Act.put, setIfInBounds_toArray, set_cons_zero, set_cons_succ]
       refine tk (i := 11) (v := ?v11g2) rfl hHeld (Or.inl ⟨rfl, ?y11g2⟩) ?r11g2
       case y11g2 => (intro w h; obtain ⟨s0, s1, s2, s3, s4, s5, s6, s7, s8⟩ := h; go_simp; try with_reducible rfl)
       try simp only [getElem_toArray, getElem_cons_zero, getElem_cons_succ, Act.put, setIfInBounds_toArray, set_cons_zero, set_cons_succ]
       refine tk (i := 12) (v := ?v12g2) rfl hHeld (Or.inl ⟨rfl, ?y12g2⟩) ?r12g2
       case y12g2 => (intro w h; obtain ⟨s0, s1, s2, s3, s4, s5, s6, s7, s8⟩ := h; go_simp; try with_reducible rfl)
       try simp only [getElem_toArray, getElem_cons_zero, getElem_cons_succ, Act.put, setIfInBounds_toArray, set_cons_zero, set_cons_succ]
       refine tk (i := 13) (v := ?v13g2) rfl hHeld (Or.inl ⟨rfl, ?y13g2⟩) ?r13g2
       case y13g2 => (intro w h; obtain ⟨s0, s1, s2, s3, s4, s5, s6, s7, s8⟩ := h; go_simp; try with_reducible rfl)
       try simp only [getElem_toArray, getElem_cons_zero, getElem_cons_succ, Act.put, setIfInBounds_toArray, set_cons_zero, set_cons_succ]
       refine tk (i := 14) (v := ?v14g2) rfl hHeld (Or.inl ⟨rfl, ?y14g2⟩) ?r14g2
       case y14g2 => (intro w h; obtain ⟨s0, s1, s2, s3, s4, s5, s6, s7, s8⟩ := h; go_simp; try with_reducible rfl)
       try simp only [getElem_toArray, getElem_cons_zero, getElem_cons_succ, Act.put, setIfInBounds_toArray, set_cons_zero, set_cons_succ]
       refine tk (i := 15) (v := ?v15g2) rfl hHeld (Or.inl ⟨rfl, ?y15g2⟩) ?r15g2
       case y15g2 => (intro w h; obtain ⟨s0, s1, s2, s3, s4, s5, s6, s7, s8⟩ := h; go_simp; try with_reducible rfl)
       try simp only [getElem_toArray, getElem_cons_zero, getElem_cons_succ, Act.put, setIfInBounds_toArray, set_cons_zero, set_cons_succ]
       refine tk (i := 16) (v := ?v16g2) rfl hHeld (Or.inl ⟨rfl, ?y16g2⟩) ?r16g2
       case y16g2 => (intro w h; obtain ⟨s0, s1, s2, s3, s4, s5, s6, s7, s8⟩ := h; go_simp; try with_reducible rfl)
       try simp only [getElem_toArray, getElem_cons_zero, getElem_cons_succ, Act.put, setIfInBounds_toArray, set_cons_zero, set_cons_succ]
       refine tk (i := 17) (v := ?v17g2) rfl hHeld (Or.inl ⟨rfl, ?y17g2⟩) ?r17g2
       case y17g2 => (intro w h; obtain ⟨s0, s1, s2, s3, s4, s5, s6, s7, s8⟩ := h; go_simp; try with_reducible rfl)
       try simp only [getElem_toArray, getElem_cons_zero, getElem_cons_succ, Act.put, setIfInBounds_toArray, set_cons_zero, set_cons_succ]
       refine tk (i := 18) (v := ?v18g2) rfl hHeld (Or.inl ⟨rfl, ?y18g2⟩) ?r18g2
       case y18g2 => (intro w h; obtain ⟨s0, s1, s2, s3, s4, s5, s6, s7, s8⟩ := h; go_simp; try with_reducible rfl)
       try simp only [getElem_toArray, getElem_cons_zero, getElem_cons_succ, Act.put, setIfInBounds_toArray, set_cons_zero, set_cons_succ]
       refine tk (i := 19) (v := ?v19g2) rfl hHeld (Or.inl ⟨rfl, ?y19g2⟩) ?r19g2
       case y19g2 => (intro w h; obtain ⟨s0, s1, s2, s3, s4, s5, s6, s7, s8⟩ := h; go_simp; try with_reducible rfl)
       try simp only [getElem_toArray, getElem_cons_zero, getElem_cons_succ, Act.put, setIfInBounds_toArray, set_cons_zero, set_cons_succ]
       refine tk (i := 20) (v := ?v20g2) rfl hHeld (Or.inl ⟨rfl, ?y20g2⟩) ?r20g2
       case y20g2 => (intro w h; obtain ⟨s0, s1, s2, s3, s4, s5, s6, s7, s8⟩ := h; go_simp; try with_reducible rfl)
       try simp only [getElem_toArray, getElem_cons_zero, getElem_cons_succ, Act.put, setIfInBounds_toArray, set_cons_zero, set_cons_succ]
       refine tk (i := 21) (v := ?v21g2) rfl hHeld (Or.inl ⟨rfl, ?y21g2⟩) ?r21g2
       case y21g2 => (intro w h; obtain ⟨s0, s1, s2, s3, s4, s5, s6, s7, s8⟩ := h; go_simp; try with_reducible rfl)
       try simp only [getElem_toArray, getElem_cons_zero, getElem_cons_succ, Act.put, setIfInBounds_toArray, set_cons_zero, set_cons_succ]
       refine tk (i := 22) (v := ?v22g2) rfl hHeld (Or.inl ⟨rfl, ?y22g2⟩) ?r22g2
       case y22g2 => (intro w h; obtain ⟨s0, s1, s2, s3, s4, s5, s6, s7, s8⟩ := h; go_simp; try with_reducible rfl)
       try simp only [getElem_toArray, getElem_cons_zero, getElem_cons_succ, Act.put, setIfInBounds_toArray, set_cons_zero, set_cons_succ]
       refine tk (i := 23) (v := ?v23g2) rfl hHeld (Or.inl ⟨rfl, ?y23g2⟩) ?r23g2
       case y23g2 => (intro w h; obtain ⟨s0, s1, s2, s3, s4, s5, s6, s7, s8⟩ := h; go_simp; try with_reducible rfl)
       try simp only [getElem_toArray, getElem_cons_zero, getElem_cons_succ, Act.put, setIfInBounds_toArray, set_cons_zero, set_cons_succ]
       refine tk (i := 24) (v := ?v24g2) rfl hHeld (Or.inl ⟨rfl, ?y24g2⟩) ?r24g2
       case y24g2 => (intro w h; obtain ⟨s0, s1, s2, s3, s4, s5, s6, s7, s8⟩ := h; go_simp; try with_reducible rfl)
       try simp only [getElem_toArray, getElem_cons_zero, getElem_cons_succ, Act.put, setIfInBounds_toArray, set_cons_zero, set_cons_succ]
       refine wpAnyH_done (by kernel_rfl) ?_ _
       have HW := keepB hb hHeld.2.2.2.2.2.2.2.2
       clear hHeld
       go_wp2
       go_ret
       exact ⟨by rw [HE.out]; rfl, HW.out⟩
      ·have HN : Hid (allFrom (depAt now l) 0 (k + 1) = true) := HYES.out (by rw [HAT.out, hup]; rfl)
       clear HNO HYES HAT
       go_wp2
       skip
       refine wp_region_held_drew (S := fun W => W.cell? (ad.add (j * 5)) = some (.string q) ∧ W.cell? ⟨wr.heap.size, 0, none⟩ = some (.string x.f0) ∧ W.cell? ⟨wr.heap.size, 1, none⟩ = some (.int .i64 x.f1) ∧ W.cell? ⟨wr.heap.size, 2, none⟩ = some (.slice A2 x.f2.length c2) ∧ W.cell? ⟨wr.heap.size, 3, none⟩ = some (.slice A3 x.f3.length c3) ∧ W.cell? ⟨wr.heap.size, 4, none⟩ = some (.int .u64 x.f4) ∧ W.cell? ⟨w.heap.size, 0, none⟩ = some (.int .i64 now) ∧ W.cell? ⟨w.heap.size, 1, none⟩ = some (.slice (some ad) l.length c) ∧ Hid (Below wr.heap.size wr W)) (by kernel_rfl) ?_ (fun hHeld => ?_)
       ·exact ⟨keepc ((Below.refl wr.heap.size wr).alloc (Nat.le_refl _) _).drew hd0, by simp [go_sem], by simp [go_sem], by simp [go_sem], by simp [go_sem], by simp [go_sem], keepc ((Below.refl wr.heap.size wr).alloc (Nat.le_refl _) _).drew dx_0, keepc ((Below.refl wr.heap.size wr).alloc (Nat.le_refl _) _).drew dx_1, ((Below.refl wr.heap.size wr).alloc (Nat.le_refl _) _).drew⟩
       refine tk (i := 0) (v := ?v0g3) rfl hHeld (Or.inl ⟨rfl, ?y0g3⟩) ?r0g3
       case y0g3 => (intro w h; obtain ⟨s0, s1, s2, s3, s4, s5, s6, s7, s8⟩ := h; go_simp; try with_reducible rfl)
       try simp only [getElem_toArray, getElem_cons_zero, getElem_cons_succ, Act.put, setIfInBounds_toArray, set_cons_zero, set_cons_succ]
       refine wpAnyH_ready (rs := [1]) (by kernel_rfl) (by simp) ?_
       refine AllReadyH.cons (o := _) rfl (fun K hK => ?_) AllReadyH.nil
       rw [if_pos (by rfl)]
       go_simp
       obtain ⟨s0, s1, s2, s3, s4, s5, s6, s7, s8⟩ := hHeld
       refine (HBC.out _ (outB s8)).mono ?_
       rintro e8 w8 ⟨rfl, hb8⟩
       refine hK.out _ _ ⟨keepc hb8 s0, keepc hb8 s1, keepc hb8 s2, keepc hb8 s3, keepc hb8 s4, keepc hb8 s5, keepc hb8 s6, keepc hb8 s7, keepB s8 hb8⟩ (fun hHeld => ?_)
       clear hK K hb8 s0 s1 s2 s3 s4 s5 s6 s7 s8
       try simp only [getElem_toArray, getElem_cons_zero, getElem_cons_succ, Act.put, setIfInBounds_toArray, set_cons_zero, set_cons_succ]
       refine tk (i := 2) (v := ?v2g3) rfl hHeld (Or.inl ⟨rfl, ?y2g3⟩) ?r2g3
       case y2g3 => (intro w h; obtain ⟨s0, s1, s2, s3, s4, s5, s6, s7, s8⟩ := h; go_simp; try with_reducible rfl)
       try simp only [getElem_toArray, getElem_cons_zero, getElem_cons_succ, Act.put, setIfInBounds_toArray, set_cons_zero, set_cons_succ]
       refine tk (i := 3) (v := ?v3g3) rfl hHeld (Or.inl ⟨rfl, ?y3g3⟩) ?r3g3
       case y3g3 => (intro w h; obtain ⟨s0, s1, s2, s3, s4, s5, s6, s7, s8⟩ := h; go_simp; try with_reducible rfl)
       try simp only [getElem_toArray, getElem_cons_zero, getElem_cons_succ, Act.put, setIfInBounds_toArray, set_cons_zero, set_cons_succ]
       refine tk (i := 4) (v := ?v4g3) rfl hHeld (Or.inl ⟨rfl, ?y4g3⟩) ?r4g3
       case y4g3 => (intro w h; obtain ⟨s0, s1, s2, s3, s4, s5, s6, s7, s8⟩ := h; go_simp; try with_reducible rfl)
       try simp only [getElem_toArray, getElem_cons_zero, getElem_cons_succ, Act.put, setIfInBounds_toArray, set_cons_zero, set_cons_succ]
       refine tk (i := 5) (v := ?v5g3) rfl hHeld (Or.inl ⟨rfl, ?y5g3⟩) ?r5g3
       case y5g3 => (intro w h; obtain ⟨s0, s1, s2, s3, s4, s5, s6, s7, s8⟩ := h; go_simp; try with_reducible rfl)
       try simp only [getElem_toArray, getElem_cons_zero, getElem_cons_succ, Act.put, setIfInBounds_toArray, set_cons_zero, set_cons_succ]
       refine tk (i := 6) (v := ?v6g3) rfl hHeld (Or.inl ⟨rfl, ?y6g3⟩) ?r6g3
       case y6g3 => (intro w h; obtain ⟨s0, s1, s2, s3, s4, s5, s6, s7, s8⟩ := h; go_simp; try with_reducible rfl)
       try simp only [getElem_toArray, getElem_cons_zero, getElem_cons_succ, Act.put, setIfInBounds_toArray, set_cons_zero, set_cons_succ]
       refine wpAnyH_ready (rs := [7]) (by kernel_rfl) (by simp) ?_
       refine AllReadyH.cons (o := _) rfl (fun K hK => ?_) AllReadyH.nil
       rw [if_pos (by rfl)]
       go_simp
       obtain ⟨s0, s1, s2, s3, s4, s5, s6, s7, s8⟩ := hHeld
       refine (HLC.out _ (outB s8)).mono ?_
       rintro e8 w8 ⟨rfl, hb8⟩
       refine hK.out _ _ ⟨keepc hb8 s0, keepc hb8 s1, keepc hb8 s2, keepc hb8 s3, keepc hb8 s4, keepc hb8 s5, keepc hb8 s6, keepc hb8 s7, keepB s8 hb8⟩ (fun hHeld => ?_)
       clear hK K hb8 s0 s1 s2 s3 s4 s5 s6 s7 s8
       try simp only [getElem_toArray, getElem_cons_zero, getElem_cons_succ, Act.put, setIfInBounds_toArray, set_cons_zero, set_cons_succ]
       refine tk (i := 8) (v := ?v8g3) rfl hHeld (Or.inl ⟨rfl, ?y8g3⟩) ?r8g3
       case y8g3 => (intro w h; obtain ⟨s0, s1, s2, s3, s4, s5, s6, s7, s8⟩ := h; go_simp; try with_reducible rfl)
       try simp only [getElem_toArray, getElem_cons_zero, getElem_cons_succ, Act.put, setIfInBounds_toArray, set_cons_zero, set_cons_succ]
       refine tk (i := 9) (v := ?v9g3) rfl hHeld (Or.inl ⟨rfl, ?y9g3⟩) ?r9g3
       case y9g3 => (intro w h; obtain ⟨s0, s1, s2, s3, s4, s5, s6, s7, s8⟩ := h; go_simp; try with_reducible rfl)
       try simp only [getElem_toArray, getElem_cons_zero, getElem_cons_succ, Act.put, setIfInBounds_toArray, set_cons_zero, set_cons_succ]
       refine tk (i := 10) (v := ?v10g3) rfl hHeld (Or.inl ⟨rfl, ?y10g3⟩) ?r10g3
       case y10g3 => (intro w h; obtain ⟨s0, s1, s2, s3, s4, s5, s6, s7, s8⟩ := h; go_simp; try with_reducible rfl)
       try simp only [getElem_toArray, getElem_cons_zero, getElem_cons_succ, Act.put, setIfInBounds_toArray, set_cons_zero, set_cons_succ]
       refine tk (i := 11) (v := ?v11g3) rfl hHeld (Or.inl ⟨rfl, ?y11g3⟩) ?r11g3
       case y11g3 => (intro w h; obtain ⟨s0, s1, s2, s3, s4, s5, s6, s7, s8⟩ := h; go_simp; try with_reducible rfl)
       try simp only [getElem_toArray, getElem_cons_zero, getElem_cons_succ, Act.put, setIfInBounds_toArray, set_cons_zero, set_cons_succ]
       refine tk (i := 12) (v := ?v12g3) rfl hHeld (Or.inl ⟨rfl, ?y12g3⟩) ?r12g3
       case y12g3 => (intro w h; obtain ⟨s0, s1, s2, s3, s4, s5, s6, s7, s8⟩ := h; go_simp; try with_reducible rfl)
       try simp only [getElem_toArray, getElem_cons_zero, getElem_cons_succ, Act.put, setIfInBounds_toArray, set_cons_zero, set_cons_succ]
       refine tk (i := 13) (v := ?v13g3) rfl hHeld (Or.inl ⟨rfl, ?y13g3⟩) ?r13g3
       case y13g3 => (intro w h; obtain ⟨s0, s1, s2, s3, s4, s5, s6, s7, s8⟩ := h; go_simp; try with_reducible rfl)
       try simp only [getElem_toArray, getElem_cons_zero, getElem_cons_succ, Act.put, setIfInBounds_toArray, set_cons_zero, set_cons_succ]
       refine tk (i := 14) (v := ?v14g3) rfl hHeld (Or.inl ⟨rfl, ?y14g3⟩) ?r14g3
       case y14g3 => (intro w h; obtain ⟨s0, s1, s2, s3, s4, s5, s6, s7, s8⟩ := h; go_simp; try with_reducible rfl)
       try simp only [getElem_toArray, getElem_cons_zero, getElem_cons_succ, Act.put, setIfInBounds_toArray, set_cons_zero, set_cons_succ]
       refine tk (i := 15) (v := ?v15g3) rfl hHeld (Or.inl ⟨rfl, ?y15g3⟩) ?r15g3
       case y15g3 => (intro w h; obtain ⟨s0, s1, s2, s3, s4, s5, s6, s7, s8⟩ := h; go_simp; try with_reducible rfl)
       try simp only [getElem_toArray, getElem_cons_zero, getElem_cons_succ, Act.put, setIfInBounds_toArray, set_cons_zero, set_cons_succ]
       refine tk (i := 16) (v := ?v16g3) rfl hHeld (Or.inl ⟨rfl, ?y16g3⟩) ?r16g3
       case y16g3 => (intro w h; obtain ⟨s0, s1, s2, s3, s4, s5, s6, s7, s8⟩ := h; go_simp; try with_reducible rfl)
       try simp only [getElem_toArray, getElem_cons_zero, getElem_cons_succ, Act.put, setIfInBounds_toArray, set_cons_zero, set_cons_succ]
       refine tk (i := 17) (v := ?v17g3) rfl hHeld (Or.inl ⟨rfl, ?y17g3⟩) ?r17g3
       case y17g3 => (intro w h; obtain ⟨s0, s1, s2, s3, s4, s5, s6, s7, s8⟩ := h; go_simp; try with_reducible rfl)
       try simp only [getElem_toArray, getElem_cons_zero, getElem_cons_succ, Act.put, setIfInBounds_toArray, set_cons_zero, set_cons_succ]
       refine tk (i := 18) (v := ?v18g3) rfl hHeld (Or.inl ⟨rfl, ?y18g3⟩) ?r18g3
       case y18g3 => (intro w h; obtain ⟨s0, s1, s2, s3, s4, s5, s6, s7, s8⟩ := h; go_simp; try with_reducible rfl)
       try simp only [getElem_toArray, getElem_cons_zero, getElem_cons_succ, Act.put, setIfInBounds_toArray, set_cons_zero, set_cons_succ]
       refine tk (i := 19) (v := ?v19g3) rfl hHeld (Or.inl ⟨rfl, ?y19g3⟩) ?r19g3
       case y19g3 => (intro w h; obtain ⟨s0, s1, s2, s3, s4, s5, s6, s7, s8⟩ := h; go_simp; try with_reducible rfl)
       try simp only [getElem_toArray, getElem_cons_zero, getElem_cons_succ, Act.put, setIfInBounds_toArray, set_cons_zero, set_cons_succ]
       refine tk (i := 20) (v := ?v20g3) rfl hHeld (Or.inl ⟨rfl, ?y20g3⟩) ?r20g3
       case y20g3 => (intro w h; obtain ⟨s0, s1, s2, s3, s4, s5, s6, s7, s8⟩ := h; go_simp; try with_reducible rfl)
       try simp only [getElem_toArray, getElem_cons_zero, getElem_cons_succ, Act.put, setIfInBounds_toArray, set_cons_zero, set_cons_succ]
       refine tk (i := 21) (v := ?v21g3) rfl hHeld (Or.inl ⟨rfl, ?y21g3⟩) ?r21g3
       case y21g3 => (intro w h; obtain ⟨s0, s1, s2, s3, s4, s5, s6, s7, s8⟩ := h; go_simp; try with_reducible rfl)
       try simp only [getElem_toArray, getElem_cons_zero, getElem_cons_succ, Act.put, setIfInBounds_toArray, set_cons_zero, set_cons_succ]
       refine tk (i := 22) (v := ?v22g3) rfl hHeld (Or.inl ⟨rfl, ?y22g3⟩) ?r22g3
       case y22g3 => (intro w h; obtain ⟨s0, s1, s2, s3, s4, s5, s6, s7, s8⟩ := h; go_simp; try with_reducible rfl)
       try simp only [getElem_toArray, getElem_cons_zero, getElem_cons_succ, Act.put, setIfInBounds_toArray, set_cons_zero, set_cons_succ]
       refine tk (i := 23) (v := ?v23g3) rfl hHeld (Or.inl ⟨rfl, ?y23g3⟩) ?r23g3
       case y23g3 => (intro w h; obtain ⟨s0, s1, s2, s3, s4, s5, s6, s7, s8⟩ := h; go_simp; try with_reducible rfl)
       try simp only [getElem_toArray, getElem_cons_zero, getElem_cons_succ, Act.put, setIfInBounds_toArray, set_cons_zero, set_cons_succ]
       refine tk (i := 24) (v := ?v24g3) rfl hHeld (Or.inl ⟨rfl, ?y24g3⟩) ?r24g3
       case y24g3 => (intro w h; obtain ⟨s0, s1, s2, s3, s4, s5, s6, s7, s8⟩ := h; go_simp; try with_reducible rfl)
       try simp only [getElem_toArray, getElem_cons_zero, getElem_cons_succ, Act.put, setIfInBounds_toArray, set_cons_zero, set_cons_succ]
       refine wpAnyH_done (by kernel_rfl) ?_ _
       have HW := keepB hb hHeld.2.2.2.2.2.2.2.2
       have HKX := Lib.hid (blk_below hkb.out (outB hHeld.2.2.2.2.2.2.2.2))
       clear hHeld
       go_wp2
       go_roundw
       case rel => exact ⟨k + 1, by go_num, by omega, HN, HKX, HW⟩
       case measure => simp [intOf]; omega
     ·have HN : Hid (allFrom (depAt now l) 0 (k + 1) = true) := HYES.out (by
       rw [HAT.out]
       obtain rfl : k = 0 := by omega
       rfl)
      generalize l[k] = x at *
      have h0n : ¬ 0 < k := by omega
      have h0d : decide (0 < k) = false := decide_eq_false h0n
      clear HNO HYES HAT
      go_wp2
      skip
      refine wp_region_held_drew (S := fun W => W.cell? ⟨wr.heap.size, 0, none⟩ = some (.string x.f0) ∧ W.cell? ⟨wr.heap.size, 1, none⟩ = some (.int .i64 x.f1) ∧ W.cell? ⟨wr.heap.size, 2, none⟩ = some (.slice A2 x.f2.length c2) ∧ W.cell? ⟨wr.heap.size, 3, none⟩ = some (.slice A3 x.f3.length c3) ∧ W.cell? ⟨wr.heap.size, 4, none⟩ = some (.int .u64 x.f4) ∧ W.cell? ⟨w.heap.size, 0, none⟩ = some (.int .i64 now) ∧ W.cell? ⟨w.heap.size, 1, none⟩ = some (.slice (some ad) l.length c) ∧ Hid (Below wr.heap.size wr W)) (by kernel_rfl) ?_ (fun hHeld => ?_)
      ·exact ⟨by simp [go_sem], by simp [go_sem], by simp [go_sem], by simp [go_sem], by simp [go_sem], keepc ((Below.refl wr.heap.size wr).alloc (Nat.le_refl _) _).drew dx_0, keepc ((Below.refl wr.heap.size wr).alloc (Nat.le_refl _) _).drew dx_1, ((Below.refl wr.heap.size wr).alloc (Nat.le_refl _) _).drew⟩
      refine tk (i := 0) (v := ?v0g4) rfl hHeld (Or.inl ⟨rfl, ?y0g4⟩) ?r0g4
      case y0g4 => (intro w h; obtain ⟨s0, s1, s2, s3, s4, s5, s6, s7⟩ := h; go_simp; try with_reducible rfl)
      try simp only [getElem_toArray, getElem_cons_zero, getElem_cons_succ, Act.put, setIfInBounds_toArray, set_cons_zero, set_cons_succ]
      refine wpAnyH_ready (rs := [1]) (by kernel_rfl) (by simp) ?_
      refine AllReadyH.cons (o := _) rfl (fun K hK => ?_) AllReadyH.nil
      rw [if_pos (by rfl)]
      go_simp
      obtain ⟨s0, s1, s2, s3, s4, s5, s6, s7⟩ := hHeld
      refine (HBC.out _ (outB s7)).mono ?_
      rintro e8 w8 ⟨rfl, hb8⟩
      refine hK.out _ _ ⟨keepc hb8 s0, keepc hb8 s1, keepc hb8 s2, keepc hb8 s3, keepc hb8 s4, keepc hb8 s5, keepc hb8 s6, keepB s7 hb8⟩ (fun hHeld => ?_)
      clear hK K hb8 s0 s1 s2 s3 s4 s5 s6 s7
      try simp only [getElem_toArray, getElem_cons_zero, getElem_cons_succ, Act.put, setIfInBounds_toArray, set_cons_zero, set_cons_succ]
      refine tk (i := 2) (v := ?v2g4) rfl hHeld (Or.inl ⟨rfl, ?y2g4⟩) ?r2g4
      case y2g4 => (intro w h; obtain ⟨s0, s1, s2, s3, s4, s5, s6, s7⟩ := h; go_simp; try with_reducible rfl)
      try simp only [getElem_toArray, getElem_cons_zero, getElem_cons_succ, Act.put, setIfInBounds_toArray, set_cons_zero, set_cons_succ]
      refine tk (i := 3) (v := ?v3g4) rfl hHeld (Or.inl ⟨rfl, ?y3g4⟩) ?r3g4
      case y3g4 => (intro w h; obtain ⟨s0, s1, s2, s3, s4, s5, s6, s7⟩ := h; go_simp; try with_reducible rfl)
      try simp only [getElem_toArray, getElem_cons_zero, getElem_cons_succ, Act.put, setIfInBounds_toArray, set_cons_zero, set_cons_succ]
      refine tk (i := 4) (v := ?v4g4) rfl hHeld (Or.inl ⟨rfl, ?y4g4⟩) ?r4g4
      case y4g4 => (intro w h; obtain ⟨s0, s1, s2, s3, s4, s5, s6, s7⟩ := h; go_simp; try with_reducible rfl)
      try simp only [getElem_toArray, getElem_cons_zero, getElem_cons_succ, Act.put, setIfInBounds_toArray, set_cons_zero, set_cons_succ]
      refine tk (i := 5) (v := ?v5g4) rfl hHeld (Or.inl ⟨rfl, ?y5g4⟩) ?r5g4
      case y5g4 => (intro w h; obtain ⟨s0, s1, s2, s3, s4, s5, s6, s7⟩ := h; go_simp; try with_reducible rfl)
      try simp only [getElem_toArray, getElem_cons_zero, getElem_cons_succ, Act.put, setIfInBounds_toArray, set_cons_zero, set_cons_succ]
      refine tk (i := 6) (v := ?v6g4) rfl hHeld (Or.inl ⟨rfl, ?y6g4⟩) ?r6g4
      case y6g4 => (intro w h; obtain ⟨s0, s1, s2, s3, s4, s5, s6, s7⟩ := h; go_simp; try with_reducible rfl)
      try simp only [getElem_toArray, getElem_cons_zero, getElem_cons_succ, Act.put, setIfInBounds_toArray, set_cons_zero, set_cons_succ]
      refine wpAnyH_ready (rs := [7]) (by kernel_rfl) (by simp) ?_
      refine AllReadyH.cons (o := _) rfl (fun K hK => ?_) AllReadyH.nil
      rw [if_pos (by rfl)]
      go_simp
      obtain ⟨s0, s1, s2, s3, s4, s5, s6, s7⟩ := hHeld
      refine (HLC.out _ (outB s7)).mono ?_
      rintro e8 w8 ⟨rfl, hb8⟩
      refine hK.out _ _ ⟨keepc hb8 s0, keepc hb8 s1, keepc hb8 s2, keepc hb8 s3, keepc hb8 s4, keepc hb8 s5, keepc hb8 s6, keepB s7 hb8⟩ (fun hHeld => ?_)
      clear hK K hb8 s0 s1 s2 s3 s4 s5 s6 s7
      try simp only [getElem_toArray, getElem_cons_zero, getElem_cons_succ, Act.put, setIfInBounds_toArray, set_cons_zero, set_cons_succ]
      refine tk (i := 8) (v := ?v8g4) rfl hHeld (Or.inl ⟨rfl, ?y8g4⟩) ?r8g4
      case y8g4 => (intro w h; obtain ⟨s0, s1, s2, s3, s4, s5, s6, s7⟩ := h; go_simp; try with_reducible rfl)
      try simp only [getElem_toArray, getElem_cons_zero, getElem_cons_succ, Act.put, setIfInBounds_toArray, set_cons_zero, set_cons_succ]
      refine tk (i := 9) (v := ?v9g4) rfl hHeld (Or.inl ⟨rfl, ?y9g4⟩) ?r9g4
      case y9g4 => (intro w h; obtain ⟨s0, s1, s2, s3, s4, s5, s6, s7⟩ := h; go_simp; try with_reducible rfl)
      try simp only [getElem_toArray, getElem_cons_zero, getElem_cons_succ, Act.put, setIfInBounds_toArray, set_cons_zero, set_cons_succ]
      refine tk (i := 10) (v := ?v10g4) rfl hHeld (Or.inl ⟨rfl, ?y10g4⟩) ?r10g4
      case y10g4 => (intro w h; obtain ⟨s0, s1, s2, s3, s4, s5, s6, s7⟩ := h; go_simp; try with_reducible rfl)
      try simp only [getElem_toArray, getElem_cons_zero, getElem_cons_succ, Act.put, setIfInBounds_toArray, set_cons_zero, set_cons_succ]
      refine tk (i := 11) (v := ?v11g4) rfl hHeld (Or.inl ⟨rfl, ?y11g4⟩) ?r11g4
      case y11g4 => (intro w h; obtain ⟨s0, s1, s2, s3, s4, s5, s6, s7⟩ := h; go_simp; try with_reducible rfl)
      try simp only [getElem_toArray, getElem_cons_zero, getElem_cons_succ, Act.put, setIfInBounds_toArray, set_cons_zero, set_cons_succ]
      refine tk (i := 12) (v := ?v12g4) rfl hHeld (Or.inl ⟨rfl, ?y12g4⟩) ?r12g4
      case y12g4 => (intro w h; obtain ⟨s0, s1, s2, s3, s4, s5, s6, s7⟩ := h; go_simp; try with_reducible rfl)
      try simp only [getElem_toArray, getElem_cons_zero, getElem_cons_succ, Act.put, setIfInBounds_toArray, set_cons_zero, set_cons_succ]
      refine tku (i := 13) rfl hHeld rfl ?_
      try simp only [getElem_toArray, getElem_cons_zero, getElem_cons_succ, Act.put, setIfInBounds_toArray, set_cons_zero, set_cons_succ]
      refine tku (i := 14) rfl hHeld rfl ?_
      try simp only [getElem_toArray, getElem_cons_zero, getElem_cons_succ, Act.put, setIfInBounds_toArray, set_cons_zero, set_cons_succ]
      refine tku (i := 15) rfl hHeld rfl ?_
      try simp only [getElem_toArray, getElem_cons_zero, getElem_cons_succ, Act.put, setIfInBounds_toArray, set_cons_zero, set_cons_succ]
      refine tku (i := 16) rfl hHeld rfl ?_
      try simp only [getElem_toArray, getElem_cons_zero, getElem_cons_succ, Act.put, setIfInBounds_toArray, set_cons_zero, set_cons_succ]
      refine tku (i := 17) rfl hHeld rfl ?_
      try simp only [getElem_toArray, getElem_cons_zero, getElem_cons_succ, Act.put, setIfInBounds_toArray, set_cons_zero, set_cons_succ]
      refine tku (i := 18) rfl hHeld rfl ?_
      try simp only [getElem_toArray, getElem_cons_zero, getElem_cons_succ, Act.put, setIfInBounds_toArray, set_cons_zero, set_cons_succ]
      refine tku (i := 19) rfl hHeld rfl ?_
      try simp only [getElem_toArray, getElem_cons_zero, getElem_cons_succ, Act.put, setIfInBounds_toArray, set_cons_zero, set_cons_succ]
      refine tku (i := 20) rfl hHeld rfl ?_
      try simp only [getElem_toArray, getElem_cons_zero, getElem_cons_succ, Act.put, setIfInBounds_toArray, set_cons_zero, set_cons_succ]
      refine tku (i := 21) rfl hHeld rfl ?_
      try simp only [getElem_toArray, getElem_cons_zero, getElem_cons_succ, Act.put, setIfInBounds_toArray, set_cons_zero, set_cons_succ]
      refine tku (i := 22) rfl hHeld rfl ?_
      try simp only [getElem_toArray, getElem_cons_zero, getElem_cons_succ, Act.put, setIfInBounds_toArray, set_cons_zero, set_cons_succ]
      refine tk (i := 23) (v := ?v23g4) rfl hHeld (Or.inl ⟨rfl, ?y23g4⟩) ?r23g4
      case y23g4 => (intro w h; obtain ⟨s0, s1, s2, s3, s4, s5, s6, s7⟩ := h; go_simp; try with_reducible rfl)
      try simp only [getElem_toArray, getElem_cons_zero, getElem_cons_succ, Act.put, setIfInBounds_toArray, set_cons_zero, set_cons_succ]
      refine tk (i := 24) (v := ?v24g4) rfl hHeld (Or.inl ⟨rfl, ?y24g4⟩) ?r24g4
      case y24g4 => (intro w h; obtain ⟨s0, s1, s2, s3, s4, s5, s6, s7⟩ := h; go_simp; try with_reducible rfl)
      try simp only [getElem_toArray, getElem_cons_zero, getElem_cons_succ, Act.put, setIfInBounds_toArray, set_cons_zero, set_cons_succ]
      refine wpAnyH_done (by kernel_rfl) ?_ _
      have HW := keepB hb hHeld.2.2.2.2.2.2.2
      have HKX := Lib.hid (blk_below hkb.out (outB hHeld.2.2.2.2.2.2.2))
      clear hHeld
      go_wp2
      go_roundw
      case rel => exact ⟨k + 1, by go_num, by omega, HN, HKX, HW⟩
      case measure => simp [intOf]; omega
    ·have HE : Hid (depotB now l = false) := HNO.out (by rw [HAT.out, hla]; rfl)
     rw [hla] at HLC
     clear hla HNO HYES HAT
     generalize l[k] = x at *
     go_wp2
     skip
     refine wp_region_held_drew (S := fun W => W.cell? ⟨wr.heap.size, 0, none⟩ = some (.string x.f0) ∧ W.cell? ⟨wr.heap.size, 1, none⟩ = some (.int .i64 x.f1) ∧ W.cell? ⟨wr.heap.size, 2, none⟩ = some (.slice A2 x.f2.length c2) ∧ W.cell? ⟨wr.heap.size, 3, none⟩ = some (.slice A3 x.f3.length c3) ∧ W.cell? ⟨wr.heap.size, 4, none⟩ = some (.int .u64 x.f4) ∧ W.cell? ⟨w.heap.size, 0, none⟩ = some (.int .i64 now) ∧ W.cell? ⟨w.heap.size, 1, none⟩ = some (.slice (some ad) l.length c) ∧ Hid (Below wr.heap.size wr W)) (by kernel_rfl) ?_ (fun hHeld => ?_)
     ·exact ⟨by simp [go_sem], by simp [go_sem], by simp [go_sem], by simp [go_sem], by simp [go_sem], keepc ((Below.refl wr.heap.size wr).alloc (Nat.le_refl _) _).drew dx_0, keepc ((Below.refl wr.heap.size wr).alloc (Nat.le_refl _) _).drew dx_1, ((Below.refl wr.heap.size wr).alloc (Nat.le_refl _) _).drew⟩
     refine tk (i := 0) (v := ?v0g5) rfl hHeld (Or.inl ⟨rfl, ?y0g5⟩) ?r0g5
     case y0g5 => (intro w h; obtain ⟨s0, s1, s2, s3, s4, s5, s6, s7⟩ := h; go_simp; try with_reducible rfl)
     try simp only [getElem_toArray, getElem_cons_zero, getElem_cons_succ, Act.put, setIfInBounds_toArray, set_cons_zero, set_cons_succ]
     refine wpAnyH_ready (rs := [1]) (by kernel_rfl) (by simp) ?_
     refine AllReadyH.cons (o := _) rfl (fun K hK => ?_) AllReadyH.nil
     rw [if_pos (by rfl)]
     go_simp
     obtain ⟨s0, s1, s2, s3, s4, s5, s6, s7⟩ := hHeld
     refine (HBC.out _ (outB s7)).mono ?_
     rintro e8 w8 ⟨rfl, hb8⟩
     refine hK.out _ _ ⟨keepc hb8 s0, keepc hb8 s1, keepc hb8 s2, keepc hb8 s3, keepc hb8 s4, keepc hb8 s5, keepc hb8 s6, keepB s7 hb8⟩ (fun hHeld => ?_)
     clear hK K hb8 s0 s1 s2 s3 s4 s5 s6 s7
     try simp only [getElem_toArray, getElem_cons_zero, getElem_cons_succ, Act.put, setIfInBounds_toArray, set_cons_zero, set_cons_succ]
     refine tk (i := 2) (v := ?v2g5) rfl hHeld (Or.inl ⟨rfl, ?y2g5⟩) ?r2g5
     case y2g5 => (intro w h; obtain ⟨s0, s1, s2, s3, s4, s5, s6, s7⟩ := h; go_simp; try with_reducible rfl)
     try simp only [getElem_toArray, getElem_cons_zero, getElem_cons_succ, Act.put, setIfInBounds_toArray, set_cons_zero, set_cons_succ]
     refine tk (i := 3) (v := ?v3g5) rfl hHeld (Or.inl ⟨rfl, ?y3g5⟩) ?r3g5
     case y3g5 => (intro w h; obtain ⟨s0, s1, s2, s3, s4, s5, s6, s7⟩ := h; go_simp; try with_reducible rfl)
     try simp only [getElem_toArray, getElem_cons_zero, getElem_cons_succ, Act.put, setIfInBounds_toArray, set_cons_zero, set_cons_succ]
     refine tk (i := 4) (v := ?v4g5) rfl hHeld (Or.inl ⟨rfl, ?y4g5⟩) ?r4g5
     case y4g5 => (intro w h; obtain ⟨s0, s1, s2, s3, s4, s5, s6, s7⟩ := h; go_simp; try with_reducible rfl)
     try simp only [getElem_toArray, getElem_cons_zero, getElem_cons_succ, Act.put, setIfInBounds_toArray, set_cons_zero, set_cons_succ]
     refine tk (i := 5) (v := ?v5g5) rfl hHeld (Or.inl ⟨rfl, ?y5g5⟩) ?r5g5
     case y5g5 => (intro w h; obtain ⟨s0, s1, s2, s3, s4, s5, s6, s7⟩ := h; go_simp; try with_reducible rfl)
     try simp only [getElem_toArray, getElem_cons_zero, getElem_cons_succ, Act.put, setIfInBounds_toArray, set_cons_zero, set_cons_succ]
     refine tk (i := 6) (v := ?v6g5) rfl hHeld (Or.inl ⟨rfl, ?y6g5⟩) ?r6g5
     case y6g5 => (intro w h; obtain ⟨s0, s1, s2, s3, s4, s5, s6, s7⟩ := h; go_simp; try with_reducible rfl)
     try simp only [getElem_toArray, getElem_cons_zero, getElem_cons_succ, Act.put, setIfInBounds_toArray, set_cons_zero, set_cons_succ]
     refine wpAnyH_ready (rs := [7]) (by kernel_rfl) (by simp) ?_
     refine AllReadyH.cons (o := _) rfl (fun K hK => ?_) AllReadyH.nil
     rw [if_pos (by rfl)]
     go_simp
     obtain ⟨s0, s1, s2, s3, s4, s5, s6, s7⟩ := hHeld
     refine (HLC.out _ (outB s7)).mono ?_
     rintro e8 w8 ⟨rfl, hb8⟩
     refine hK.out _ _ ⟨keepc hb8 s0, keepc hb8 s1, keepc hb8 s2, keepc hb8 s3, keepc hb8 s4, keepc hb8 s5, keepc hb8 s6, keepB s7 hb8⟩ (fun hHeld => ?_)
     clear hK K hb8 s0 s1 s2 s3 s4 s5 s6 s7
     try simp only [getElem_toArray, getElem_cons_zero, getElem_cons_succ, Act.put, setIfInBounds_toArray, set_cons_zero, set_cons_succ]
     refine tk (i := 8) (v := ?v8g5) rfl hHeld (Or.inl ⟨rfl, ?y8g5⟩) ?r8g5
     case y8g5 => (intro w h; obtain ⟨s0, s1, s2, s3, s4, s5, s6, s7⟩ := h; go_simp; try with_reducible rfl)
     try simp only [getElem_toArray, getElem_cons_zero, getElem_cons_succ, Act.put, setIfInBounds_toArray, set_cons_zero, set_cons_succ]
     refine tk (i := 9) (v := ?v9g5) rfl hHeld (Or.inl ⟨rfl, ?y9g5⟩) ?r9g5
     case y9g5 => (intro w h; obtain ⟨s0, s1, s2, s3, s4, s5, s6, s7⟩ := h; go_simp; try with_reducible rfl)
     try simp only [getElem_toArray, getElem_cons_zero, getElem_cons_succ, Act.put, setIfInBounds_toArray, set_cons_zero, set_cons_succ]
     refine tku (i := 10) rfl hHeld rfl ?_
     try simp only [getElem_toArray, getElem_cons_zero, getElem_cons_succ, Act.put, setIfInBounds_toArray, set_cons_zero, set_cons_succ]
     refine tku (i := 11) rfl hHeld rfl ?_
     try simp only [getElem_toArray, getElem_cons_zero, getElem_cons_succ, Act.put, setIfInBounds_toArray, set_cons_zero, set_cons_succ]
     refine tku (i := 12) rfl hHeld rfl ?_
     try simp only [getElem_toArray, getElem_cons_zero, getElem_cons_succ, Act.put, setIfInBounds_toArray, set_cons_zero, set_cons_succ]
     refine tku (i := 13) rfl hHeld rfl ?_
     try simp only [getElem_toArray, getElem_cons_zero, getElem_cons_succ, Act.put, setIfInBounds_toArray, set_cons_zero, set_cons_succ]
     refine tku (i := 14) rfl hHeld rfl ?_
     try simp only [getElem_toArray, getElem_cons_zero, getElem_cons_succ, Act.put, setIfInBounds_toArray, set_cons_zero, set_cons_succ]
     refine tku (i := 15) rfl hHeld rfl ?_
     try simp only [getElem_toArray, getElem_cons_zero, getElem_cons_succ, Act.put, setIfInBounds_toArray, set_cons_zero, set_cons_succ]
     refine tku (i := 16) rfl hHeld rfl ?_
     try simp only [getElem_toArray, getElem_cons_zero, getElem_cons_succ, Act.put, setIfInBounds_toArray, set_cons_zero, set_cons_succ]
     refine tku (i := 17) rfl hHeld rfl ?_
     try simp only [getElem_toArray, getElem_cons_zero, getElem_cons_succ, Act.put, setIfInBounds_toArray, set_cons_zero, set_cons_succ]
     refine tku (i := 18) rfl hHeld rfl ?_
     try simp only [getElem_toArray, getElem_cons_zero, getElem_cons_succ, Act.put, setIfInBounds_toArray, set_cons_zero, set_cons_succ]
     refine tku (i := 19) rfl hHeld rfl ?_
     try simp only [getElem_toArray, getElem_cons_zero, getElem_cons_succ, Act.put, setIfInBounds_toArray, set_cons_zero, set_cons_succ]
     refine tku (i := 20) rfl hHeld rfl ?_
     try simp only [getElem_toArray, getElem_cons_zero, getElem_cons_succ, Act.put, setIfInBounds_toArray, set_cons_zero, set_cons_succ]
     refine tku (i := 21) rfl hHeld rfl ?_
     try simp only [getElem_toArray, getElem_cons_zero, getElem_cons_succ, Act.put, setIfInBounds_toArray, set_cons_zero, set_cons_succ]
     refine tku (i := 22) rfl hHeld rfl ?_
     try simp only [getElem_toArray, getElem_cons_zero, getElem_cons_succ, Act.put, setIfInBounds_toArray, set_cons_zero, set_cons_succ]
     refine tku (i := 23) rfl hHeld rfl ?_
     try simp only [getElem_toArray, getElem_cons_zero, getElem_cons_succ, Act.put, setIfInBounds_toArray, set_cons_zero, set_cons_succ]
     refine tk (i := 24) (v := ?v24g5) rfl hHeld (Or.inl ⟨rfl, ?y24g5⟩) ?r24g5
     case y24g5 => (intro w h; obtain ⟨s0, s1, s2, s3, s4, s5, s6, s7⟩ := h; go_simp; try with_reducible rfl)
     try simp only [getElem_toArray, getElem_cons_zero, getElem_cons_succ, Act.put, setIfInBounds_toArray, set_cons_zero, set_cons_succ]
     refine wpAnyH_done (by kernel_rfl) ?_ _
     have HW := keepB hb hHeld.2.2.2.2.2.2.2
     clear hHeld
     go_wp2
     go_ret
     exact ⟨by rw [HE.out]; rfl, HW.out⟩
  ·have HE : Hid (depotB now l = true) := by
    obtain rfl : k = l.length := by omega
    exact HEX.out.trans hall.out
   go_wp2
   go_ret
   exact ⟨by rw [HE.out]; rfl, hb.out⟩
end Go.Proofs.YtafeepdlcilicaaGreat.Q

-- A1
namespace Go.Proofs.YtafeepdlcilicaaGreat.Q
open Go.WideMaps Go.RowKit Go.Proofs.YtafeepdlcilicaaGreatW.PrintWords Go.Proofs.YtafeepdlcilicaaGreatW.PrintLast Go.Proofs.YtafeepdlcilicaaGreatW.PrintMore Go.Maps
set_option linter.unusedVariables false
set_option linter.unusedSimpArgs false

/-! ### names and items in order -/
theorem bytes_inj {a b : ByteArray} (h : a.data.toList = b.data.toList) : a = b := by
 cases a; cases b
 congr 1
 exact Array.ext' h
theorem lit_ne {a b : ByteArray} (h : a ≠ b) : (Lit.string a.data.toList) ≠ Lit.string b.data.toList := fun e => h (bytes_inj (by injection e))
theorem cb_cons (a b : UInt8) (x y : List UInt8) : Go.Lib.compareBytes (a :: x) (b :: y) = if a < b then -1 else if b < a then 1 else Go.Lib.compareBytes x y := rfl
theorem u8_cases (a b : UInt8) : a < b ∨ a = b ∨ b < a := by
 rcases Nat.lt_trichotomy a.toNat b.toNat with h | h | h
 ·exact Or.inl (UInt8.lt_iff_toNat_lt.2 h)
 ·exact Or.inr (Or.inl (UInt8.toNat_inj.1 h))
 ·exact Or.inr (Or.inr (UInt8.lt_iff_toNat_lt.2 h))
theorem u8_irrefl (a : UInt8) : ¬ a < a := fun h => Nat.lt_irrefl _ (UInt8.lt_iff_toNat_lt.1 h)
theorem u8_asymm {a b : UInt8} (h : a < b) : ¬ b < a := fun h' => by
 have h1 := UInt8.lt_iff_toNat_lt.1 h
 have h2 := UInt8.lt_iff_toNat_lt.1 h'
 omega
theorem u8_trans {a b c : UInt8} (h : a < b) (h' : b < c) : a < c := UInt8.lt_iff_toNat_lt.2 (Nat.lt_trans (UInt8.lt_iff_toNat_lt.1 h) (UInt8.lt_iff_toNat_lt.1 h'))
theorem cb_refl : ∀ x : List UInt8, Go.Lib.compareBytes x x = 0
 | [] => rfl
 | a :: x => by rw [cb_cons, if_neg (u8_irrefl a), if_neg (u8_irrefl a)]; exact cb_refl x
theorem cb_eq : ∀ {x y : List UInt8}, Go.Lib.compareBytes x y = 0 → x = y
 | [], [], _ => rfl
 | [], _ :: _, h => by exact absurd h (by simp [Go.Lib.compareBytes])
 | _ :: _, [], h => by exact absurd h (by simp [Go.Lib.compareBytes])
 | a :: x, b :: y, h => by
  rw [cb_cons] at h
  rcases u8_cases a b with h1 | rfl | h1
  ·rw [if_pos h1] at h; exact absurd h (by decide)
  ·rw [if_neg (u8_irrefl a), if_neg (u8_irrefl a)] at h; rw [cb_eq h]
  ·rw [if_neg (u8_asymm h1), if_pos h1] at h; exact absurd h (by decide)
theorem cb_neg : ∀ x y : List UInt8, Go.Lib.compareBytes y x = - Go.Lib.compareBytes x y
 | [], [] => rfl
 | [], _ :: _ => rfl
 | _ :: _, [] => rfl
 | a :: x, b :: y => by
  rw [cb_cons, cb_cons]
  rcases u8_cases a b with h1 | rfl | h1
  ·rw [if_neg (u8_asymm h1), if_pos h1, if_pos h1]; rfl
  ·simp only [if_neg (u8_irrefl a)]; exact cb_neg x y
  ·rw [if_pos h1, if_neg (u8_asymm h1), if_pos h1]
theorem cb_trans : ∀ {x y z : List UInt8}, Go.Lib.compareBytes x y < 0 → Go.Lib.compareBytes y z < 0 → Go.Lib.compareBytes x z < 0
 | [], [], _, h, _ => by exact absurd h (by decide)
 | [], _ :: _, [], _, h => by exact absurd h (by simp [Go.Lib.compareBytes])
 | [], _ :: _, _ :: _, _, _ => by simp [Go.Lib.compareBytes]
 | _ :: _, [], _, h, _ => by exact absurd h (by simp [Go.Lib.compareBytes])
 | _ :: _, _ :: _, [], _, h => by exact absurd h (by simp [Go.Lib.compareBytes])
 | a :: x, b :: y, c :: z, h, h' => by
  rw [cb_cons] at h h' ⊢
  rcases u8_cases a b with h1 | rfl | h1
  ·rcases u8_cases b c with h2 | rfl | h2
   ·rw [if_pos (u8_trans h1 h2)]; decide
   ·rw [if_pos h1]; decide
   ·rw [if_neg (u8_asymm h2), if_pos h2] at h'; exact absurd h' (by decide)
  ·rcases u8_cases a c with h2 | rfl | h2
   ·rw [if_pos h2]; decide
   ·rw [if_neg (u8_irrefl a), if_neg (u8_irrefl a)] at h h' ⊢
    exact cb_trans h h'
   ·rw [if_neg (u8_asymm h2), if_pos h2] at h'; exact absurd h' (by decide)
  ·rw [if_neg (u8_asymm h1), if_pos h1] at h; exact absurd h (by decide)
/-- a stands ahead of b. -/
def ltN (a b : ByteArray) : Prop := Go.Lib.compareBytes a.data.toList b.data.toList < 0
theorem ltN_irrefl (a : ByteArray) : ¬ ltN a a := by unfold ltN; rw [cb_refl]; decide
theorem ltN_trans {a b c : ByteArray} (h : ltN a b) (h' : ltN b c) : ltN a c := cb_trans h h'
theorem ltN_asymm {a b : ByteArray} (h : ltN a b) : ¬ ltN b a := fun h' => ltN_irrefl a (ltN_trans h h')
theorem ltN_of {a b : ByteArray} (h : a ≠ b) (h' : ¬ ltN b a) : ltN a b := by
 unfold ltN at *
 have h1 := cb_neg a.data.toList b.data.toList
 have h2 : Go.Lib.compareBytes a.data.toList b.data.toList ≠ 0 := fun e => h (bytes_inj (cb_eq e))
 omega
theorem same11_from (xs : List S43) (hx : xs.length ≤ 1000000) : ∀ (n i : Nat), i + n = xs.length → cellarerref11_Same.l0 (n + 1) xs xs (i : Int) = some true
 | 0, i, h => by
  unfold cellarerref11_Same.l0
  rw [if_neg (by omega)]
 | n + 1, i, h => by
  unfold cellarerref11_Same.l0
  rw [if_pos (by omega), if_pos (by omega), if_pos (by omega), if_neg (by simp)]
  have e : wrap64 ((i : Int) + 1) = ((i + 1 : Nat) : Int) := by unfold wrap64; omega
  rw [e]
  exact same11_from xs hx n (i + 1) (by omega)
theorem same11_self (xs : List S43) (hx : xs.length ≤ 1000000) (k : Nat) (hk : xs.length + 1 ≤ k) : cellarerref11_Same.f k xs xs = some true := by
 have h : cellarerref11_Same.f (xs.length + 1) xs xs = some true := by
  unfold cellarerref11_Same.f
  rw [if_pos rfl]
  exact same11_from xs hx xs.length 0 (by omega)
 obtain ⟨d, rfl⟩ : ∃ d, k = xs.length + 1 + d := ⟨k - (xs.length + 1), by omega⟩
 induction d with
 | zero => exact h
 | succ d ih => exact cellarerref11_Same.mono _ _ _ _ (ih (by omega))
theorem bytes_eq {a b : ByteArray} (h : a.toList = b.toList) : a = b := by
 rw [Lib.toList_data, Lib.toList_data] at h
 cases a; cases b
 congr 1
 exact Array.toList_inj.1 h
def keepI (s : ByteArray) (it : S43) : Bool := !(it.f0.toList == s.toList)
theorem bless_iff : ∀ x y : List UInt8, Op.bytesLess x y = true ↔ Go.Lib.compareBytes x y < 0
 | [], [] => by simp [Op.bytesLess, Go.Lib.compareBytes]
 | [], b :: y => by simp [Op.bytesLess, Go.Lib.compareBytes]
 | a :: x, [] => by simp [Op.bytesLess, Go.Lib.compareBytes]
 | a :: x, b :: y => by
  have ih := bless_iff x y
  unfold Op.bytesLess
  rw [cb_cons]
  by_cases h1 : a < b
  ·simp [h1]
  ·by_cases h2 : b < a
   ·have h3 : a ≠ b := fun e => by subst e; exact h1 h2
    simp [h1, h2, h3]
   ·have e : a = b := UInt8.toNat_inj.1 (Nat.le_antisymm (Nat.le_of_not_lt h2) (Nat.le_of_not_lt h1))
    subst e
    simp only [h1, decide_false, Bool.false_or, beq_self_eq_true, Bool.true_and, if_false]
    exact ih
theorem bless_ltN {a b : ByteArray} : Op.bytesLess a.toList b.toList = true ↔ ltN a b := by
 rw [Lib.toList_data, Lib.toList_data, bless_iff]
 rfl
def SI (xs : List S43) : Prop := xs.Pairwise (fun a b => ltN a.f0 b.f0)
theorem sortedI_ext : ∀ {xs ys : List S43}, SI xs → SI ys → (∀ n, n ∈ xs ↔ n ∈ ys) → xs = ys
 | [], [], _, _, _ => rfl
 | [], y :: ys, _, _, h => by exact absurd ((h y).2 List.mem_cons_self) (by simp)
 | x :: xs, [], _, _, h => by exact absurd ((h x).1 List.mem_cons_self) (by simp)
 | x :: xs, y :: ys, hx, hy, h => by
  unfold SI at hx hy
  rw [List.pairwise_cons] at hx hy
  have e : x = y := by
   rcases List.mem_cons.1 ((h x).1 List.mem_cons_self) with e | h1
   ·exact e
   ·rcases List.mem_cons.1 ((h y).2 List.mem_cons_self) with e | h2
    ·exact e.symm
    ·exact absurd (hx.1 y h2) (ltN_asymm (hy.1 x h1))
  subst e
  rw [sortedI_ext (xs := xs) (ys := ys) hx.2 hy.2 (fun n => ?_)]
  constructor
  ·intro hn
   rcases List.mem_cons.1 ((h n).1 (List.mem_cons_of_mem _ hn)) with rfl | h1
   ·exact absurd (hx.1 n hn) (ltN_irrefl _)
   ·exact h1
  ·intro hn
   rcases List.mem_cons.1 ((h n).2 (List.mem_cons_of_mem _ hn)) with rfl | h1
   ·exact absurd (hy.1 n hn) (ltN_irrefl _)
   ·exact h1
def upI (a : ByteArray) (it : S43) : Bool := Op.bytesLess a.toList it.f0.toList
def dnI (a : ByteArray) (it : S43) : Bool := Op.bytesLess it.f0.toList a.toList
theorem upI_lt {a : ByteArray} {it : S43} : upI a it = true ↔ ltN a it.f0 := bless_ltN
theorem dnI_lt {a : ByteArray} {it : S43} : dnI a it = true ↔ ltN it.f0 a := bless_ltN
def inL (out : List S43) (x : S43) : List S43 := out.filter (dnI x.f0) ++ [x] ++ out.filter (upI x.f0)
theorem inL_SI {out : List S43} (h : SI out) (x : S43) : SI (inL out x) := by
 unfold SI inL at *
 rw [List.pairwise_append, List.pairwise_append]
 refine ⟨⟨h.filter _, List.pairwise_singleton _ _, fun a ha b hb => ?_⟩, h.filter _, fun a ha b hb => ?_⟩
 ·rw [List.mem_singleton.1 hb]
  exact dnI_lt.1 (List.mem_filter.1 ha).2
 ·have hb2 := upI_lt.1 (List.mem_filter.1 hb).2
  rcases List.mem_append.1 ha with ha | ha
  ·exact ltN_trans (dnI_lt.1 (List.mem_filter.1 ha).2) hb2
  ·rw [List.mem_singleton.1 ha]; exact hb2
theorem inL_mem {out : List S43} {x it : S43} : it ∈ inL out x ↔ it = x ∨ (it ∈ out ∧ it.f0 ≠ x.f0) := by
 unfold inL
 rw [List.mem_append, List.mem_append, List.mem_filter, List.mem_filter, List.mem_singleton, dnI_lt, upI_lt]
 constructor
 ·rintro ((⟨h, h1⟩ | h) | ⟨h, h1⟩)
  ·exact Or.inr ⟨h, fun e => by rw [e] at h1; exact ltN_irrefl _ h1⟩
  ·exact Or.inl h
  ·exact Or.inr ⟨h, fun e => by rw [e] at h1; exact ltN_irrefl _ h1⟩
 ·rintro (h | ⟨h, h1⟩)
  ·exact Or.inl (Or.inr h)
  ·by_cases h2 : ltN it.f0 x.f0
   ·exact Or.inl (Or.inl ⟨h, h2⟩)
   ·exact Or.inr ⟨h, ltN_of (fun e => h1 e.symm) h2⟩
theorem take_snoc {α : Type} (l : List α) (k : Nat) (h : k < l.length) : l.take (k + 1) = l.take k ++ [l[k]] := by
 rw [List.take_add_one, List.getElem?_eq_getElem h]; rfl
theorem take_snoc35 (l : List S43) (k : Nat) (h : k < l.length) : l.take (k + 1) = l.take k ++ [l[k]] := by rw [List.take_succ_eq_append_getElem h]
def stepI (out : List S43) (c : S66) : List S43 := if c.f2 = true then (inL out ⟨c.f0, c.f1⟩).filter (keepI c.f0) else inL out ⟨c.f0, c.f1⟩
theorem stepI_SI {out : List S43} (h : SI out) (c : S66) : SI (stepI out c) := by
 unfold stepI
 split
 ·exact (inL_SI h _).filter _
 ·exact inL_SI h _
end Go.Proofs.YtafeepdlcilicaaGreat.Q

-- A2
namespace Go.Proofs.YtafeepdlcilicaaGreat.Q
open Go.RowKit Go.Proofs.YtafeepdlcilicaaGreatW.PrintWords Go.Proofs.YtafeepdlcilicaaGreatW.PrintLast Go.Proofs.YtafeepdlcilicaaGreatW.PrintMore
set_option linter.unusedVariables false
set_option linter.unusedSimpArgs false

/-! ### items as a function of names -/
def putF (f : ByteArray → Option ByteArray) (a b : ByteArray) : ByteArray → Option ByteArray := fun nm => if nm = a then some b else f nm
def delF (f : ByteArray → Option ByteArray) (a : ByteArray) : ByteArray → Option ByteArray := fun nm => if nm = a then none else f nm
def valF (f : ByteArray → Option ByteArray) (l : List S43) : ByteArray → Option ByteArray := l.foldl (fun g x => putF g x.f0 x.f1) f
def valL (l : List S43) : ByteArray → Option ByteArray := valF (fun _ => none) l
def stepF (f : ByteArray → Option ByteArray) (c : S66) : ByteArray → Option ByteArray := if c.f2 = true then delF f c.f0 else putF f c.f0 c.f1
def chgF (f : ByteArray → Option ByteArray) (C : List S66) : ByteArray → Option ByteArray := C.foldl stepF f
def RepF (xs : List S43) (f : ByteArray → Option ByteArray) : Prop := ∀ it : S43, it ∈ xs ↔ f it.f0 = some it.f1
def normFrom (out l : List S43) : List S43 := l.foldl inL out
def normL (l : List S43) : List S43 := normFrom [] l
def withL (out : List S43) (C : List S66) : List S43 := C.foldl stepI out
theorem repF_nil : RepF [] (fun _ => none) := fun it => ⟨fun h => (by cases h), fun h => (by cases h)⟩
theorem repF_in {out : List S43} {f : ByteArray → Option ByteArray} (h : RepF out f) (x : S43) : RepF (inL out x) (putF f x.f0 x.f1) := by
 intro it
 rw [inL_mem, h it]
 unfold putF
 by_cases e : it.f0 = x.f0
 ·rw [if_pos e]
  constructor
  ·rintro (rfl | ⟨_, hn⟩)
   ·rfl
   ·exact absurd e hn
  ·intro hh
   injection hh with hh
   left
   obtain ⟨i0, i1⟩ := it
   obtain ⟨x0, x1⟩ := x
   simp only at e hh
   rw [e, hh]
 ·rw [if_neg e]
  constructor
  ·rintro (rfl | ⟨hh, _⟩)
   ·exact absurd rfl e
   ·exact hh
  ·exact fun hh => .inr ⟨hh, e⟩
theorem keepI_iff {s : ByteArray} {it : S43} : keepI s it = true ↔ it.f0 ≠ s := by
 unfold keepI
 simp only [Bool.not_eq_true', beq_eq_false_iff_ne]
 exact ⟨fun h e => h (by rw [e]), fun h e => h (bytes_eq e)⟩
theorem repF_step {out : List S43} {f : ByteArray → Option ByteArray} (h : RepF out f) (c : S66) : RepF (stepI out c) (stepF f c) := by
 unfold stepI stepF
 split
 ·intro it
  rw [List.mem_filter, keepI_iff, repF_in h ⟨c.f0, c.f1⟩ it]
  unfold putF delF
  by_cases e : it.f0 = c.f0
  ·rw [if_pos e, if_pos e]
   exact ⟨fun hh => absurd e hh.2, fun hh => by cases hh⟩
  ·rw [if_neg e, if_neg e]
   exact ⟨fun hh => hh.1, fun hh => ⟨hh, e⟩⟩
 ·exact repF_in h ⟨c.f0, c.f1⟩
theorem normFrom_ok : ∀ (l out : List S43) (f : ByteArray → Option ByteArray), SI out → RepF out f → SI (normFrom out l) ∧ RepF (normFrom out l) (valF f l)
 | [], out, f, h, hr => ⟨h, hr⟩
 | x :: l, out, f, h, hr => normFrom_ok l (inL out x) _ (inL_SI h x) (repF_in hr x)
theorem normL_ok (l : List S43) : SI (normL l) ∧ RepF (normL l) (valL l) := normFrom_ok l [] _ List.Pairwise.nil repF_nil
theorem withL_ok : ∀ (C : List S66) (out : List S43) (f : ByteArray → Option ByteArray), SI out → RepF out f → SI (withL out C) ∧ RepF (withL out C) (chgF f C)
 | [], out, f, h, hr => ⟨h, hr⟩
 | c :: C, out, f, h, hr => withL_ok C (stepI out c) _ (stepI_SI h c) (repF_step hr c)
theorem repF_unique {xs ys : List S43} {f : ByteArray → Option ByteArray} (h1 : SI xs) (h2 : SI ys) (r1 : RepF xs f) (r2 : RepF ys f) : xs = ys :=
 sortedI_ext h1 h2 (fun it => (r1 it).trans (r2 it).symm)
theorem normFrom_self (x0 : List S43) (h : SI x0) : ∀ (n i : Nat), i + n = x0.length → normFrom (x0.take i) (x0.drop i) = x0
 | 0, i, e => by
  rw [List.drop_eq_nil_of_le (by omega), List.take_of_length_le (by omega)]; rfl
 | n + 1, i, e => by
  have hi : i < x0.length := by omega
  have hlt : ∀ a ∈ x0.take i, ltN a.f0 x0[i].f0 := by
   intro a ha
   obtain ⟨j, hj, rfl⟩ := List.getElem_of_mem ha
   rw [List.length_take] at hj
   rw [List.getElem_take]
   exact List.pairwise_iff_getElem.1 h j i (by omega) hi (by omega)
  have e2 : inL (x0.take i) x0[i] = x0.take (i + 1) := by
   unfold inL
   rw [List.filter_eq_self.2 (fun a ha => dnI_lt.2 (hlt a ha)), List.filter_eq_nil_iff.2 (fun a ha => by rw [upI_lt]; exact ltN_asymm (hlt a ha)), List.append_nil, take_snoc35 x0 i hi]
  rw [List.drop_eq_getElem_cons hi]
  show normFrom (inL (x0.take i) x0[i]) (x0.drop (i + 1)) = x0
  rw [e2]
  exact normFrom_self x0 h n (i + 1) (by omega)
theorem normL_self {x0 : List S43} (h : SI x0) : normL x0 = x0 := by
 have := normFrom_self x0 h x0.length 0 (by omega)
 rwa [List.take_zero, List.drop_zero] at this
theorem repF_self {x0 : List S43} (h : SI x0) : RepF x0 (valL x0) := by
 have := (normL_ok x0).2
 rwa [normL_self h] at this
theorem normFrom_len : ∀ (l out : List S43), SI out → (normFrom out l).length ≤ out.length + l.length
 | [], out, _ => Nat.le_refl _
 | x :: l, out, h => by
  have h1 := normFrom_len l (inL out x) (inL_SI h x)
  have h2 : (inL out x).length ≤ out.length + 1 := by
   unfold inL
   have hp : (out.filter (dnI x.f0)).length + (out.filter (upI x.f0)).length ≤ out.length := by
    clear h h1
    induction out with
    | nil => exact Nat.le_refl _
    | cons y ys ih =>
     by_cases a : dnI x.f0 y = true
     ·have b : ¬ upI x.f0 y = true := by rw [upI_lt]; exact ltN_asymm (dnI_lt.1 a)
      rw [List.filter_cons_of_pos a, List.filter_cons_of_neg b, List.length_cons, List.length_cons]; omega
     ·by_cases b : upI x.f0 y = true
      ·rw [List.filter_cons_of_neg a, List.filter_cons_of_pos b, List.length_cons, List.length_cons]; omega
      ·rw [List.filter_cons_of_neg a, List.filter_cons_of_neg b, List.length_cons]; omega
   rw [List.length_append, List.length_append, List.length_singleton]
   omega
  show (normFrom (inL out x) l).length ≤ _
  rw [List.length_cons]
  omega
/-! ### changes between -/
def SC (xs : List S66) : Prop := xs.Pairwise (fun a b => ltN a.f0 b.f0)
def diffF (fa fb : ByteArray → Option ByteArray) (nm : ByteArray) : Option S66 :=
 match fb nm, fa nm with
 | some s, some t => if t = s then none else some ⟨nm, s, false⟩
 | some s, none => some ⟨nm, s, false⟩
 | none, some _ => some ⟨nm, ⟨#[]⟩, true⟩
 | none, none => none
def diffL (a b : List S43) : List S66 := (normFrom (normL a) b).filterMap (fun it => diffF (valL a) (valL b) it.f0)
theorem diffF_name {fa fb : ByteArray → Option ByteArray} {nm : ByteArray} {c : S66} (h : diffF fa fb nm = some c) : c.f0 = nm := by
 unfold diffF at h
 split at h
 ·split at h
  ·cases h
  ·injection h with h; rw [← h]
 ·injection h with h; rw [← h]
 ·injection h with h; rw [← h]
 ·cases h
theorem diffF_none {fa fb : ByteArray → Option ByteArray} {nm : ByteArray} : diffF fa fb nm = none ↔ fa nm = fb nm := by
 unfold diffF
 cases fb nm <;> cases fa nm <;> simp <;> try rfl
theorem sortedC_ext : ∀ {xs ys : List S66}, SC xs → SC ys → (∀ n, n ∈ xs ↔ n ∈ ys) → xs = ys
 | [], [], _, _, _ => rfl
 | [], y :: ys, _, _, h => by exact absurd ((h y).2 List.mem_cons_self) (by simp)
 | x :: xs, [], _, _, h => by exact absurd ((h x).1 List.mem_cons_self) (by simp)
 | x :: xs, y :: ys, hx, hy, h => by
  unfold SC at hx hy
  rw [List.pairwise_cons] at hx hy
  have e : x = y := by
   rcases List.mem_cons.1 ((h x).1 List.mem_cons_self) with e | h1
   ·exact e
   ·rcases List.mem_cons.1 ((h y).2 List.mem_cons_self) with e | h2
    ·exact e.symm
    ·exact absurd (hx.1 y h2) (ltN_asymm (hy.1 x h1))
  subst e
  rw [sortedC_ext (xs := xs) (ys := ys) hx.2 hy.2 (fun n => ?_)]
  constructor
  ·intro hn
   rcases List.mem_cons.1 ((h n).1 (List.mem_cons_of_mem _ hn)) with rfl | h1
   ·exact absurd (hx.1 n hn) (ltN_irrefl _)
   ·exact h1
  ·intro hn
   rcases List.mem_cons.1 ((h n).2 (List.mem_cons_of_mem _ hn)) with rfl | h1
   ·exact absurd (hy.1 n hn) (ltN_irrefl _)
   ·exact h1
theorem fm_SC (g : ByteArray → Option S66) (hg : ∀ nm c, g nm = some c → c.f0 = nm) : ∀ xs : List S43, SI xs → SC (xs.filterMap fun it => g it.f0)
 | [], _ => List.Pairwise.nil
 | x :: xs, h => by
  unfold SI at h
  rw [List.pairwise_cons] at h
  rw [List.filterMap_cons]
  cases hx : g x.f0 with
  | none => exact fm_SC g hg xs h.2
  | some c =>
   unfold SC
   rw [List.pairwise_cons]
   refine ⟨fun d hd => ?_, fm_SC g hg xs h.2⟩
   obtain ⟨y, hy, hy2⟩ := List.mem_filterMap.1 hd
   rw [hg _ _ hx, hg _ _ hy2]
   exact h.1 y hy
theorem diffL_SC (a b : List S43) : SC (diffL a b) := fm_SC _ (fun _ _ h => diffF_name h) _ (normFrom_ok b _ _ (normL_ok a).1 (normL_ok a).2).1
theorem valF_some : ∀ (l : List S43) (f : ByteArray → Option ByteArray) (nm : ByteArray), (valF f l nm).isSome = true ↔ (f nm).isSome = true ∨ ∃ x ∈ l, x.f0 = nm
 | [], f, nm => by simp [valF]
 | x :: l, f, nm => by
  show (valF (putF f x.f0 x.f1) l nm).isSome = true ↔ _
  rw [valF_some l]
  unfold putF
  by_cases e : nm = x.f0
  ·rw [if_pos e]; simp [e]
  ·rw [if_neg e]
   constructor
   ·rintro (h | ⟨y, h1, h2⟩)
    ·exact .inl h
    ·exact .inr ⟨y, List.mem_cons_of_mem _ h1, h2⟩
   ·rintro (h | ⟨y, h1, h2⟩)
    ·exact .inl h
    ·rcases List.mem_cons.1 h1 with rfl | h1
     ·exact absurd h2.symm e
     ·exact .inr ⟨y, h1, h2⟩
theorem diffL_mem (a b : List S43) (c : S66) : c ∈ diffL a b ↔ diffF (valL a) (valL b) c.f0 = some c := by
 unfold diffL
 rw [List.mem_filterMap]
 constructor
 ·rintro ⟨it, _, h⟩
  have := diffF_name h
  rw [this]; exact h
 ·intro h
  obtain ⟨_, hr⟩ := normFrom_ok b _ _ (normL_ok a).1 (normL_ok a).2
  have hs : (valF (valL a) b c.f0).isSome = true := by
   rw [valF_some]
   by_cases e : (valL a c.f0).isSome = true
   ·exact .inl e
   ·right
    have hb : (valL b c.f0).isSome = true := by
     cases h1 : valL b c.f0 with
     | some s => rfl
     | none =>
      have h2 : valL a c.f0 = none := by simpa using e
      exact absurd ((diffF_none (fa := valL a) (fb := valL b)).2 (by rw [h1, h2])) (by rw [h]; simp)
    have := (valF_some b (fun _ => none) c.f0).1 hb
    rcases this with h1 | h1
    ·cases h1
    ·exact h1
  obtain ⟨s, hs⟩ := Option.isSome_iff_exists.1 hs
  exact ⟨⟨c.f0, s⟩, (hr ⟨c.f0, s⟩).2 hs, h⟩
theorem diffL_len (a b : List S43) : (diffL a b).length ≤ a.length + b.length := by
 unfold diffL
 refine Nat.le_trans (List.length_filterMap_le _ _) ?_
 have h1 := normFrom_len b (normL a) (normL_ok a).1
 have h2 := normFrom_len a [] List.Pairwise.nil
 unfold normL at h1 ⊢
 simp at h2
 omega
/-- A sorted run of changes, as a function. -/
theorem chgF_at : ∀ (C : List S66) (f : ByteArray → Option ByteArray) (nm : ByteArray), SC C → chgF f C nm = (match C.find? (fun c => decide (c.f0 = nm)) with | none => f nm | some c => if c.f2 = true then none else some c.f1)
 | [], f, nm, _ => rfl
 | c :: C, f, nm, h => by
  unfold SC at h
  rw [List.pairwise_cons] at h
  show chgF (stepF f c) C nm = _
  rw [chgF_at C (stepF f c) nm h.2]
  by_cases e : c.f0 = nm
  ·rw [List.find?_cons_of_pos (by simpa using e)]
   have hn : C.find? (fun c => decide (c.f0 = nm)) = none := by
    rw [List.find?_eq_none]
    intro d hd
    simp only [decide_eq_true_eq]
    intro e2
    have := h.1 d hd
    rw [e, e2] at this
    exact ltN_irrefl _ this
   rw [hn]
   simp only
   unfold stepF delF putF
   split
   ·simp [e]
   ·simp [e]
  ·rw [List.find?_cons_of_neg (by simpa using e)]
   cases C.find? (fun c => decide (c.f0 = nm)) with
   | some d => rfl
   | none =>
    simp only
    unfold stepF delF putF
    have e' : ¬ nm = c.f0 := fun h => e h.symm
    split <;> simp [e']
theorem chgF_diff (a b : List S43) : chgF (valL a) (diffL a b) = valL b := by
 funext nm
 rw [chgF_at _ _ _ (diffL_SC a b)]
 cases hf : (diffL a b).find? (fun c => decide (c.f0 = nm)) with
 | none =>
  simp only
  rw [List.find?_eq_none] at hf
  rw [← diffF_none]
  cases hd : diffF (valL a) (valL b) nm with
  | none => rfl
  | some c =>
   have hn := diffF_name hd
   have hm := (diffL_mem a b c).2 (by rw [hn]; exact hd)
   exact absurd (by simpa using hn) (hf c hm)
 | some c =>
  simp only
  have hm := List.mem_of_find?_eq_some hf
  have hn : c.f0 = nm := by simpa using List.find?_some hf
  have hd := (diffL_mem a b c).1 hm
  rw [hn] at hd
  unfold diffF at hd
  split at hd
  ·rename_i h1 h2
   split at hd
   ·cases hd
   ·injection hd with hd; subst hd; rw [h1]; rfl
  ·rename_i h1 h2
   injection hd with hd; subst hd; rw [h1]; rfl
  ·rename_i h1 h2
   injection hd with hd; subst hd; rw [h1]; rfl
  ·cases hd
/-- Items behind the changes to others are those. -/
theorem with_diff {x y : List S43} (hx : SI x) (hy : SI y) : withL (normL x) (diffL x y) = y := by
 rw [normL_self hx]
 obtain ⟨h1, h2⟩ := withL_ok (diffL x y) x _ hx (repF_self hx)
 rw [chgF_diff] at h2
 exact repF_unique h1 hy h2 (repF_self hy)
end Go.Proofs.YtafeepdlcilicaaGreat.Q

-- G1
namespace Go.Proofs.YtafeepdlcilicaaGreat.Q
open Go.RowKit
/-! ### sizes of the elements that are appended -/
theorem info43 : (Tryz.prog.info? 43).map (fun i => (i.zero, i.size, i.bytes)) = some (some (.agg #[(.string ⟨#[]⟩), (.string ⟨#[]⟩)]), 2, 32) := by kernel_rfl
theorem info66 : (Tryz.prog.info? 66).map (fun i => (i.zero, i.size, i.bytes)) = some (some (.agg #[(.string ⟨#[]⟩), (.string ⟨#[]⟩), (.bool false)]), 3, 40) := by kernel_rfl
theorem info9 : (Tryz.prog.info? 9).map (fun i => (i.zero, i.size, i.bytes)) = some (some (.string ⟨#[]⟩), 1, 16) := by kernel_rfl
end Go.Proofs.YtafeepdlcilicaaGreat.Q

-- G2
namespace Go.Proofs.YtafeepdlcilicaaGreat.Q
open Go.RowKit Go.Proofs.YtafeepdlcilicaaGreatW.PrintWords Go.Proofs.YtafeepdlcilicaaGreatW.PrintLast Go.Proofs.YtafeepdlcilicaaGreatW.PrintMore
set_option linter.unusedVariables false
/-! ### sizes; blocks of two and of three cells -/
theorem info_size9 : (Tryz.prog.info? 9).map (·.size) = some 1 := by kernel_rfl
theorem info_size43 : (Tryz.prog.info? 43).map (·.size) = some 2 := by kernel_rfl
theorem info_size66 : (Tryz.prog.info? 66).map (·.size) = some 3 := by kernel_rfl
theorem belowA (w : World) (o : Obj) : Below w.heap.size w (w.alloc o) := (Below.refl _ _).alloc (Nat.le_refl _) o
end Go.Proofs.YtafeepdlcilicaaGreat.Q

-- Shelf
/-
 DERIVED: THE SHELF's CONTRACTS AT THIS DUMP, IN PLAIN WORDS (tools/lay-plain.mjs out of 'TryzShelf.lean', which tools/lay-shelf.mjs wrote): THE SAME DECLARATIONS UNDER THE SAME NAMES: 'import', 'namespace', 'open', 'def', 'theorem' AND NOTHING ELSE: no command of the shelf's: FOR A HAND-IN. Each laying: the table of numbers ('.._ren') and one theorem, a field a fact of the dump's own or the kernel's comparison; each contract: ONE APPLICATION.
-/
namespace Go.Proofs
open Go.Shelf
def Tryz.lays169_ren : Go.Shelf.Ren := ⟨fun | 169 => 63 | n => n, fun | 70 => 107 | 9 => 9 | 0 => 0 | 72 => 110 | 37 => 108 | 127 => 167 | 3 => 3 | 5 => 5 | n => n, fun | n => n⟩
theorem Tryz.lays169 : Go.Proofs.Lays.n169 Tryz.prog Tryz.lays169_ren := {
 mixed := by kernel_rfl
 f169 := Tryz.func63.trans (congrArg some (by kernel_rfl))
 t0 := Tryz.underlying0
 a0 := Tryz.isAgg0
 z0 := Tryz.sizeOf0
 v0 := Tryz.zeroValue0
 t3 := Tryz.underlying3
 a3 := Tryz.isAgg3
 z3 := Tryz.sizeOf3
 v3 := Tryz.zeroValue3
 t9 := Tryz.underlying9
 a9 := Tryz.isAgg9
 z9 := Tryz.sizeOf9
 v9 := Tryz.zeroValue9
 t37 := Tryz.underlying108
 a37 := Tryz.isAgg108
 z37 := Tryz.sizeOf108
 v37 := Tryz.zeroValue108
 t70 := Tryz.underlying107
 a70 := Tryz.isAgg107
 z70 := Tryz.sizeOf107
 v70 := Tryz.zeroValue107
 t72 := Tryz.underlying110
 a72 := Tryz.isAgg110
 z72 := Tryz.sizeOf110
 v72 := Tryz.zeroValue110
 t127 := Tryz.underlying167
 a127 := Tryz.isAgg167
 z127 := Tryz.sizeOf167
 v127 := Tryz.zeroValue167 }
theorem Tryz.Builder_Extra_169 : Builder.Extra Tryz.prog Tryz.lays169_ren := {
 sizeBuilder := by kernel_rfl
 liesBuilder := by kernel_rfl
 t5 := Tryz.underlying5
 a5 := Tryz.isAgg5
 z5 := Tryz.sizeOf5
 v5 := Tryz.zeroValue5
 infoByte := by kernel_rfl
 cellsByte := by kernel_rfl
 sizeByte := by kernel_rfl
 neB5 := by decide }
open Go.RowKit in
/-- (*strings.Builder).String: "String returns the accumulated string.": WHATEVER THE BUILDER HOLDS. (LAID: no walk: one application.) -/
theorem Tryz.Builder_String_any (B b : Nat) (l : List UInt8) (w : World) (h : Lib.IsBuilder 110 5 B b (Lib.byteCells l) w) (hBw : B ≤ w.heap.size) :
  Calls Tryz.prog 63 #[.pointer (some ⟨b, 0, none⟩)] w fun e w' => e = .returned (.string ⟨l.toArray⟩) ∧ Below B w w' := Any.Builder_String_any Tryz.lays169 Tryz.Builder_Extra_169 B b l w h hBw
def Tryz.lays125_ren : Go.Shelf.Ren := ⟨fun | 125 => 34 | 128 => 72 | 129 => 73 | n => n, fun | 46 => 85 | 3 => 3 | 51 => 126 | 53 => 33 | 4 => 4 | 5 => 5 | 9 => 9 | n => n, fun | n => n⟩
theorem Tryz.lays125 : Go.Proofs.Lays.n125 Tryz.prog Tryz.lays125_ren := {
 mixed := by kernel_rfl
 f125 := Tryz.func34.trans (congrArg some (by kernel_rfl))
 f128 := Tryz.func72.trans (congrArg some (by kernel_rfl))
 f129 := Tryz.func73.trans (congrArg some (by kernel_rfl))
 t3 := Tryz.underlying3
 a3 := Tryz.isAgg3
 z3 := Tryz.sizeOf3
 v3 := Tryz.zeroValue3
 t4 := Tryz.underlying4
 a4 := Tryz.isAgg4
 z4 := Tryz.sizeOf4
 v4 := Tryz.zeroValue4
 t5 := Tryz.underlying5
 a5 := Tryz.isAgg5
 z5 := Tryz.sizeOf5
 v5 := Tryz.zeroValue5
 t9 := Tryz.underlying9
 a9 := Tryz.isAgg9
 z9 := Tryz.sizeOf9
 v9 := Tryz.zeroValue9
 t46 := Tryz.underlying85
 a46 := Tryz.isAgg85
 z46 := Tryz.sizeOf85
 v46 := Tryz.zeroValue85
 t51 := Tryz.underlying126
 a51 := Tryz.isAgg126
 z51 := Tryz.sizeOf126
 v51 := Tryz.zeroValue126
 t53 := Tryz.underlying33
 a53 := Tryz.isAgg33
 z53 := Tryz.sizeOf33
 v53 := Tryz.zeroValue33 }
/-- bits.Len: "Len returns the minimum number of bits required to represent x; the result is 0 for x == 0.": IT RETURNS 'Lib.bitLen x'; the world is as it was. (A uint has 64 bits in the model.) ITS CALLEE bits.Len64 IS MET BY ITS OWN CONTRACT OFF THE SHELF (lay that first). (LAID: no walk: one application.) -/
theorem Tryz.bits_Len (x : Int) (w : World) (h0 : 0 ≤ x) (h1 : x ≤ 18446744073709551615) :
  Calls Tryz.prog 34 #[.int .u64 x] w fun e w' => e = .returned (.int .i64 (Lib.bitLen x.toNat)) ∧ w' = w := Any.bits_Len Tryz.lays125 x w h0 h1
def Tryz.lays210_ren : Go.Shelf.Ren := ⟨fun | 210 => 119 | 206 => 143 | n => n, fun | 9 => 9 | 4 => 4 | 3 => 3 | n => n, fun | n => n⟩
theorem Tryz.lays210 : Go.Proofs.Lays.n210 Tryz.prog Tryz.lays210_ren := {
 mixed := by kernel_rfl
 f206 := Tryz.func143.trans (congrArg some (by kernel_rfl))
 f210 := Tryz.func119.trans (congrArg some (by kernel_rfl))
 t3 := Tryz.underlying3
 a3 := Tryz.isAgg3
 z3 := Tryz.sizeOf3
 v3 := Tryz.zeroValue3
 t4 := Tryz.underlying4
 a4 := Tryz.isAgg4
 z4 := Tryz.sizeOf4
 v4 := Tryz.zeroValue4
 t9 := Tryz.underlying9
 a9 := Tryz.isAgg9
 z9 := Tryz.sizeOf9
 v9 := Tryz.zeroValue9 }
open Go.RowKit in
/-- internal/stringslite.CutPrefix (what strings.CutPrefix calls). (LAID: no walk: one application.) -/
theorem Tryz.stringslite_CutPrefix (s p : ByteArray) (w : World) :
  Calls Tryz.prog 119 #[.string s, .string p] w fun e w' => e = .returned (.tuple #[.string ⟨(Lib.trimPrefix s.data.toList p.data.toList).toArray⟩, .bool (Lib.hasPrefix s.data.toList p.data.toList)]) ∧ w' = w := Any.stringslite_CutPrefix Tryz.lays210 s p w
def Tryz.lays103_ren : Go.Shelf.Ren := ⟨fun | 103 => 74 | 210 => 119 | 206 => 143 | n => n, fun | 9 => 9 | 4 => 4 | 24 => 64 | 3 => 3 | n => n, fun | n => n⟩
theorem Tryz.lays103 : Go.Proofs.Lays.n103 Tryz.prog Tryz.lays103_ren := {
 mixed := by kernel_rfl
 f103 := Tryz.func74.trans (congrArg some (by kernel_rfl))
 f206 := Tryz.func143.trans (congrArg some (by kernel_rfl))
 f210 := Tryz.func119.trans (congrArg some (by kernel_rfl))
 t3 := Tryz.underlying3
 a3 := Tryz.isAgg3
 z3 := Tryz.sizeOf3
 v3 := Tryz.zeroValue3
 t4 := Tryz.underlying4
 a4 := Tryz.isAgg4
 z4 := Tryz.sizeOf4
 v4 := Tryz.zeroValue4
 t9 := Tryz.underlying9
 a9 := Tryz.isAgg9
 z9 := Tryz.sizeOf9
 v9 := Tryz.zeroValue9
 t24 := Tryz.underlying64
 a24 := Tryz.isAgg64
 z24 := Tryz.sizeOf64
 v24 := Tryz.zeroValue64 }
open Go.RowKit in
/-- strings.CutPrefix: "CutPrefix returns s without the provided leading prefix string and reports whether it found the prefix. If s doesn't start with prefix, CutPrefix returns s, false. If prefix is the empty string, CutPrefix returns s, true.": IT RETURNS '(Lib.trimPrefix s p, Lib.hasPrefix s p)'; the world is as it was. (LAID: no walk: one application.) -/
theorem Tryz.strings_CutPrefix (s p : ByteArray) (w : World) :
  Calls Tryz.prog 74 #[.string s, .string p] w fun e w' => e = .returned (.tuple #[.string ⟨(Lib.trimPrefix s.data.toList p.data.toList).toArray⟩, .bool (Lib.hasPrefix s.data.toList p.data.toList)]) ∧ w' = w := Any.strings_CutPrefix Tryz.lays103 s p w
def Tryz.lays206_ren : Go.Shelf.Ren := ⟨fun | 206 => 143 | n => n, fun | 9 => 9 | 4 => 4 | 3 => 3 | n => n, fun | n => n⟩
theorem Tryz.lays206 : Go.Proofs.Lays.n206 Tryz.prog Tryz.lays206_ren := {
 mixed := by kernel_rfl
 f206 := Tryz.func143.trans (congrArg some (by kernel_rfl))
 t3 := Tryz.underlying3
 a3 := Tryz.isAgg3
 z3 := Tryz.sizeOf3
 v3 := Tryz.zeroValue3
 t4 := Tryz.underlying4
 a4 := Tryz.isAgg4
 z4 := Tryz.sizeOf4
 v4 := Tryz.zeroValue4
 t9 := Tryz.underlying9
 a9 := Tryz.isAgg9
 z9 := Tryz.sizeOf9
 v9 := Tryz.zeroValue9 }
open Go.RowKit Go.Lib in
/-- internal/stringslite.HasPrefix (what strings.HasPrefix calls). (LAID: no walk: one application.) -/
theorem Tryz.stringslite_HasPrefix (s p : ByteArray) (w : World) :
  Calls Tryz.prog 143 #[.string s, .string p] w fun e w' => e = .returned (.bool (Lib.hasPrefix s.data.toList p.data.toList)) ∧ w' = w := Any.stringslite_HasPrefix Tryz.lays206 s p w
end Go.Proofs

-- ShelfS
namespace Go.Proofs
open Go.Shelf
def Tryz.sortItems_ren : Go.Shelf.Ren := ⟨fun | 6 => 18 | 15 => 34 | 14 => 33 | 28 => 72 | 29 => 73 | 20 => 64 | 21 => 65 | 22 => 66 | 23 => 67 | 24 => 68 | 25 => 69 | 26 => 70 | 27 => 71 | 46 => 114 | 47 => 115 | 48 => 116 | 49 => 117 | 50 => 118 | 57 => 142 | n => n, fun | 22 => 26 | 24 => 43 | 25 => 58 | 3 => 3 | 39 => 85 | 0 => 0 | 53 => 126 | 55 => 33 | 4 => 4 | 46 => 119 | 45 => 118 | 50 => 123 | 5 => 5 | 9 => 9 | 66 => 168 | 70 => 172 | 76 => 191 | 77 => 163 | n => n, fun | n => n⟩
theorem Tryz.sortItems : Go.Proofs.SlLaysF0.n6 Tryz.prog Tryz.sortItems_ren := {
 mixed := by kernel_rfl
 f6 := ⟨Tryz.f18.name, by decide, Tryz.func18.trans (congrArg some (by kernel_rfl))⟩
 f14 := ⟨Tryz.f33.name, by decide, Tryz.func33.trans (congrArg some (by kernel_rfl))⟩
 f15 := Tryz.func34.trans (congrArg some (by kernel_rfl))
 f20 := ⟨Tryz.f64.name, by decide, Tryz.func64.trans (congrArg some (by kernel_rfl))⟩
 f21 := ⟨Tryz.f65.name, by decide, Tryz.func65.trans (congrArg some (by kernel_rfl))⟩
 f22 := ⟨Tryz.f66.name, by decide, Tryz.func66.trans (congrArg some (by kernel_rfl))⟩
 f23 := ⟨Tryz.f67.name, by decide, Tryz.func67.trans (congrArg some (by kernel_rfl))⟩
 f24 := ⟨Tryz.f68.name, by decide, Tryz.func68.trans (congrArg some (by kernel_rfl))⟩
 f25 := ⟨Tryz.f69.name, by decide, Tryz.func69.trans (congrArg some (by kernel_rfl))⟩
 f26 := ⟨Tryz.f70.name, by decide, Tryz.func70.trans (congrArg some (by kernel_rfl))⟩
 f27 := ⟨Tryz.f71.name, by decide, Tryz.func71.trans (congrArg some (by kernel_rfl))⟩
 f28 := Tryz.func72.trans (congrArg some (by kernel_rfl))
 f29 := Tryz.func73.trans (congrArg some (by kernel_rfl))
 f46 := ⟨Tryz.f114.name, by decide, Tryz.func114.trans (congrArg some (by kernel_rfl))⟩
 f47 := Tryz.func115.trans (congrArg some (by kernel_rfl))
 f48 := Tryz.func116.trans (congrArg some (by kernel_rfl))
 f49 := ⟨Tryz.f117.name, by decide, Tryz.func117.trans (congrArg some (by kernel_rfl))⟩
 f50 := ⟨Tryz.f118.name, by decide, Tryz.func118.trans (congrArg some (by kernel_rfl))⟩
 f57 := ⟨Tryz.f142.name, by decide, Tryz.func142.trans (congrArg some (by kernel_rfl))⟩
 t0 := Tryz.underlying0
 a0 := Tryz.isAgg0
 z0 := Tryz.sizeOf0
 v0 := Tryz.zeroValue0
 t3 := Tryz.underlying3
 a3 := Tryz.isAgg3
 z3 := Tryz.sizeOf3
 v3 := Tryz.zeroValue3
 t4 := Tryz.underlying4
 a4 := Tryz.isAgg4
 z4 := Tryz.sizeOf4
 v4 := Tryz.zeroValue4
 t5 := Tryz.underlying5
 a5 := Tryz.isAgg5
 z5 := Tryz.sizeOf5
 v5 := Tryz.zeroValue5
 t9 := Tryz.underlying9
 a9 := Tryz.isAgg9
 z9 := Tryz.sizeOf9
 v9 := Tryz.zeroValue9
 t22 := Tryz.underlying26
 a22 := Tryz.isAgg26
 z22 := Tryz.sizeOf26
 v22 := Tryz.zeroValue26
 t25 := Tryz.underlying58
 a25 := Tryz.isAgg58
 z25 := Tryz.sizeOf58
 v25 := Tryz.zeroValue58
 t39 := Tryz.underlying85
 a39 := Tryz.isAgg85
 z39 := Tryz.sizeOf85
 v39 := Tryz.zeroValue85
 t45 := Tryz.underlying118
 a45 := Tryz.isAgg118
 z45 := Tryz.sizeOf118
 v45 := Tryz.zeroValue118
 t46 := Tryz.underlying119
 a46 := Tryz.isAgg119
 z46 := Tryz.sizeOf119
 v46 := Tryz.zeroValue119
 t50 := Tryz.underlying123
 a50 := Tryz.isAgg123
 z50 := Tryz.sizeOf123
 v50 := Tryz.zeroValue123
 t53 := Tryz.underlying126
 a53 := Tryz.isAgg126
 z53 := Tryz.sizeOf126
 v53 := Tryz.zeroValue126
 t55 := Tryz.underlying33
 a55 := Tryz.isAgg33
 z55 := Tryz.sizeOf33
 v55 := Tryz.zeroValue33
 t66 := Tryz.underlying168
 a66 := Tryz.isAgg168
 z66 := Tryz.sizeOf168
 v66 := Tryz.zeroValue168
 t70 := Tryz.underlying172
 a70 := Tryz.isAgg172
 z70 := Tryz.sizeOf172
 v70 := Tryz.zeroValue172
 t76 := Tryz.underlying191
 a76 := Tryz.isAgg191
 z76 := Tryz.sizeOf191
 v76 := Tryz.zeroValue191
 t77 := Tryz.underlying163
 a77 := Tryz.isAgg163
 z77 := Tryz.sizeOf163
 v77 := Tryz.zeroValue163 }
def Tryz.sortChanges_ren : Go.Shelf.Ren := ⟨fun | 6 => 23 | 15 => 34 | 14 => 46 | 28 => 72 | 29 => 73 | 20 => 96 | 21 => 97 | 22 => 98 | 23 => 99 | 24 => 100 | 25 => 101 | 26 => 102 | 27 => 103 | 46 => 133 | 47 => 115 | 48 => 116 | 49 => 134 | 50 => 135 | 57 => 173 | n => n, fun | 22 => 45 | 24 => 66 | 25 => 69 | 3 => 3 | 39 => 85 | 0 => 0 | 53 => 126 | 55 => 33 | 4 => 4 | 46 => 119 | 45 => 118 | 50 => 123 | 5 => 5 | 9 => 9 | 66 => 168 | 70 => 172 | 76 => 191 | 77 => 163 | n => n, fun | n => n⟩
theorem Tryz.sortChanges : Go.Proofs.SlLaysF0.n6 Tryz.prog Tryz.sortChanges_ren := {
 mixed := by kernel_rfl
 f6 := ⟨Tryz.f23.name, by decide, Tryz.func23.trans (congrArg some (by kernel_rfl))⟩
 f14 := ⟨Tryz.f46.name, by decide, Tryz.func46.trans (congrArg some (by kernel_rfl))⟩
 f15 := Tryz.func34.trans (congrArg some (by kernel_rfl))
 f20 := ⟨Tryz.f96.name, by decide, Tryz.func96.trans (congrArg some (by kernel_rfl))⟩
 f21 := ⟨Tryz.f97.name, by decide, Tryz.func97.trans (congrArg some (by kernel_rfl))⟩
 f22 := ⟨Tryz.f98.name, by decide, Tryz.func98.trans (congrArg some (by kernel_rfl))⟩
 f23 := ⟨Tryz.f99.name, by decide, Tryz.func99.trans (congrArg some (by kernel_rfl))⟩
 f24 := ⟨Tryz.f100.name, by decide, Tryz.func100.trans (congrArg some (by kernel_rfl))⟩
 f25 := ⟨Tryz.f101.name, by decide, Tryz.func101.trans (congrArg some (by kernel_rfl))⟩
 f26 := ⟨Tryz.f102.name, by decide, Tryz.func102.trans (congrArg some (by kernel_rfl))⟩
 f27 := ⟨Tryz.f103.name, by decide, Tryz.func103.trans (congrArg some (by kernel_rfl))⟩
 f28 := Tryz.func72.trans (congrArg some (by kernel_rfl))
 f29 := Tryz.func73.trans (congrArg some (by kernel_rfl))
 f46 := ⟨Tryz.f133.name, by decide, Tryz.func133.trans (congrArg some (by kernel_rfl))⟩
 f47 := Tryz.func115.trans (congrArg some (by kernel_rfl))
 f48 := Tryz.func116.trans (congrArg some (by kernel_rfl))
 f49 := ⟨Tryz.f134.name, by decide, Tryz.func134.trans (congrArg some (by kernel_rfl))⟩
 f50 := ⟨Tryz.f135.name, by decide, Tryz.func135.trans (congrArg some (by kernel_rfl))⟩
 f57 := ⟨Tryz.f173.name, by decide, Tryz.func173.trans (congrArg some (by kernel_rfl))⟩
 t0 := Tryz.underlying0
 a0 := Tryz.isAgg0
 z0 := Tryz.sizeOf0
 v0 := Tryz.zeroValue0
 t3 := Tryz.underlying3
 a3 := Tryz.isAgg3
 z3 := Tryz.sizeOf3
 v3 := Tryz.zeroValue3
 t4 := Tryz.underlying4
 a4 := Tryz.isAgg4
 z4 := Tryz.sizeOf4
 v4 := Tryz.zeroValue4
 t5 := Tryz.underlying5
 a5 := Tryz.isAgg5
 z5 := Tryz.sizeOf5
 v5 := Tryz.zeroValue5
 t9 := Tryz.underlying9
 a9 := Tryz.isAgg9
 z9 := Tryz.sizeOf9
 v9 := Tryz.zeroValue9
 t22 := Tryz.underlying45
 a22 := Tryz.isAgg45
 z22 := Tryz.sizeOf45
 v22 := Tryz.zeroValue45
 t25 := Tryz.underlying69
 a25 := Tryz.isAgg69
 z25 := Tryz.sizeOf69
 v25 := Tryz.zeroValue69
 t39 := Tryz.underlying85
 a39 := Tryz.isAgg85
 z39 := Tryz.sizeOf85
 v39 := Tryz.zeroValue85
 t45 := Tryz.underlying118
 a45 := Tryz.isAgg118
 z45 := Tryz.sizeOf118
 v45 := Tryz.zeroValue118
 t46 := Tryz.underlying119
 a46 := Tryz.isAgg119
 z46 := Tryz.sizeOf119
 v46 := Tryz.zeroValue119
 t50 := Tryz.underlying123
 a50 := Tryz.isAgg123
 z50 := Tryz.sizeOf123
 v50 := Tryz.zeroValue123
 t53 := Tryz.underlying126
 a53 := Tryz.isAgg126
 z53 := Tryz.sizeOf126
 v53 := Tryz.zeroValue126
 t55 := Tryz.underlying33
 a55 := Tryz.isAgg33
 z55 := Tryz.sizeOf33
 v55 := Tryz.zeroValue33
 t66 := Tryz.underlying168
 a66 := Tryz.isAgg168
 z66 := Tryz.sizeOf168
 v66 := Tryz.zeroValue168
 t70 := Tryz.underlying172
 a70 := Tryz.isAgg172
 z70 := Tryz.sizeOf172
 v70 := Tryz.zeroValue172
 t76 := Tryz.underlying191
 a76 := Tryz.isAgg191
 z76 := Tryz.sizeOf191
 v76 := Tryz.zeroValue191
 t77 := Tryz.underlying163
 a77 := Tryz.isAgg163
 z77 := Tryz.sizeOf163
 v77 := Tryz.zeroValue163 }
end Go.Proofs

-- N1
namespace Go.Proofs.YtafeepdlcilicaaGreat.Q
open Go.WideMaps Go.RowKit Go.Proofs.YtafeepdlcilicaaGreatW.PrintWords Go.Proofs.YtafeepdlcilicaaGreatW.PrintLast Go.Proofs.YtafeepdlcilicaaGreatW.PrintMore Go.Maps
set_option linter.unusedVariables false
set_option linter.unusedSimpArgs false

theorem bd_info5 : (Tryz.prog.info? 5).map (fun i => (i.zero, i.size, i.bytes)) = some (some (.int .u8 0), 1, 1) := by kernel_rfl
theorem bd_size : (Tryz.prog.info? 110).map (·.size) = some 2 := by kernel_rfl
theorem bd_lies : liesAt Tryz.prog Tryz.prog.depth 110 (2 / Tryz.prog.cellsOf 110) 0 110 1 = true := by kernel_rfl
set_option maxHeartbeats 1000000 in
set_option maxRecDepth 100000 in
theorem bd_check_used (b : Nat) (w : World) (h0 : w.cell? ⟨b, 0, none⟩ = some (.pointer (some ⟨b, 0, none⟩))) :
  Calls Tryz.prog 113 #[.pointer (some ⟨b, 0, none⟩)] w fun e w' => e = .returned (.tuple #[]) ∧ w' = w := by
 obtain ⟨j, hj, _⟩ := Option.map_eq_some_iff.1 bd_size
 go_enter Tryz.func113, Tryz.ntmps113
 go_wp2
 rw [Lib.run_neq_ptr_same w _ Tryz.underlying107 hj]
 go_wp2
 go_end0
 exact ⟨rfl, rfl⟩
set_option maxHeartbeats 1000000 in
set_option maxRecDepth 100000 in
theorem bd_check_fresh (b : Nat) (w : World) (h0 : w.cell? ⟨b, 0, none⟩ = some (.pointer none)) (hsh : w.shape? b = some (110, 2)) (hfz : w.frozen? ⟨b, 0, none⟩ = false) :
  Calls Tryz.prog 113 #[.pointer (some ⟨b, 0, none⟩)] w fun e w' => e = .returned (.tuple #[]) ∧ w' = w.setCell ⟨b, 0, none⟩ (.pointer (some ⟨b, 0, none⟩)) := by
 obtain ⟨j, hj, hjs⟩ := Option.map_eq_some_iff.1 bd_size
 go_enter Tryz.func113, Tryz.ntmps113
 go_wp2
 rw [Lib.run_to_unsafe w ⟨b, 0, none⟩ Tryz.underlying107 Tryz.underlying189 hj (by rw [hjs]; decide) hsh (Nat.zero_lt_succ 1)]
 simp only [Result.andThen]
 rw [Oper.upon_value]
 go_wp2
 rw [run_callFunc_extern Tryz.func141 (by kernel_rfl) (by kernel_rfl) (by kernel_rfl) (e := Extern.AbiNoEscape.same) (by kernel_rfl)]
 rw [Lib.run_noEscape]
 simp only [Result.andThen]
 rw [Oper.upon_value]
 go_wp2
 rw [Lib.run_from_unsafe w ⟨b, 0, none⟩ Tryz.underlying189 Tryz.underlying107 hj hsh bd_lies]
 simp only [Result.andThen]
 rw [Oper.upon_value]
 go_wp2
 go_end0
 exact ⟨rfl, rfl⟩
theorem bd_check (B b : Nat) (bs : List Value) (w : World) (h : Lib.IsBuilder 110 5 B b bs w) :
  Calls Tryz.prog 113 #[.pointer (some ⟨b, 0, none⟩)] w fun e w' => e = .returned (.tuple #[]) ∧ (Lib.BuilderAt 110 5 B b (.pointer (some ⟨b, 0, none⟩)) bs w' ∧ Below B w w') := by
 rcases h with h | h
 ·refine (bd_check_fresh b w h.cell0 h.shape h.frozen0).mono ?_
  rintro e w' ⟨rfl, rfl⟩
  exact ⟨rfl, h.used _, (Below.refl B w).setCell (p := ⟨b, 0, none⟩) h.1 _⟩
 ·refine (bd_check_used b w h.cell0).mono ?_
  rintro e w' ⟨rfl, rfl⟩
  exact ⟨rfl, h, Below.refl B _⟩
set_option maxHeartbeats 2000000 in
set_option maxRecDepth 100000 in
theorem bd_WriteString (B b : Nat) (bs : List Value) (s : ByteArray) (w : World) (h : Lib.IsBuilder 110 5 B b bs w) (hlen : bs.length + s.size ≤ 140737488355328) (hBw : B ≤ w.heap.size) :
  Calls Tryz.prog 61 #[.pointer (some ⟨b, 0, none⟩), .string s] w fun e w' => e = .returned (.tuple #[.int .i64 s.size, .nilIface]) ∧ (Lib.BuilderAt 110 5 B b (.pointer (some ⟨b, 0, none⟩)) (bs ++ Lib.strCells s) w' ∧ Below B w w') := by
 obtain ⟨i0, hi, hz0, hz1, hz2⟩ := info_parts bd_info5
 go_enter Tryz.func61, Tryz.ntmps61
 go_wp2_with (go_at_call 113; refine (bd_check B b bs _ h).mono ?_)
 rintro e w1 ⟨rfl, h1, hb1⟩
 obtain ⟨hB, v, hbk, hown, hne⟩ := h1
 have c0 : w1.cell? ⟨b, 0, none⟩ = some (.pointer (some ⟨b, 0, none⟩)) := by rw [Lib.cell_of_heap hbk]; rfl
 have c1 : w1.cell? ⟨b, 1, none⟩ = some v := by rw [Lib.cell_of_heap hbk]; rfl
 go_wp2_with (at_builtin; refine Lib.wpList_append_own_string _ rfl _ _ 108 9 rfl B 5 i0 Tryz.underlying108 Tryz.underlying9 hi hz0 hz1 hz2 _ _ _ rfl hown s rfl ?c3 ?c4 ?c5 ?_)
 case c3 => unfold maxLen; omega
 case c4 => omega
 case c5 => have := hb1.size; omega
 intro v' w2 hown' hgrow _
 have hlt : b < w1.heap.size := blk_lt hbk
 have hb2 : w2.heap[b]? = some (.cells #[.pointer (some ⟨b, 0, none⟩), v] 110 (0, 0)) := by
  rw [hgrow.block b hlt (fun e => hne e.symm)]
  exact hbk
 have d0 : w2.cell? ⟨b, 0, none⟩ = some (.pointer (some ⟨b, 0, none⟩)) := by rw [Lib.cell_of_heap hb2]; rfl
 have d1 : w2.cell? ⟨b, 1, none⟩ = some v := by rw [Lib.cell_of_heap hb2]; rfl
 have f1 : w2.frozen? ⟨b, 1, none⟩ = false := Lib.frozen_of_heap hb2 1
 obtain ⟨ao, n', cap, rfl⟩ : ∃ ao n' cap, v' = .slice ao n' cap := by
  rcases hown'.2 with ⟨hv, _⟩ | ⟨g, cap, cur, hv, _⟩
  ·exact ⟨_, _, _, hv⟩
  ·exact ⟨_, _, _, hv⟩
 go_wp2
 go_ret2
 refine ⟨rfl, ?_, ?_⟩
 ·exact Lib.BuilderAt.put (T := 110) (e := 5) hB hb2 (bs' := bs ++ Lib.strCells s) (by simpa [Lib.strCells_length] using hown') (by decide)
 ·exact (hb1.grown hgrow (by have := hb1.size; omega) (fun k hk => (hown.lt k hk).1)).setCell (p := ⟨b, 1, none⟩) hB _

/-! ### numbers and texts as octets -/
def lay2B (n : Int) : ByteArray := strOfNums [(shr .u64 n 0) % 256, (shr .u64 n 8) % 256]
def num8 (n : Int) : ByteArray := strOfNums [(shr .u64 n 0) % 256, (shr .u64 n 8) % 256, (shr .u64 n 16) % 256, (shr .u64 n 24) % 256, (shr .u64 n 32) % 256, (shr .u64 n 40) % 256, (shr .u64 n 48) % 256, (shr .u64 n 56) % 256]
theorem lay2_eq (n : Int) : wire_lay.f 3 n 2 = some (lay2B n) := by simp [wire_lay.f, wire_lay.l0, wrap64, lay2B, List.replicate]
theorem num8_eq (n : Int) : wire_Num.f 9 n = some (num8 n) := by simp [wire_Num.f, wire_lay.f, wire_lay.l0, wrap64, num8, List.replicate]
theorem lay2B_size (n : Int) : (lay2B n).size = 2 := rfl
theorem num8_size (n : Int) : (num8 n).size = 8 := rfl
def textB (s : ByteArray) : ByteArray := lay2B s.size ++ s
theorem textB_size (s : ByteArray) : (textB s).size = 2 + s.size := by unfold textB; rw [ByteArray.size_append, lay2B_size]
end Go.Proofs.YtafeepdlcilicaaGreat.Q

-- E5a
namespace Go.Proofs.YtafeepdlcilicaaGreat.Q
open Go.WideMaps Go.RowKit Go.Proofs.YtafeepdlcilicaaGreatW.PrintWords Go.Proofs.YtafeepdlcilicaaGreatW.PrintLast Go.Proofs.YtafeepdlcilicaaGreatW.PrintMore Go.Maps
set_option linter.unusedVariables false
set_option linter.unusedSimpArgs false

/-! ### law11.Changes -/
theorem below_set3 {w w1 : World} {B g : Nat} (h : Below B w w1) (hg : B ≤ g) (v0 v1 v2 : Value) : Below B w (((w1.setCell ⟨g, 0, none⟩ v0).setCell ⟨g, 1, none⟩ v1).setCell ⟨g, 2, none⟩ v2) := ((h.setCell (p := ⟨g, 0, none⟩) hg _).setCell (p := ⟨g, 1, none⟩) hg _).setCell (p := ⟨g, 2, none⟩) hg _
theorem store37_law {ops : Array Oper} {rest : List Oper} {o : Oper} {a : Act} {Q : Exit → Act → World → Prop} {W : World} (hN : o.dst = none) (hgd : o.guard = none) (p x : Operand) (ho : o.op = .store 66 p x) (g : Nat) (c0 c1 c2 : Value) (n : S66)
  (haddr : a.eval p = .pointer (some ⟨g, 0, none⟩)) (hx : a.eval x = .agg #[.string n.f0, .string n.f1, .bool n.f2]) (hb : W.heap[g]? = some (.cells #[c0, c1, c2] 66 (0, 0)))
  (h : ∀ w1, w1.heap[g]? = some (.cells #[.string n.f0, .string n.f1, .bool n.f2] 66 (0, 0)) → (∀ B, B ≤ g → Below B W w1) → wpList Tryz.prog ops Q rest a w1) : wpList Tryz.prog ops Q (o :: rest) a W := by
 refine wpList_plain hgd fun K hK => ?_
 have hrun := run_store_run (P := Tryz.prog) (w := W) (g := g) (o := 0) (e := 66) (cur := #[c0, c1, c2]) 66 (.agg #[.string n.f0, .string n.f1, .bool n.f2]) [.string n.f0, .string n.f1, .bool n.f2] hb rfl info_size66 (by show 0 + 3 ≤ 3; decide) (by
  intro v hv
  simp at hv
  rcases hv with rfl | rfl | rfl <;> rfl)
 unfold Oper.wp execOp
 simp only [ho, haddr, hx, Sem.run_bind, Sem.run_pure, Result.andThen_ok, hrun]
 show K (a.put o.dst undef) _
 rw [hN]
 exact hK _ _ (h _ (blk_put (cs := #[.string n.f0, .string n.f1, c2]) (blk_put (cs := #[.string n.f0, c1, c2]) (blk_put (cs := #[c0, c1, c2]) hb 0 _ rfl) 1 _ rfl) 2 _ rfl) (fun B hB => below_set3 (Below.refl B W) hB _ _ _))
instance : Inhabited S66 := ⟨z66⟩
theorem at37 {w wr : World} {A : Option Addr} {l : List S66} (h : Kd.C k66 w A l.length l) (hb : Below w.heap.size w wr) (k : Nat) (hk : k < l.length) : ∃ ad, A = some ad ∧ wr.cell? (ad.add (k * 3)) = some (.string l[k].f0) ∧ wr.cell? ⟨(ad.add (k * 3)).block, (ad.add (k * 3)).off + 1, none⟩ = some (.string l[k].f1) ∧ wr.cell? ⟨(ad.add (k * 3)).block, (ad.add (k * 3)).off + 2, none⟩ = some (.bool l[k].f2) := by
 obtain ⟨ad, e, c0, c1, c2⟩ := at_T66 (Kd.C_below h hb) (k : Int) (by omega) (by omega)
 have er : rd_T66 l (k : Int) = l[k] := by unfold rd_T66; simp [hk]
 rw [er] at c0 c1 c2
 exact ⟨ad, e, c0, c1, c2⟩
end Go.Proofs.YtafeepdlcilicaaGreat.Q

-- E6a
namespace Go.Proofs.YtafeepdlcilicaaGreat.Q
open Go.WideMaps Go.RowKit Go.Proofs.YtafeepdlcilicaaGreatW.PrintWords Go.Proofs.YtafeepdlcilicaaGreatW.PrintLast Go.Proofs.YtafeepdlcilicaaGreatW.PrintMore Go.Maps
set_option linter.unusedVariables false
set_option linter.unusedSimpArgs false

/-! ### law11.Few -/
theorem below_set2 {w w1 : World} {B g : Nat} (h : Below B w w1) (hg : B ≤ g) (v0 v1 : Value) : Below B w ((w1.setCell ⟨g, 0, none⟩ v0).setCell ⟨g, 1, none⟩ v1) := (h.setCell (p := ⟨g, 0, none⟩) hg _).setCell (p := ⟨g, 1, none⟩) hg _
theorem store35_law {ops : Array Oper} {rest : List Oper} {o : Oper} {a : Act} {Q : Exit → Act → World → Prop} {W : World} (hN : o.dst = none) (hgd : o.guard = none) (p x : Operand) (ho : o.op = .store 43 p x) (g : Nat) (c0 c1 : Value) (n : S43)
  (haddr : a.eval p = .pointer (some ⟨g, 0, none⟩)) (hx : a.eval x = .agg #[.string n.f0, .string n.f1]) (hb : W.heap[g]? = some (.cells #[c0, c1] 43 (0, 0)))
  (h : ∀ w1, w1.heap[g]? = some (.cells #[.string n.f0, .string n.f1] 43 (0, 0)) → (∀ B, B ≤ g → Below B W w1) → wpList Tryz.prog ops Q rest a w1) : wpList Tryz.prog ops Q (o :: rest) a W := by
 refine wpList_plain hgd fun K hK => ?_
 have hrun := run_store_run (P := Tryz.prog) (w := W) (g := g) (o := 0) (e := 43) (cur := #[c0, c1]) 43 (.agg #[.string n.f0, .string n.f1]) [.string n.f0, .string n.f1] hb rfl info_size43 (by show 0 + 2 ≤ 2; decide) (by
  intro v hv
  simp at hv
  rcases hv with rfl | rfl <;> rfl)
 unfold Oper.wp execOp
 simp only [ho, haddr, hx, Sem.run_bind, Sem.run_pure, Result.andThen_ok, hrun]
 show K (a.put o.dst undef) _
 rw [hN]
 exact hK _ _ (h _ (blk_put (cs := #[.string n.f0, c1]) (blk_put (cs := #[c0, c1]) hb 0 _ rfl) 1 _ rfl) (fun B hB => below_set2 (Below.refl B W) hB _ _))
instance : Inhabited S43 := ⟨z43⟩
theorem at35 {w wr : World} {A : Option Addr} {l : List S43} (h : Kd.C k43 w A l.length l) (hb : Below w.heap.size w wr) (k : Nat) (hk : k < l.length) : ∃ ad, A = some ad ∧ wr.cell? (ad.add (k * 2)) = some (.string l[k].f0) ∧ wr.cell? ⟨(ad.add (k * 2)).block, (ad.add (k * 2)).off + 1, none⟩ = some (.string l[k].f1) := by
 obtain ⟨ad, e, c0, c1⟩ := at_T43 (Kd.C_below h hb) (k : Int) (by omega) (by omega)
 have er : rd_T43 l (k : Int) = l[k] := by unfold rd_T43; simp [hk]
 rw [er] at c0 c1
 exact ⟨ad, e, c0, c1⟩
end Go.Proofs.YtafeepdlcilicaaGreat.Q

-- N2
namespace Go.Proofs.YtafeepdlcilicaaGreat.Q
open Go.WideMaps Go.RowKit Go.Proofs.YtafeepdlcilicaaGreatW.PrintWords Go.Proofs.YtafeepdlcilicaaGreatW.PrintLast Go.Proofs.YtafeepdlcilicaaGreatW.PrintMore Go.Maps
set_option linter.unusedVariables false
set_option linter.unusedSimpArgs false

/-! ### wire.Text, wire.List -/
theorem owns_row_below {w w1 : World} {base e sz n : Nat} {v : Value} {xs : List Value} (h : w.ownsRow base e sz v n xs) (hb : Below w.heap.size w w1) : w1.ownsRow base e sz v n xs := by
 obtain ⟨h1, h2⟩ := h
 refine ⟨h1, ?_⟩
 rcases h2 with h2 | ⟨g, cap, cur, e', hg, hh, r⟩
 ·exact Or.inl h2
 ·exact Or.inr ⟨g, cap, cur, e', hg, (hb.block g (blk_lt hh)).trans hh, r⟩
theorem bAt_below {B b : Nat} {p : Value} {bs : List Value} {w w1 : World} (h : Go.Lib.BuilderAt 110 5 B b p bs w) (hb : Below w.heap.size w w1) : Go.Lib.BuilderAt 110 5 B b p bs w1 := by
 obtain ⟨hB, v, hbk, hown, hne⟩ := h
 exact ⟨hB, v, (hb.block b (blk_lt hbk)).trans hbk, owns_row_below hown hb, hne⟩
theorem bIs_below {B b : Nat} {bs : List Value} {w w1 : World} (h : Go.Lib.IsBuilder 110 5 B b bs w) (hb : Below w.heap.size w w1) : Go.Lib.IsBuilder 110 5 B b bs w1 := by
 rcases h with h | h
 ·exact Or.inl (bAt_below h hb)
 ·exact Or.inr (bAt_below h hb)
theorem at_str {w w' : World} {A : Option Addr} {l : List ByteArray} (h : Kd.C Kd.string w A l.length l) (hb : Below w.heap.size w w') (k : Nat) (hk : k < l.length) : ∃ ad, A = some ad ∧ w'.cell? (ad.add k) = some (.string l[k]) := by
 obtain ⟨ad, c, e, _, hK, hc0⟩ := Kd.C_get h (⟨#[]⟩ : ByteArray) (k : Int) (by omega) (by omega)
 have hz : ((k : Nat) : Int).toNat = k := Int.toNat_natCast _
 have h1 := hc0 0 (.string l[k]) (by
  have hK' : c = [.string (l.getD ((k : Nat) : Int).toNat ⟨#[]⟩)] := hK
  rw [hK', hz]
  simp [List.getD_eq_getElem?_getD, hk])
 rw [hz] at h1
 refine ⟨ad, e, keepc hb ?_⟩
 have e1 : k * Kd.string.sz + 0 = k := Nat.mul_one k
 rwa [e1] at h1
set_option maxHeartbeats 1000000 in
set_option maxRecDepth 100000 in
theorem text.walk (s : ByteArray) (hs : s.size ≤ 4000) (w : World) : Calls Tryz.prog 62 #[.string s] w fun e w' => e = .returned (.tuple #[.string (textB s), .int .i64 0]) ∧ Below w.heap.size w w' := by
 have HC := fun W => wire_lay.calls 3 (s.size : Int) 2 (lay2B s.size) W (lay2_eq _)
 have h1 : ¬ ((s.size : Int) > 4000) := by omega
 have h2 : IntKind.u64.wrap (s.size : Int) = s.size := by simp [IntKind.wrap, IntKind.bits, IntKind.signed]; omega
 have h3 : ¬ (9223372036854775807 < (lay2B s.size).size + s.size) := by rw [lay2B_size]; omega
 unfold textB
 generalize lay2B (s.size : Int) = t at *
 go_enter Tryz.func62, Tryz.ntmps62
 go_wp2_with (go_at_call 32; refine (HC _).mono ?_; rintro e w1 ⟨rfl, hb1⟩; have HB1 := Lib.hid hb1; clear hb1)
 go_ret2
 exact ⟨rfl, HB1.out⟩
def textL (s : ByteArray) : List UInt8 := (textB s).data.toList
theorem textL_len (s : ByteArray) : (textL s).length = 2 + s.size := by unfold textL; rw [Array.length_toList]; exact textB_size s
def listL (l : List ByteArray) : List UInt8 := (lay2B l.length).data.toList ++ l.flatMap textL
def listB (l : List ByteArray) : ByteArray := ⟨(listL l).toArray⟩
def partL (l : List ByteArray) (k : Nat) : List UInt8 := (lay2B l.length).data.toList ++ (l.take k).flatMap textL
theorem partL_zero (l : List ByteArray) : partL l 0 = (lay2B l.length).data.toList := by simp [partL]
theorem partL_all (l : List ByteArray) : partL l l.length = listL l := by simp [partL, listL]
theorem partL_snoc (l : List ByteArray) (k : Nat) (h : k < l.length) : partL l (k + 1) = partL l k ++ textL l[k] := by
 unfold partL
 rw [take_snoc l k h, List.flatMap_append, List.append_assoc]
 simp
theorem partL_len (l : List ByteArray) (hs : ∀ s ∈ l, s.size ≤ 4000) : ∀ k, k ≤ l.length → (partL l k).length ≤ 2 + 4002 * k
 | 0, _ => by rw [partL_zero]; exact Nat.le_refl 2
 | k + 1, h => by
  have h1 := partL_len l hs k (by omega)
  have h2 := hs l[k] (List.getElem_mem (by omega))
  rw [partL_snoc l k (by omega), List.length_append, textL_len]
  omega
set_option maxHeartbeats 4000000 in
set_option maxRecDepth 100000 in
theorem list.walk (A : Option Addr) (c : Nat) (l : List ByteArray) (w : World) (hr : Kd.C Kd.string w A l.length l) (hn : l.length ≤ 4000) (hs : ∀ s ∈ l, s.size ≤ 4000) :
  Calls Tryz.prog 31 #[.slice A l.length c] w fun e w' => e = .returned (.tuple #[.string (listB l), .int .i64 0]) ∧ Below w.heap.size w w' := by
 have HR := Lib.hid hr
 have HS := Lib.hid hs
 clear hr hs
 have HC := fun W => wire_lay.calls 3 (l.length : Int) 2 (lay2B l.length) W (lay2_eq _)
 have h1 : ¬ ((l.length : Int) > 4000) := by omega
 have h2 : IntKind.u64.wrap (l.length : Int) = l.length := by simp [IntKind.wrap, IntKind.bits, IntKind.signed]; omega
 have HB0 := Lib.hid ((Below.refl w.heap.size w).alloc (Nat.le_refl _) (.cells #[.pointer none, .slice none 0 0] 110))
 have HI0 := Lib.hid (Go.Lib.fresh_isBuilder 110 5 w)
 have HP0 := Lib.hid (partL_zero l)
 obtain ⟨t0, ht0⟩ : ∃ t0, lay2B (l.length : Int) = t0 := ⟨_, rfl⟩
 have hz0 : t0.size = 2 := by rw [← ht0]; rfl
 have HT0 := Lib.hid ht0
 rw [ht0] at HC
 clear ht0
 go_enter Tryz.func31, Tryz.ntmps31
 go_wp2_with (first
  | (go_at_call 32; refine (HC _).mono ?_; rintro e w1 ⟨rfl, hb1⟩; have HB1 := keepB HB0 hb1; have HI1 := Lib.hid (bIs_below HI0.out hb1); clear hb1)
  | (go_at_call 61; refine (bd_WriteString w.heap.size w.heap.size [] t0 w1 HI1.out (by rw [hz0]; decide) HB1.out.size).mono ?_; rintro e w2 ⟨rfl, hi2, hb2⟩; have HI2 := Lib.hid (Or.inr hi2 : Go.Lib.IsBuilder 110 5 w.heap.size w.heap.size _ w2); have HB2 := Lib.hid (HB1.out.trans hb2); clear hi2 hb2))
 have HI2' : Hid (Go.Lib.IsBuilder 110 5 w.heap.size w.heap.size (Go.Lib.byteCells (partL l 0)) w2) := by
  have h := HI2.out
  rw [List.nil_append, Go.Lib.strCells_eq, ← HT0.out, ← HP0.out] at h
  exact h
 clear HI0 HB0 HI1 HB1 HI2 HT0 HP0
 go_loopw [19] (fun i wr => ∃ (k : Nat), i = .int .i64 k ∧ k ≤ l.length ∧ Hid (Go.Lib.IsBuilder 110 5 w.heap.size w.heap.size (Go.Lib.byteCells (partL l k)) wr) ∧ Hid (Below w.heap.size w wr)) (fun i _ => l.length - (intOf i).toNat)
 case atStart => exact ⟨0, rfl, Nat.zero_le _, HI2', HB2⟩
 case round =>
  clear HI2' HB2
  obtain ⟨k, rfl, hk, HI, HB⟩ := hrel
  by_cases hlt : k < l.length
  ·obtain ⟨ad, e', c0⟩ := at_str HR.out HB.out k hlt
   subst e'
   have p0 : (0 : Int) ≤ (k : Int) := by omega
   have p1 : (k : Int) < (l.length : Int) := by omega
   have HX := fun W => text.walk l[k] (HS.out _ (List.getElem_mem hlt)) W
   have HN := Lib.hid (partL_snoc l k hlt)
   have hsz := HS.out _ (List.getElem_mem hlt)
   have hpl := partL_len l HS.out k hk
   have hbl : (Go.Lib.byteCells (partL l k)).length + (textB l[k]).size ≤ 140737488355328 := by rw [Go.Lib.byteCells_length, textB_size]; omega
   have HBL := Lib.hid hbl
   clear hsz hpl hbl
   generalize l[k] = s at *
   obtain ⟨tx, htx⟩ : ∃ tx, textB s = tx := ⟨_, rfl⟩
   have HTX : Hid (textL s = tx.data.toList) := by rw [← htx]; exact rfl
   simp only [htx] at HX HBL
   clear htx
   go_wp2_with (first
    | (go_at_call 62; refine (HX _).mono ?_; rintro e w1 ⟨rfl, hb1⟩; have HB1 := keepB HB hb1; have HI1 := Lib.hid (bIs_below HI.out hb1); clear hb1)
    | (go_at_call 61; refine (bd_WriteString w.heap.size w.heap.size _ tx w1 HI1.out HBL.out HB1.out.size).mono ?_; rintro e w2 ⟨rfl, hi2, hb2⟩; have HI2 := Lib.hid (Or.inr hi2 : Go.Lib.IsBuilder 110 5 w.heap.size w.heap.size _ w2); have HB2 := Lib.hid (HB1.out.trans hb2); clear hi2 hb2))
   go_roundw
   case rel => exact ⟨k + 1, by go_num, hlt, by
    have h := HI2.out
    rw [Go.Lib.strCells_eq, ← HTX.out, ← Go.Lib.byteCells_append, ← HN.out] at h
    exact h, HB2⟩
   case measure => simp [intOf]; omega
  ·obtain rfl : k = l.length := by omega
   have HA := Lib.hid (partL_all l)
   have hst := Tryz.Builder_String_any w.heap.size w.heap.size (partL l l.length) wr HI.out HB.out.size
   have HST := Lib.hid hst
   clear hst
   go_wp2_with (go_at_call 63; refine HST.out.mono ?_; rintro e w1 ⟨rfl, hb1⟩; have HB1 := Lib.hid (HB.out.trans hb1); clear hb1)
   go_ret2
   exact ⟨by rw [HA.out]; rfl, HB1.out⟩
end Go.Proofs.YtafeepdlcilicaaGreat.Q

-- C0
namespace Go.Proofs.YtafeepdlcilicaaGreat.Q
open Go.WideMaps Go.RowKit Go.Proofs.YtafeepdlcilicaaGreatW.PrintWords Go.Proofs.YtafeepdlcilicaaGreatW.PrintLast Go.Proofs.YtafeepdlcilicaaGreatW.PrintMore Go.Maps
set_option linter.unusedVariables false
set_option linter.unusedSimpArgs false

/-! ### maps of strings -/
def strR : Value → Option (DataW Unit × List MemPlace)
 | .string s => some (.lit (.string s.data.toList), [])
 | _ => none
theorem strR_mk (s : ByteArray) : strR (.string s) = some (.lit (.string s.data.toList), []) := rfl
theorem strR_inv {v : Value} {z : DataW Unit × List MemPlace} (h : strR v = some z) : ∃ s : ByteArray, v = .string s ∧ z = (.lit (.string s.data.toList), []) := by
 cases v <;> simp only [strR] at h <;> try (cases h; done)
 injection h with h
 exact ⟨_, rfl, h.symm⟩
theorem strD_inj {a b : ByteArray} (h : (DataW.lit (.string a.data.toList) : DataW Unit) = .lit (.string b.data.toList)) : a = b := by
 injection h with h
 injection h with h
 exact bytes_inj h
/-- The map, as it reads. -/
def HasS (D : DataW Unit) (f : ByteArray → Option ByteArray) : Prop :=
 IsMap D ∧ ∀ nm : ByteArray, Maps.has D (.string nm.data.toList) = (f nm).isSome ∧ ∀ s, f nm = some s → ∀ z, D.atKey (.string nm.data.toList) z = .lit (.string s.data.toList)
theorem hasS_nil : HasS (.map []) (fun _ => none) := ⟨isMap_empty, fun nm => ⟨rfl, fun n h => by cases h⟩⟩
theorem hasS_put {D : DataW Unit} {f : ByteArray → Option ByteArray} (h : HasS D f) (a b : ByteArray) : HasS (D.put (.string a.data.toList) (.lit (.string b.data.toList))) (putF f a b) := by
 refine ⟨h.1.put _ _, fun nm => ?_⟩
 unfold putF
 by_cases e : nm = a
 ·subst e
  rw [if_pos rfl]
  refine ⟨?_, fun m hm z => ?_⟩
  ·rw [has_put_same h.1 (by exact trivial)]; rfl
  ·injection hm with hm
   subst hm
   exact atKey_put_same h.1 (by exact trivial) _ _
 ·rw [if_neg e]
  obtain ⟨h1, h2⟩ := h.2 nm
  refine ⟨?_, fun m hm z => ?_⟩
  ·rw [has_put_other (lit_ne e)]; exact h1
  ·rw [atKey_put_other (lit_ne e)]; exact h2 m hm z
theorem hasS_del {D : DataW Unit} {f : ByteArray → Option ByteArray} (h : HasS D f) (a : ByteArray) : HasS (D.del (.string a.data.toList)) (delF f a) := by
 refine ⟨h.1.del _, fun nm => ?_⟩
 unfold delF
 by_cases e : nm = a
 ·subst e
  rw [if_pos rfl]
  exact ⟨has_del_same, fun m hm => by cases hm⟩
 ·rw [if_neg e]
  obtain ⟨h1, h2⟩ := h.2 nm
  refine ⟨?_, fun m hm z => ?_⟩
  ·rw [has_del_other (lit_ne e)]; exact h1
  ·rw [atKey_del_other (lit_ne e)]; exact h2 m hm z
theorem slaw : Keyed Tryz.prog 9 := string_keyed Tryz.underlying9
theorem szero (w : World) : (zeroValue 9).run Tryz.prog w = .ok (.string ⟨#[]⟩) w := Tryz.zeroValue9 w
theorem skey {s : ByteArray} (h : s.size ≤ maxLen) : keyOf Tryz.prog 9 (.string s) = some (.string s.data.toList) := keyOf_string_mk Tryz.underlying9 h
theorem skey_inv {key : Value} {kl : Lit} (h : keyOf Tryz.prog 9 key = some kl) : ∃ s : ByteArray, key = .string s ∧ kl = .string s.data.toList ∧ s.size ≤ maxLen := by
 cases key <;> simp [keyOf, Tryz.underlying9, mapKey] at h
 rename_i s
 exact ⟨s, rfl, h.2.symm, h.1⟩
theorem owns_blk {w w' : World} {P : Program} {k : TypeId} {R : Value → Option (DataW Unit × List MemPlace)} {b n : Nat} {D : DataW Unit} (h : w.ownsMap P k R b n D) (e : w'.heap[b]? = w.heap[b]?) : w'.ownsMap P k R b n D := by
 obtain ⟨es, clock, hb, r⟩ := h
 exact ⟨es, clock, e.trans hb, r⟩
theorem owns_below {w w' : World} {P : Program} {k : TypeId} {R : Value → Option (DataW Unit × List MemPlace)} {b n : Nat} {D : DataW Unit} (h : w.ownsMap P k R b n D) (hb : Below w.heap.size w w') : w'.ownsMap P k R b n D :=
 owns_blk h (hb.block b h.lt)
def dfltS : Option ByteArray → ByteArray
 | none => ⟨#[]⟩
 | some n => n
theorem looks_ok {W : World} {B k : Nat} {D : DataW Unit} {f : ByteArray → Option ByteArray} (hown : W.ownsMap Tryz.prog 9 strR B k D) (hH : HasS D f) {nm : ByteArray} (hs : nm.size ≤ maxLen) :
  (Instr.lookup 62 (.map (some B)) (.string nm) true).run Tryz.prog W = .ok (.tuple #[.string (dfltS (f nm)), .bool (f nm).isSome]) W := by
 obtain ⟨v, ps, hrun, hv⟩ := hown.look_ok slaw Tryz.underlying62 (szero W) (strR_mk ⟨#[]⟩) (skey hs)
 obtain ⟨h1, h2⟩ := hH.2 nm
 rw [h1] at hrun
 rw [hrun]
 obtain ⟨n, rfl, hz⟩ := strR_inv hv
 cases hc : f nm
 ·rw [hc] at h1
  have h3 := atKey_of_not_has h1 (DataW.lit (.string (⟨#[]⟩ : ByteArray).data.toList) : DataW Unit)
  have hz1 := congrArg Prod.fst hz
  simp only at hz1
  have hz := h3.symm.trans hz1
  have e := strD_inj hz
  subst e
  simp only [dfltS, Option.isSome]
 ·rename_i o
  have hz1 := congrArg Prod.fst hz
  simp only at hz1
  have hz := (h2 o hc _).symm.trans hz1
  have e := strD_inj hz
  subst e
  simp only [dfltS, Option.isSome]
/-- 'old, there := m[name]' at the operation. -/
theorem wpList_looks_ok (w : World) {ops : Array Oper} {rest : List Oper} {o : Oper} {a : Act} {Q : Exit → Act → World → Prop} (hg : o.guard = none) (m x : Operand) (hop : o.op = Op.lookup 62 m x true)
  (B k : Nat) (D : DataW Unit) (f : ByteArray → Option ByteArray) (hm : a.eval m = .map (some B)) (hown : w.ownsMap Tryz.prog 9 strR B k D) (hH : HasS D f) (nm : ByteArray) (hx : a.eval x = .string nm) (hs : nm.size ≤ maxLen) (r : Option ByteArray) (hr : f nm = r) (q : ByteArray) (b : Bool) (hq : dfltS r = q) (hb : r.isSome = b)
  (hK : wpList Tryz.prog ops Q rest (a.put o.dst (.tuple #[.string q, .bool b])) w) :
  wpList Tryz.prog ops Q (o :: rest) a w := by
 subst hr
 subst hq
 subst hb
 refine wpList_plain hg fun K' hK' => ?_
 unfold Oper.wp
 simp [execOp, hop, hm, hx, looks_ok hown hH hs, Result.andThen]
 exact hK' _ _ hK
/-! rows as raw cells -/
def RawAt (w : World) (ad : Addr) (cs : List Value) : Prop := ∀ (j : Nat) (u : Value), cs[j]? = some u → w.cell? (ad.add j) = some u
theorem own_raw {w : World} {base n g cap sz : Nat} {e : TypeId} {cs : List Value} (h : w.ownsRow base e sz (.slice (some ⟨g, 0, none⟩) n cap) n cs) : RawAt w ⟨g, 0, none⟩ cs := by
 intro j u hu
 rcases h.2 with ⟨h1, _⟩ | ⟨g', cap', cur, hv, hg, hh, hn, hm, hsz, hcur⟩
 ·cases h1
 ·injection hv with e1 e2 e3
  injection e1 with e1; injection e1 with e1
  subst e1
  have : (Addr.add ⟨g, 0, none⟩ j) = ⟨g, j, none⟩ := by unfold Addr.add; split <;> simp_all
  rw [this, blk_cell hh]
  have hj := (List.getElem?_eq_some_iff.1 hu).1
  rw [← hcur, List.getElem?_take] at hu
  split at hu
  ·simpa using hu
  ·cases hu
theorem raw_new (W : World) (cs : Array Value) (t : TypeId) (g : Nat) (hg : g = W.heap.size) : RawAt (W.alloc (.cells cs t)) ⟨g, 0, none⟩ cs.toList := by
 subst hg
 intro j u hu
 have : (Addr.add ⟨W.heap.size, 0, none⟩ j) = ⟨W.heap.size, j, none⟩ := by unfold Addr.add; split <;> simp_all
 rw [this, blk_cell (blk_new W _)]
 simpa using hu
theorem below_grown {w w' : World} (h : Below w.heap.size w w') : w.grownBy w' none := ⟨h.os, h.tape, h.output, h.size, fun k hk _ => h.block k hk⟩
theorem lit_same {a b : ByteArray} (h : (Lit.string a.data.toList).sameKey (.string b.data.toList) = true) : a = b := by
 have := Go.WideAt.sameKey_eq h
 injection this with this
 exact bytes_inj this
theorem lit_self (a : ByteArray) : (Lit.string a.data.toList).sameKey (.string a.data.toList) = true := Go.WideAt.sameKey_self (by exact trivial)
end Go.Proofs.YtafeepdlcilicaaGreat.Q

-- C1
namespace Go.Proofs.YtafeepdlcilicaaGreat.Q
open Go.WideMaps Go.RowKit Go.Proofs.YtafeepdlcilicaaGreatW.PrintWords Go.Proofs.YtafeepdlcilicaaGreatW.PrintLast Go.Proofs.YtafeepdlcilicaaGreatW.PrintMore Go.Maps Go.Sort
set_option linter.unusedVariables false
set_option linter.unusedSimpArgs false

/-! ### a slice of these structs, as its cells, of the call's own, sorted by the library -/
def enc35 (n : S43) : List Value := [.string n.f0, .string n.f1]
def fl35 (l : List S43) : List Value := (l.map enc35).flatten
theorem enc35_len (n : S43) : (enc35 n).length = 2 := rfl
theorem enc35_one (n : S43) : ∀ v ∈ enc35 n, v.oneCell' = true := by
 intro v hv
 simp [enc35] at hv
 rcases hv with rfl | rfl <;> rfl
theorem fl35_cons (n : S43) (l : List S43) : fl35 (n :: l) = enc35 n ++ fl35 l := rfl
theorem fl35_append (l m : List S43) : fl35 (l ++ m) = fl35 l ++ fl35 m := by simp [fl35]
theorem fl35_snoc (l : List S43) (n : S43) : fl35 (l ++ [n]) = fl35 l ++ [.string n.f0, .string n.f1] := by rw [fl35_append]; rfl
theorem fl35_len : ∀ l : List S43, (fl35 l).length = l.length * 2
 | [] => rfl
 | n :: l => by rw [fl35_cons, List.length_append, fl35_len l, enc35_len, List.length_cons]; omega
theorem fl35_at : ∀ (l : List S43) (j i : Nat), i < 2 → (fl35 l)[j * 2 + i]? = (l[j]?).bind (fun n => (enc35 n)[i]?)
 | [], j, i, hi => by simp [fl35]
 | n :: l, j, i, hi => by
  rw [fl35_cons]
  rcases j with _ | j
  ·rw [List.getElem?_append_left (by rw [enc35_len]; omega)]; simp
  ·rw [List.getElem?_append_right (by rw [enc35_len]; omega), enc35_len, show (j + 1) * 2 + i - 2 = j * 2 + i by omega, fl35_at l j i hi]
   simp
theorem raw35_C {w : World} {ad : Addr} {l : List S43} (hr : RawAt w ad (fl35 l)) (hn : l.length ≤ 9223372036854775807) : Kd.C k43 w (some ad) l.length l := by
 refine ⟨rfl, hn, fun _ => ⟨ad, rfl, fun j x hx => ⟨enc35 x, rfl, k43_mk w x, fun i u hu => hr _ _ ?_⟩⟩⟩
 have hi : i < 2 := (List.getElem?_eq_some_iff.1 hu).1
 show (fl35 l)[j * 2 + i]? = some u
 rw [fl35_at l j i hi, hx]
 exact hu
/-- A slice of notes of the call's own. -/
def NRow35 (w : World) (base : Nat) (v : Value) (l : List S43) : Prop := w.ownsRow base 43 2 v l.length (fl35 l)
theorem NRow35.reads {w : World} {base : Nat} {v : Value} {l : List S43} (h : NRow35 w base v l) : ∃ A c, v = .slice A l.length c ∧ l.length ≤ c ∧ Kd.C k43 w A l.length l := by
 rcases h.2 with ⟨rfl, h0⟩ | ⟨g, cap, cur, rfl, hg, hh, hn, hm, hsz, hcur⟩
 ·have : l = [] := List.length_eq_zero_iff.1 h0
  subst this
  exact ⟨none, 0, rfl, Nat.le_refl _, rfl, by decide, fun h => absurd h (by decide)⟩
 ·exact ⟨_, _, rfl, hn, raw35_C (own_raw h) (by unfold maxLen at hm; omega)⟩
theorem NRow35.nil (w : World) (base : Nat) : NRow35 w base (.slice none 0 0) [] := ⟨rfl, Or.inl ⟨rfl, rfl⟩⟩
theorem NRow35.below {w w1 : World} {base : Nat} {v : Value} {l : List S43} (h : NRow35 w base v l) (hb : Below w.heap.size w w1) : NRow35 w1 base v l := by
 obtain ⟨h1, h2⟩ := h
 refine ⟨h1, ?_⟩
 rcases h2 with h2 | ⟨g, cap, cur, e, hg, hh, r⟩
 ·exact Or.inl h2
 ·exact Or.inr ⟨g, cap, cur, e, hg, (hb.block g (blk_lt hh)).trans hh, r⟩
theorem NRow35.mono {w : World} {base base' : Nat} {v : Value} {l : List S43} (h : NRow35 w base v l) (hb : base' ≤ base) : NRow35 w base' v l := by
 obtain ⟨h1, h2⟩ := h
 refine ⟨h1, ?_⟩
 rcases h2 with h2 | ⟨g, cap, cur, e, hg, r⟩
 ·exact Or.inl h2
 ·exact Or.inr ⟨g, cap, cur, e, Nat.le_trans hb hg, r⟩
def cf35 (x y : S43) : Int := if Op.bytesLess x.f0.toList y.f0.toList = true then -1 else if Op.bytesLess y.f0.toList x.f0.toList = true then 1 else 0
theorem cf35_f (x y : S43) : cmp_Compare_string.f x.f0 y.f0 = some (cf35 x y) := by
 unfold cmp_Compare_string.f cmp_isNaN_string.f cf35
 rw [Option.bind_some, Option.bind_some, if_neg (by simp), if_neg (by simp)]
 split
 ·rfl
 ·split <;> rfl
theorem ltOf35 (x y : S43) : ltOf cf35 x y = Op.bytesLess x.f0.toList y.f0.toList := by
 unfold ltOf cf35
 split
 ·rename_i h; rw [h]; rfl
 ·rename_i h
  have h' : Op.bytesLess x.f0.toList y.f0.toList = false := by simpa using h
  rw [h']
  split <;> rfl
theorem swo35 : SWO (ltOf cf35) where
 irrefl x := by rw [ltOf35]; exact Bool.eq_false_iff.2 (fun h => ltN_irrefl _ (bless_ltN.1 h))
 trans x y z h1 h2 := by rw [ltOf35] at *; exact bless_ltN.2 (ltN_trans (bless_ltN.1 h1) (bless_ltN.1 h2))
 ntrans x y z h1 h2 := by
  rw [ltOf35] at *
  refine Bool.eq_false_iff.2 fun h => ?_
  have h' := bless_ltN.1 h
  have h3 : ¬ ltN x.f0 y.f0 := fun q => by rw [bless_ltN.2 q] at h1; cases h1
  have h4 : ¬ ltN y.f0 z.f0 := fun q => by rw [bless_ltN.2 q] at h2; cases h2
  by_cases e : x.f0 = y.f0
  ·rw [← e] at h4; exact h4 h'
  ·exact h4 (ltN_trans (ltN_of (Ne.symm e) h3) h')
set_option maxHeartbeats 1000000 in
theorem closure35 (x y : S43) (W : World) : Calls Tryz.prog 19 #[.agg (enc35 x).toArray, .agg (enc35 y).toArray] W fun e w' => e = .returned (.int .i64 (cf35 x y)) ∧ ∃ q os', w' = grow (W.drewN q) os' := by
 have hcon := fun W' => cmp_Compare_string.calls x.f0 y.f0 (cf35 x y) W' (cf35_f x y)
 show Calls Tryz.prog 19 #[.agg #[.string x.f0, .string x.f1], .agg #[.string y.f0, .string y.f1]] W _
 generalize cf35 x y = r at hcon ⊢
 go_enter Tryz.func19, Tryz.ntmps19
 go_wp2_with (go_at_call 25; refine (hcon _).mono ?_; rintro e w' ⟨rfl, ⟨⟨nd, rfl⟩⟩⟩)
 go_ret
 exact ⟨rfl, nd, _, by rw [alloc_eq_grow, alloc_eq_grow, grow_grow]; rfl⟩
theorem cmpLays35 (blk off size : Nat) (w : World) : CmpLays Tryz.prog 19 #[] enc35 2 cf35 blk off size w := fun _ _ _ _ x y => closure35 x y _
theorem flatK_fl (l : List S43) : (flatK enc35 2 l.toArray).toList = fl35 l := by
 apply List.ext_getElem?
 intro t
 have e1 : t = t / 2 * 2 + t % 2 := by omega
 have hm : t % 2 < 2 := Nat.mod_lt _ (by decide)
 by_cases ht : t < l.length * 2
 ·have hj : t / 2 < l.length := by omega
  rw [e1, fl35_at l _ _ hm, List.getElem?_eq_getElem hj, Option.bind_some, ← e1]
  have h2 := get_flatK enc35 2 l.toArray t (by simpa using ht)
  have h3 : t < (flatK enc35 2 l.toArray).toList.length := by simpa using ht
  rw [List.getElem?_eq_getElem h3]
  have h4 : (flatK enc35 2 l.toArray)[t]! = (flatK enc35 2 l.toArray).toList[t] := by
   rw [getElem!_pos _ t (by simpa using ht)]; simp
  rw [h4] at h2
  rw [h2]
  have h5 : l.toArray[t / 2]! = l[t / 2] := by simp [hj]
  rw [h5]
  have h6 : t % 2 < (enc35 l[t / 2]).length := hm
  rw [getElem!_pos (enc35 l[t / 2]) (t % 2) h6, List.getElem?_eq_getElem h6]
 ·rw [List.getElem?_eq_none (by simp; omega), List.getElem?_eq_none (by rw [fl35_len]; omega)]
theorem holds_own35 {w : World} {g : Nat} {cur : Array Value} {l : List S43} (hb : w.heap[g]? = some (.cells cur 43 (0, 0))) (ht : cur.toList.take (l.length * 2) = fl35 l) : HoldsK enc35 2 w g 0 l.toArray := by
 intro j hj
 have hj' : j < l.length * 2 := by simpa using hj
 refine ⟨?_, by simp [World.frozen?, hb]⟩
 have h1 : (cur.toList.take (l.length * 2))[j]? = (flatK enc35 2 l.toArray).toList[j]? := by rw [ht, flatK_fl]
 rw [List.getElem?_take_of_lt hj'] at h1
 rw [Nat.zero_add, blk_cell hb, ← Array.getElem?_toList, h1, Array.getElem?_toList, Array.getElem?_eq_getElem hj]
 rw [getElem!_pos _ j hj]
 rfl
theorem heap_sortedK35 {w : World} {g n : Nat} {os : Array Obj} {cur : Array Value} {e : TypeId} {fr : Nat × Nat} (d : Array S43) (hb : w.heap[g]? = some (.cells cur e fr)) :
  (sortWorldK enc35 2 w g 0 n d os).heap[g]? = some (.cells (putCells id 0 (flatK enc35 2 d) cur) e fr) := by
 have hg : g < w.heap.size := (Array.getElem?_eq_some_iff.1 hb).1
 unfold sortWorldK
 rw [heap_grow_old _ _ (by simpa [putRowK] using hg)]
 simp [putRowK, putRow, mapBlock, Go.Sort.ahead, Array.getElem?_modify, hb, onCells]
theorem grownBy_sortedK35 {w : World} {g n : Nat} {os : Array Obj} (d : Array S43) : w.grownBy (sortWorldK enc35 2 w g 0 n d os) (some g) := by
 refine ⟨rfl, rfl, rfl, by simp [sortWorldK, putRowK], fun k hk hne => ?_⟩
 unfold sortWorldK
 rw [heap_grow_old _ _ (by simpa [putRowK] using hk)]
 have : g ≠ k := fun e => hne (by rw [e])
 simp [putRowK, putRow, mapBlock, Go.Sort.ahead, Array.getElem?_modify, this]
theorem take_putCellsK35 (cur : Array Value) (ts : List S43) (h : ts.length * 2 ≤ cur.size) : (putCells id 0 (flatK enc35 2 ts.toArray) cur).toList.take (ts.length * 2) = fl35 ts := by
 rw [← flatK_fl]
 apply List.ext_getElem?
 intro j
 by_cases hj : j < ts.length * 2
 ·rw [List.getElem?_take_of_lt hj, Array.getElem?_toList]
  have h3 : j < (flatK enc35 2 ts.toArray).size := by simpa using hj
  simp [putCells, hj, show j < cur.size by omega, h3]
 ·rw [List.getElem?_take_eq_none (by omega), List.getElem?_eq_none (by simp; omega)]
theorem row_sorted35 {w : World} {base g cap n : Nat} {os : Array Obj} {cur : Array Value} {ss ts : List S43} (hl : ts.length = ss.length) (hbase : base ≤ g) (hb : w.heap[g]? = some (.cells cur 43 (0, 0)))
  (h1 : ss.length ≤ cap) (h2 : cap ≤ maxLen) (h3 : cur.size = cap * 2) :
  NRow35 (sortWorldK enc35 2 w g 0 n ts.toArray os) base (.slice (some ⟨g, 0, none⟩) ss.length cap) ts := by
 refine ⟨by rw [fl35_len], .inr ⟨g, cap, _, by rw [hl], hbase, heap_sortedK35 _ hb, by omega, h2, by simp [putCells, h3], ?_⟩⟩
 exact take_putCellsK35 cur ts (by omega)
set_option maxHeartbeats 2000000 in
theorem ins_none35 (p : Option Addr) (cap : Nat) (fv : Value) (w : World) : Calls Tryz.prog 64 #[.slice p 0 cap, .int .i64 0, .int .i64 0, fv] w fun e w' => e = .returned (.tuple #[]) ∧ w' = w := by
 go_enter Tryz.func64, Tryz.ntmps64
 go_wp2
 refine wp_loop_rounds 1 ?_
 rw [rounds_succ]
 go_wp2
 go_end0
 exact ⟨rfl, rfl⟩
set_option maxHeartbeats 2000000 in
theorem pdq_none35 (p : Option Addr) (cap : Nat) (lim : Int) (fv : Value) (w : World) : Calls Tryz.prog 33 #[.slice p 0 cap, .int .i64 0, .int .i64 0, .int .i64 lim, fv] w fun e w' => e = .returned (.tuple #[]) ∧ w' = w := by
 have hi := fun W => ins_none35 p cap fv W
 go_enter Tryz.func33, Tryz.ntmps33
 go_wp2
 refine wp_loop_rounds 1 ?_
 rw [rounds_succ]
 go_wp2_with (go_at_call 64; refine (hi _).mono ?_; rintro e w' ⟨rfl, rfl⟩)
 (try simp only [Exit.inBlock, Exit.then]); refine bodyPost_ret (results_none rfl _ _ _) rfl ?_
 exact ⟨rfl, rfl⟩
set_option maxHeartbeats 2000000 in
theorem sort_none35 (p : Option Addr) (cap : Nat) (fv : Value) (w : World) : Calls Tryz.prog 18 #[.slice p 0 cap, fv] w fun e w' => e = .returned (.tuple #[]) ∧ w' = w := by
 have hp := fun lim W => pdq_none35 p cap lim fv W
 have hl : ∀ W, Calls Tryz.prog 34 #[.int .u64 0] W fun e w' => e = .returned (.int .i64 (Go.Lib.bitLen 0 : Nat)) ∧ w' = W := fun W =>
  Any.bits_Len (SlLaysF0.n15.bits (P := Tryz.prog) (ρ := Tryz.sortItems_ren) { Tryz.sortItems with }) 0 W (by omega) (by omega)
 go_enter Tryz.func18, Tryz.ntmps18
 go_wp2_with (first | (go_at_call 34; refine (hl _).mono ?_; rintro e w' ⟨rfl, rfl⟩) | (go_at_call 33; refine (hp _ _).mono ?_; rintro e w' ⟨rfl, rfl⟩))
 go_end0
 exact ⟨rfl, rfl⟩
/-- A slice of notes of the call's own is sorted by their names. -/
theorem sort_notes35 (base : Nat) (v : Value) (ys : List S43) (w : World) (h : NRow35 w base v ys) (hn : ys.length ≤ 1000000) :
  Calls Tryz.prog 18 #[v, .func (.func 19) #[] #[]] w fun e w' => e = .returned (.tuple #[]) ∧ ∃ zs, NRow35 w' base v zs ∧ zs.Perm ys ∧ zs.Pairwise (fun a b => ¬ ltN b.f0 a.f0) ∧ w.grownBy w' v.ownBlock := by
 rcases h.2 with ⟨rfl, h0⟩ | ⟨g, cap, cur, rfl, hg, hh, h1, h2, h3, h4⟩
 ·refine (sort_none35 none 0 _ w).mono ?_
  rintro e w' ⟨rfl, rfl⟩
  have : ys = [] := List.length_eq_zero_iff.1 h0
  subst this
  exact ⟨rfl, [], h, List.Perm.refl _, List.Pairwise.nil, World.grownBy.refl _ _⟩
 ·have eg : ∀ args w, (callFunc 19 args).run Tryz.prog w = .ok (.enter 19 args) w := enters_of Tryz.func19 (by kernel_rfl) rfl
  have hcon := AnyQ.slices_SortFunc Tryz.sortItems 2 Tryz.isAgg43 Tryz.sizeOf43 enc35 enc35_len enc35_one cf35 swo35 19 #[] g 0 cap ys.toArray w eg (cmpLays35 g 0 _ w) (holds_own35 hh h4) (blk_lt hh) (by simp; omega)
  change Calls Tryz.prog 18 _ _ _ at hcon
  simp only [List.size_toArray] at hcon
  refine hcon.mono ?_
  rintro e w' ⟨rfl, d', n, os, hp, hs, rfl⟩
  obtain ⟨p1, p2, p3⟩ := hp
  simp only [List.size_toArray] at p1
  have p4 : d'.toList.Perm ys := by
   have e1 : d'.extract 0 ys.length = d' := by rw [← p1]; exact Array.extract_size
   have e2 : ys.toArray.extract 0 ys.length = ys.toArray := by
    simp
   rw [e1, e2] at p3
   exact p3
  refine ⟨rfl, d'.toList, ?_, p4, ?_, grownBy_sortedK35 d'⟩
  ·have := row_sorted35 (n := n) (os := os) (ts := d'.toList) (by simpa using p1) hg hh h1 h2 h3
   simpa using this
  ·rw [List.pairwise_iff_getElem]
   intro i j hi hj hij
   have h5 := hs i j (Nat.zero_le _) hij (by simp at hj; omega)
   rw [ltOf35] at h5
   have h6 : ¬ ltN d'[j]!.f0 d'[i]!.f0 := fun q => by rw [bless_ltN.2 q] at h5; cases h5
   simp at hi hj
   rw [getElem!_pos d' i hi, getElem!_pos d' j hj] at h6
   simpa using h6
theorem NRow35.grown {w w1 : World} {base : Nat} {v : Value} {l : List S43} {row : Option Nat} (h : NRow35 w base v l) (hg : w.grownBy w1 row) (hne : ∀ g, v.ownBlock = some g → some g ≠ row) : NRow35 w1 base v l := by
 obtain ⟨h1, h2⟩ := h
 refine ⟨h1, ?_⟩
 rcases h2 with h2 | ⟨g, cap, cur, e, hg', hh, r⟩
 ·exact Or.inl h2
 ·exact Or.inr ⟨g, cap, cur, e, hg', (hg.block g (blk_lt hh) (hne g (by rw [e]; rfl))).trans hh, r⟩
theorem NRow35.ne_low {w : World} {base : Nat} {v : Value} {l : List S43} (h : NRow35 w base v l) {b : Nat} (hb : b < base) : some b ≠ v.ownBlock := fun e => by
 have := own_base h b e.symm
 omega
theorem NRow35.ne_iter {w : World} {base : Nat} {v : Value} {l : List S43} (h : NRow35 w base v l) {P : Program} {k : TypeId} {R : Value → Option (DataW Unit × List MemPlace)} {b r n : Nat} {D : DataW Unit} {left : Lit → Bool} {cn : Nat} (hr : w.ranges P k R b r n D left cn) : some r ≠ v.ownBlock := by
 obtain ⟨_, _, _, _, _, _, _, _, _, hit, _⟩ := hr
 rcases h.2 with ⟨rfl, _⟩ | ⟨g, cap, cur, rfl, _, hb, _⟩
 ·simp [Value.ownBlock]
 ·intro e1
  have : r = g := by simpa [Value.ownBlock] using e1
  subst this
  rw [hit] at hb
  cases hb
theorem NRow35.snoc {w : World} {base : Nat} {v : Value} {l : List S43} {n : S43} (h : w.ownsRow base 43 2 v (l.length + 1) (fl35 l ++ [.string n.f0, .string n.f1])) : NRow35 w base v (l ++ [n]) := by
 unfold NRow35
 rw [fl35_snoc, List.length_append]
 exact h
theorem NRow35.kept {w w1 : World} {base : Nat} {v : Value} {l : List S43} (h : NRow35 w base v l) (hb : Below w.heap.size w w1) : NRow35 w1 base v l := h.below hb
theorem fl35_seg (l : List S43) (j : Nat) (n : S43) (h : l[j]? = some n) : ((fl35 l).drop (j * 2)).take 2 = enc35 n := by
 apply List.ext_getElem?
 intro i
 by_cases hi : i < 2
 ·rw [List.getElem?_take_of_lt hi, List.getElem?_drop, fl35_at l j i hi, h]; rfl
 ·rw [List.getElem?_take_eq_none (by omega), List.getElem?_eq_none (by rw [enc35_len]; omega)]
theorem NRow35.R {w : World} {base : Nat} {v : Value} {l : List S43} (h : NRow35 w base v l) : Kd.R k43 43 w base (fun _ => True) v l :=
 ⟨fun _ _ => trivial, fl35 l, h, ⟨fl35_len l, fun j p hj => by
  show k43.M _ _ _ p (((fl35 l).drop (j * 2)).take 2)
  rw [fl35_seg l j p hj]
  exact k43_mkM _ _ _ p⟩⟩
end Go.Proofs.YtafeepdlcilicaaGreat.Q

-- C2
namespace Go.Proofs.YtafeepdlcilicaaGreat.Q
open Go.WideMaps Go.RowKit Go.Proofs.YtafeepdlcilicaaGreatW.PrintWords Go.Proofs.YtafeepdlcilicaaGreatW.PrintLast Go.Proofs.YtafeepdlcilicaaGreatW.PrintMore Go.Maps Go.Sort
set_option linter.unusedVariables false
set_option linter.unusedSimpArgs false

/-! ### a slice of these structs, as its cells, of the call's own, sorted by the library -/
def enc33 (n : S66) : List Value := [.string n.f0, .string n.f1, .bool n.f2]
def fl33 (l : List S66) : List Value := (l.map enc33).flatten
theorem enc33_len (n : S66) : (enc33 n).length = 3 := rfl
theorem enc33_one (n : S66) : ∀ v ∈ enc33 n, v.oneCell' = true := by
 intro v hv
 simp [enc33] at hv
 rcases hv with rfl | rfl | rfl <;> rfl
theorem fl33_cons (n : S66) (l : List S66) : fl33 (n :: l) = enc33 n ++ fl33 l := rfl
theorem fl33_append (l m : List S66) : fl33 (l ++ m) = fl33 l ++ fl33 m := by simp [fl33]
theorem fl33_snoc (l : List S66) (n : S66) : fl33 (l ++ [n]) = fl33 l ++ [.string n.f0, .string n.f1, .bool n.f2] := by rw [fl33_append]; rfl
theorem fl33_len : ∀ l : List S66, (fl33 l).length = l.length * 3
 | [] => rfl
 | n :: l => by rw [fl33_cons, List.length_append, fl33_len l, enc33_len, List.length_cons]; omega
theorem fl33_at : ∀ (l : List S66) (j i : Nat), i < 3 → (fl33 l)[j * 3 + i]? = (l[j]?).bind (fun n => (enc33 n)[i]?)
 | [], j, i, hi => by simp [fl33]
 | n :: l, j, i, hi => by
  rw [fl33_cons]
  rcases j with _ | j
  ·rw [List.getElem?_append_left (by rw [enc33_len]; omega)]; simp
  ·rw [List.getElem?_append_right (by rw [enc33_len]; omega), enc33_len, show (j + 1) * 3 + i - 3 = j * 3 + i by omega, fl33_at l j i hi]
   simp
theorem raw33_C {w : World} {ad : Addr} {l : List S66} (hr : RawAt w ad (fl33 l)) (hn : l.length ≤ 9223372036854775807) : Kd.C k66 w (some ad) l.length l := by
 refine ⟨rfl, hn, fun _ => ⟨ad, rfl, fun j x hx => ⟨enc33 x, rfl, k66_mk w x, fun i u hu => hr _ _ ?_⟩⟩⟩
 have hi : i < 3 := (List.getElem?_eq_some_iff.1 hu).1
 show (fl33 l)[j * 3 + i]? = some u
 rw [fl33_at l j i hi, hx]
 exact hu
/-- A slice of notes of the call's own. -/
def NRow33 (w : World) (base : Nat) (v : Value) (l : List S66) : Prop := w.ownsRow base 66 3 v l.length (fl33 l)
theorem NRow33.reads {w : World} {base : Nat} {v : Value} {l : List S66} (h : NRow33 w base v l) : ∃ A c, v = .slice A l.length c ∧ l.length ≤ c ∧ Kd.C k66 w A l.length l := by
 rcases h.2 with ⟨rfl, h0⟩ | ⟨g, cap, cur, rfl, hg, hh, hn, hm, hsz, hcur⟩
 ·have : l = [] := List.length_eq_zero_iff.1 h0
  subst this
  exact ⟨none, 0, rfl, Nat.le_refl _, rfl, by decide, fun h => absurd h (by decide)⟩
 ·exact ⟨_, _, rfl, hn, raw33_C (own_raw h) (by unfold maxLen at hm; omega)⟩
theorem NRow33.nil (w : World) (base : Nat) : NRow33 w base (.slice none 0 0) [] := ⟨rfl, Or.inl ⟨rfl, rfl⟩⟩
theorem NRow33.below {w w1 : World} {base : Nat} {v : Value} {l : List S66} (h : NRow33 w base v l) (hb : Below w.heap.size w w1) : NRow33 w1 base v l := by
 obtain ⟨h1, h2⟩ := h
 refine ⟨h1, ?_⟩
 rcases h2 with h2 | ⟨g, cap, cur, e, hg, hh, r⟩
 ·exact Or.inl h2
 ·exact Or.inr ⟨g, cap, cur, e, hg, (hb.block g (blk_lt hh)).trans hh, r⟩
theorem NRow33.mono {w : World} {base base' : Nat} {v : Value} {l : List S66} (h : NRow33 w base v l) (hb : base' ≤ base) : NRow33 w base' v l := by
 obtain ⟨h1, h2⟩ := h
 refine ⟨h1, ?_⟩
 rcases h2 with h2 | ⟨g, cap, cur, e, hg, r⟩
 ·exact Or.inl h2
 ·exact Or.inr ⟨g, cap, cur, e, Nat.le_trans hb hg, r⟩
def cf33 (x y : S66) : Int := if Op.bytesLess x.f0.toList y.f0.toList = true then -1 else if Op.bytesLess y.f0.toList x.f0.toList = true then 1 else 0
theorem cf33_f (x y : S66) : cmp_Compare_string.f x.f0 y.f0 = some (cf33 x y) := by
 unfold cmp_Compare_string.f cmp_isNaN_string.f cf33
 rw [Option.bind_some, Option.bind_some, if_neg (by simp), if_neg (by simp)]
 split
 ·rfl
 ·split <;> rfl
theorem ltOf33 (x y : S66) : ltOf cf33 x y = Op.bytesLess x.f0.toList y.f0.toList := by
 unfold ltOf cf33
 split
 ·rename_i h; rw [h]; rfl
 ·rename_i h
  have h' : Op.bytesLess x.f0.toList y.f0.toList = false := by simpa using h
  rw [h']
  split <;> rfl
theorem swo33 : SWO (ltOf cf33) where
 irrefl x := by rw [ltOf33]; exact Bool.eq_false_iff.2 (fun h => ltN_irrefl _ (bless_ltN.1 h))
 trans x y z h1 h2 := by rw [ltOf33] at *; exact bless_ltN.2 (ltN_trans (bless_ltN.1 h1) (bless_ltN.1 h2))
 ntrans x y z h1 h2 := by
  rw [ltOf33] at *
  refine Bool.eq_false_iff.2 fun h => ?_
  have h' := bless_ltN.1 h
  have h3 : ¬ ltN x.f0 y.f0 := fun q => by rw [bless_ltN.2 q] at h1; cases h1
  have h4 : ¬ ltN y.f0 z.f0 := fun q => by rw [bless_ltN.2 q] at h2; cases h2
  by_cases e : x.f0 = y.f0
  ·rw [← e] at h4; exact h4 h'
  ·exact h4 (ltN_trans (ltN_of (Ne.symm e) h3) h')
set_option maxHeartbeats 1000000 in
theorem closure33 (x y : S66) (W : World) : Calls Tryz.prog 24 #[.agg (enc33 x).toArray, .agg (enc33 y).toArray] W fun e w' => e = .returned (.int .i64 (cf33 x y)) ∧ ∃ q os', w' = grow (W.drewN q) os' := by
 have hcon := fun W' => cmp_Compare_string.calls x.f0 y.f0 (cf33 x y) W' (cf33_f x y)
 show Calls Tryz.prog 24 #[.agg #[.string x.f0, .string x.f1, .bool x.f2], .agg #[.string y.f0, .string y.f1, .bool y.f2]] W _
 generalize cf33 x y = r at hcon ⊢
 go_enter Tryz.func24, Tryz.ntmps24
 go_wp2_with (go_at_call 25; refine (hcon _).mono ?_; rintro e w' ⟨rfl, ⟨⟨nd, rfl⟩⟩⟩)
 go_ret
 exact ⟨rfl, nd, _, by rw [alloc_eq_grow, alloc_eq_grow, grow_grow]; rfl⟩
theorem cmpLays33 (blk off size : Nat) (w : World) : CmpLays Tryz.prog 24 #[] enc33 3 cf33 blk off size w := fun _ _ _ _ x y => closure33 x y _
theorem flatK_fl33 (l : List S66) : (flatK enc33 3 l.toArray).toList = fl33 l := by
 apply List.ext_getElem?
 intro t
 have e1 : t = t / 3 * 3 + t % 3 := by omega
 have hm : t % 3 < 3 := Nat.mod_lt _ (by decide)
 by_cases ht : t < l.length * 3
 ·have hj : t / 3 < l.length := by omega
  rw [e1, fl33_at l _ _ hm, List.getElem?_eq_getElem hj, Option.bind_some, ← e1]
  have h2 := get_flatK enc33 3 l.toArray t (by simpa using ht)
  have h3 : t < (flatK enc33 3 l.toArray).toList.length := by simpa using ht
  rw [List.getElem?_eq_getElem h3]
  have h4 : (flatK enc33 3 l.toArray)[t]! = (flatK enc33 3 l.toArray).toList[t] := by
   rw [getElem!_pos _ t (by simpa using ht)]; simp
  rw [h4] at h2
  rw [h2]
  have h5 : l.toArray[t / 3]! = l[t / 3] := by simp [hj]
  rw [h5]
  have h6 : t % 3 < (enc33 l[t / 3]).length := hm
  rw [getElem!_pos (enc33 l[t / 3]) (t % 3) h6, List.getElem?_eq_getElem h6]
 ·rw [List.getElem?_eq_none (by simp; omega), List.getElem?_eq_none (by rw [fl33_len]; omega)]
theorem holds_own33 {w : World} {g : Nat} {cur : Array Value} {l : List S66} (hb : w.heap[g]? = some (.cells cur 66 (0, 0))) (ht : cur.toList.take (l.length * 3) = fl33 l) : HoldsK enc33 3 w g 0 l.toArray := by
 intro j hj
 have hj' : j < l.length * 3 := by simpa using hj
 refine ⟨?_, by simp [World.frozen?, hb]⟩
 have h1 : (cur.toList.take (l.length * 3))[j]? = (flatK enc33 3 l.toArray).toList[j]? := by rw [ht, flatK_fl33]
 rw [List.getElem?_take_of_lt hj'] at h1
 rw [Nat.zero_add, blk_cell hb, ← Array.getElem?_toList, h1, Array.getElem?_toList, Array.getElem?_eq_getElem hj]
 rw [getElem!_pos _ j hj]
 rfl
theorem heap_sortedK33 {w : World} {g n : Nat} {os : Array Obj} {cur : Array Value} {e : TypeId} {fr : Nat × Nat} (d : Array S66) (hb : w.heap[g]? = some (.cells cur e fr)) :
  (sortWorldK enc33 3 w g 0 n d os).heap[g]? = some (.cells (putCells id 0 (flatK enc33 3 d) cur) e fr) := by
 have hg : g < w.heap.size := (Array.getElem?_eq_some_iff.1 hb).1
 unfold sortWorldK
 rw [heap_grow_old _ _ (by simpa [putRowK] using hg)]
 simp [putRowK, putRow, mapBlock, Go.Sort.ahead, Array.getElem?_modify, hb, onCells]
theorem grownBy_sortedK33 {w : World} {g n : Nat} {os : Array Obj} (d : Array S66) : w.grownBy (sortWorldK enc33 3 w g 0 n d os) (some g) := by
 refine ⟨rfl, rfl, rfl, by simp [sortWorldK, putRowK], fun k hk hne => ?_⟩
 unfold sortWorldK
 rw [heap_grow_old _ _ (by simpa [putRowK] using hk)]
 have : g ≠ k := fun e => hne (by rw [e])
 simp [putRowK, putRow, mapBlock, Go.Sort.ahead, Array.getElem?_modify, this]
theorem take_putCellsK33 (cur : Array Value) (ts : List S66) (h : ts.length * 3 ≤ cur.size) : (putCells id 0 (flatK enc33 3 ts.toArray) cur).toList.take (ts.length * 3) = fl33 ts := by
 rw [← flatK_fl33]
 apply List.ext_getElem?
 intro j
 by_cases hj : j < ts.length * 3
 ·rw [List.getElem?_take_of_lt hj, Array.getElem?_toList]
  have h3 : j < (flatK enc33 3 ts.toArray).size := by simpa using hj
  simp [putCells, hj, show j < cur.size by omega, h3]
 ·rw [List.getElem?_take_eq_none (by omega), List.getElem?_eq_none (by simp; omega)]
theorem row_sorted33 {w : World} {base g cap n : Nat} {os : Array Obj} {cur : Array Value} {ss ts : List S66} (hl : ts.length = ss.length) (hbase : base ≤ g) (hb : w.heap[g]? = some (.cells cur 66 (0, 0)))
  (h1 : ss.length ≤ cap) (h2 : cap ≤ maxLen) (h3 : cur.size = cap * 3) :
  NRow33 (sortWorldK enc33 3 w g 0 n ts.toArray os) base (.slice (some ⟨g, 0, none⟩) ss.length cap) ts := by
 refine ⟨by rw [fl33_len], .inr ⟨g, cap, _, by rw [hl], hbase, heap_sortedK33 _ hb, by omega, h2, by simp [putCells, h3], ?_⟩⟩
 exact take_putCellsK33 cur ts (by omega)
set_option maxHeartbeats 2000000 in
theorem ins_none33 (p : Option Addr) (cap : Nat) (fv : Value) (w : World) : Calls Tryz.prog 96 #[.slice p 0 cap, .int .i64 0, .int .i64 0, fv] w fun e w' => e = .returned (.tuple #[]) ∧ w' = w := by
 go_enter Tryz.func96, Tryz.ntmps96
 go_wp2
 refine wp_loop_rounds 1 ?_
 rw [rounds_succ]
 go_wp2
 go_end0
 exact ⟨rfl, rfl⟩
set_option maxHeartbeats 2000000 in
theorem pdq_none33 (p : Option Addr) (cap : Nat) (lim : Int) (fv : Value) (w : World) : Calls Tryz.prog 46 #[.slice p 0 cap, .int .i64 0, .int .i64 0, .int .i64 lim, fv] w fun e w' => e = .returned (.tuple #[]) ∧ w' = w := by
 have hi := fun W => ins_none33 p cap fv W
 go_enter Tryz.func46, Tryz.ntmps46
 go_wp2
 refine wp_loop_rounds 1 ?_
 rw [rounds_succ]
 go_wp2_with (go_at_call 96; refine (hi _).mono ?_; rintro e w' ⟨rfl, rfl⟩)
 (try simp only [Exit.inBlock, Exit.then]); refine bodyPost_ret (results_none rfl _ _ _) rfl ?_
 exact ⟨rfl, rfl⟩
set_option maxHeartbeats 2000000 in
theorem sort_none33 (p : Option Addr) (cap : Nat) (fv : Value) (w : World) : Calls Tryz.prog 23 #[.slice p 0 cap, fv] w fun e w' => e = .returned (.tuple #[]) ∧ w' = w := by
 have hp := fun lim W => pdq_none33 p cap lim fv W
 have hl : ∀ W, Calls Tryz.prog 34 #[.int .u64 0] W fun e w' => e = .returned (.int .i64 (Go.Lib.bitLen 0 : Nat)) ∧ w' = W := fun W =>
  Any.bits_Len (SlLaysF0.n15.bits (P := Tryz.prog) (ρ := Tryz.sortChanges_ren) { Tryz.sortChanges with }) 0 W (by omega) (by omega)
 go_enter Tryz.func23, Tryz.ntmps23
 go_wp2_with (first | (go_at_call 34; refine (hl _).mono ?_; rintro e w' ⟨rfl, rfl⟩) | (go_at_call 46; refine (hp _ _).mono ?_; rintro e w' ⟨rfl, rfl⟩))
 go_end0
 exact ⟨rfl, rfl⟩
/-- A slice of notes of the call's own is sorted by their names. -/
theorem sort_notes33 (base : Nat) (v : Value) (ys : List S66) (w : World) (h : NRow33 w base v ys) (hn : ys.length ≤ 1000000) :
  Calls Tryz.prog 23 #[v, .func (.func 24) #[] #[]] w fun e w' => e = .returned (.tuple #[]) ∧ ∃ zs, NRow33 w' base v zs ∧ zs.Perm ys ∧ zs.Pairwise (fun a b => ¬ ltN b.f0 a.f0) ∧ w.grownBy w' v.ownBlock := by
 rcases h.2 with ⟨rfl, h0⟩ | ⟨g, cap, cur, rfl, hg, hh, h1, h2, h3, h4⟩
 ·refine (sort_none33 none 0 _ w).mono ?_
  rintro e w' ⟨rfl, rfl⟩
  have : ys = [] := List.length_eq_zero_iff.1 h0
  subst this
  exact ⟨rfl, [], h, List.Perm.refl _, List.Pairwise.nil, World.grownBy.refl _ _⟩
 ·have eg : ∀ args w, (callFunc 24 args).run Tryz.prog w = .ok (.enter 24 args) w := enters_of Tryz.func24 (by kernel_rfl) rfl
  have hcon := AnyQ.slices_SortFunc Tryz.sortChanges 3 Tryz.isAgg66 Tryz.sizeOf66 enc33 enc33_len enc33_one cf33 swo33 24 #[] g 0 cap ys.toArray w eg (cmpLays33 g 0 _ w) (holds_own33 hh h4) (blk_lt hh) (by simp; omega)
  change Calls Tryz.prog 23 _ _ _ at hcon
  simp only [List.size_toArray] at hcon
  refine hcon.mono ?_
  rintro e w' ⟨rfl, d', n, os, hp, hs, rfl⟩
  obtain ⟨p1, p2, p3⟩ := hp
  simp only [List.size_toArray] at p1
  have p4 : d'.toList.Perm ys := by
   have e1 : d'.extract 0 ys.length = d' := by rw [← p1]; exact Array.extract_size
   have e2 : ys.toArray.extract 0 ys.length = ys.toArray := by
    simp
   rw [e1, e2] at p3
   exact p3
  refine ⟨rfl, d'.toList, ?_, p4, ?_, grownBy_sortedK33 d'⟩
  ·have := row_sorted33 (n := n) (os := os) (ts := d'.toList) (by simpa using p1) hg hh h1 h2 h3
   simpa using this
  ·rw [List.pairwise_iff_getElem]
   intro i j hi hj hij
   have h5 := hs i j (Nat.zero_le _) hij (by simp at hj; omega)
   rw [ltOf33] at h5
   have h6 : ¬ ltN d'[j]!.f0 d'[i]!.f0 := fun q => by rw [bless_ltN.2 q] at h5; cases h5
   simp at hi hj
   rw [getElem!_pos d' i hi, getElem!_pos d' j hj] at h6
   simpa using h6
theorem NRow33.grown {w w1 : World} {base : Nat} {v : Value} {l : List S66} {row : Option Nat} (h : NRow33 w base v l) (hg : w.grownBy w1 row) (hne : ∀ g, v.ownBlock = some g → some g ≠ row) : NRow33 w1 base v l := by
 obtain ⟨h1, h2⟩ := h
 refine ⟨h1, ?_⟩
 rcases h2 with h2 | ⟨g, cap, cur, e, hg', hh, r⟩
 ·exact Or.inl h2
 ·exact Or.inr ⟨g, cap, cur, e, hg', (hg.block g (blk_lt hh) (hne g (by rw [e]; rfl))).trans hh, r⟩
theorem NRow33.ne_low {w : World} {base : Nat} {v : Value} {l : List S66} (h : NRow33 w base v l) {b : Nat} (hb : b < base) : some b ≠ v.ownBlock := fun e => by
 have := own_base h b e.symm
 omega
theorem NRow33.ne_iter {w : World} {base : Nat} {v : Value} {l : List S66} (h : NRow33 w base v l) {P : Program} {k : TypeId} {R : Value → Option (DataW Unit × List MemPlace)} {b r n : Nat} {D : DataW Unit} {left : Lit → Bool} {cn : Nat} (hr : w.ranges P k R b r n D left cn) : some r ≠ v.ownBlock := by
 obtain ⟨_, _, _, _, _, _, _, _, _, hit, _⟩ := hr
 rcases h.2 with ⟨rfl, _⟩ | ⟨g, cap, cur, rfl, _, hb, _⟩
 ·simp [Value.ownBlock]
 ·intro e1
  have : r = g := by simpa [Value.ownBlock] using e1
  subst this
  rw [hit] at hb
  cases hb
theorem NRow33.snoc {w : World} {base : Nat} {v : Value} {l : List S66} {n : S66} (h : w.ownsRow base 66 3 v (l.length + 1) (fl33 l ++ [.string n.f0, .string n.f1, .bool n.f2])) : NRow33 w base v (l ++ [n]) := by
 unfold NRow33
 rw [fl33_snoc, List.length_append]
 exact h
theorem NRow33.kept {w w1 : World} {base : Nat} {v : Value} {l : List S66} (h : NRow33 w base v l) (hb : Below w.heap.size w w1) : NRow33 w1 base v l := h.below hb
theorem fl33_seg (l : List S66) (j : Nat) (n : S66) (h : l[j]? = some n) : ((fl33 l).drop (j * 3)).take 3 = enc33 n := by
 apply List.ext_getElem?
 intro i
 by_cases hi : i < 3
 ·rw [List.getElem?_take_of_lt hi, List.getElem?_drop, fl33_at l j i hi, h]; rfl
 ·rw [List.getElem?_take_eq_none (by omega), List.getElem?_eq_none (by rw [enc33_len]; omega)]
theorem NRow33.R {w : World} {base : Nat} {v : Value} {l : List S66} (h : NRow33 w base v l) : Kd.R k66 66 w base (fun _ => True) v l :=
 ⟨fun _ _ => trivial, fl33 l, h, ⟨fl33_len l, fun j p hj => by
  show k66.M _ _ _ p (((fl33 l).drop (j * 3)).take 3)
  rw [fl33_seg l j p hj]
  exact k66_mkM _ _ _ p⟩⟩
end Go.Proofs.YtafeepdlcilicaaGreat.Q

-- C3
namespace Go.Proofs.YtafeepdlcilicaaGreat.Q
open Go.WideMaps Go.RowKit Go.Proofs.YtafeepdlcilicaaGreatW.PrintWords Go.Proofs.YtafeepdlcilicaaGreatW.PrintLast Go.Proofs.YtafeepdlcilicaaGreatW.PrintMore Go.Maps
set_option linter.unusedVariables false
set_option linter.unusedSimpArgs false

/-! ### items.gathered -/
theorem valL_snoc (l : List S43) (x : S43) : valL (l ++ [x]) = putF (valL l) x.f0 x.f1 := by unfold valL valF; rw [List.foldl_append]; rfl
set_option maxHeartbeats 4000000 in
set_option maxRecDepth 100000 in
theorem gathered.walk (A : Option Addr) (c : Nat) (l : List S43) (w : World) (hr : Kd.C k43 w A l.length l) (hn : l.length ≤ 1000000) (hs : ∀ n ∈ l, n.f0.size ≤ maxLen) :
  Calls Tryz.prog 22 #[.slice A l.length c] w fun e w' => ∃ D, e = .returned (.map (some w.heap.size)) ∧ w'.ownsMap Tryz.prog 9 strR w.heap.size l.length D ∧ HasS D (valL l) ∧ Below w.heap.size w w' := by
 have HR := Lib.hid hr
 have HS := Lib.hid hs
 clear hr hs
 have hmm := @run_makeMap Tryz.prog
 have HB0 : Hid (Below w.heap.size w (w.alloc (.map #[] 0))) := (Below.refl w.heap.size w).alloc (Nat.le_refl _) _
 have HM0 : Hid ((w.alloc (.map #[] 0)).ownsMap Tryz.prog 9 strR w.heap.size 0 (.map [])) := World.ownsMap_made w _ _ _
 go_enter Tryz.func22, Tryz.ntmps22
 go_wp2
 clear hmm
 go_loopw [9] (fun i wr => ∃ (k : Nat) (D : DataW Unit), i = .int .i64 k ∧ k ≤ l.length ∧ Hid (HasS D (valL (l.take k))) ∧ Hid (wr.ownsMap Tryz.prog 9 strR w.heap.size k D) ∧ Hid (Below w.heap.size w wr)) (fun i _ => l.length - (intOf i).toNat)
 case atStart => exact ⟨0, .map [], rfl, Nat.zero_le _, hasS_nil, HM0, HB0⟩
 case round =>
  obtain ⟨k, D, rfl, hk, hH, hM, hB⟩ := hrel
  by_cases hlt : k < l.length
  ·obtain ⟨ad, e', c0, c1⟩ := at35 HR.out hB.out k hlt
   subst e'
   have p0 : (0 : Int) ≤ (k : Int) := by omega
   have p1 : (k : Int) < (l.length : Int) := by omega
   have hsz : Hid (l[k].f0.size ≤ maxLen) := HS.out _ (List.getElem_mem hlt)
   have hnx := Lib.hid (take_snoc l k hlt)
   have hBs : Hid (w.heap.size < wr.heap.size) := hM.out.lt
   generalize l[k] = n at *
   have HH := Lib.hid (hasS_put hH.out n.f0 n.f1)
   go_wp2_with (first | ((with_reducible refine gate_dst (N := 5) rfl ?_); refine box_event ?hg (N := 5) ?hd (cs := #[.string (⟨#[]⟩ : ByteArray), .string (⟨#[]⟩ : ByteArray)]) (t := 43) ?hr ?_; (case hd => rfl); (case hg => rfl); (case hr => first | (go_simp; done) | (go_simp; rfl)); intro g5 hg5 w5 hb5 hbel5; have HM5 := Lib.hid (owns_below hM.out hbel5); have HB5 := keepB hB hbel5; have G5 := Lib.hid (hg5 ▸ hBs.out : w.heap.size < g5); have K5 := Lib.hid hb5; clear hg5 hb5 hbel5) | ((with_reducible refine gate_ (.store 43 (.tmp 5) (.tmp 12)) rfl ?_); go_must (refine store35_law rfl rfl (.tmp 5) (.tmp 12) rfl g5 _ _ n rfl rfl K5.out ?_; intro w6 hk6 hb6; have K6 := Lib.hid hk6; have HM6 := Lib.hid (owns_blk HM5.out ((hb6 (w.heap.size + 1) G5.out).block _ (Nat.lt_succ_self _))); have HB6 := Lib.hid (HB5.out.trans (hb6 w.heap.size (Nat.le_of_lt G5.out))); have d0 := (blk_cell K6.out 0).trans (rfl : _ = some (Value.string n.f0)); have d1 := (blk_cell K6.out 1).trans (rfl : _ = some (Value.string n.f1)); have z0 := blk_frozen K6.out 0; have z1 := blk_frozen K6.out 1; clear hk6 hb6)) | (at_mapUpdate; go_must (refine wpList_mapUpdate_own _ rfl _ _ _ 62 rfl 9 9 slaw Tryz.underlying62 strR w.heap.size k D rfl HM6.out (by unfold maxLen; omega) _ _ _ rfl rfl (skey hsz.out) _ [] (strR_mk n.f1) ?_; intro w7 hM7 hg7; have HM7 := Lib.hid hM7; have HB7 := Lib.hid (HB6.out.grown hg7 HB6.out.size (fun j hj => by cases hj; exact Nat.le_refl _)); clear hM7 hg7)))
   go_roundw
   case rel => exact ⟨k + 1, _, by go_num, hlt, by unfold Hid; rw [hnx.out, valL_snoc]; exact HH, HM7, HB7⟩
   case measure => simp [intOf]; omega
  ·obtain rfl : k = l.length := by omega
   go_wp2
   go_ret
   refine ⟨D, rfl, hM.out, ?_, hB.out⟩
   have h := hH.out
   rwa [List.take_length] at h
end Go.Proofs.YtafeepdlcilicaaGreat.Q
