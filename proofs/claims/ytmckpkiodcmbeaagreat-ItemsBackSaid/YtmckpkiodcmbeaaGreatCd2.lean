/- ItemsDiffs holds: items.With and items.Diff against the reference's Part 23 of 25. -/
import Derived.Test.YtmckpkiodcmbeaaGreatCd1
import Derived.Maps.OwnSet
import Derived.Maps.RangeWalk
import Derived.Lib.BufferMore
import Derived.Lib.Bytealg
-- Qx9
namespace Go.Proofs.YtmckpkiodcmbeaaGreat.Q
open Go.RowKit Go.Proofs.YtmckpkiodcmbeaaGreatW.PrintWords Go.Proofs.YtmckpkiodcmbeaaGreatW.PrintLast Go.Proofs.YtmckpkiodcmbeaaGreatW.PrintMore
attribute [local go_sem] max2_int min2_int max_two min_two max_three min_three max_four min_four   -- for this text's walks alone
set_option linter.unusedVariables false
set_option linter.unusedSimpArgs false

/-! ### cellarerref10_Same: function 24 -/
mutual
def cellarerref10_Same.j0 : Nat → Bool → Int → List (S67) → Int → List (S67) → Option (Bool)
  | 0, _, _, _, _, _ => none
  | k + 1, x19, x188000, x188001, x189000, x189001 => if x19 = true then (some false) else (cellarerref10_Same.l0 k 0 x188000 x188001 x189000 x189001)
def cellarerref10_Same.l0 : Nat → Int → Int → List (S67) → Int → List (S67) → Option (Bool)
  | 0, _, _, _, _, _ => none
  | k + 1, x5, x188000, x188001, x189000, x189001 => if x5 < (x188001.length : Int) then (if 0 ≤ x5 then (if x5 < (x189001.length : Int) then ((cellarerref09_Same.f k ((rd_T67 x188001 x5).f0) ((rd_T67 x188001 x5).f1) ((rd_T67 x188001 x5).f2) ((rd_T67 x188001 x5).f3) ((rd_T67 x188001 x5).f4) ((rd_T67 x189001 x5).f0) ((rd_T67 x189001 x5).f1) ((rd_T67 x189001 x5).f2) ((rd_T67 x189001 x5).f3) ((rd_T67 x189001 x5).f4)).bind fun t191 => (if t191 = true then (cellarerref10_Same.l0 k (wrap64 (x5 + 1)) x188000 x188001 x189000 x189001) else (some false))) else (none)) else (none)) else (some true)
end
def cellarerref10_Same.f (k : Nat) (a0_0 : Int) (l0_1 : List (S67)) (a1_0 : Int) (l1_1 : List (S67)) : Option (Bool) := if a0_0 = a1_0 then (cellarerref10_Same.j0 k ((l0_1.length : Int) != (l1_1.length : Int)) a0_0 l0_1 a1_0 l1_1) else (cellarerref10_Same.j0 k true a0_0 l0_1 a1_0 l1_1)
theorem cellarerref10_Same.mono_l : ∀ k, (∀ y0 y1 y2 y3 y4, LeO (cellarerref10_Same.j0 k y0 y1 y2 y3 y4) (cellarerref10_Same.j0 (k + 1) y0 y1 y2 y3 y4)) ∧ (∀ y0 y1 y2 y3 y4, LeO (cellarerref10_Same.l0 k y0 y1 y2 y3 y4) (cellarerref10_Same.l0 (k + 1) y0 y1 y2 y3 y4))
  | 0 => ⟨fun _ _ _ _ _ r h => by simp [cellarerref10_Same.j0] at h, fun _ _ _ _ _ r h => by simp [cellarerref10_Same.l0] at h⟩
  | k + 1 => by
    obtain ⟨ih0, ih1⟩ := cellarerref10_Same.mono_l k
    refine ⟨?_, ?_⟩
    · intro y0 y1 y2 y3 y4
      unfold cellarerref10_Same.j0
      repeat' first
      | (with_reducible exact ih0 _ _ _ _ _)
      | (with_reducible exact ih1 _ _ _ _ _)
      | (with_reducible exact cellarerref09_Same.mono _ _ _ _ _ _ _ _ _ _ _)
      | (with_reducible exact LeO.refl _)
      | (with_reducible exact LeO.none _)
      | (with_reducible refine LeO.ite ?_ ?_)
      | (with_reducible refine LeO.bind ?_ (fun _ => ?_))
      | exact ih0 _ _ _ _ _
      | exact ih1 _ _ _ _ _
      | exact cellarerref09_Same.mono _ _ _ _ _ _ _ _ _ _ _
      | exact LeO.none _
      | refine LeO.ite ?_ ?_
      | refine LeO.bind ?_ (fun _ => ?_)
    · intro y0 y1 y2 y3 y4
      unfold cellarerref10_Same.l0
      repeat' first
      | (with_reducible exact ih0 _ _ _ _ _)
      | (with_reducible exact ih1 _ _ _ _ _)
      | (with_reducible exact cellarerref09_Same.mono _ _ _ _ _ _ _ _ _ _ _)
      | (with_reducible exact LeO.refl _)
      | (with_reducible exact LeO.none _)
      | (with_reducible refine LeO.ite ?_ ?_)
      | (with_reducible refine LeO.bind ?_ (fun _ => ?_))
      | exact ih0 _ _ _ _ _
      | exact ih1 _ _ _ _ _
      | exact cellarerref09_Same.mono _ _ _ _ _ _ _ _ _ _ _
      | exact LeO.none _
      | refine LeO.ite ?_ ?_
      | refine LeO.bind ?_ (fun _ => ?_)
theorem cellarerref10_Same.mono : ∀ a0 a1 a2 a3 k, LeO (cellarerref10_Same.f k a0 a1 a2 a3) (cellarerref10_Same.f (k + 1) a0 a1 a2 a3) := by
  intro a0 a1 a2 a3 k
  obtain ⟨ih0, ih1⟩ := cellarerref10_Same.mono_l k
  unfold cellarerref10_Same.f
  repeat' first
      | (with_reducible exact ih0 _ _ _ _ _)
      | (with_reducible exact ih1 _ _ _ _ _)
      | (with_reducible exact cellarerref09_Same.mono _ _ _ _ _ _ _ _ _ _ _)
      | (with_reducible exact LeO.refl _)
      | (with_reducible exact LeO.none _)
      | (with_reducible refine LeO.ite ?_ ?_)
      | (with_reducible refine LeO.bind ?_ (fun _ => ?_))
      | exact ih0 _ _ _ _ _
      | exact ih1 _ _ _ _ _
      | exact cellarerref09_Same.mono _ _ _ _ _ _ _ _ _ _ _
      | exact LeO.none _
      | refine LeO.ite ?_ ?_
      | refine LeO.bind ?_ (fun _ => ?_)
def cellarerref10_Same.T6 : Bool × List (List Nat × List Nat) := (true, [([], []), ([0], [0]), ([], []), ([1, 2], [1, 2]), ([3], [3]), ([], []), ([5], [5]), ([], []), ([6, 7], [6, 7]), ([8], [8]), ([4, 9], [4, 9]), ([10], [10])])
def cellarerref10_Same.B6 : List Nat := [0, 1, 0, 7, 15, 0, 32, 0, 224, 480, 1023, 2047]
theorem cellarerref10_Same.tab6 : rtab .any (opsOf Tryz.f24 6) = cellarerref10_Same.T6 := by kernel_rfl
theorem cellarerref10_Same.bits6 : waitsOk cellarerref10_Same.T6.2 cellarerref10_Same.B6 = true := by kernel_rfl
set_option maxHeartbeats 8000000 in
set_option maxRecDepth 100000 in
theorem cellarerref10_Same.calls (k : Nat) (a0_0 : Int) (A0_1 : Option Addr) (c0_1 : Nat) (l0_1 : List (S67)) (a1_0 : Int) (A1_1 : Option Addr) (c1_1 : Nat) (l1_1 : List (S67)) (r : Bool) (w : World) (hr0_1 : Kd.C k67 w A0_1 l0_1.length l0_1) (hc0_1 : l0_1.length ≤ c0_1) (hr1_1 : Kd.C k67 w A1_1 l1_1.length l1_1) (hc1_1 : l1_1.length ≤ c1_1) (h : cellarerref10_Same.f k a0_0 l0_1 a1_0 l1_1 = some r) :
    Calls Tryz.prog 24 #[.agg #[.int .i64 a0_0, .slice A0_1 l0_1.length c0_1], .agg #[.int .i64 a1_0, .slice A1_1 l1_1.length c1_1]] w fun e w' => e = .returned (.bool r) ∧ Below w.heap.size w w' := by
  have hu51 := Tryz.underlying51
  have hu67 := Tryz.underlying67
  have HR0_1 := Aside0.mk hr0_1
  have HC0_1 := Aside0.mk hc0_1
  clear hr0_1 hc0_1
  have HR1_1 := Aside0.mk hr1_1
  have HC1_1 := Aside0.mk hc1_1
  clear hr1_1 hc1_1
  have HB := Aside0.mk (Below.refl w.heap.size w)
  have H : (if a0_0 = a1_0 then (cellarerref10_Same.j0 k ((l0_1.length : Int) != (l1_1.length : Int)) a0_0 l0_1 a1_0 l1_1) else (cellarerref10_Same.j0 k true a0_0 l0_1 a1_0 l1_1)) = some r := h
  clear h
  have HC3 := Aside0.mk H
  clear H
  go_enter Tryz.func24, Tryz.ntmps24
  go_upto_region 1 with (first | ((with_reducible refine gate_dst (N := 2) rfl ?_); (try (refine gate_guard (by rfl) ?_; dsimp only)); refine box_event ?hg (N := 2) ?hd (cs := #[.int .i64 a0_0, .slice A0_1 l0_1.length c0_1]) (t := 51) ?hr ?_; (case hd => rfl); (case hg => rfl); (case hr => first | (go_simp; done) | (go_simp; rfl)); intro gb187 hg w4 hbox hb; have n0_ := Aside0.mk (below_step (by repeat (first | (with_reducible first | exact HB.out | apply below_alloc | apply pw_below_drewN | apply below_drew1) | exact HB.out)) hb); have n1_ := Aside0.mk (hbox); have n2_ := Aside0.mk ((by rw [hg]; exact (below_size (by repeat (first | (with_reducible first | exact HB.out | apply below_alloc | apply pw_below_drewN | apply below_drew1) | exact HB.out))) : w.heap.size ≤ gb187)); have n3_ := Aside0.mk ((by rw [hg]; exact (below_size (by repeat (first | (with_reducible first | exact HB.out | apply below_alloc | apply pw_below_drewN | apply below_drew1) | exact HB.out))) : w.heap.size ≤ gb187)); clear HB; have HB := n0_; have BK187 := n1_; have GW187 := n2_; have GE187 := n3_; clear n0_ n1_ n2_ n3_; clear hb hbox hg) | ((with_reducible refine gate_dst (N := 3) rfl ?_); (try (refine gate_guard (by rfl) ?_; dsimp only)); refine box_event ?hg (N := 3) ?hd (cs := #[.int .i64 a1_0, .slice A1_1 l1_1.length c1_1]) (t := 51) ?hr ?_; (case hd => rfl); (case hg => rfl); (case hr => first | (go_simp; done) | (go_simp; rfl)); intro gb188 hg w5 hbox hb; have n0_ := Aside0.mk (blk_below (g := gb187) (o := .cells #[.int .i64 a0_0, .slice A0_1 l0_1.length c0_1] 51 (0, 0)) (by (with_reducible repeat (first | refine blk_drewN ?_ _ | refine blk_drew ?_ | refine blk_alloc ?_ _)); exact BK187.out) hb); have n1_ := Aside0.mk (below_step (by repeat (first | (with_reducible first | exact HB.out | apply below_alloc | apply pw_below_drewN | apply below_drew1 | refine below_set ?_ GE187.out) | exact HB.out)) hb); have n2_ := Aside0.mk (hbox); have n3_ := Aside0.mk ((by rw [hg]; exact (below_size (by repeat (first | (with_reducible first | exact HB.out | apply below_alloc | apply pw_below_drewN | apply below_drew1 | refine below_set ?_ GE187.out) | exact HB.out))) : w.heap.size ≤ gb188)); have n4_ := Aside0.mk ((by rw [hg]; exact (below_size (by repeat (first | (with_reducible first | exact HB.out | apply below_alloc | apply pw_below_drewN | apply below_drew1 | refine below_set ?_ GE187.out) | exact HB.out))) : w.heap.size ≤ gb188)); have n5_ := Aside0.mk ((by rw [hg]; exact Nat.ne_of_lt (blk_lt (g := gb187) (o := .cells #[.int .i64 a0_0, .slice A0_1 l0_1.length c0_1] 51 (0, 0)) (by (with_reducible repeat (first | refine blk_drewN ?_ _ | refine blk_drew ?_ | refine blk_alloc ?_ _)); exact BK187.out)) : gb187 ≠ gb188)); have n6_ := Aside0.mk ((by rw [hg]; exact Nat.ne_of_gt (blk_lt (g := gb187) (o := .cells #[.int .i64 a0_0, .slice A0_1 l0_1.length c0_1] 51 (0, 0)) (by (with_reducible repeat (first | refine blk_drewN ?_ _ | refine blk_drew ?_ | refine blk_alloc ?_ _)); exact BK187.out)) : gb188 ≠ gb187)); clear BK187; clear HB; have BK187 := n0_; have HB := n1_; have BK188 := n2_; have GW188 := n3_; have GE188 := n4_; have NB187_188 := n5_; have NB188_187 := n6_; clear n0_ n1_ n2_ n3_ n4_ n5_ n6_; clear hb hbox hg))
  (try simp only [Act.put, List.setIfInBounds_toArray, List.set_cons_zero, List.set_cons_succ])
  go_cut [19] (fun v19 wc => ∃ (kq : Nat) (x19_2 : Bool), v19 = .bool x19_2 ∧ Aside0 (cellarerref10_Same.j0 kq x19_2 a0_0 l0_1 a1_0 l1_1 = some r) ∧ Aside0 (kq ≤ k) ∧ Aside0 (wc.heap[gb187]? = some (.cells #[.int .i64 a0_0, (.slice A0_1 l0_1.length c0_1)] 51 (0, 0))) ∧ Aside0 (wc.heap[gb188]? = some (.cells #[.int .i64 a1_0, (.slice A1_1 l1_1.length c1_1)] 51 (0, 0))) ∧ Aside0 (Below w.heap.size w wc))
  case first =>
    have H := HC3.out
    clear HC3
    by_cases c6 : a0_0 = a1_0
    · rw [if_pos c6] at H
      have c6b0 : (a0_0 == a1_0) = true := beq_iff_eq.mpr c6
      have c6b1 : (a0_0 != a1_0) = false := bne_eq_false_iff_eq.mpr c6
      clear c6
      (first | rw [c6b0] | (simp only [i64_w, i32_w]; rw [c6b0]) | skip)
      have H' := Aside0.mk H
      clear H
      have hnb7 := NB187_188.out
      have hnc7 := NB188_187.out
      have hcz8_0 : w5.cell? ⟨gb187, 0, none⟩ = some (.int .i64 a0_0) := (blk_cell BK187.out 0).trans rfl
      have hcz8_1 : w5.cell? ⟨gb187, 1, none⟩ = some (.slice A0_1 l0_1.length c0_1) := (blk_cell BK187.out 1).trans rfl
      have hfz8_0 := blk_frozen BK187.out 0
      have hfz8_1 := blk_frozen BK187.out 1
      have hcz9_0 : w5.cell? ⟨gb188, 0, none⟩ = some (.int .i64 a1_0) := (blk_cell BK188.out 0).trans rfl
      have hcz9_1 : w5.cell? ⟨gb188, 1, none⟩ = some (.slice A1_1 l1_1.length c1_1) := (blk_cell BK188.out 1).trans rfl
      have hfz9_0 := blk_frozen BK188.out 0
      have hfz9_1 := blk_frozen BK188.out 1
      go_wp2
      go_meet
      case rel => exact ⟨_, (((l0_1.length : Int) != (l1_1.length : Int))), (by first | rfl | (simp; done) | (simp [*]; done)), H', ⟨by first | omega | exact Nat.le_refl _⟩, ⟨by (with_reducible repeat (first | refine blk_drewN ?_ _ | refine blk_drew ?_ | refine blk_alloc ?_ _)); exact BK187.out⟩, ⟨by (with_reducible repeat (first | refine blk_drewN ?_ _ | refine blk_drew ?_ | refine blk_alloc ?_ _)); exact BK188.out⟩, ⟨by repeat (first | (with_reducible first | exact HB.out | apply below_alloc | apply pw_below_drewN | apply below_drew1 | refine below_set ?_ GE187.out | refine below_set ?_ GE188.out) | exact HB.out)⟩⟩
    · rw [if_neg c6] at H
      have c6b0 : (a0_0 == a1_0) = false := beq_eq_false_iff_ne.mpr c6
      have c6b1 : (a0_0 != a1_0) = true := bne_iff_ne.mpr c6
      (first | rw [c6b0] | (simp only [i64_w, i32_w]; rw [c6b0]) | skip)
      have H' := Aside0.mk H
      clear H
      have hnb10 := NB187_188.out
      have hnc10 := NB188_187.out
      have hcz11_0 : w5.cell? ⟨gb187, 0, none⟩ = some (.int .i64 a0_0) := (blk_cell BK187.out 0).trans rfl
      have hcz11_1 : w5.cell? ⟨gb187, 1, none⟩ = some (.slice A0_1 l0_1.length c0_1) := (blk_cell BK187.out 1).trans rfl
      have hfz11_0 := blk_frozen BK187.out 0
      have hfz11_1 := blk_frozen BK187.out 1
      have hcz12_0 : w5.cell? ⟨gb188, 0, none⟩ = some (.int .i64 a1_0) := (blk_cell BK188.out 0).trans rfl
      have hcz12_1 : w5.cell? ⟨gb188, 1, none⟩ = some (.slice A1_1 l1_1.length c1_1) := (blk_cell BK188.out 1).trans rfl
      have hfz12_0 := blk_frozen BK188.out 0
      have hfz12_1 := blk_frozen BK188.out 1
      go_wp2
      go_meet
      case rel => exact ⟨_, (true), (by first | rfl | (simp; done) | (simp [*]; done)), H', ⟨by first | omega | exact Nat.le_refl _⟩, ⟨by (with_reducible repeat (first | refine blk_drewN ?_ _ | refine blk_drew ?_ | refine blk_alloc ?_ _)); exact BK187.out⟩, ⟨by (with_reducible repeat (first | refine blk_drewN ?_ _ | refine blk_drew ?_ | refine blk_alloc ?_ _)); exact BK188.out⟩, ⟨by repeat (first | (with_reducible first | exact HB.out | apply below_alloc | apply pw_below_drewN | apply below_drew1 | refine below_set ?_ GE187.out | refine below_set ?_ GE188.out) | exact HB.out)⟩⟩
  case rest =>
    clear HC3
    try clear c1
    try clear c2
    try clear p2
    try clear c6
    try clear c6b0
    try clear c6b1
    try clear c7
    try clear c10
    try clear hcz11_0
    try clear hcz11_1
    try clear hcz12_0
    try clear hcz12_1
    try clear hcz8_0
    try clear hcz8_1
    try clear hcz9_0
    try clear hcz9_1
    try clear hfz11_0
    try clear hfz11_1
    try clear hfz12_0
    try clear hfz12_1
    try clear hfz8_0
    try clear hfz8_1
    try clear hfz9_0
    try clear hfz9_1
    obtain ⟨kq, x19_2, rfl, HA, HJ2, BK187, BK188, HB⟩ := hcut
    cases kq with
    | zero => exact absurd HA.out (by simp [cellarerref10_Same.j0])
    | succ kj2 =>
      have H := HA.out
      clear HA
      simp only [cellarerref10_Same.j0] at H
      by_cases c13 : x19_2 = true
      · subst c13
        have H1 : (some false) = some r := by rw [if_pos rfl] at H; exact H
        clear H
        have H := H1
        clear H1
        obtain rfl := Option.some.inj H
        go_wp2
        go_ret
        exact ⟨by first | rfl | (simp [errW_none, errW_some] <;> rfl) | (simp [*, errW_none, errW_some] <;> rfl), by repeat (first | (with_reducible first | exact HB.out | apply below_alloc | apply pw_below_drewN | apply below_drew1 | refine below_set ?_ GE187.out | refine below_set ?_ GE188.out) | exact HB.out)⟩
      · replace c13 := Bool.eq_false_iff.mpr c13
        subst c13
        have H1 : (cellarerref10_Same.l0 kj2 0 a0_0 l0_1 a1_0 l1_1) = some r := by rw [if_neg (show ¬ (false = true) by decide)] at H; exact H
        clear H
        have H := H1
        clear H1
        have H' := Aside0.mk H
        clear H
        go_wp2
        go_loopg [5] kj2 (fun kq v5 w' => ∃ (x5_2 : Int), v5 = .int .i64 x5_2 ∧ Aside0 (cellarerref10_Same.l0 kq x5_2 a0_0 l0_1 a1_0 l1_1 = some r) ∧ Aside0 (kq ≤ kj2) ∧ Aside0 (w'.heap[gb187]? = some (.cells #[.int .i64 a0_0, (.slice A0_1 l0_1.length c0_1)] 51 (0, 0))) ∧ Aside0 (w'.heap[gb188]? = some (.cells #[.int .i64 a1_0, (.slice A1_1 l1_1.length c1_1)] 51 (0, 0))) ∧ Aside0 (Below w.heap.size w w'))
        case atStart => exact ⟨(0), (by first | rfl | (simp; done) | (simp [*]; done)), H', ⟨Nat.le_refl _⟩, ⟨by (with_reducible repeat (first | refine blk_drewN ?_ _ | refine blk_drew ?_ | refine blk_alloc ?_ _)); exact BK187.out⟩, ⟨by (with_reducible repeat (first | refine blk_drewN ?_ _ | refine blk_drew ?_ | refine blk_alloc ?_ _)); exact BK188.out⟩, ⟨by repeat (first | (with_reducible first | exact HB.out | apply below_alloc | apply pw_below_drewN | apply below_drew1 | refine below_set ?_ GE187.out | refine below_set ?_ GE188.out) | exact HB.out)⟩⟩
        case round =>
          clear H'
          try clear c1
          try clear c2
          try clear p2
          try clear c6
          try clear c6b0
          try clear c6b1
          try clear c7
          try clear c10
          try clear c13
          try clear hcz11_0
          try clear hcz11_1
          try clear hcz12_0
          try clear hcz12_1
          try clear hcz8_0
          try clear hcz8_1
          try clear hcz9_0
          try clear hcz9_1
          try clear hfz11_0
          try clear hfz11_1
          try clear hfz12_0
          try clear hfz12_1
          try clear hfz8_0
          try clear hfz8_1
          try clear hfz9_0
          try clear hfz9_1
          try clear p2
          obtain ⟨x5_2, rfl, HA, HK2, BK187, BK188, HB⟩ := hrel
          cases gk with
          | zero => exact absurd HA.out (by simp [cellarerref10_Same.l0])
          | succ k2 =>
            have H := HA.out
            clear HA
            simp only [cellarerref10_Same.l0] at H
            by_cases c14 : x5_2 < (l0_1.length : Int)
            · rw [if_pos c14] at H
              have c14b0 : decide (x5_2 < (l0_1.length : Int)) = true := decide_eq_true c14
              clear c14
              by_cases c15 : 0 ≤ x5_2
              · rw [if_pos c15] at H
                have c15b0 : decide (0 ≤ x5_2) = true := decide_eq_true c15
                clear c15
                by_cases c16 : x5_2 < (l1_1.length : Int)
                · rw [if_pos c16] at H
                  have c16b0 : decide (x5_2 < (l1_1.length : Int)) = true := decide_eq_true c16
                  clear c16
                  replace H := Option.bind_eq_some_iff.mp H
                  obtain ⟨t191, A170, H⟩ := H
                  replace H : (if t191 = true then (cellarerref10_Same.l0 k2 (wrap64 (x5_2 + 1)) a0_0 l0_1 a1_0 l1_1) else (some false)) = some r := H
                  have A17 := Aside0.mk A170
                  clear A170
                  by_cases c18 : t191 = true
                  · subst c18
                    have H1 : (cellarerref10_Same.l0 k2 (wrap64 (x5_2 + 1)) a0_0 l0_1 a1_0 l1_1) = some r := by rw [if_pos rfl] at H; exact H
                    clear H
                    have H := H1
                    clear H1
                    have H' := Aside0.mk H
                    clear H
                    have hnb19 := NB187_188.out
                    have hnc19 := NB188_187.out
                    have hcz20_0 : wr.cell? ⟨gb187, 0, none⟩ = some (.int .i64 a0_0) := (blk_cell BK187.out 0).trans rfl
                    have hcz20_1 : wr.cell? ⟨gb187, 1, none⟩ = some (.slice A0_1 l0_1.length c0_1) := (blk_cell BK187.out 1).trans rfl
                    have hfz20_0 := blk_frozen BK187.out 0
                    have hfz20_1 := blk_frozen BK187.out 1
                    try go_wp2
                    have n0_ := Aside0.mk (blk_drew BK187.out)
                    have n1_ := Aside0.mk (blk_drew BK188.out)
                    have n2_ := Aside0.mk (below_drew1 HB.out)
                    clear BK187
                    clear BK188
                    clear HB
                    have BK187 := n0_
                    have BK188 := n1_
                    have HB := n2_
                    clear n0_ n1_ n2_
                    have p189 : 0 ≤ (x5_2 : Int) := of_decide_eq_true (by first | (with_reducible assumption) | assumption)
                    have q189 : x5_2 < (l0_1.length : Int) := of_decide_eq_true (by first | (with_reducible assumption) | assumption)
                    obtain ⟨ad189, A189_2, c189_2, A189_3, c189_3, e189, hx189_0, hx189_1, hx189_2, hx189_3, hx189_4, hl189_2, hi189_2, hl189_3, hi189_3⟩ := at_T67 HR0_1.out x5_2 p189 q189
                    have hw189_4 := hx189_4
                    have hw189_3 := hx189_3
                    have hw189_2 := hx189_2
                    have hw189_1 := hx189_1
                    have hw189_0 := hx189_0
                    cases e189
                    replace hx189_0 := (HB.out.cell (World.block_lt_of_cell? w _ hx189_0)).trans hx189_0
                    replace hx189_1 := (HB.out.cell (World.block_lt_of_cell? w _ hx189_1)).trans hx189_1
                    replace hx189_2 := (HB.out.cell (World.block_lt_of_cell? w _ hx189_2)).trans hx189_2
                    replace hx189_3 := (HB.out.cell (World.block_lt_of_cell? w _ hx189_3)).trans hx189_3
                    replace hx189_4 := (HB.out.cell (World.block_lt_of_cell? w _ hx189_4)).trans hx189_4
                    have HR189_2 := Aside0.mk hi189_2
                    have HC189_2 := Aside0.mk hl189_2
                    clear hi189_2 hl189_2
                    have HR189_3 := Aside0.mk hi189_3
                    have HC189_3 := Aside0.mk hl189_3
                    clear hi189_3 hl189_3
                    replace p189 := eq_true p189
                    replace q189 := eq_true q189
                    have p190 : 0 ≤ (x5_2 : Int) := of_decide_eq_true (by first | (with_reducible assumption) | assumption)
                    have q190 : x5_2 < (l1_1.length : Int) := of_decide_eq_true (by first | (with_reducible assumption) | assumption)
                    obtain ⟨ad190, A190_2, c190_2, A190_3, c190_3, e190, hx190_0, hx190_1, hx190_2, hx190_3, hx190_4, hl190_2, hi190_2, hl190_3, hi190_3⟩ := at_T67 HR1_1.out x5_2 p190 q190
                    have hw190_4 := hx190_4
                    have hw190_3 := hx190_3
                    have hw190_2 := hx190_2
                    have hw190_1 := hx190_1
                    have hw190_0 := hx190_0
                    cases e190
                    replace hx190_0 := (HB.out.cell (World.block_lt_of_cell? w _ hx190_0)).trans hx190_0
                    replace hx190_1 := (HB.out.cell (World.block_lt_of_cell? w _ hx190_1)).trans hx190_1
                    replace hx190_2 := (HB.out.cell (World.block_lt_of_cell? w _ hx190_2)).trans hx190_2
                    replace hx190_3 := (HB.out.cell (World.block_lt_of_cell? w _ hx190_3)).trans hx190_3
                    replace hx190_4 := (HB.out.cell (World.block_lt_of_cell? w _ hx190_4)).trans hx190_4
                    have HR190_2 := Aside0.mk hi190_2
                    have HC190_2 := Aside0.mk hl190_2
                    clear hi190_2 hl190_2
                    have HR190_3 := Aside0.mk hi190_3
                    have HC190_3 := Aside0.mk hl190_3
                    clear hi190_3 hl190_3
                    replace p190 := eq_true p190
                    replace q190 := eq_true q190
                    refine start_ (n := 12) (S := fun w' => w'.cell? ⟨gb187, 0, none⟩ = some (.int .i64 a0_0) ∧ w'.cell? ⟨gb187, 1, none⟩ = some (.slice (some ad189) l0_1.length c0_1) ∧ w'.cell? ⟨gb188, 0, none⟩ = some (.int .i64 a1_0) ∧ w'.cell? ⟨gb188, 1, none⟩ = some (.slice (some ad190) l1_1.length c1_1) ∧ w'.cell? (ad189.add ((x5_2).toNat * 5)) = some (.string ((rd_T67 l0_1 x5_2).f0)) ∧ w'.cell? ⟨(ad189.add ((x5_2).toNat * 5)).block, (ad189.add ((x5_2).toNat * 5)).off + 1, none⟩ = some (.int .i64 ((rd_T67 l0_1 x5_2).f1)) ∧ w'.cell? ⟨(ad189.add ((x5_2).toNat * 5)).block, (ad189.add ((x5_2).toNat * 5)).off + 2, none⟩ = some (.slice A189_2 ((rd_T67 l0_1 x5_2).f2).length c189_2) ∧ w'.cell? ⟨(ad189.add ((x5_2).toNat * 5)).block, (ad189.add ((x5_2).toNat * 5)).off + 3, none⟩ = some (.slice A189_3 ((rd_T67 l0_1 x5_2).f3).length c189_3) ∧ w'.cell? ⟨(ad189.add ((x5_2).toNat * 5)).block, (ad189.add ((x5_2).toNat * 5)).off + 4, none⟩ = some (.int .u64 ((rd_T67 l0_1 x5_2).f4)) ∧ w'.cell? (ad190.add ((x5_2).toNat * 5)) = some (.string ((rd_T67 l1_1 x5_2).f0)) ∧ w'.cell? ⟨(ad190.add ((x5_2).toNat * 5)).block, (ad190.add ((x5_2).toNat * 5)).off + 1, none⟩ = some (.int .i64 ((rd_T67 l1_1 x5_2).f1)) ∧ w'.cell? ⟨(ad190.add ((x5_2).toNat * 5)).block, (ad190.add ((x5_2).toNat * 5)).off + 2, none⟩ = some (.slice A190_2 ((rd_T67 l1_1 x5_2).f2).length c190_2) ∧ w'.cell? ⟨(ad190.add ((x5_2).toNat * 5)).block, (ad190.add ((x5_2).toNat * 5)).off + 3, none⟩ = some (.slice A190_3 ((rd_T67 l1_1 x5_2).f3).length c190_3) ∧ w'.cell? ⟨(ad190.add ((x5_2).toNat * 5)).block, (ad190.add ((x5_2).toNat * 5)).off + 4, none⟩ = some (.int .u64 ((rd_T67 l1_1 x5_2).f4))) (ds := []) #[false, false, false, false, false, false, false, false, false, false, false, false] (by kernel_rfl) rfl rfl ⟨(blk_cell BK187.out 0).trans rfl, (blk_cell BK187.out 1).trans rfl, (blk_cell BK188.out 0).trans rfl, (blk_cell BK188.out 1).trans rfl, ((HB.out.cell (World.block_lt_of_cell? w _ hw189_0)).trans hw189_0), ((HB.out.cell (World.block_lt_of_cell? w _ hw189_1)).trans hw189_1), ((HB.out.cell (World.block_lt_of_cell? w _ hw189_2)).trans hw189_2), ((HB.out.cell (World.block_lt_of_cell? w _ hw189_3)).trans hw189_3), ((HB.out.cell (World.block_lt_of_cell? w _ hw189_4)).trans hw189_4), ((HB.out.cell (World.block_lt_of_cell? w _ hw190_0)).trans hw190_0), ((HB.out.cell (World.block_lt_of_cell? w _ hw190_1)).trans hw190_1), ((HB.out.cell (World.block_lt_of_cell? w _ hw190_2)).trans hw190_2), ((HB.out.cell (World.block_lt_of_cell? w _ hw190_3)).trans hw190_3), ((HB.out.cell (World.block_lt_of_cell? w _ hw190_4)).trans hw190_4)⟩ (fun hHeld => ?_); refine with_tabW cellarerref10_Same.tab6 cellarerref10_Same.bits6 (fun HT_ HW_ => ?_)
                    generalize wr.drew = w21 at BK187 BK188 HB HR189_2 HR189_3 HR190_2 HR190_3 hx189_0 hx189_1 hx189_2 hx189_3 hx189_4 hx190_0 hx190_1 hx190_2 hx190_3 hx190_4 hHeld ⊢
                    refine pure_ (i := 0) (N := some 27) (v := ?_) (a' := ?_) #[true, false, false, false, false, false, false, false, false, false, false, false] rfl rfl (any_of HT_.out (by kernel_rfl)) (fun _ _ _ h => h) (Or.inl ⟨by rfl, ?_⟩) ?_ ?_
                    rotate_left
                    · intro w'
                      go_simp
                      with_reducible rfl
                    rotate_left
                    · simp only [Act.put, List.setIfInBounds_toArray, List.set_cons_zero, List.set_cons_succ, i64_w, i32_w]
                      rfl
                    refine pure_ (i := 2) (N := some 29) (v := ?_) (a' := ?_) #[true, false, true, false, false, false, false, false, false, false, false, false] rfl rfl (any_of HT_.out (by kernel_rfl)) (fun _ _ _ h => h) (Or.inl ⟨by rfl, ?_⟩) ?_ ?_
                    rotate_left
                    · intro w'
                      go_simp
                      with_reducible rfl
                    rotate_left
                    · simp only [Act.put, List.setIfInBounds_toArray, List.set_cons_zero, List.set_cons_succ, i64_w, i32_w]
                      rfl
                    refine pure_ (i := 5) (N := some 32) (v := ?_) (a' := ?_) #[true, false, true, false, false, true, false, false, false, false, false, false] rfl rfl (any_of HT_.out (by kernel_rfl)) (fun _ _ _ h => h) (Or.inl ⟨by rfl, ?_⟩) ?_ ?_
                    rotate_left
                    · intro w'
                      go_simp
                      with_reducible rfl
                    rotate_left
                    · simp only [Act.put, List.setIfInBounds_toArray, List.set_cons_zero, List.set_cons_succ, i64_w, i32_w]
                      rfl
                    refine pure_ (i := 7) (N := some 34) (v := ?_) (a' := ?_) #[true, false, true, false, false, true, false, true, false, false, false, false] rfl rfl (any_of HT_.out (by kernel_rfl)) (fun _ _ _ h => h) (Or.inl ⟨by rfl, ?_⟩) ?_ ?_
                    rotate_left
                    · intro w'
                      go_simp
                      with_reducible rfl
                    rotate_left
                    · simp only [Act.put, List.setIfInBounds_toArray, List.set_cons_zero, List.set_cons_succ, i64_w, i32_w]
                      rfl
                    refine take_ (i := 1) (N := some 28) (v := ?_) (a' := ?_) #[true, true, true, false, false, true, false, true, false, false, false, false] rfl rfl (take_ofW HT_.out HW_.out (by kernel_rfl)) (fun _ _ _ h => h) (Or.inl ⟨by rfl, ?_⟩) hHeld ?_ ?_
                    rotate_left
                    · rintro w' ⟨s0, s1, s2, s3, s4, s5, s6, s7, s8, s9, s10, s11, s12, s13⟩
                      go_simp
                      with_reducible rfl
                    rotate_left
                    · simp only [Act.put, List.setIfInBounds_toArray, List.set_cons_zero, List.set_cons_succ, i64_w, i32_w]
                      rfl
                    refine pure_ (i := 3) (N := some 30) (v := ?_) (a' := ?_) #[true, true, true, true, false, true, false, true, false, false, false, false] rfl rfl (any_of HT_.out (by kernel_rfl)) (fun _ _ _ h => h) (Or.inl ⟨by rfl, ?_⟩) ?_ ?_
                    rotate_left
                    · intro w'
                      go_simp
                      with_reducible rfl
                    rotate_left
                    · simp only [Act.put, List.setIfInBounds_toArray, List.set_cons_zero, List.set_cons_succ, i64_w, i32_w]
                      rfl
                    refine take_ (i := 4) (N := some 31) (v := ?_) (a' := ?_) #[true, true, true, true, true, true, false, true, false, false, false, false] rfl rfl (take_ofW HT_.out HW_.out (by kernel_rfl)) (fun _ _ _ h => h) (Or.inl ⟨by rfl, ?_⟩) hHeld ?_ ?_
                    rotate_left
                    · rintro w' ⟨s0, s1, s2, s3, s4, s5, s6, s7, s8, s9, s10, s11, s12, s13⟩
                      go_simp
                      with_reducible rfl
                    rotate_left
                    · simp only [Act.put, List.setIfInBounds_toArray, List.set_cons_zero, List.set_cons_succ, i64_w, i32_w]
                      rfl
                    refine take_ (i := 6) (N := some 33) (v := ?_) (a' := ?_) #[true, true, true, true, true, true, true, true, false, false, false, false] rfl rfl (take_ofW HT_.out HW_.out (by kernel_rfl)) (fun _ _ _ h => h) (Or.inl ⟨by rfl, ?_⟩) hHeld ?_ ?_
                    rotate_left
                    · rintro w' ⟨s0, s1, s2, s3, s4, s5, s6, s7, s8, s9, s10, s11, s12, s13⟩
                      go_simp
                      with_reducible rfl
                    rotate_left
                    · simp only [Act.put, List.setIfInBounds_toArray, List.set_cons_zero, List.set_cons_succ, i64_w, i32_w]
                      rfl
                    refine pure_ (i := 8) (N := some 35) (v := ?_) (a' := ?_) #[true, true, true, true, true, true, true, true, true, false, false, false] rfl rfl (any_of HT_.out (by kernel_rfl)) (fun _ _ _ h => h) (Or.inl ⟨by rfl, ?_⟩) ?_ ?_
                    rotate_left
                    · intro w'
                      go_simp
                      with_reducible rfl
                    rotate_left
                    · simp only [Act.put, List.setIfInBounds_toArray, List.set_cons_zero, List.set_cons_succ, i64_w, i32_w]
                      rfl
                    refine take_ (i := 9) (N := some 36) (v := ?_) (a' := ?_) #[true, true, true, true, true, true, true, true, true, true, false, false] rfl rfl (take_ofW HT_.out HW_.out (by kernel_rfl)) (fun _ _ _ h => h) (Or.inl ⟨by rfl, ?_⟩) hHeld ?_ ?_
                    rotate_left
                    · rintro w' ⟨s0, s1, s2, s3, s4, s5, s6, s7, s8, s9, s10, s11, s12, s13⟩
                      go_simp
                      with_reducible rfl
                    rotate_left
                    · simp only [Act.put, List.setIfInBounds_toArray, List.set_cons_zero, List.set_cons_succ, i64_w, i32_w]
                      rfl
                    refine one_ (i := 10) (N := some 37) #[true, true, true, true, true, true, true, true, true, true, true, false] rfl rfl (one_of HT_.out (by kernel_rfl)) (by decide) (fun K hK => ?_)
                    refine goes_ Tryz.func45 (by kernel_rfl) rfl #[.agg #[.string ((rd_T67 l0_1 x5_2).f0), .int .i64 ((rd_T67 l0_1 x5_2).f1), .slice A189_2 ((rd_T67 l0_1 x5_2).f2).length c189_2, .slice A189_3 ((rd_T67 l0_1 x5_2).f3).length c189_3, .int .u64 ((rd_T67 l0_1 x5_2).f4)], .agg #[.string ((rd_T67 l1_1 x5_2).f0), .int .i64 ((rd_T67 l1_1 x5_2).f1), .slice A190_2 ((rd_T67 l1_1 x5_2).f2).length c190_2, .slice A190_3 ((rd_T67 l1_1 x5_2).f3).length c190_3, .int .u64 ((rd_T67 l1_1 x5_2).f4)]] (by rfl) rfl rfl (by (try simp only [List.map_toArray, List.map_cons, List.map_nil]); first | done | rfl | (simp only [List.length_drop, List.length_take]; rfl)) ?_
                    with_reducible refine (cellarerref09_Same.calls k2 ((rd_T67 l0_1 x5_2).f0) ((rd_T67 l0_1 x5_2).f1) _ _ ((rd_T67 l0_1 x5_2).f2) _ _ ((rd_T67 l0_1 x5_2).f3) ((rd_T67 l0_1 x5_2).f4) ((rd_T67 l1_1 x5_2).f0) ((rd_T67 l1_1 x5_2).f1) _ _ ((rd_T67 l1_1 x5_2).f2) _ _ ((rd_T67 l1_1 x5_2).f3) ((rd_T67 l1_1 x5_2).f4) true _ ?side1 ?side2 ?side3 ?side4 ?side5 ?side6 ?side7 ?side8 A17.out).mono ?_
                    (case side1 => repeat (first | exact (Kd.C_below HR189_2.out HB.out) | (with_reducible refine Kd.C_alloc ?_ _) | (with_reducible refine Kd.C_drewN ?_ _) | (with_reducible refine Kd.C_drew ?_)))
                    (case side2 => exact HC189_2.out)
                    (case side3 => repeat (first | exact (Kd.C_below HR189_3.out HB.out) | (with_reducible refine Kd.C_alloc ?_ _) | (with_reducible refine Kd.C_drewN ?_ _) | (with_reducible refine Kd.C_drew ?_)))
                    (case side4 => exact HC189_3.out)
                    (case side5 => repeat (first | exact (Kd.C_below HR190_2.out HB.out) | (with_reducible refine Kd.C_alloc ?_ _) | (with_reducible refine Kd.C_drewN ?_ _) | (with_reducible refine Kd.C_drew ?_)))
                    (case side6 => exact HC190_2.out)
                    (case side7 => repeat (first | exact (Kd.C_below HR190_3.out HB.out) | (with_reducible refine Kd.C_alloc ?_ _) | (with_reducible refine Kd.C_drewN ?_ _) | (with_reducible refine Kd.C_drew ?_)))
                    (case side8 => exact HC190_3.out)
                    rintro e w22 ⟨rfl, hb⟩
                    refine ⟨_, rfl, ?_⟩
                    have n0_ := Aside0.mk (blk_below (g := gb187) (o := .cells #[.int .i64 a0_0, .slice (some ad189) l0_1.length c0_1] 51 (0, 0)) (by (with_reducible repeat (first | refine blk_drewN ?_ _ | refine blk_drew ?_ | refine blk_alloc ?_ _)); exact BK187.out) hb)
                    have n1_ := Aside0.mk (blk_below (g := gb188) (o := .cells #[.int .i64 a1_0, .slice (some ad190) l1_1.length c1_1] 51 (0, 0)) (by (with_reducible repeat (first | refine blk_drewN ?_ _ | refine blk_drew ?_ | refine blk_alloc ?_ _)); exact BK188.out) hb)
                    have n2_ := Aside0.mk (below_step (by repeat (first | (with_reducible first | exact HB.out | apply below_alloc | apply pw_below_drewN | apply below_drew1 | refine below_set ?_ GE187.out | refine below_set ?_ GE188.out) | exact HB.out)) hb)
                    clear BK187
                    clear BK188
                    clear HB
                    have BK187 := n0_
                    have BK188 := n1_
                    have HB := n2_
                    clear n0_ n1_ n2_
                    (try clear hb)
                    (try clear hb2)
                    (try clear hk)
                    (try clear hi)
                    refine hK.out _ _ ⟨(blk_cell BK187.out 0).trans rfl, (blk_cell BK187.out 1).trans rfl, (blk_cell BK188.out 0).trans rfl, (blk_cell BK188.out 1).trans rfl, ((HB.out.cell (World.block_lt_of_cell? w _ hw189_0)).trans hw189_0), ((HB.out.cell (World.block_lt_of_cell? w _ hw189_1)).trans hw189_1), ((HB.out.cell (World.block_lt_of_cell? w _ hw189_2)).trans hw189_2), ((HB.out.cell (World.block_lt_of_cell? w _ hw189_3)).trans hw189_3), ((HB.out.cell (World.block_lt_of_cell? w _ hw189_4)).trans hw189_4), ((HB.out.cell (World.block_lt_of_cell? w _ hw190_0)).trans hw190_0), ((HB.out.cell (World.block_lt_of_cell? w _ hw190_1)).trans hw190_1), ((HB.out.cell (World.block_lt_of_cell? w _ hw190_2)).trans hw190_2), ((HB.out.cell (World.block_lt_of_cell? w _ hw190_3)).trans hw190_3), ((HB.out.cell (World.block_lt_of_cell? w _ hw190_4)).trans hw190_4)⟩ (fun hHeld => ?_)
                    clear hK K
                    refine norm_ (a' := ?_) ?_ ?_
                    rotate_left
                    · show Act.put _ (some 37) _ = _
                      simp only [Act.put, List.setIfInBounds_toArray, List.set_cons_zero, List.set_cons_succ, i64_w, i32_w]
                      rfl
                    refine pure_ (i := 11) (N := some 38) (v := ?_) (a' := ?_) #[true, true, true, true, true, true, true, true, true, true, true, true] rfl rfl (any_of HT_.out (by kernel_rfl)) (fun _ _ _ h => h) (Or.inl ⟨by rfl, ?_⟩) ?_ ?_
                    rotate_left
                    · intro w'
                      go_simp
                      with_reducible rfl
                    rotate_left
                    · simp only [Act.put, List.setIfInBounds_toArray, List.set_cons_zero, List.set_cons_succ, i64_w, i32_w]
                      rfl
                    refine done_ (done_of HT_.out (by kernel_rfl)) ?_
                    try go_wp2
                    go_roundg k2
                    case measure => have := HJ2.out; have := HK2.out; omega
                    case rel => exact ⟨(wrap64 (x5_2 + 1)), (by first | rfl | (simp; done) | (simp [*]; done)), H', ⟨by have := HJ2.out; have := HK2.out; omega⟩, ⟨by (with_reducible repeat (first | refine blk_drewN ?_ _ | refine blk_drew ?_ | refine blk_alloc ?_ _)); exact BK187.out⟩, ⟨by (with_reducible repeat (first | refine blk_drewN ?_ _ | refine blk_drew ?_ | refine blk_alloc ?_ _)); exact BK188.out⟩, ⟨by repeat (first | (with_reducible first | exact HB.out | apply below_alloc | apply pw_below_drewN | apply below_drew1 | refine below_set ?_ GE187.out | refine below_set ?_ GE188.out) | exact HB.out)⟩⟩
                  · replace c18 := Bool.eq_false_iff.mpr c18
                    subst c18
                    have H1 : (some false) = some r := by rw [if_neg (show ¬ (false = true) by decide)] at H; exact H
                    clear H
                    have H := H1
                    clear H1
                    obtain rfl := Option.some.inj H
                    have hnb23 := NB187_188.out
                    have hnc23 := NB188_187.out
                    have hcz24_0 : wr.cell? ⟨gb187, 0, none⟩ = some (.int .i64 a0_0) := (blk_cell BK187.out 0).trans rfl
                    have hcz24_1 : wr.cell? ⟨gb187, 1, none⟩ = some (.slice A0_1 l0_1.length c0_1) := (blk_cell BK187.out 1).trans rfl
                    have hfz24_0 := blk_frozen BK187.out 0
                    have hfz24_1 := blk_frozen BK187.out 1
                    try go_wp2
                    have n0_ := Aside0.mk (blk_drew BK187.out)
                    have n1_ := Aside0.mk (blk_drew BK188.out)
                    have n2_ := Aside0.mk (below_drew1 HB.out)
                    clear BK187
                    clear BK188
                    clear HB
                    have BK187 := n0_
                    have BK188 := n1_
                    have HB := n2_
                    clear n0_ n1_ n2_
                    have p189 : 0 ≤ (x5_2 : Int) := of_decide_eq_true (by first | (with_reducible assumption) | assumption)
                    have q189 : x5_2 < (l0_1.length : Int) := of_decide_eq_true (by first | (with_reducible assumption) | assumption)
                    obtain ⟨ad189, A189_2, c189_2, A189_3, c189_3, e189, hx189_0, hx189_1, hx189_2, hx189_3, hx189_4, hl189_2, hi189_2, hl189_3, hi189_3⟩ := at_T67 HR0_1.out x5_2 p189 q189
                    have hw189_4 := hx189_4
                    have hw189_3 := hx189_3
                    have hw189_2 := hx189_2
                    have hw189_1 := hx189_1
                    have hw189_0 := hx189_0
                    cases e189
                    replace hx189_0 := (HB.out.cell (World.block_lt_of_cell? w _ hx189_0)).trans hx189_0
                    replace hx189_1 := (HB.out.cell (World.block_lt_of_cell? w _ hx189_1)).trans hx189_1
                    replace hx189_2 := (HB.out.cell (World.block_lt_of_cell? w _ hx189_2)).trans hx189_2
                    replace hx189_3 := (HB.out.cell (World.block_lt_of_cell? w _ hx189_3)).trans hx189_3
                    replace hx189_4 := (HB.out.cell (World.block_lt_of_cell? w _ hx189_4)).trans hx189_4
                    have HR189_2 := Aside0.mk hi189_2
                    have HC189_2 := Aside0.mk hl189_2
                    clear hi189_2 hl189_2
                    have HR189_3 := Aside0.mk hi189_3
                    have HC189_3 := Aside0.mk hl189_3
                    clear hi189_3 hl189_3
                    replace p189 := eq_true p189
                    replace q189 := eq_true q189
                    have p190 : 0 ≤ (x5_2 : Int) := of_decide_eq_true (by first | (with_reducible assumption) | assumption)
                    have q190 : x5_2 < (l1_1.length : Int) := of_decide_eq_true (by first | (with_reducible assumption) | assumption)
                    obtain ⟨ad190, A190_2, c190_2, A190_3, c190_3, e190, hx190_0, hx190_1, hx190_2, hx190_3, hx190_4, hl190_2, hi190_2, hl190_3, hi190_3⟩ := at_T67 HR1_1.out x5_2 p190 q190
                    have hw190_4 := hx190_4
                    have hw190_3 := hx190_3
                    have hw190_2 := hx190_2
                    have hw190_1 := hx190_1
                    have hw190_0 := hx190_0
                    cases e190
                    replace hx190_0 := (HB.out.cell (World.block_lt_of_cell? w _ hx190_0)).trans hx190_0
                    replace hx190_1 := (HB.out.cell (World.block_lt_of_cell? w _ hx190_1)).trans hx190_1
                    replace hx190_2 := (HB.out.cell (World.block_lt_of_cell? w _ hx190_2)).trans hx190_2
                    replace hx190_3 := (HB.out.cell (World.block_lt_of_cell? w _ hx190_3)).trans hx190_3
                    replace hx190_4 := (HB.out.cell (World.block_lt_of_cell? w _ hx190_4)).trans hx190_4
                    have HR190_2 := Aside0.mk hi190_2
                    have HC190_2 := Aside0.mk hl190_2
                    clear hi190_2 hl190_2
                    have HR190_3 := Aside0.mk hi190_3
                    have HC190_3 := Aside0.mk hl190_3
                    clear hi190_3 hl190_3
                    replace p190 := eq_true p190
                    replace q190 := eq_true q190
                    refine start_ (n := 12) (S := fun w' => w'.cell? ⟨gb187, 0, none⟩ = some (.int .i64 a0_0) ∧ w'.cell? ⟨gb187, 1, none⟩ = some (.slice (some ad189) l0_1.length c0_1) ∧ w'.cell? ⟨gb188, 0, none⟩ = some (.int .i64 a1_0) ∧ w'.cell? ⟨gb188, 1, none⟩ = some (.slice (some ad190) l1_1.length c1_1) ∧ w'.cell? (ad189.add ((x5_2).toNat * 5)) = some (.string ((rd_T67 l0_1 x5_2).f0)) ∧ w'.cell? ⟨(ad189.add ((x5_2).toNat * 5)).block, (ad189.add ((x5_2).toNat * 5)).off + 1, none⟩ = some (.int .i64 ((rd_T67 l0_1 x5_2).f1)) ∧ w'.cell? ⟨(ad189.add ((x5_2).toNat * 5)).block, (ad189.add ((x5_2).toNat * 5)).off + 2, none⟩ = some (.slice A189_2 ((rd_T67 l0_1 x5_2).f2).length c189_2) ∧ w'.cell? ⟨(ad189.add ((x5_2).toNat * 5)).block, (ad189.add ((x5_2).toNat * 5)).off + 3, none⟩ = some (.slice A189_3 ((rd_T67 l0_1 x5_2).f3).length c189_3) ∧ w'.cell? ⟨(ad189.add ((x5_2).toNat * 5)).block, (ad189.add ((x5_2).toNat * 5)).off + 4, none⟩ = some (.int .u64 ((rd_T67 l0_1 x5_2).f4)) ∧ w'.cell? (ad190.add ((x5_2).toNat * 5)) = some (.string ((rd_T67 l1_1 x5_2).f0)) ∧ w'.cell? ⟨(ad190.add ((x5_2).toNat * 5)).block, (ad190.add ((x5_2).toNat * 5)).off + 1, none⟩ = some (.int .i64 ((rd_T67 l1_1 x5_2).f1)) ∧ w'.cell? ⟨(ad190.add ((x5_2).toNat * 5)).block, (ad190.add ((x5_2).toNat * 5)).off + 2, none⟩ = some (.slice A190_2 ((rd_T67 l1_1 x5_2).f2).length c190_2) ∧ w'.cell? ⟨(ad190.add ((x5_2).toNat * 5)).block, (ad190.add ((x5_2).toNat * 5)).off + 3, none⟩ = some (.slice A190_3 ((rd_T67 l1_1 x5_2).f3).length c190_3) ∧ w'.cell? ⟨(ad190.add ((x5_2).toNat * 5)).block, (ad190.add ((x5_2).toNat * 5)).off + 4, none⟩ = some (.int .u64 ((rd_T67 l1_1 x5_2).f4))) (ds := []) #[false, false, false, false, false, false, false, false, false, false, false, false] (by kernel_rfl) rfl rfl ⟨(blk_cell BK187.out 0).trans rfl, (blk_cell BK187.out 1).trans rfl, (blk_cell BK188.out 0).trans rfl, (blk_cell BK188.out 1).trans rfl, ((HB.out.cell (World.block_lt_of_cell? w _ hw189_0)).trans hw189_0), ((HB.out.cell (World.block_lt_of_cell? w _ hw189_1)).trans hw189_1), ((HB.out.cell (World.block_lt_of_cell? w _ hw189_2)).trans hw189_2), ((HB.out.cell (World.block_lt_of_cell? w _ hw189_3)).trans hw189_3), ((HB.out.cell (World.block_lt_of_cell? w _ hw189_4)).trans hw189_4), ((HB.out.cell (World.block_lt_of_cell? w _ hw190_0)).trans hw190_0), ((HB.out.cell (World.block_lt_of_cell? w _ hw190_1)).trans hw190_1), ((HB.out.cell (World.block_lt_of_cell? w _ hw190_2)).trans hw190_2), ((HB.out.cell (World.block_lt_of_cell? w _ hw190_3)).trans hw190_3), ((HB.out.cell (World.block_lt_of_cell? w _ hw190_4)).trans hw190_4)⟩ (fun hHeld => ?_); refine with_tabW cellarerref10_Same.tab6 cellarerref10_Same.bits6 (fun HT_ HW_ => ?_)
                    generalize wr.drew = w25 at BK187 BK188 HB HR189_2 HR189_3 HR190_2 HR190_3 hx189_0 hx189_1 hx189_2 hx189_3 hx189_4 hx190_0 hx190_1 hx190_2 hx190_3 hx190_4 hHeld ⊢
                    refine pure_ (i := 0) (N := some 27) (v := ?_) (a' := ?_) #[true, false, false, false, false, false, false, false, false, false, false, false] rfl rfl (any_of HT_.out (by kernel_rfl)) (fun _ _ _ h => h) (Or.inl ⟨by rfl, ?_⟩) ?_ ?_
                    rotate_left
                    · intro w'
                      go_simp
                      with_reducible rfl
                    rotate_left
                    · simp only [Act.put, List.setIfInBounds_toArray, List.set_cons_zero, List.set_cons_succ, i64_w, i32_w]
                      rfl
                    refine pure_ (i := 2) (N := some 29) (v := ?_) (a' := ?_) #[true, false, true, false, false, false, false, false, false, false, false, false] rfl rfl (any_of HT_.out (by kernel_rfl)) (fun _ _ _ h => h) (Or.inl ⟨by rfl, ?_⟩) ?_ ?_
                    rotate_left
                    · intro w'
                      go_simp
                      with_reducible rfl
                    rotate_left
                    · simp only [Act.put, List.setIfInBounds_toArray, List.set_cons_zero, List.set_cons_succ, i64_w, i32_w]
                      rfl
                    refine pure_ (i := 5) (N := some 32) (v := ?_) (a' := ?_) #[true, false, true, false, false, true, false, false, false, false, false, false] rfl rfl (any_of HT_.out (by kernel_rfl)) (fun _ _ _ h => h) (Or.inl ⟨by rfl, ?_⟩) ?_ ?_
                    rotate_left
                    · intro w'
                      go_simp
                      with_reducible rfl
                    rotate_left
                    · simp only [Act.put, List.setIfInBounds_toArray, List.set_cons_zero, List.set_cons_succ, i64_w, i32_w]
                      rfl
                    refine pure_ (i := 7) (N := some 34) (v := ?_) (a' := ?_) #[true, false, true, false, false, true, false, true, false, false, false, false] rfl rfl (any_of HT_.out (by kernel_rfl)) (fun _ _ _ h => h) (Or.inl ⟨by rfl, ?_⟩) ?_ ?_
                    rotate_left
                    · intro w'
                      go_simp
                      with_reducible rfl
                    rotate_left
                    · simp only [Act.put, List.setIfInBounds_toArray, List.set_cons_zero, List.set_cons_succ, i64_w, i32_w]
                      rfl
                    refine take_ (i := 1) (N := some 28) (v := ?_) (a' := ?_) #[true, true, true, false, false, true, false, true, false, false, false, false] rfl rfl (take_ofW HT_.out HW_.out (by kernel_rfl)) (fun _ _ _ h => h) (Or.inl ⟨by rfl, ?_⟩) hHeld ?_ ?_
                    rotate_left
                    · rintro w' ⟨s0, s1, s2, s3, s4, s5, s6, s7, s8, s9, s10, s11, s12, s13⟩
                      go_simp
                      with_reducible rfl
                    rotate_left
                    · simp only [Act.put, List.setIfInBounds_toArray, List.set_cons_zero, List.set_cons_succ, i64_w, i32_w]
                      rfl
                    refine pure_ (i := 3) (N := some 30) (v := ?_) (a' := ?_) #[true, true, true, true, false, true, false, true, false, false, false, false] rfl rfl (any_of HT_.out (by kernel_rfl)) (fun _ _ _ h => h) (Or.inl ⟨by rfl, ?_⟩) ?_ ?_
                    rotate_left
                    · intro w'
                      go_simp
                      with_reducible rfl
                    rotate_left
                    · simp only [Act.put, List.setIfInBounds_toArray, List.set_cons_zero, List.set_cons_succ, i64_w, i32_w]
                      rfl
                    refine take_ (i := 4) (N := some 31) (v := ?_) (a' := ?_) #[true, true, true, true, true, true, false, true, false, false, false, false] rfl rfl (take_ofW HT_.out HW_.out (by kernel_rfl)) (fun _ _ _ h => h) (Or.inl ⟨by rfl, ?_⟩) hHeld ?_ ?_
                    rotate_left
                    · rintro w' ⟨s0, s1, s2, s3, s4, s5, s6, s7, s8, s9, s10, s11, s12, s13⟩
                      go_simp
                      with_reducible rfl
                    rotate_left
                    · simp only [Act.put, List.setIfInBounds_toArray, List.set_cons_zero, List.set_cons_succ, i64_w, i32_w]
                      rfl
                    refine take_ (i := 6) (N := some 33) (v := ?_) (a' := ?_) #[true, true, true, true, true, true, true, true, false, false, false, false] rfl rfl (take_ofW HT_.out HW_.out (by kernel_rfl)) (fun _ _ _ h => h) (Or.inl ⟨by rfl, ?_⟩) hHeld ?_ ?_
                    rotate_left
                    · rintro w' ⟨s0, s1, s2, s3, s4, s5, s6, s7, s8, s9, s10, s11, s12, s13⟩
                      go_simp
                      with_reducible rfl
                    rotate_left
                    · simp only [Act.put, List.setIfInBounds_toArray, List.set_cons_zero, List.set_cons_succ, i64_w, i32_w]
                      rfl
                    refine pure_ (i := 8) (N := some 35) (v := ?_) (a' := ?_) #[true, true, true, true, true, true, true, true, true, false, false, false] rfl rfl (any_of HT_.out (by kernel_rfl)) (fun _ _ _ h => h) (Or.inl ⟨by rfl, ?_⟩) ?_ ?_
                    rotate_left
                    · intro w'
                      go_simp
                      with_reducible rfl
                    rotate_left
                    · simp only [Act.put, List.setIfInBounds_toArray, List.set_cons_zero, List.set_cons_succ, i64_w, i32_w]
                      rfl
                    refine take_ (i := 9) (N := some 36) (v := ?_) (a' := ?_) #[true, true, true, true, true, true, true, true, true, true, false, false] rfl rfl (take_ofW HT_.out HW_.out (by kernel_rfl)) (fun _ _ _ h => h) (Or.inl ⟨by rfl, ?_⟩) hHeld ?_ ?_
                    rotate_left
                    · rintro w' ⟨s0, s1, s2, s3, s4, s5, s6, s7, s8, s9, s10, s11, s12, s13⟩
                      go_simp
                      with_reducible rfl
                    rotate_left
                    · simp only [Act.put, List.setIfInBounds_toArray, List.set_cons_zero, List.set_cons_succ, i64_w, i32_w]
                      rfl
                    refine one_ (i := 10) (N := some 37) #[true, true, true, true, true, true, true, true, true, true, true, false] rfl rfl (one_of HT_.out (by kernel_rfl)) (by decide) (fun K hK => ?_)
                    refine goes_ Tryz.func45 (by kernel_rfl) rfl #[.agg #[.string ((rd_T67 l0_1 x5_2).f0), .int .i64 ((rd_T67 l0_1 x5_2).f1), .slice A189_2 ((rd_T67 l0_1 x5_2).f2).length c189_2, .slice A189_3 ((rd_T67 l0_1 x5_2).f3).length c189_3, .int .u64 ((rd_T67 l0_1 x5_2).f4)], .agg #[.string ((rd_T67 l1_1 x5_2).f0), .int .i64 ((rd_T67 l1_1 x5_2).f1), .slice A190_2 ((rd_T67 l1_1 x5_2).f2).length c190_2, .slice A190_3 ((rd_T67 l1_1 x5_2).f3).length c190_3, .int .u64 ((rd_T67 l1_1 x5_2).f4)]] (by rfl) rfl rfl (by (try simp only [List.map_toArray, List.map_cons, List.map_nil]); first | done | rfl | (simp only [List.length_drop, List.length_take]; rfl)) ?_
                    with_reducible refine (cellarerref09_Same.calls k2 ((rd_T67 l0_1 x5_2).f0) ((rd_T67 l0_1 x5_2).f1) _ _ ((rd_T67 l0_1 x5_2).f2) _ _ ((rd_T67 l0_1 x5_2).f3) ((rd_T67 l0_1 x5_2).f4) ((rd_T67 l1_1 x5_2).f0) ((rd_T67 l1_1 x5_2).f1) _ _ ((rd_T67 l1_1 x5_2).f2) _ _ ((rd_T67 l1_1 x5_2).f3) ((rd_T67 l1_1 x5_2).f4) false _ ?side1 ?side2 ?side3 ?side4 ?side5 ?side6 ?side7 ?side8 A17.out).mono ?_
                    (case side1 => repeat (first | exact (Kd.C_below HR189_2.out HB.out) | (with_reducible refine Kd.C_alloc ?_ _) | (with_reducible refine Kd.C_drewN ?_ _) | (with_reducible refine Kd.C_drew ?_)))
                    (case side2 => exact HC189_2.out)
                    (case side3 => repeat (first | exact (Kd.C_below HR189_3.out HB.out) | (with_reducible refine Kd.C_alloc ?_ _) | (with_reducible refine Kd.C_drewN ?_ _) | (with_reducible refine Kd.C_drew ?_)))
                    (case side4 => exact HC189_3.out)
                    (case side5 => repeat (first | exact (Kd.C_below HR190_2.out HB.out) | (with_reducible refine Kd.C_alloc ?_ _) | (with_reducible refine Kd.C_drewN ?_ _) | (with_reducible refine Kd.C_drew ?_)))
                    (case side6 => exact HC190_2.out)
                    (case side7 => repeat (first | exact (Kd.C_below HR190_3.out HB.out) | (with_reducible refine Kd.C_alloc ?_ _) | (with_reducible refine Kd.C_drewN ?_ _) | (with_reducible refine Kd.C_drew ?_)))
                    (case side8 => exact HC190_3.out)
                    rintro e w26 ⟨rfl, hb⟩
                    refine ⟨_, rfl, ?_⟩
                    have n0_ := Aside0.mk (blk_below (g := gb187) (o := .cells #[.int .i64 a0_0, .slice (some ad189) l0_1.length c0_1] 51 (0, 0)) (by (with_reducible repeat (first | refine blk_drewN ?_ _ | refine blk_drew ?_ | refine blk_alloc ?_ _)); exact BK187.out) hb)
                    have n1_ := Aside0.mk (blk_below (g := gb188) (o := .cells #[.int .i64 a1_0, .slice (some ad190) l1_1.length c1_1] 51 (0, 0)) (by (with_reducible repeat (first | refine blk_drewN ?_ _ | refine blk_drew ?_ | refine blk_alloc ?_ _)); exact BK188.out) hb)
                    have n2_ := Aside0.mk (below_step (by repeat (first | (with_reducible first | exact HB.out | apply below_alloc | apply pw_below_drewN | apply below_drew1 | refine below_set ?_ GE187.out | refine below_set ?_ GE188.out) | exact HB.out)) hb)
                    clear BK187
                    clear BK188
                    clear HB
                    have BK187 := n0_
                    have BK188 := n1_
                    have HB := n2_
                    clear n0_ n1_ n2_
                    (try clear hb)
                    (try clear hb2)
                    (try clear hk)
                    (try clear hi)
                    refine hK.out _ _ ⟨(blk_cell BK187.out 0).trans rfl, (blk_cell BK187.out 1).trans rfl, (blk_cell BK188.out 0).trans rfl, (blk_cell BK188.out 1).trans rfl, ((HB.out.cell (World.block_lt_of_cell? w _ hw189_0)).trans hw189_0), ((HB.out.cell (World.block_lt_of_cell? w _ hw189_1)).trans hw189_1), ((HB.out.cell (World.block_lt_of_cell? w _ hw189_2)).trans hw189_2), ((HB.out.cell (World.block_lt_of_cell? w _ hw189_3)).trans hw189_3), ((HB.out.cell (World.block_lt_of_cell? w _ hw189_4)).trans hw189_4), ((HB.out.cell (World.block_lt_of_cell? w _ hw190_0)).trans hw190_0), ((HB.out.cell (World.block_lt_of_cell? w _ hw190_1)).trans hw190_1), ((HB.out.cell (World.block_lt_of_cell? w _ hw190_2)).trans hw190_2), ((HB.out.cell (World.block_lt_of_cell? w _ hw190_3)).trans hw190_3), ((HB.out.cell (World.block_lt_of_cell? w _ hw190_4)).trans hw190_4)⟩ (fun hHeld => ?_)
                    clear hK K
                    refine norm_ (a' := ?_) ?_ ?_
                    rotate_left
                    · show Act.put _ (some 37) _ = _
                      simp only [Act.put, List.setIfInBounds_toArray, List.set_cons_zero, List.set_cons_succ, i64_w, i32_w]
                      rfl
                    refine pure_ (i := 11) (N := some 38) (v := ?_) (a' := ?_) #[true, true, true, true, true, true, true, true, true, true, true, true] rfl rfl (any_of HT_.out (by kernel_rfl)) (fun _ _ _ h => h) (Or.inl ⟨by rfl, ?_⟩) ?_ ?_
                    rotate_left
                    · intro w'
                      go_simp
                      with_reducible rfl
                    rotate_left
                    · simp only [Act.put, List.setIfInBounds_toArray, List.set_cons_zero, List.set_cons_succ, i64_w, i32_w]
                      rfl
                    refine done_ (done_of HT_.out (by kernel_rfl)) ?_
                    try go_wp2
                    go_ret
                    exact ⟨by first | rfl | (simp [errW_none, errW_some] <;> rfl) | (simp [*, errW_none, errW_some] <;> rfl), by repeat (first | (with_reducible first | exact HB.out | apply below_alloc | apply pw_below_drewN | apply below_drew1 | refine below_set ?_ GE187.out | refine below_set ?_ GE188.out) | exact HB.out)⟩
                · rw [if_neg c16] at H
                  exact absurd H (by simp)
              · rw [if_neg c15] at H
                exact absurd H (by simp)
            · rw [if_neg c14] at H
              have c14b0 : decide (x5_2 < (l0_1.length : Int)) = false := decide_eq_false c14
              clear c14
              obtain rfl := Option.some.inj H
              have hnb27 := NB187_188.out
              have hnc27 := NB188_187.out
              have hcz28_0 : wr.cell? ⟨gb187, 0, none⟩ = some (.int .i64 a0_0) := (blk_cell BK187.out 0).trans rfl
              have hcz28_1 : wr.cell? ⟨gb187, 1, none⟩ = some (.slice A0_1 l0_1.length c0_1) := (blk_cell BK187.out 1).trans rfl
              have hfz28_0 := blk_frozen BK187.out 0
              have hfz28_1 := blk_frozen BK187.out 1
              go_wp2
              go_ret
              exact ⟨by first | rfl | (simp [errW_none, errW_some] <;> rfl) | (simp [*, errW_none, errW_some] <;> rfl), by repeat (first | (with_reducible first | exact HB.out | apply below_alloc | apply pw_below_drewN | apply below_drew1 | refine below_set ?_ GE187.out | refine below_set ?_ GE188.out) | exact HB.out)⟩

-- NOT PRINTED: function 13 (cellarerlaw11_awake)

-- NOT PRINTED: function 3 (cellarerlaw11_ItemsDiffs)

-- NOT PRINTED: function 4 (cellarerlaw11_ItemsBack)

end Go.Proofs.YtmckpkiodcmbeaaGreat.Q

-- B1
namespace Go.Proofs.YtmckpkiodcmbeaaGreat.Q
open Go.RowKit Go.Proofs.YtmckpkiodcmbeaaGreatW.PrintWords Go.Proofs.YtmckpkiodcmbeaaGreatW.PrintLast Go.Proofs.YtmckpkiodcmbeaaGreatW.PrintMore
attribute [local go_sem] binOp_string_gtr2
attribute [local go_sem] max2_int min2_int max_two min_two max_three min_three max_four min_four   -- for this text's walks alone
set_option linter.unusedVariables false
set_option linter.unusedSimpArgs false

/-! ### cellarerref11_in: function 17 -/
mutual
def cellarerref11_in.l0 : Nat → List (S35) → List (S35) → Int → ByteArray → ByteArray → Option ((List (S35)))
  | 0, _, _, _, _, _ => none
  | k + 1, x0, x5, x6, x109000, x109001 => if x6 < (x0.length : Int) then (if 0 ≤ x6 then (if (Op.bytesLess (((rd_T35 x0 x6).f0).toList) x109000.toList) = true then (if x5.length < 4398046511104 then (cellarerref11_in.l0 k x0 (x5 ++ [(⟨(rd_T35 x0 x6).f0, (rd_T35 x0 x6).f1⟩ : S35)]) (wrap64 (x6 + 1)) x109000 x109001) else (none)) else (cellarerref11_in.l0 k x0 x5 (wrap64 (x6 + 1)) x109000 x109001)) else (none)) else (if x5.length < 4398046511104 then (cellarerref11_in.l1 k x0 (x5 ++ [(⟨x109000, x109001⟩ : S35)]) 0 x109000 x109001) else (none))
def cellarerref11_in.l1 : Nat → List (S35) → List (S35) → Int → ByteArray → ByteArray → Option ((List (S35)))
  | 0, _, _, _, _, _ => none
  | k + 1, x0, x5, x7, x109000, x109001 => if x7 < (x0.length : Int) then (if 0 ≤ x7 then (if (Op.bytesLess x109000.toList (((rd_T35 x0 x7).f0).toList)) = true then (if x5.length < 4398046511104 then (cellarerref11_in.l1 k x0 (x5 ++ [(⟨(rd_T35 x0 x7).f0, (rd_T35 x0 x7).f1⟩ : S35)]) (wrap64 (x7 + 1)) x109000 x109001) else (none)) else (cellarerref11_in.l1 k x0 x5 (wrap64 (x7 + 1)) x109000 x109001)) else (none)) else (some x5)
end
def cellarerref11_in.f (k : Nat) (l0 : List (S35)) (a1_0 : ByteArray) (a1_1 : ByteArray) : Option ((List (S35))) := cellarerref11_in.l0 k l0 ([] : List (S35)) 0 a1_0 a1_1
theorem cellarerref11_in.mono_l : ∀ k, (∀ y0 y1 y2 y3 y4, LeO (cellarerref11_in.l0 k y0 y1 y2 y3 y4) (cellarerref11_in.l0 (k + 1) y0 y1 y2 y3 y4)) ∧ (∀ y0 y1 y2 y3 y4, LeO (cellarerref11_in.l1 k y0 y1 y2 y3 y4) (cellarerref11_in.l1 (k + 1) y0 y1 y2 y3 y4))
  | 0 => ⟨fun _ _ _ _ _ r h => by simp [cellarerref11_in.l0] at h, fun _ _ _ _ _ r h => by simp [cellarerref11_in.l1] at h⟩
  | k + 1 => by
    obtain ⟨ih0, ih1⟩ := cellarerref11_in.mono_l k
    refine ⟨?_, ?_⟩
    · intro y0 y1 y2 y3 y4
      unfold cellarerref11_in.l0
      repeat' first
      | (with_reducible exact ih0 _ _ _ _ _)
      | (with_reducible exact ih1 _ _ _ _ _)
      | (with_reducible exact LeO.refl _)
      | (with_reducible exact LeO.none _)
      | (with_reducible refine LeO.ite ?_ ?_)
      | (with_reducible refine LeO.bind ?_ (fun _ => ?_))
      | exact ih0 _ _ _ _ _
      | exact ih1 _ _ _ _ _
      | exact LeO.none _
      | refine LeO.ite ?_ ?_
      | refine LeO.bind ?_ (fun _ => ?_)
    · intro y0 y1 y2 y3 y4
      unfold cellarerref11_in.l1
      repeat' first
      | (with_reducible exact ih0 _ _ _ _ _)
      | (with_reducible exact ih1 _ _ _ _ _)
      | (with_reducible exact LeO.refl _)
      | (with_reducible exact LeO.none _)
      | (with_reducible refine LeO.ite ?_ ?_)
      | (with_reducible refine LeO.bind ?_ (fun _ => ?_))
      | exact ih0 _ _ _ _ _
      | exact ih1 _ _ _ _ _
      | exact LeO.none _
      | refine LeO.ite ?_ ?_
      | refine LeO.bind ?_ (fun _ => ?_)
theorem cellarerref11_in.mono : ∀ a0 a1 a2 k, LeO (cellarerref11_in.f k a0 a1 a2) (cellarerref11_in.f (k + 1) a0 a1 a2) := by
  intro a0 a1 a2 k
  obtain ⟨ih0, ih1⟩ := cellarerref11_in.mono_l k
  unfold cellarerref11_in.f
  repeat' first
      | (with_reducible exact ih0 _ _ _ _ _)
      | (with_reducible exact ih1 _ _ _ _ _)
      | (with_reducible exact LeO.refl _)
      | (with_reducible exact LeO.none _)
      | (with_reducible refine LeO.ite ?_ ?_)
      | (with_reducible refine LeO.bind ?_ (fun _ => ?_))
      | exact ih0 _ _ _ _ _
      | exact ih1 _ _ _ _ _
      | exact LeO.none _
      | refine LeO.ite ?_ ?_
      | refine LeO.bind ?_ (fun _ => ?_)
set_option maxHeartbeats 8000000 in
set_option maxRecDepth 100000 in
theorem cellarerref11_in.calls (k : Nat) (A0 : Option Addr) (c0 : Nat) (l0 : List (S35)) (a1_0 : ByteArray) (a1_1 : ByteArray) (r : List (S35)) (w : World) (hr0 : Kd.C k35 w A0 l0.length l0) (hc0 : l0.length ≤ c0) (h : cellarerref11_in.f k l0 a1_0 a1_1 = some r) :
    Calls Tryz.prog 17 #[.slice A0 l0.length c0, .agg #[.string a1_0, .string a1_1]] w fun e w' => ∃ v0_ : Value, e = .returned (v0_) ∧ Kd.R k35 35 w' w.heap.size (fun _ => True) v0_ r ∧ Below w.heap.size w w' := by
  have hu35 := Tryz.underlying35
  have HR0 := Aside0.mk hr0
  have HC0 := Aside0.mk hc0
  clear hr0 hc0
  have HB := Aside0.mk (Below.refl w.heap.size w)
  have H : (cellarerref11_in.l0 k l0 ([] : List (S35)) 0 a1_0 a1_1) = some r := h
  clear h
  have H' := Aside0.mk H
  clear H
  go_enter Tryz.func17, Tryz.ntmps17
  go_wp2_with (first | ((with_reducible refine gate_dst (N := 3) rfl ?_); refine box_event ?hg (N := 3) ?hd (cs := #[.string a1_0, .string a1_1]) (t := 35) ?hr ?_; (case hd => rfl); (case hg => rfl); (case hr => first | (go_simp; done) | (go_simp; rfl)); intro gb108 hg w3 hbox hb; have n0_ := Aside0.mk (below_step (by repeat (first | (with_reducible first | exact HB.out | apply below_alloc | apply pw_below_drewN | apply below_drew1) | exact HB.out)) hb); have n1_ := Aside0.mk (hbox); have n2_ := Aside0.mk ((by rw [hg]; exact (below_size (by repeat (first | (with_reducible first | exact HB.out | apply below_alloc | apply pw_below_drewN | apply below_drew1) | exact HB.out))) : w.heap.size ≤ gb108)); have n3_ := Aside0.mk ((by rw [hg]; exact (below_size (by repeat (first | (with_reducible first | exact HB.out | apply below_alloc | apply pw_below_drewN | apply below_drew1) | exact HB.out))) : w.heap.size ≤ gb108)); clear HB; have HB := n0_; have BK108 := n1_; have GW108 := n2_; have GE108 := n3_; clear n0_ n1_ n2_ n3_; clear hb hbox hg))
  repeat (go_quiet (first | ((with_reducible refine gate_dst (N := 3) rfl ?_); refine box_event ?hg (N := 3) ?hd (cs := #[.string a1_0, .string a1_1]) (t := 35) ?hr ?_; (case hd => rfl); (case hg => rfl); (case hr => first | (go_simp; done) | (go_simp; rfl)); intro gb108 hg w3 hbox hb; have n0_ := Aside0.mk (below_step (by repeat (first | (with_reducible first | exact HB.out | apply below_alloc | apply pw_below_drewN | apply below_drew1) | exact HB.out)) hb); have n1_ := Aside0.mk (hbox); have n2_ := Aside0.mk ((by rw [hg]; exact (below_size (by repeat (first | (with_reducible first | exact HB.out | apply below_alloc | apply pw_below_drewN | apply below_drew1) | exact HB.out))) : w.heap.size ≤ gb108)); have n3_ := Aside0.mk ((by rw [hg]; exact (below_size (by repeat (first | (with_reducible first | exact HB.out | apply below_alloc | apply pw_below_drewN | apply below_drew1) | exact HB.out))) : w.heap.size ≤ gb108)); clear HB; have HB := n0_; have BK108 := n1_; have GW108 := n2_; have GE108 := n3_; clear n0_ n1_ n2_ n3_; clear hb hbox hg)); try go_wp2_with (first | ((with_reducible refine gate_dst (N := 3) rfl ?_); refine box_event ?hg (N := 3) ?hd (cs := #[.string a1_0, .string a1_1]) (t := 35) ?hr ?_; (case hd => rfl); (case hg => rfl); (case hr => first | (go_simp; done) | (go_simp; rfl)); intro gb108 hg w3 hbox hb; have n0_ := Aside0.mk (below_step (by repeat (first | (with_reducible first | exact HB.out | apply below_alloc | apply pw_below_drewN | apply below_drew1) | exact HB.out)) hb); have n1_ := Aside0.mk (hbox); have n2_ := Aside0.mk ((by rw [hg]; exact (below_size (by repeat (first | (with_reducible first | exact HB.out | apply below_alloc | apply pw_below_drewN | apply below_drew1) | exact HB.out))) : w.heap.size ≤ gb108)); have n3_ := Aside0.mk ((by rw [hg]; exact (below_size (by repeat (first | (with_reducible first | exact HB.out | apply below_alloc | apply pw_below_drewN | apply below_drew1) | exact HB.out))) : w.heap.size ≤ gb108)); clear HB; have HB := n0_; have BK108 := n1_; have GW108 := n2_; have GE108 := n3_; clear n0_ n1_ n2_ n3_; clear hb hbox hg)))
  go_loopg [5, 6] k (fun kq v5 v6 w' => ∃ (x5_1 : List (S35)) (x6_1 : Int), v6 = .int .i64 x6_1 ∧ Aside0 (cellarerref11_in.l0 kq l0 x5_1 x6_1 a1_0 a1_1 = some r) ∧ Aside0 (kq ≤ k) ∧ Aside0 (Kd.R k35 35 w' w.heap.size (fun k_ => k_ ≠ gb108) v5 x5_1) ∧ Aside0 (w'.heap[gb108]? = some (.cells #[.string a1_0, .string a1_1] 35 (0, 0))) ∧ Aside0 (Below w.heap.size w w'))
  case atStart => exact ⟨(([] : List (S35))), (0), (by first | rfl | (simp; done) | (simp [*]; done)), H', ⟨Nat.le_refl _⟩, ⟨by first | exact Kd.R_nil _ _ _ _ _ | exact Kd.N_nil _ _ _ _ _ | exact Kd.V_nil _ _ _ _ _ | exact Kd.Q_nil _ _ _ _ _ | exact Kd.S_nil _ _ _ _ _⟩, ⟨by (with_reducible repeat (first | refine blk_drewN ?_ _ | refine blk_drew ?_ | refine blk_alloc ?_ _)); exact BK108.out⟩, ⟨by repeat (first | (with_reducible first | exact HB.out | apply below_alloc | apply pw_below_drewN | apply below_drew1 | refine below_set ?_ GE108.out) | exact HB.out)⟩⟩
  case round =>
    clear H'
    try clear c1
    try clear p2
    obtain ⟨x5_1, x6_1, rfl, HA, HK1, HO_5, BK108, HB⟩ := hrel
    cases gk with
    | zero => exact absurd HA.out (by simp [cellarerref11_in.l0])
    | succ k1 =>
      have H := HA.out
      clear HA
      simp only [cellarerref11_in.l0] at H
      by_cases c4 : x6_1 < (l0.length : Int)
      · rw [if_pos c4] at H
        have c4b0 : decide (x6_1 < (l0.length : Int)) = true := decide_eq_true c4
        clear c4
        by_cases c5 : 0 ≤ x6_1
        · rw [if_pos c5] at H
          have c5b0 : decide (0 ≤ x6_1) = true := decide_eq_true c5
          clear c5
          by_cases c6 : (Op.bytesLess (((rd_T35 l0 x6_1).f0).toList) a1_0.toList) = true
          · rw [if_pos c6] at H
            have c6b0 : (Op.bytesLess (((rd_T35 l0 x6_1).f0).toList) a1_0.toList) = true := c6
            clear c6
            by_cases c7 : x5_1.length < 4398046511104
            · rw [if_pos c7] at H
              have LMc7 := Aside0.mk c7
              clear c7
              obtain ⟨y111, hy111⟩ : ∃ y_ : List (S35), y_ = (x5_1 ++ [(⟨(rd_T35 l0 x6_1).f0, (rd_T35 l0 x6_1).f1⟩ : S35)]) := ⟨_, rfl⟩
              replace H : (cellarerref11_in.l0 k1 l0 y111 (wrap64 (x6_1 + 1)) a1_0 a1_1) = some r := by first | (rw [hy111]; with_reducible exact H) | (have H2_ := (Option.bind_some _ _).symm.trans H; rw [hy111]; with_reducible exact H2_) | (have H2_ := (Option.bind_some _ _).symm.trans H; with_reducible exact H2_) | with_reducible exact H | (rw [hy111]; exact H) | exact H
              have Ny111 := Aside0.mk hy111
              clear hy111
              have H' := Aside0.mk H
              clear H
              have p109 : 0 ≤ (x6_1 : Int) := of_decide_eq_true (by first | (with_reducible assumption) | assumption)
              have q109 : x6_1 < (l0.length : Int) := of_decide_eq_true (by first | (with_reducible assumption) | assumption)
              obtain ⟨ad109, e109, hx109_0, hx109_1⟩ := at_T35 HR0.out x6_1 p109 q109
              cases e109
              replace hx109_0 := (HB.out.cell (World.block_lt_of_cell? w _ hx109_0)).trans hx109_0
              replace hx109_1 := (HB.out.cell (World.block_lt_of_cell? w _ hx109_1)).trans hx109_1
              replace p109 := eq_true p109
              replace q109 := eq_true q109
              have hcz8_0 : wr.cell? ⟨gb108, 0, none⟩ = some (.string a1_0) := (blk_cell BK108.out 0).trans rfl
              have hcz8_1 : wr.cell? ⟨gb108, 1, none⟩ = some (.string a1_1) := (blk_cell BK108.out 1).trans rfl
              have hfz8_0 := blk_frozen BK108.out 0
              have hfz8_1 := blk_frozen BK108.out 1
              have p110 : 0 ≤ (x6_1 : Int) := of_decide_eq_true (by first | (with_reducible assumption) | assumption)
              have q110 : x6_1 < (l0.length : Int) := of_decide_eq_true (by first | (with_reducible assumption) | assumption)
              obtain ⟨ad110, e110, hx110_0, hx110_1⟩ := at_T35 HR0.out x6_1 p110 q110
              obtain rfl : ad109 = ad110 := (by injection e110)
              replace hx110_0 := (HB.out.cell (World.block_lt_of_cell? w _ hx110_0)).trans hx110_0
              replace hx110_1 := (HB.out.cell (World.block_lt_of_cell? w _ hx110_1)).trans hx110_1
              replace p110 := eq_true p110
              replace q110 := eq_true q110
              go_wp2_with (first | ((with_reducible refine gate_builtin (b := .append) (xs := #[.tmp 22, .tmp 27]) rfl ?_); at_builtin; refine Kd.R_append k35 (w0 := w) w.heap.size rfl (.tmp 22) (.tmp 27) 22 35 (.agg #[(.string ⟨#[]⟩), (.string ⟨#[]⟩)]) 32 rfl Tryz.underlying22 info35 rfl (by decide) (by omega) u5 x5_1 (⟨(rd_T35 l0 x6_1).f0, (rd_T35 l0 x6_1).f1⟩ : S35) [.string ((rd_T35 l0 x6_1).f0), .string ((rd_T35 l0 x6_1).f1)] (fun k_ => k_ ≠ gb108) (fun _ => False) rfl rfl ?aP (fun _ hk => hk.elim) ?aF ?aO ?aB ?aS ?aL ?_; (case aP => exact k35_mkM _ _ _ (⟨(rd_T35 l0 x6_1).f0, (rd_T35 l0 x6_1).f1⟩ : S35)); (case aB => exact (by repeat (first | (with_reducible first | exact HB.out | apply below_alloc | apply pw_below_drewN | apply below_drew1 | refine below_set ?_ GE108.out) | exact HB.out))); (case aF => exact (fun k_ hk => Kd.freshB (g := gb108) (o := .cells #[.string a1_0, .string a1_1] 35 (0, 0)) (by (with_reducible repeat (first | refine blk_drewN ?_ _ | refine blk_drew ?_ | refine blk_alloc ?_ _)); exact BK108.out) k_ hk)); (case aO => exact (by (with_reducible repeat (first | apply Kd.R_alloc | apply Kd.R_drewN | apply Kd.R_drew)); exact HO_5.out)); (case aS => exact (below_size (by repeat (first | (with_reducible first | exact HB.out | apply below_alloc | apply pw_below_drewN | apply below_drew1 | refine below_set ?_ GE108.out) | exact HB.out)))); (case aL => have := LMc7.out; omega); intro v112 w9 ho hb hg hat; rw [← Ny111.out] at ho; have n0_ := Aside0.mk (blk_grown (g := gb108) (o := .cells #[.string a1_0, .string a1_1] 35 (0, 0)) (by (with_reducible repeat (first | refine blk_drewN ?_ _ | refine blk_drew ?_ | refine blk_alloc ?_ _)); exact BK108.out) hg (Kd.R_away HO_5.out (fun _ hk => hk))); have n1_ := Aside0.mk (hb); have n2_ := Aside0.mk (ho); clear BK108; clear HB; clear HO_5; have BK108 := n0_; have HB := n1_; have HO113 := n2_; clear n0_ n1_ n2_; clear ho hb hg hat))
              repeat (go_quiet (first | ((with_reducible refine gate_builtin (b := .append) (xs := #[.tmp 22, .tmp 27]) rfl ?_); at_builtin; refine Kd.R_append k35 (w0 := w) w.heap.size rfl (.tmp 22) (.tmp 27) 22 35 (.agg #[(.string ⟨#[]⟩), (.string ⟨#[]⟩)]) 32 rfl Tryz.underlying22 info35 rfl (by decide) (by omega) u5 x5_1 (⟨(rd_T35 l0 x6_1).f0, (rd_T35 l0 x6_1).f1⟩ : S35) [.string ((rd_T35 l0 x6_1).f0), .string ((rd_T35 l0 x6_1).f1)] (fun k_ => k_ ≠ gb108) (fun _ => False) rfl rfl ?aP (fun _ hk => hk.elim) ?aF ?aO ?aB ?aS ?aL ?_; (case aP => exact k35_mkM _ _ _ (⟨(rd_T35 l0 x6_1).f0, (rd_T35 l0 x6_1).f1⟩ : S35)); (case aB => exact (by repeat (first | (with_reducible first | exact HB.out | apply below_alloc | apply pw_below_drewN | apply below_drew1 | refine below_set ?_ GE108.out) | exact HB.out))); (case aF => exact (fun k_ hk => Kd.freshB (g := gb108) (o := .cells #[.string a1_0, .string a1_1] 35 (0, 0)) (by (with_reducible repeat (first | refine blk_drewN ?_ _ | refine blk_drew ?_ | refine blk_alloc ?_ _)); exact BK108.out) k_ hk)); (case aO => exact (by (with_reducible repeat (first | apply Kd.R_alloc | apply Kd.R_drewN | apply Kd.R_drew)); exact HO_5.out)); (case aS => exact (below_size (by repeat (first | (with_reducible first | exact HB.out | apply below_alloc | apply pw_below_drewN | apply below_drew1 | refine below_set ?_ GE108.out) | exact HB.out)))); (case aL => have := LMc7.out; omega); intro v112 w9 ho hb hg hat; rw [← Ny111.out] at ho; have n0_ := Aside0.mk (blk_grown (g := gb108) (o := .cells #[.string a1_0, .string a1_1] 35 (0, 0)) (by (with_reducible repeat (first | refine blk_drewN ?_ _ | refine blk_drew ?_ | refine blk_alloc ?_ _)); exact BK108.out) hg (Kd.R_away HO_5.out (fun _ hk => hk))); have n1_ := Aside0.mk (hb); have n2_ := Aside0.mk (ho); clear BK108; clear HB; clear HO_5; have BK108 := n0_; have HB := n1_; have HO113 := n2_; clear n0_ n1_ n2_; clear ho hb hg hat)); try go_wp2_with (first | ((with_reducible refine gate_builtin (b := .append) (xs := #[.tmp 22, .tmp 27]) rfl ?_); at_builtin; refine Kd.R_append k35 (w0 := w) w.heap.size rfl (.tmp 22) (.tmp 27) 22 35 (.agg #[(.string ⟨#[]⟩), (.string ⟨#[]⟩)]) 32 rfl Tryz.underlying22 info35 rfl (by decide) (by omega) u5 x5_1 (⟨(rd_T35 l0 x6_1).f0, (rd_T35 l0 x6_1).f1⟩ : S35) [.string ((rd_T35 l0 x6_1).f0), .string ((rd_T35 l0 x6_1).f1)] (fun k_ => k_ ≠ gb108) (fun _ => False) rfl rfl ?aP (fun _ hk => hk.elim) ?aF ?aO ?aB ?aS ?aL ?_; (case aP => exact k35_mkM _ _ _ (⟨(rd_T35 l0 x6_1).f0, (rd_T35 l0 x6_1).f1⟩ : S35)); (case aB => exact (by repeat (first | (with_reducible first | exact HB.out | apply below_alloc | apply pw_below_drewN | apply below_drew1 | refine below_set ?_ GE108.out) | exact HB.out))); (case aF => exact (fun k_ hk => Kd.freshB (g := gb108) (o := .cells #[.string a1_0, .string a1_1] 35 (0, 0)) (by (with_reducible repeat (first | refine blk_drewN ?_ _ | refine blk_drew ?_ | refine blk_alloc ?_ _)); exact BK108.out) k_ hk)); (case aO => exact (by (with_reducible repeat (first | apply Kd.R_alloc | apply Kd.R_drewN | apply Kd.R_drew)); exact HO_5.out)); (case aS => exact (below_size (by repeat (first | (with_reducible first | exact HB.out | apply below_alloc | apply pw_below_drewN | apply below_drew1 | refine below_set ?_ GE108.out) | exact HB.out)))); (case aL => have := LMc7.out; omega); intro v112 w9 ho hb hg hat; rw [← Ny111.out] at ho; have n0_ := Aside0.mk (blk_grown (g := gb108) (o := .cells #[.string a1_0, .string a1_1] 35 (0, 0)) (by (with_reducible repeat (first | refine blk_drewN ?_ _ | refine blk_drew ?_ | refine blk_alloc ?_ _)); exact BK108.out) hg (Kd.R_away HO_5.out (fun _ hk => hk))); have n1_ := Aside0.mk (hb); have n2_ := Aside0.mk (ho); clear BK108; clear HB; clear HO_5; have BK108 := n0_; have HB := n1_; have HO113 := n2_; clear n0_ n1_ n2_; clear ho hb hg hat)))
              go_roundg k1
              case measure => have := HK1.out; omega
              case rel => exact ⟨(y111), (wrap64 (x6_1 + 1)), (by first | rfl | (simp; done) | (simp [*]; done)), H', ⟨by have := HK1.out; omega⟩, ⟨by (with_reducible repeat (first | apply Kd.R_alloc | apply Kd.R_drewN | apply Kd.R_drew)); exact HO113.out⟩, ⟨by (with_reducible repeat (first | refine blk_drewN ?_ _ | refine blk_drew ?_ | refine blk_alloc ?_ _)); exact BK108.out⟩, ⟨by repeat (first | (with_reducible first | exact HB.out | apply below_alloc | apply pw_below_drewN | apply below_drew1 | refine below_set ?_ GE108.out) | exact HB.out)⟩⟩
            · rw [if_neg c7] at H
              exact absurd H (by simp)
          · rw [if_neg c6] at H
            have c6b0 : (Op.bytesLess (((rd_T35 l0 x6_1).f0).toList) a1_0.toList) = false := by simpa using c6
            clear c6
            have H' := Aside0.mk H
            clear H
            have p109 : 0 ≤ (x6_1 : Int) := of_decide_eq_true (by first | (with_reducible assumption) | assumption)
            have q109 : x6_1 < (l0.length : Int) := of_decide_eq_true (by first | (with_reducible assumption) | assumption)
            obtain ⟨ad109, e109, hx109_0, hx109_1⟩ := at_T35 HR0.out x6_1 p109 q109
            cases e109
            replace hx109_0 := (HB.out.cell (World.block_lt_of_cell? w _ hx109_0)).trans hx109_0
            replace hx109_1 := (HB.out.cell (World.block_lt_of_cell? w _ hx109_1)).trans hx109_1
            replace p109 := eq_true p109
            replace q109 := eq_true q109
            have hcz10_0 : wr.cell? ⟨gb108, 0, none⟩ = some (.string a1_0) := (blk_cell BK108.out 0).trans rfl
            have hcz10_1 : wr.cell? ⟨gb108, 1, none⟩ = some (.string a1_1) := (blk_cell BK108.out 1).trans rfl
            have hfz10_0 := blk_frozen BK108.out 0
            have hfz10_1 := blk_frozen BK108.out 1
            go_wp2
            repeat (go_quiet (fail); try go_wp2)
            go_roundg k1
            case measure => have := HK1.out; omega
            case rel => exact ⟨(x5_1), (wrap64 (x6_1 + 1)), (by first | rfl | (simp; done) | (simp [*]; done)), H', ⟨by have := HK1.out; omega⟩, ⟨by (with_reducible repeat (first | apply Kd.R_alloc | apply Kd.R_drewN | apply Kd.R_drew)); exact HO_5.out⟩, ⟨by (with_reducible repeat (first | refine blk_drewN ?_ _ | refine blk_drew ?_ | refine blk_alloc ?_ _)); exact BK108.out⟩, ⟨by repeat (first | (with_reducible first | exact HB.out | apply below_alloc | apply pw_below_drewN | apply below_drew1 | refine below_set ?_ GE108.out) | exact HB.out)⟩⟩
        · rw [if_neg c5] at H
          exact absurd H (by simp)
      · rw [if_neg c4] at H
        have c4b0 : decide (x6_1 < (l0.length : Int)) = false := decide_eq_false c4
        clear c4
        by_cases c11 : x5_1.length < 4398046511104
        · rw [if_pos c11] at H
          have LMc11 := Aside0.mk c11
          clear c11
          obtain ⟨y114, hy114⟩ : ∃ y_ : List (S35), y_ = (x5_1 ++ [(⟨a1_0, a1_1⟩ : S35)]) := ⟨_, rfl⟩
          replace H : (cellarerref11_in.l1 k1 l0 y114 0 a1_0 a1_1) = some r := by first | (rw [hy114]; with_reducible exact H) | (have H2_ := (Option.bind_some _ _).symm.trans H; rw [hy114]; with_reducible exact H2_) | (have H2_ := (Option.bind_some _ _).symm.trans H; with_reducible exact H2_) | with_reducible exact H | (rw [hy114]; exact H) | exact H
          have Ny114 := Aside0.mk hy114
          clear hy114
          have H' := Aside0.mk H
          clear H
          have hcz12_0 : wr.cell? ⟨gb108, 0, none⟩ = some (.string a1_0) := (blk_cell BK108.out 0).trans rfl
          have hcz12_1 : wr.cell? ⟨gb108, 1, none⟩ = some (.string a1_1) := (blk_cell BK108.out 1).trans rfl
          have hfz12_0 := blk_frozen BK108.out 0
          have hfz12_1 := blk_frozen BK108.out 1
          go_wp2_with (first | ((with_reducible refine gate_builtin (b := .append) (xs := #[.tmp 29, .tmp 31]) rfl ?_); at_builtin; refine Kd.R_append k35 (w0 := w) w.heap.size rfl (.tmp 29) (.tmp 31) 22 35 (.agg #[(.string ⟨#[]⟩), (.string ⟨#[]⟩)]) 32 rfl Tryz.underlying22 info35 rfl (by decide) (by omega) u5 x5_1 (⟨a1_0, a1_1⟩ : S35) [.string a1_0, .string a1_1] (fun k_ => k_ ≠ gb108) (fun _ => False) rfl rfl ?aP (fun _ hk => hk.elim) ?aF ?aO ?aB ?aS ?aL ?_; (case aP => exact k35_mkM _ _ _ (⟨a1_0, a1_1⟩ : S35)); (case aB => exact (by repeat (first | (with_reducible first | exact HB.out | apply below_alloc | apply pw_below_drewN | apply below_drew1 | refine below_set ?_ GE108.out) | exact HB.out))); (case aF => exact (fun k_ hk => Kd.freshB (g := gb108) (o := .cells #[.string a1_0, .string a1_1] 35 (0, 0)) (by (with_reducible repeat (first | refine blk_drewN ?_ _ | refine blk_drew ?_ | refine blk_alloc ?_ _)); exact BK108.out) k_ hk)); (case aO => exact (by (with_reducible repeat (first | apply Kd.R_alloc | apply Kd.R_drewN | apply Kd.R_drew)); exact HO_5.out)); (case aS => exact (below_size (by repeat (first | (with_reducible first | exact HB.out | apply below_alloc | apply pw_below_drewN | apply below_drew1 | refine below_set ?_ GE108.out) | exact HB.out)))); (case aL => have := LMc11.out; omega); intro v115 w13 ho hb hg hat; rw [← Ny114.out] at ho; have n0_ := Aside0.mk (blk_grown (g := gb108) (o := .cells #[.string a1_0, .string a1_1] 35 (0, 0)) (by (with_reducible repeat (first | refine blk_drewN ?_ _ | refine blk_drew ?_ | refine blk_alloc ?_ _)); exact BK108.out) hg (Kd.R_away HO_5.out (fun _ hk => hk))); have n1_ := Aside0.mk (hb); have n2_ := Aside0.mk (ho); clear BK108; clear HB; clear HO_5; have BK108 := n0_; have HB := n1_; have HO116 := n2_; clear n0_ n1_ n2_; clear ho hb hg hat))
          repeat (go_quiet (first | ((with_reducible refine gate_builtin (b := .append) (xs := #[.tmp 29, .tmp 31]) rfl ?_); at_builtin; refine Kd.R_append k35 (w0 := w) w.heap.size rfl (.tmp 29) (.tmp 31) 22 35 (.agg #[(.string ⟨#[]⟩), (.string ⟨#[]⟩)]) 32 rfl Tryz.underlying22 info35 rfl (by decide) (by omega) u5 x5_1 (⟨a1_0, a1_1⟩ : S35) [.string a1_0, .string a1_1] (fun k_ => k_ ≠ gb108) (fun _ => False) rfl rfl ?aP (fun _ hk => hk.elim) ?aF ?aO ?aB ?aS ?aL ?_; (case aP => exact k35_mkM _ _ _ (⟨a1_0, a1_1⟩ : S35)); (case aB => exact (by repeat (first | (with_reducible first | exact HB.out | apply below_alloc | apply pw_below_drewN | apply below_drew1 | refine below_set ?_ GE108.out) | exact HB.out))); (case aF => exact (fun k_ hk => Kd.freshB (g := gb108) (o := .cells #[.string a1_0, .string a1_1] 35 (0, 0)) (by (with_reducible repeat (first | refine blk_drewN ?_ _ | refine blk_drew ?_ | refine blk_alloc ?_ _)); exact BK108.out) k_ hk)); (case aO => exact (by (with_reducible repeat (first | apply Kd.R_alloc | apply Kd.R_drewN | apply Kd.R_drew)); exact HO_5.out)); (case aS => exact (below_size (by repeat (first | (with_reducible first | exact HB.out | apply below_alloc | apply pw_below_drewN | apply below_drew1 | refine below_set ?_ GE108.out) | exact HB.out)))); (case aL => have := LMc11.out; omega); intro v115 w13 ho hb hg hat; rw [← Ny114.out] at ho; have n0_ := Aside0.mk (blk_grown (g := gb108) (o := .cells #[.string a1_0, .string a1_1] 35 (0, 0)) (by (with_reducible repeat (first | refine blk_drewN ?_ _ | refine blk_drew ?_ | refine blk_alloc ?_ _)); exact BK108.out) hg (Kd.R_away HO_5.out (fun _ hk => hk))); have n1_ := Aside0.mk (hb); have n2_ := Aside0.mk (ho); clear BK108; clear HB; clear HO_5; have BK108 := n0_; have HB := n1_; have HO116 := n2_; clear n0_ n1_ n2_; clear ho hb hg hat)); try go_wp2_with (first | ((with_reducible refine gate_builtin (b := .append) (xs := #[.tmp 29, .tmp 31]) rfl ?_); at_builtin; refine Kd.R_append k35 (w0 := w) w.heap.size rfl (.tmp 29) (.tmp 31) 22 35 (.agg #[(.string ⟨#[]⟩), (.string ⟨#[]⟩)]) 32 rfl Tryz.underlying22 info35 rfl (by decide) (by omega) u5 x5_1 (⟨a1_0, a1_1⟩ : S35) [.string a1_0, .string a1_1] (fun k_ => k_ ≠ gb108) (fun _ => False) rfl rfl ?aP (fun _ hk => hk.elim) ?aF ?aO ?aB ?aS ?aL ?_; (case aP => exact k35_mkM _ _ _ (⟨a1_0, a1_1⟩ : S35)); (case aB => exact (by repeat (first | (with_reducible first | exact HB.out | apply below_alloc | apply pw_below_drewN | apply below_drew1 | refine below_set ?_ GE108.out) | exact HB.out))); (case aF => exact (fun k_ hk => Kd.freshB (g := gb108) (o := .cells #[.string a1_0, .string a1_1] 35 (0, 0)) (by (with_reducible repeat (first | refine blk_drewN ?_ _ | refine blk_drew ?_ | refine blk_alloc ?_ _)); exact BK108.out) k_ hk)); (case aO => exact (by (with_reducible repeat (first | apply Kd.R_alloc | apply Kd.R_drewN | apply Kd.R_drew)); exact HO_5.out)); (case aS => exact (below_size (by repeat (first | (with_reducible first | exact HB.out | apply below_alloc | apply pw_below_drewN | apply below_drew1 | refine below_set ?_ GE108.out) | exact HB.out)))); (case aL => have := LMc11.out; omega); intro v115 w13 ho hb hg hat; rw [← Ny114.out] at ho; have n0_ := Aside0.mk (blk_grown (g := gb108) (o := .cells #[.string a1_0, .string a1_1] 35 (0, 0)) (by (with_reducible repeat (first | refine blk_drewN ?_ _ | refine blk_drew ?_ | refine blk_alloc ?_ _)); exact BK108.out) hg (Kd.R_away HO_5.out (fun _ hk => hk))); have n1_ := Aside0.mk (hb); have n2_ := Aside0.mk (ho); clear BK108; clear HB; clear HO_5; have BK108 := n0_; have HB := n1_; have HO116 := n2_; clear n0_ n1_ n2_; clear ho hb hg hat)))
          go_loopg [5, 7] k1 (fun kq v5 v7 w' => ∃ (x5_2 : List (S35)) (x7_2 : Int), v7 = .int .i64 x7_2 ∧ Aside0 (cellarerref11_in.l1 kq l0 x5_2 x7_2 a1_0 a1_1 = some r) ∧ Aside0 (kq ≤ k1) ∧ Aside0 (Kd.R k35 35 w' w.heap.size (fun k_ => k_ ≠ gb108) v5 x5_2) ∧ Aside0 (w'.heap[gb108]? = some (.cells #[.string a1_0, .string a1_1] 35 (0, 0))) ∧ Aside0 (Below w.heap.size w w'))
          case atStart => exact ⟨(y114), (0), (by first | rfl | (simp; done) | (simp [*]; done)), H', ⟨Nat.le_refl _⟩, ⟨by (with_reducible repeat (first | apply Kd.R_alloc | apply Kd.R_drewN | apply Kd.R_drew)); exact HO116.out⟩, ⟨by (with_reducible repeat (first | refine blk_drewN ?_ _ | refine blk_drew ?_ | refine blk_alloc ?_ _)); exact BK108.out⟩, ⟨by repeat (first | (with_reducible first | exact HB.out | apply below_alloc | apply pw_below_drewN | apply below_drew1 | refine below_set ?_ GE108.out) | exact HB.out)⟩⟩
          case round =>
            clear H'
            try clear c1
            try clear p1
            try clear q1
            try clear hx1
            try clear p2
            try clear c4
            try clear c4b0
            try clear c5
            try clear c5b0
            try clear c6
            try clear c6b0
            try clear p6
            try clear c7
            try clear p10
            try clear q10
            try clear hx10
            try clear c11
            try clear p11
            try clear q11
            try clear hx11
            try clear hcz10_0
            try clear hcz10_1
            try clear hcz12_0
            try clear hcz12_1
            try clear hcz8_0
            try clear hcz8_1
            try clear hfz10_0
            try clear hfz10_1
            try clear hfz12_0
            try clear hfz12_1
            try clear hfz8_0
            try clear hfz8_1
            try clear hx109_0
            try clear hx109_1
            try clear hx110_0
            try clear hx110_1
            try clear p109
            try clear p110
            try clear p2
            try clear q109
            try clear q110
            obtain ⟨x5_2, x7_2, rfl, HA, HK2, HO_5, BK108, HB⟩ := hrel
            cases gk with
            | zero => exact absurd HA.out (by simp [cellarerref11_in.l1])
            | succ k2 =>
              have H := HA.out
              clear HA
              simp only [cellarerref11_in.l1] at H
              by_cases c14 : x7_2 < (l0.length : Int)
              · rw [if_pos c14] at H
                have c14b0 : decide (x7_2 < (l0.length : Int)) = true := decide_eq_true c14
                clear c14
                by_cases c15 : 0 ≤ x7_2
                · rw [if_pos c15] at H
                  have c15b0 : decide (0 ≤ x7_2) = true := decide_eq_true c15
                  clear c15
                  by_cases c16 : (Op.bytesLess a1_0.toList (((rd_T35 l0 x7_2).f0).toList)) = true
                  · rw [if_pos c16] at H
                    have c16b0 : (Op.bytesLess a1_0.toList (((rd_T35 l0 x7_2).f0).toList)) = true := c16
                    clear c16
                    by_cases c17 : x5_2.length < 4398046511104
                    · rw [if_pos c17] at H
                      have LMc17 := Aside0.mk c17
                      clear c17
                      obtain ⟨y119, hy119⟩ : ∃ y_ : List (S35), y_ = (x5_2 ++ [(⟨(rd_T35 l0 x7_2).f0, (rd_T35 l0 x7_2).f1⟩ : S35)]) := ⟨_, rfl⟩
                      replace H : (cellarerref11_in.l1 k2 l0 y119 (wrap64 (x7_2 + 1)) a1_0 a1_1) = some r := by first | (rw [hy119]; with_reducible exact H) | (have H2_ := (Option.bind_some _ _).symm.trans H; rw [hy119]; with_reducible exact H2_) | (have H2_ := (Option.bind_some _ _).symm.trans H; with_reducible exact H2_) | with_reducible exact H | (rw [hy119]; exact H) | exact H
                      have Ny119 := Aside0.mk hy119
                      clear hy119
                      have H' := Aside0.mk H
                      clear H
                      have p117 : 0 ≤ (x7_2 : Int) := of_decide_eq_true (by first | (with_reducible assumption) | assumption)
                      have q117 : x7_2 < (l0.length : Int) := of_decide_eq_true (by first | (with_reducible assumption) | assumption)
                      obtain ⟨ad117, e117, hx117_0, hx117_1⟩ := at_T35 HR0.out x7_2 p117 q117
                      cases e117
                      replace hx117_0 := (HB.out.cell (World.block_lt_of_cell? w _ hx117_0)).trans hx117_0
                      replace hx117_1 := (HB.out.cell (World.block_lt_of_cell? w _ hx117_1)).trans hx117_1
                      replace p117 := eq_true p117
                      replace q117 := eq_true q117
                      have hcz18_0 : wr.cell? ⟨gb108, 0, none⟩ = some (.string a1_0) := (blk_cell BK108.out 0).trans rfl
                      have hcz18_1 : wr.cell? ⟨gb108, 1, none⟩ = some (.string a1_1) := (blk_cell BK108.out 1).trans rfl
                      have hfz18_0 := blk_frozen BK108.out 0
                      have hfz18_1 := blk_frozen BK108.out 1
                      have p118 : 0 ≤ (x7_2 : Int) := of_decide_eq_true (by first | (with_reducible assumption) | assumption)
                      have q118 : x7_2 < (l0.length : Int) := of_decide_eq_true (by first | (with_reducible assumption) | assumption)
                      obtain ⟨ad118, e118, hx118_0, hx118_1⟩ := at_T35 HR0.out x7_2 p118 q118
                      obtain rfl : ad117 = ad118 := (by injection e118)
                      replace hx118_0 := (HB.out.cell (World.block_lt_of_cell? w _ hx118_0)).trans hx118_0
                      replace hx118_1 := (HB.out.cell (World.block_lt_of_cell? w _ hx118_1)).trans hx118_1
                      replace p118 := eq_true p118
                      replace q118 := eq_true q118
                      go_wp2_with (first | ((with_reducible refine gate_builtin (b := .append) (xs := #[.tmp 47, .tmp 52]) rfl ?_); at_builtin; refine Kd.R_append k35 (w0 := w) w.heap.size rfl (.tmp 47) (.tmp 52) 22 35 (.agg #[(.string ⟨#[]⟩), (.string ⟨#[]⟩)]) 32 rfl Tryz.underlying22 info35 rfl (by decide) (by omega) u5 x5_2 (⟨(rd_T35 l0 x7_2).f0, (rd_T35 l0 x7_2).f1⟩ : S35) [.string ((rd_T35 l0 x7_2).f0), .string ((rd_T35 l0 x7_2).f1)] (fun k_ => k_ ≠ gb108) (fun _ => False) rfl rfl ?aP (fun _ hk => hk.elim) ?aF ?aO ?aB ?aS ?aL ?_; (case aP => exact k35_mkM _ _ _ (⟨(rd_T35 l0 x7_2).f0, (rd_T35 l0 x7_2).f1⟩ : S35)); (case aB => exact (by repeat (first | (with_reducible first | exact HB.out | apply below_alloc | apply pw_below_drewN | apply below_drew1 | refine below_set ?_ GE108.out) | exact HB.out))); (case aF => exact (fun k_ hk => Kd.freshB (g := gb108) (o := .cells #[.string a1_0, .string a1_1] 35 (0, 0)) (by (with_reducible repeat (first | refine blk_drewN ?_ _ | refine blk_drew ?_ | refine blk_alloc ?_ _)); exact BK108.out) k_ hk)); (case aO => exact (by (with_reducible repeat (first | apply Kd.R_alloc | apply Kd.R_drewN | apply Kd.R_drew)); exact HO_5.out)); (case aS => exact (below_size (by repeat (first | (with_reducible first | exact HB.out | apply below_alloc | apply pw_below_drewN | apply below_drew1 | refine below_set ?_ GE108.out) | exact HB.out)))); (case aL => have := LMc17.out; omega); intro v120 w19 ho hb hg hat; rw [← Ny119.out] at ho; have n0_ := Aside0.mk (blk_grown (g := gb108) (o := .cells #[.string a1_0, .string a1_1] 35 (0, 0)) (by (with_reducible repeat (first | refine blk_drewN ?_ _ | refine blk_drew ?_ | refine blk_alloc ?_ _)); exact BK108.out) hg (Kd.R_away HO_5.out (fun _ hk => hk))); have n1_ := Aside0.mk (hb); have n2_ := Aside0.mk (ho); clear BK108; clear HB; clear HO_5; have BK108 := n0_; have HB := n1_; have HO121 := n2_; clear n0_ n1_ n2_; clear ho hb hg hat))
                      repeat (go_quiet (first | ((with_reducible refine gate_builtin (b := .append) (xs := #[.tmp 47, .tmp 52]) rfl ?_); at_builtin; refine Kd.R_append k35 (w0 := w) w.heap.size rfl (.tmp 47) (.tmp 52) 22 35 (.agg #[(.string ⟨#[]⟩), (.string ⟨#[]⟩)]) 32 rfl Tryz.underlying22 info35 rfl (by decide) (by omega) u5 x5_2 (⟨(rd_T35 l0 x7_2).f0, (rd_T35 l0 x7_2).f1⟩ : S35) [.string ((rd_T35 l0 x7_2).f0), .string ((rd_T35 l0 x7_2).f1)] (fun k_ => k_ ≠ gb108) (fun _ => False) rfl rfl ?aP (fun _ hk => hk.elim) ?aF ?aO ?aB ?aS ?aL ?_; (case aP => exact k35_mkM _ _ _ (⟨(rd_T35 l0 x7_2).f0, (rd_T35 l0 x7_2).f1⟩ : S35)); (case aB => exact (by repeat (first | (with_reducible first | exact HB.out | apply below_alloc | apply pw_below_drewN | apply below_drew1 | refine below_set ?_ GE108.out) | exact HB.out))); (case aF => exact (fun k_ hk => Kd.freshB (g := gb108) (o := .cells #[.string a1_0, .string a1_1] 35 (0, 0)) (by (with_reducible repeat (first | refine blk_drewN ?_ _ | refine blk_drew ?_ | refine blk_alloc ?_ _)); exact BK108.out) k_ hk)); (case aO => exact (by (with_reducible repeat (first | apply Kd.R_alloc | apply Kd.R_drewN | apply Kd.R_drew)); exact HO_5.out)); (case aS => exact (below_size (by repeat (first | (with_reducible first | exact HB.out | apply below_alloc | apply pw_below_drewN | apply below_drew1 | refine below_set ?_ GE108.out) | exact HB.out)))); (case aL => have := LMc17.out; omega); intro v120 w19 ho hb hg hat; rw [← Ny119.out] at ho; have n0_ := Aside0.mk (blk_grown (g := gb108) (o := .cells #[.string a1_0, .string a1_1] 35 (0, 0)) (by (with_reducible repeat (first | refine blk_drewN ?_ _ | refine blk_drew ?_ | refine blk_alloc ?_ _)); exact BK108.out) hg (Kd.R_away HO_5.out (fun _ hk => hk))); have n1_ := Aside0.mk (hb); have n2_ := Aside0.mk (ho); clear BK108; clear HB; clear HO_5; have BK108 := n0_; have HB := n1_; have HO121 := n2_; clear n0_ n1_ n2_; clear ho hb hg hat)); try go_wp2_with (first | ((with_reducible refine gate_builtin (b := .append) (xs := #[.tmp 47, .tmp 52]) rfl ?_); at_builtin; refine Kd.R_append k35 (w0 := w) w.heap.size rfl (.tmp 47) (.tmp 52) 22 35 (.agg #[(.string ⟨#[]⟩), (.string ⟨#[]⟩)]) 32 rfl Tryz.underlying22 info35 rfl (by decide) (by omega) u5 x5_2 (⟨(rd_T35 l0 x7_2).f0, (rd_T35 l0 x7_2).f1⟩ : S35) [.string ((rd_T35 l0 x7_2).f0), .string ((rd_T35 l0 x7_2).f1)] (fun k_ => k_ ≠ gb108) (fun _ => False) rfl rfl ?aP (fun _ hk => hk.elim) ?aF ?aO ?aB ?aS ?aL ?_; (case aP => exact k35_mkM _ _ _ (⟨(rd_T35 l0 x7_2).f0, (rd_T35 l0 x7_2).f1⟩ : S35)); (case aB => exact (by repeat (first | (with_reducible first | exact HB.out | apply below_alloc | apply pw_below_drewN | apply below_drew1 | refine below_set ?_ GE108.out) | exact HB.out))); (case aF => exact (fun k_ hk => Kd.freshB (g := gb108) (o := .cells #[.string a1_0, .string a1_1] 35 (0, 0)) (by (with_reducible repeat (first | refine blk_drewN ?_ _ | refine blk_drew ?_ | refine blk_alloc ?_ _)); exact BK108.out) k_ hk)); (case aO => exact (by (with_reducible repeat (first | apply Kd.R_alloc | apply Kd.R_drewN | apply Kd.R_drew)); exact HO_5.out)); (case aS => exact (below_size (by repeat (first | (with_reducible first | exact HB.out | apply below_alloc | apply pw_below_drewN | apply below_drew1 | refine below_set ?_ GE108.out) | exact HB.out)))); (case aL => have := LMc17.out; omega); intro v120 w19 ho hb hg hat; rw [← Ny119.out] at ho; have n0_ := Aside0.mk (blk_grown (g := gb108) (o := .cells #[.string a1_0, .string a1_1] 35 (0, 0)) (by (with_reducible repeat (first | refine blk_drewN ?_ _ | refine blk_drew ?_ | refine blk_alloc ?_ _)); exact BK108.out) hg (Kd.R_away HO_5.out (fun _ hk => hk))); have n1_ := Aside0.mk (hb); have n2_ := Aside0.mk (ho); clear BK108; clear HB; clear HO_5; have BK108 := n0_; have HB := n1_; have HO121 := n2_; clear n0_ n1_ n2_; clear ho hb hg hat)))
                      go_roundg k2
                      case measure => have := HK1.out; have := HK2.out; omega
                      case rel => exact ⟨(y119), (wrap64 (x7_2 + 1)), (by first | rfl | (simp; done) | (simp [*]; done)), H', ⟨by have := HK1.out; have := HK2.out; omega⟩, ⟨by (with_reducible repeat (first | apply Kd.R_alloc | apply Kd.R_drewN | apply Kd.R_drew)); exact HO121.out⟩, ⟨by (with_reducible repeat (first | refine blk_drewN ?_ _ | refine blk_drew ?_ | refine blk_alloc ?_ _)); exact BK108.out⟩, ⟨by repeat (first | (with_reducible first | exact HB.out | apply below_alloc | apply pw_below_drewN | apply below_drew1 | refine below_set ?_ GE108.out) | exact HB.out)⟩⟩
                    · rw [if_neg c17] at H
                      exact absurd H (by simp)
                  · rw [if_neg c16] at H
                    have c16b0 : (Op.bytesLess a1_0.toList (((rd_T35 l0 x7_2).f0).toList)) = false := by simpa using c16
                    clear c16
                    have H' := Aside0.mk H
                    clear H
                    have p117 : 0 ≤ (x7_2 : Int) := of_decide_eq_true (by first | (with_reducible assumption) | assumption)
                    have q117 : x7_2 < (l0.length : Int) := of_decide_eq_true (by first | (with_reducible assumption) | assumption)
                    obtain ⟨ad117, e117, hx117_0, hx117_1⟩ := at_T35 HR0.out x7_2 p117 q117
                    cases e117
                    replace hx117_0 := (HB.out.cell (World.block_lt_of_cell? w _ hx117_0)).trans hx117_0
                    replace hx117_1 := (HB.out.cell (World.block_lt_of_cell? w _ hx117_1)).trans hx117_1
                    replace p117 := eq_true p117
                    replace q117 := eq_true q117
                    have hcz20_0 : wr.cell? ⟨gb108, 0, none⟩ = some (.string a1_0) := (blk_cell BK108.out 0).trans rfl
                    have hcz20_1 : wr.cell? ⟨gb108, 1, none⟩ = some (.string a1_1) := (blk_cell BK108.out 1).trans rfl
                    have hfz20_0 := blk_frozen BK108.out 0
                    have hfz20_1 := blk_frozen BK108.out 1
                    go_wp2
                    repeat (go_quiet (fail); try go_wp2)
                    go_roundg k2
                    case measure => have := HK1.out; have := HK2.out; omega
                    case rel => exact ⟨(x5_2), (wrap64 (x7_2 + 1)), (by first | rfl | (simp; done) | (simp [*]; done)), H', ⟨by have := HK1.out; have := HK2.out; omega⟩, ⟨by (with_reducible repeat (first | apply Kd.R_alloc | apply Kd.R_drewN | apply Kd.R_drew)); exact HO_5.out⟩, ⟨by (with_reducible repeat (first | refine blk_drewN ?_ _ | refine blk_drew ?_ | refine blk_alloc ?_ _)); exact BK108.out⟩, ⟨by repeat (first | (with_reducible first | exact HB.out | apply below_alloc | apply pw_below_drewN | apply below_drew1 | refine below_set ?_ GE108.out) | exact HB.out)⟩⟩
                · rw [if_neg c15] at H
                  exact absurd H (by simp)
              · rw [if_neg c14] at H
                have c14b0 : decide (x7_2 < (l0.length : Int)) = false := decide_eq_false c14
                clear c14
                obtain rfl := Option.some.inj H
                go_wp2
                repeat (go_quiet (fail); try go_wp2)
                go_ret
                exact ⟨_, by first | rfl | (simp [errW_none, errW_some] <;> rfl) | (simp [*, errW_none, errW_some] <;> rfl), by (with_reducible repeat (first | apply Kd.R_alloc | apply Kd.R_drewN | apply Kd.R_drew)); exact Kd.R_mono HO_5.out (fun _ hk => trivial), by repeat (first | (with_reducible first | exact HB.out | apply below_alloc | apply pw_below_drewN | apply below_drew1 | refine below_set ?_ GE108.out) | exact HB.out)⟩
        · rw [if_neg c11] at H
          exact absurd H (by simp)

end Go.Proofs.YtmckpkiodcmbeaaGreat.Q

-- B2
namespace Go.Proofs.YtmckpkiodcmbeaaGreat.Q
open Go.RowKit Go.Proofs.YtmckpkiodcmbeaaGreatW.PrintWords Go.Proofs.YtmckpkiodcmbeaaGreatW.PrintLast Go.Proofs.YtmckpkiodcmbeaaGreatW.PrintMore
attribute [local go_sem] max2_int min2_int max_two min_two max_three min_three max_four min_four   -- for this text's walks alone
set_option linter.unusedVariables false
set_option linter.unusedSimpArgs false

/-! ### cellarerref11_With: function 9 -/
mutual
def cellarerref11_With.l0 : Nat → List (S35) → List (S33) → List (S35) → Int → Option ((List (S35)))
  | 0, _, _, _, _ => none
  | k + 1, x0, x1, x5, x6 => if x6 < (x0.length : Int) then (if 0 ≤ x6 then ((cellarerref11_in.f k x5 ((rd_T35 x0 x6).f0) ((rd_T35 x0 x6).f1)).bind fun t123 => (cellarerref11_With.l0 k x0 x1 t123 (wrap64 (x6 + 1)))) else (none)) else (cellarerref11_With.l1 k x1 x5 0)
def cellarerref11_With.l1 : Nat → List (S33) → List (S35) → Int → Option ((List (S35)))
  | 0, _, _, _ => none
  | k + 1, x1, x5, x7 => if x7 < (x1.length : Int) then (if 0 ≤ x7 then ((cellarerref11_in.f k x5 ((rd_T33 x1 x7).f0) ((rd_T33 x1 x7).f1)).bind fun t128 => (if (rd_T33 x1 x7).f2 = true then (cellarerref11_With.l2 k x1 t128 x7 ([] : List (S35)) 0) else (cellarerref11_With.l1 k x1 t128 (wrap64 (x7 + 1))))) else (none)) else (some x5)
def cellarerref11_With.l2 : Nat → List (S33) → List (S35) → Int → List (S35) → Int → Option ((List (S35)))
  | 0, _, _, _, _, _ => none
  | k + 1, x1, x5, x7, x8, x9 => if x9 < (x5.length : Int) then (if 0 ≤ x9 then (if 0 ≤ x7 then (if x7 < (x1.length : Int) then (if ((rd_T35 x5 x9).f0).toList = ((rd_T33 x1 x7).f0).toList then (cellarerref11_With.l2 k x1 x5 x7 x8 (wrap64 (x9 + 1))) else (if x8.length < 4398046511104 then (cellarerref11_With.l2 k x1 x5 x7 (x8 ++ [(⟨(rd_T35 x5 x9).f0, (rd_T35 x5 x9).f1⟩ : S35)]) (wrap64 (x9 + 1))) else (none))) else (none)) else (none)) else (none)) else (cellarerref11_With.l1 k x1 x8 (wrap64 (x7 + 1)))
end
def cellarerref11_With.f (k : Nat) (l0 : List (S35)) (l1 : List (S33)) : Option ((List (S35))) := cellarerref11_With.l0 k l0 l1 ([] : List (S35)) 0
theorem cellarerref11_With.mono_l : ∀ k, (∀ y0 y1 y2 y3, LeO (cellarerref11_With.l0 k y0 y1 y2 y3) (cellarerref11_With.l0 (k + 1) y0 y1 y2 y3)) ∧ (∀ y0 y1 y2, LeO (cellarerref11_With.l1 k y0 y1 y2) (cellarerref11_With.l1 (k + 1) y0 y1 y2)) ∧ (∀ y0 y1 y2 y3 y4, LeO (cellarerref11_With.l2 k y0 y1 y2 y3 y4) (cellarerref11_With.l2 (k + 1) y0 y1 y2 y3 y4))
  | 0 => ⟨fun _ _ _ _ r h => by simp [cellarerref11_With.l0] at h, fun _ _ _ r h => by simp [cellarerref11_With.l1] at h, fun _ _ _ _ _ r h => by simp [cellarerref11_With.l2] at h⟩
  | k + 1 => by
    obtain ⟨ih0, ih1, ih2⟩ := cellarerref11_With.mono_l k
    refine ⟨?_, ?_, ?_⟩
    · intro y0 y1 y2 y3
      unfold cellarerref11_With.l0
      repeat' first
      | (with_reducible exact ih0 _ _ _ _)
      | (with_reducible exact ih1 _ _ _)
      | (with_reducible exact ih2 _ _ _ _ _)
      | (with_reducible exact cellarerref11_in.mono _ _ _ _)
      | (with_reducible exact LeO.refl _)
      | (with_reducible exact LeO.none _)
      | (with_reducible refine LeO.ite ?_ ?_)
      | (with_reducible refine LeO.bind ?_ (fun _ => ?_))
      | exact ih0 _ _ _ _
      | exact ih1 _ _ _
      | exact ih2 _ _ _ _ _
      | exact cellarerref11_in.mono _ _ _ _
      | exact LeO.none _
      | refine LeO.ite ?_ ?_
      | refine LeO.bind ?_ (fun _ => ?_)
    · intro y0 y1 y2
      unfold cellarerref11_With.l1
      repeat' first
      | (with_reducible exact ih0 _ _ _ _)
      | (with_reducible exact ih1 _ _ _)
      | (with_reducible exact ih2 _ _ _ _ _)
      | (with_reducible exact cellarerref11_in.mono _ _ _ _)
      | (with_reducible exact LeO.refl _)
      | (with_reducible exact LeO.none _)
      | (with_reducible refine LeO.ite ?_ ?_)
      | (with_reducible refine LeO.bind ?_ (fun _ => ?_))
      | exact ih0 _ _ _ _
      | exact ih1 _ _ _
      | exact ih2 _ _ _ _ _
      | exact cellarerref11_in.mono _ _ _ _
      | exact LeO.none _
      | refine LeO.ite ?_ ?_
      | refine LeO.bind ?_ (fun _ => ?_)
    · intro y0 y1 y2 y3 y4
      unfold cellarerref11_With.l2
      repeat' first
      | (with_reducible exact ih0 _ _ _ _)
      | (with_reducible exact ih1 _ _ _)
      | (with_reducible exact ih2 _ _ _ _ _)
      | (with_reducible exact cellarerref11_in.mono _ _ _ _)
      | (with_reducible exact LeO.refl _)
      | (with_reducible exact LeO.none _)
      | (with_reducible refine LeO.ite ?_ ?_)
      | (with_reducible refine LeO.bind ?_ (fun _ => ?_))
      | exact ih0 _ _ _ _
      | exact ih1 _ _ _
      | exact ih2 _ _ _ _ _
      | exact cellarerref11_in.mono _ _ _ _
      | exact LeO.none _
      | refine LeO.ite ?_ ?_
      | refine LeO.bind ?_ (fun _ => ?_)
theorem cellarerref11_With.mono : ∀ a0 a1 k, LeO (cellarerref11_With.f k a0 a1) (cellarerref11_With.f (k + 1) a0 a1) := by
  intro a0 a1 k
  obtain ⟨ih0, ih1, ih2⟩ := cellarerref11_With.mono_l k
  unfold cellarerref11_With.f
  repeat' first
      | (with_reducible exact ih0 _ _ _ _)
      | (with_reducible exact ih1 _ _ _)
      | (with_reducible exact ih2 _ _ _ _ _)
      | (with_reducible exact cellarerref11_in.mono _ _ _ _)
      | (with_reducible exact LeO.refl _)
      | (with_reducible exact LeO.none _)
      | (with_reducible refine LeO.ite ?_ ?_)
      | (with_reducible refine LeO.bind ?_ (fun _ => ?_))
      | exact ih0 _ _ _ _
      | exact ih1 _ _ _
      | exact ih2 _ _ _ _ _
      | exact cellarerref11_in.mono _ _ _ _
      | exact LeO.none _
      | refine LeO.ite ?_ ?_
      | refine LeO.bind ?_ (fun _ => ?_)
def cellarerref11_With.T9 : Bool × List (List Nat × List Nat) := (true, [([], []), ([], []), ([], []), ([1, 2], [1, 2]), ([3], [3]), ([4], [4]), ([], []), ([], []), ([6, 7], [6, 7]), ([8], [8]), ([9], [9]), ([5, 10], [5, 10]), ([0, 11], [0, 11]), ([12, 12, 0, 1, 2, 3, 4, 5, 6, 7, 8, 9, 10, 11, 12], [0, 12])])
def cellarerref11_With.B9 : List Nat := [0, 0, 0, 6, 14, 30, 0, 0, 192, 448, 960, 2046, 4095, 8191]
theorem cellarerref11_With.tab9 : rtab .any (opsOf Tryz.f9 9) = cellarerref11_With.T9 := by kernel_rfl
theorem cellarerref11_With.bits9 : waitsOk cellarerref11_With.T9.2 cellarerref11_With.B9 = true := by kernel_rfl
def cellarerref11_With.T15 : Bool × List (List Nat × List Nat) := (true, [([], []), ([], []), ([0, 1], [0, 1]), ([2], [2]), ([3], [3]), ([], []), ([], []), ([5, 6], [5, 6]), ([7], [7]), ([8], [8]), ([4, 9], [4, 9])])
def cellarerref11_With.B15 : List Nat := [0, 0, 3, 7, 15, 0, 0, 96, 224, 480, 1023]
theorem cellarerref11_With.tab15 : rtab .any (opsOf Tryz.f9 15) = cellarerref11_With.T15 := by kernel_rfl
theorem cellarerref11_With.bits15 : waitsOk cellarerref11_With.T15.2 cellarerref11_With.B15 = true := by kernel_rfl
set_option maxHeartbeats 8000000 in
set_option maxRecDepth 100000 in
theorem cellarerref11_With.calls (k : Nat) (A0 : Option Addr) (c0 : Nat) (l0 : List (S35)) (A1 : Option Addr) (c1 : Nat) (l1 : List (S33)) (r : List (S35)) (w : World) (hr0 : Kd.C k35 w A0 l0.length l0) (hc0 : l0.length ≤ c0) (hr1 : Kd.C k33 w A1 l1.length l1) (hc1 : l1.length ≤ c1) (h : cellarerref11_With.f k l0 l1 = some r) :
    Calls Tryz.prog 9 #[.slice A0 l0.length c0, .slice A1 l1.length c1] w fun e w' => ∃ v0_ : Value, e = .returned (v0_) ∧ Kd.R k35 35 w' w.heap.size (fun _ => True) v0_ r ∧ Below w.heap.size w w' := by
  have hu35 := Tryz.underlying35
  have HR0 := Aside0.mk hr0
  have HC0 := Aside0.mk hc0
  clear hr0 hc0
  have HR1 := Aside0.mk hr1
  have HC1 := Aside0.mk hc1
  clear hr1 hc1
  have HB := Aside0.mk (Below.refl w.heap.size w)
  have H : (cellarerref11_With.l0 k l0 l1 ([] : List (S35)) 0) = some r := h
  clear h
  have H' := Aside0.mk H
  clear H
  go_enter Tryz.func9, Tryz.ntmps9
  go_wp2
  go_loopg [5, 6] k (fun kq v5 v6 w' => ∃ (x5_1 : List (S35)) (x6_1 : Int), v6 = .int .i64 x6_1 ∧ Aside0 (cellarerref11_With.l0 kq l0 l1 x5_1 x6_1 = some r) ∧ Aside0 (kq ≤ k) ∧ Aside0 (Kd.R k35 35 w' w.heap.size (fun _ => True) v5 x5_1) ∧ Aside0 (Below w.heap.size w w'))
  case atStart => exact ⟨(([] : List (S35))), (0), (by first | rfl | (simp; done) | (simp [*]; done)), H', ⟨Nat.le_refl _⟩, ⟨by first | exact Kd.R_nil _ _ _ _ _ | exact Kd.N_nil _ _ _ _ _ | exact Kd.V_nil _ _ _ _ _ | exact Kd.Q_nil _ _ _ _ _ | exact Kd.S_nil _ _ _ _ _⟩, ⟨by repeat (first | (with_reducible first | exact HB.out | apply below_alloc | apply pw_below_drewN | apply below_drew1) | exact HB.out)⟩⟩
  case round =>
    clear H'
    try clear c1
    try clear p2
    obtain ⟨x5_1, x6_1, rfl, HA, HK1, HO_5, HB⟩ := hrel
    cases gk with
    | zero => exact absurd HA.out (by simp [cellarerref11_With.l0])
    | succ k1 =>
      have H := HA.out
      clear HA
      simp only [cellarerref11_With.l0] at H
      by_cases c3 : x6_1 < (l0.length : Int)
      · rw [if_pos c3] at H
        have c3b0 : decide (x6_1 < (l0.length : Int)) = true := decide_eq_true c3
        clear c3
        by_cases c4 : 0 ≤ x6_1
        · rw [if_pos c4] at H
          have c4b0 : decide (0 ≤ x6_1) = true := decide_eq_true c4
          clear c4
          replace H := Option.bind_eq_some_iff.mp H
          obtain ⟨t123, A50, H⟩ := H
          replace H : (cellarerref11_With.l0 k1 l0 l1 t123 (wrap64 (x6_1 + 1))) = some r := H
          have A5 := Aside0.mk A50
          clear A50
          have H' := Aside0.mk H
          clear H
          have p122 : 0 ≤ (x6_1 : Int) := of_decide_eq_true (by first | (with_reducible assumption) | assumption)
          have q122 : x6_1 < (l0.length : Int) := of_decide_eq_true (by first | (with_reducible assumption) | assumption)
          obtain ⟨ad122, e122, hx122_0, hx122_1⟩ := at_T35 HR0.out x6_1 p122 q122
          cases e122
          replace hx122_0 := (HB.out.cell (World.block_lt_of_cell? w _ hx122_0)).trans hx122_0
          replace hx122_1 := (HB.out.cell (World.block_lt_of_cell? w _ hx122_1)).trans hx122_1
          replace p122 := eq_true p122
          replace q122 := eq_true q122
          obtain ⟨Ao6, co6, eo6⟩ := Kd.R_slice HO_5.out
          subst eo6
          go_wp2_with (first | ((with_reducible refine gate_callee (f := 17) rfl ?_); refine goesL_ (some 21) rfl rfl Tryz.func17 (by kernel_rfl) rfl #[.slice Ao6 x5_1.length co6, .agg #[.string ((rd_T35 l0 x6_1).f0), .string ((rd_T35 l0 x6_1).f1)]] rfl (by (try simp only [List.map_toArray, List.map_cons, List.map_nil]); first | done | rfl | (simp only [List.length_drop, List.length_take]; rfl)) ?_; (with_reducible refine (cellarerref11_in.calls k1 _ _ x5_1 ((rd_T35 l0 x6_1).f0) ((rd_T35 l0 x6_1).f1) t123 _ ?side1 ?side2 A5.out).mono ?_); (case side1 => repeat (first | exact (Kd.R_reads' HO_5.out).2.2 | (with_reducible refine Kd.C_alloc ?_ _) | (with_reducible refine Kd.C_drewN ?_ _) | (with_reducible refine Kd.C_drew ?_))); (case side2 => exact (Kd.R_reads' HO_5.out).2.1); rintro e w7 ⟨v124, rfl, ho0, hb⟩; refine ⟨_, rfl, ?_⟩; have n0_ := Aside0.mk (Kd.R_elder' (by (with_reducible repeat (first | apply Kd.R_alloc | apply Kd.R_drewN | apply Kd.R_drew)); exact HO_5.out) (Kd.R_base ho0) hb); have n1_ := Aside0.mk (Kd.R_lower (Kd.R_new' ho0 (Kd.R_lt (by (with_reducible repeat (first | apply Kd.R_alloc | apply Kd.R_drewN | apply Kd.R_drew)); exact HO_5.out))) (below_size (by repeat (first | (with_reducible first | exact HB.out | apply below_alloc | apply pw_below_drewN | apply below_drew1) | exact HB.out)))); have n2_ := Aside0.mk (below_step (by repeat (first | (with_reducible first | exact HB.out | apply below_alloc | apply pw_below_drewN | apply below_drew1) | exact HB.out)) hb); clear HO_5; clear HB; have HO_5 := n0_; have HO125 := n1_; have HB := n2_; clear n0_ n1_ n2_; (try clear hb); (try clear hb2); (try clear hk); (try clear hi); (try clear ho0)))
          go_roundg k1
          case measure => have := HK1.out; omega
          case rel => exact ⟨(t123), (wrap64 (x6_1 + 1)), (by first | rfl | (simp; done) | (simp [*]; done)), H', ⟨by have := HK1.out; omega⟩, ⟨by (with_reducible repeat (first | apply Kd.R_alloc | apply Kd.R_drewN | apply Kd.R_drew)); exact Kd.R_mono HO125.out (fun _ hk => trivial)⟩, ⟨by repeat (first | (with_reducible first | exact HB.out | apply below_alloc | apply pw_below_drewN | apply below_drew1) | exact HB.out)⟩⟩
        · rw [if_neg c4] at H
          exact absurd H (by simp)
      · rw [if_neg c3] at H
        have c3b0 : decide (x6_1 < (l0.length : Int)) = false := decide_eq_false c3
        clear c3
        have H' := Aside0.mk H
        clear H
        go_wp2
        go_loopg [5, 7] k1 (fun kq v5 v7 w' => ∃ (x5_2 : List (S35)) (x7_2 : Int), v7 = .int .i64 x7_2 ∧ Aside0 (cellarerref11_With.l1 kq l1 x5_2 x7_2 = some r) ∧ Aside0 (kq ≤ k1) ∧ Aside0 (Kd.R k35 35 w' w.heap.size (fun _ => True) v5 x5_2) ∧ Aside0 (Below w.heap.size w w'))
        case atStart => exact ⟨(x5_1), (0), (by first | rfl | (simp; done) | (simp [*]; done)), H', ⟨Nat.le_refl _⟩, ⟨by (with_reducible repeat (first | apply Kd.R_alloc | apply Kd.R_drewN | apply Kd.R_drew)); exact HO_5.out⟩, ⟨by repeat (first | (with_reducible first | exact HB.out | apply below_alloc | apply pw_below_drewN | apply below_drew1) | exact HB.out)⟩⟩
        case round =>
          clear H'
          try clear c1
          try clear p1
          try clear q1
          try clear hx1
          try clear p2
          try clear c3
          try clear c3b0
          try clear c4
          try clear c4b0
          try clear p6
          try clear hx122_0
          try clear hx122_1
          try clear p122
          try clear p2
          try clear q122
          obtain ⟨x5_2, x7_2, rfl, HA, HK2, HO_5, HB⟩ := hrel
          cases gk with
          | zero => exact absurd HA.out (by simp [cellarerref11_With.l1])
          | succ k2 =>
            have H := HA.out
            clear HA
            simp only [cellarerref11_With.l1] at H
            by_cases c8 : x7_2 < (l1.length : Int)
            · rw [if_pos c8] at H
              have c8b0 : decide (x7_2 < (l1.length : Int)) = true := decide_eq_true c8
              clear c8
              by_cases c9 : 0 ≤ x7_2
              · rw [if_pos c9] at H
                have c9b0 : decide (0 ≤ x7_2) = true := decide_eq_true c9
                clear c9
                replace H := Option.bind_eq_some_iff.mp H
                obtain ⟨t128, A100, H⟩ := H
                replace H : (if (rd_T33 l1 x7_2).f2 = true then (cellarerref11_With.l2 k2 l1 t128 x7_2 ([] : List (S35)) 0) else (cellarerref11_With.l1 k2 l1 t128 (wrap64 (x7_2 + 1)))) = some r := H
                have A10 := Aside0.mk A100
                clear A100
                obtain ⟨bq11, hbq11⟩ : ∃ b_ : Bool, b_ = ((rd_T33 l1 x7_2).f2) := ⟨_, rfl⟩
                replace H : (if bq11 = true then (cellarerref11_With.l2 k2 l1 t128 x7_2 ([] : List (S35)) 0) else (cellarerref11_With.l1 k2 l1 t128 (wrap64 (x7_2 + 1)))) = some r := by rw [← hbq11] at H; exact H
                have Nbq11 := Aside0.mk hbq11
                clear hbq11
                by_cases c12 : bq11 = true
                · subst c12
                  have H1 : (cellarerref11_With.l2 k2 l1 t128 x7_2 ([] : List (S35)) 0) = some r := by rw [if_pos rfl] at H; exact H
                  clear H
                  have H := H1
                  clear H1
                  have H' := Aside0.mk H
                  clear H
                  try go_wp2
                  have n0_ := Aside0.mk (Kd.R_drew HO_5.out)
                  have n1_ := Aside0.mk (below_drew1 HB.out)
                  clear HO_5
                  clear HB
                  have HO_5 := n0_
                  have HB := n1_
                  clear n0_ n1_
                  have p126 : 0 ≤ (x7_2 : Int) := of_decide_eq_true (by first | (with_reducible assumption) | assumption)
                  have q126 : x7_2 < (l1.length : Int) := of_decide_eq_true (by first | (with_reducible assumption) | assumption)
                  obtain ⟨ad126, e126, hx126_0, hx126_1, hx126_2⟩ := at_T33 HR1.out x7_2 p126 q126
                  have hw126_2 := hx126_2
                  have hw126_1 := hx126_1
                  have hw126_0 := hx126_0
                  (try rw [← Nbq11.out] at hx126_2); (try rw [← Nbq11.out] at hw126_2)
                  cases e126
                  replace hx126_0 := (HB.out.cell (World.block_lt_of_cell? w _ hx126_0)).trans hx126_0
                  replace hx126_1 := (HB.out.cell (World.block_lt_of_cell? w _ hx126_1)).trans hx126_1
                  replace hx126_2 := (HB.out.cell (World.block_lt_of_cell? w _ hx126_2)).trans hx126_2
                  replace p126 := eq_true p126
                  replace q126 := eq_true q126
                  have p127 : 0 ≤ (x7_2 : Int) := of_decide_eq_true (by first | (with_reducible assumption) | assumption)
                  have q127 : x7_2 < (l1.length : Int) := of_decide_eq_true (by first | (with_reducible assumption) | assumption)
                  obtain ⟨ad127, e127, hx127_0, hx127_1, hx127_2⟩ := at_T33 HR1.out x7_2 p127 q127
                  have hw127_2 := hx127_2
                  have hw127_1 := hx127_1
                  have hw127_0 := hx127_0
                  (try rw [← Nbq11.out] at hx127_2); (try rw [← Nbq11.out] at hw127_2)
                  obtain rfl : ad126 = ad127 := (by injection e127)
                  replace hx127_0 := (HB.out.cell (World.block_lt_of_cell? w _ hx127_0)).trans hx127_0
                  replace hx127_1 := (HB.out.cell (World.block_lt_of_cell? w _ hx127_1)).trans hx127_1
                  replace hx127_2 := (HB.out.cell (World.block_lt_of_cell? w _ hx127_2)).trans hx127_2
                  replace p127 := eq_true p127
                  replace q127 := eq_true q127
                  obtain ⟨Ao14, co14, eo14⟩ := Kd.R_slice HO_5.out
                  (first | subst eo14 | (injection eo14 with f1_ f2_ f3_; have f4_ := f1_.symm; have f5_ := f3_.symm; clear f1_ f2_ f3_; subst f4_; subst f5_))
                  refine start_ (n := 14) (S := fun w' => w'.cell? (ad126.add ((x7_2).toNat * 3)) = some (.string ((rd_T33 l1 x7_2).f0)) ∧ w'.cell? ⟨(ad126.add ((x7_2).toNat * 3)).block, (ad126.add ((x7_2).toNat * 3)).off + 1, none⟩ = some (.string ((rd_T33 l1 x7_2).f1)) ∧ w'.cell? ⟨(ad126.add ((x7_2).toNat * 3)).block, (ad126.add ((x7_2).toNat * 3)).off + 2, none⟩ = some (.bool true) ∧ w'.cell? (ad126.add ((x7_2).toNat * 3)) = some (.string ((rd_T33 l1 x7_2).f0)) ∧ w'.cell? ⟨(ad126.add ((x7_2).toNat * 3)).block, (ad126.add ((x7_2).toNat * 3)).off + 1, none⟩ = some (.string ((rd_T33 l1 x7_2).f1)) ∧ w'.cell? ⟨(ad126.add ((x7_2).toNat * 3)).block, (ad126.add ((x7_2).toNat * 3)).off + 2, none⟩ = some (.bool true)) (ds := []) #[false, false, false, false, false, false, false, false, false, false, false, false, false, false] (by kernel_rfl) rfl rfl ⟨((HB.out.cell (World.block_lt_of_cell? w _ hw126_0)).trans hw126_0), ((HB.out.cell (World.block_lt_of_cell? w _ hw126_1)).trans hw126_1), ((HB.out.cell (World.block_lt_of_cell? w _ hw126_2)).trans hw126_2), ((HB.out.cell (World.block_lt_of_cell? w _ hw127_0)).trans hw127_0), ((HB.out.cell (World.block_lt_of_cell? w _ hw127_1)).trans hw127_1), ((HB.out.cell (World.block_lt_of_cell? w _ hw127_2)).trans hw127_2)⟩ (fun hHeld => ?_); refine with_tabW cellarerref11_With.tab9 cellarerref11_With.bits9 (fun HT_ HW_ => ?_)
                  generalize wr.drew = w13 at HO_5 HB hx126_0 hx126_1 hx126_2 hx127_0 hx127_1 hx127_2 hHeld ⊢
                  refine pure_ (i := 0) (N := some 28) (v := ?_) (a' := ?_) #[true, false, false, false, false, false, false, false, false, false, false, false, false, false] rfl rfl (any_of HT_.out (by kernel_rfl)) (fun _ _ _ h => h) (Or.inl ⟨by rfl, ?_⟩) ?_ ?_
                  rotate_left
                  · intro w'
                    go_simp
                    with_reducible rfl
                  rotate_left
                  · simp only [Act.put, List.setIfInBounds_toArray, List.set_cons_zero, List.set_cons_succ, i64_w, i32_w]
                    rfl
                  refine pure_ (i := 1) (N := some 29) (v := ?_) (a' := ?_) #[true, true, false, false, false, false, false, false, false, false, false, false, false, false] rfl rfl (any_of HT_.out (by kernel_rfl)) (fun _ _ _ h => h) (Or.inl ⟨by rfl, ?_⟩) ?_ ?_
                  rotate_left
                  · intro w'
                    go_simp
                    with_reducible rfl
                  rotate_left
                  · simp only [Act.put, List.setIfInBounds_toArray, List.set_cons_zero, List.set_cons_succ, i64_w, i32_w]
                    rfl
                  refine pure_ (i := 2) (N := some 30) (v := ?_) (a' := ?_) #[true, true, true, false, false, false, false, false, false, false, false, false, false, false] rfl rfl (any_of HT_.out (by kernel_rfl)) (fun _ _ _ h => h) (Or.inl ⟨by rfl, ?_⟩) ?_ ?_
                  rotate_left
                  · intro w'
                    go_simp
                    with_reducible rfl
                  rotate_left
                  · simp only [Act.put, List.setIfInBounds_toArray, List.set_cons_zero, List.set_cons_succ, i64_w, i32_w]
                    rfl
                  refine pure_ (i := 3) (N := some 31) (v := ?_) (a' := ?_) #[true, true, true, true, false, false, false, false, false, false, false, false, false, false] rfl rfl (any_of HT_.out (by kernel_rfl)) (fun _ _ _ h => h) (Or.inl ⟨by rfl, ?_⟩) ?_ ?_
                  rotate_left
                  · intro w'
                    go_simp
                    with_reducible rfl
                  rotate_left
                  · simp only [Act.put, List.setIfInBounds_toArray, List.set_cons_zero, List.set_cons_succ, i64_w, i32_w]
                    rfl
                  refine pure_ (i := 4) (N := some 32) (v := ?_) (a' := ?_) #[true, true, true, true, true, false, false, false, false, false, false, false, false, false] rfl rfl (any_of HT_.out (by kernel_rfl)) (fun _ _ _ h => h) (Or.inl ⟨by rfl, ?_⟩) ?_ ?_
                  rotate_left
                  · intro w'
                    go_simp
                    with_reducible rfl
                  rotate_left
                  · simp only [Act.put, List.setIfInBounds_toArray, List.set_cons_zero, List.set_cons_succ, i64_w, i32_w]
                    rfl
                  refine pure_ (i := 6) (N := some 34) (v := ?_) (a' := ?_) #[true, true, true, true, true, false, true, false, false, false, false, false, false, false] rfl rfl (any_of HT_.out (by kernel_rfl)) (fun _ _ _ h => h) (Or.inl ⟨by rfl, ?_⟩) ?_ ?_
                  rotate_left
                  · intro w'
                    go_simp
                    with_reducible rfl
                  rotate_left
                  · simp only [Act.put, List.setIfInBounds_toArray, List.set_cons_zero, List.set_cons_succ, i64_w, i32_w]
                    rfl
                  refine pure_ (i := 7) (N := some 35) (v := ?_) (a' := ?_) #[true, true, true, true, true, false, true, true, false, false, false, false, false, false] rfl rfl (any_of HT_.out (by kernel_rfl)) (fun _ _ _ h => h) (Or.inl ⟨by rfl, ?_⟩) ?_ ?_
                  rotate_left
                  · intro w'
                    go_simp
                    with_reducible rfl
                  rotate_left
                  · simp only [Act.put, List.setIfInBounds_toArray, List.set_cons_zero, List.set_cons_succ, i64_w, i32_w]
                    rfl
                  refine pure_ (i := 8) (N := some 36) (v := ?_) (a' := ?_) #[true, true, true, true, true, false, true, true, true, false, false, false, false, false] rfl rfl (any_of HT_.out (by kernel_rfl)) (fun _ _ _ h => h) (Or.inl ⟨by rfl, ?_⟩) ?_ ?_
                  rotate_left
                  · intro w'
                    go_simp
                    with_reducible rfl
                  rotate_left
                  · simp only [Act.put, List.setIfInBounds_toArray, List.set_cons_zero, List.set_cons_succ, i64_w, i32_w]
                    rfl
                  refine pure_ (i := 9) (N := some 37) (v := ?_) (a' := ?_) #[true, true, true, true, true, false, true, true, true, true, false, false, false, false] rfl rfl (any_of HT_.out (by kernel_rfl)) (fun _ _ _ h => h) (Or.inl ⟨by rfl, ?_⟩) ?_ ?_
                  rotate_left
                  · intro w'
                    go_simp
                    with_reducible rfl
                  rotate_left
                  · simp only [Act.put, List.setIfInBounds_toArray, List.set_cons_zero, List.set_cons_succ, i64_w, i32_w]
                    rfl
                  refine take_ (i := 5) (N := some 33) (v := ?_) (a' := ?_) #[true, true, true, true, true, true, true, true, true, true, false, false, false, false] rfl rfl (take_ofW HT_.out HW_.out (by kernel_rfl)) (fun _ _ _ h => h) (Or.inl ⟨by rfl, ?_⟩) hHeld ?_ ?_
                  rotate_left
                  · rintro w' ⟨s0, s1, s2, s3, s4, s5⟩
                    go_simp
                    with_reducible rfl
                  rotate_left
                  · simp only [Act.put, List.setIfInBounds_toArray, List.set_cons_zero, List.set_cons_succ, i64_w, i32_w]
                    rfl
                  refine take_ (i := 10) (N := some 38) (v := ?_) (a' := ?_) #[true, true, true, true, true, true, true, true, true, true, true, false, false, false] rfl rfl (take_ofW HT_.out HW_.out (by kernel_rfl)) (fun _ _ _ h => h) (Or.inl ⟨by rfl, ?_⟩) hHeld ?_ ?_
                  rotate_left
                  · rintro w' ⟨s0, s1, s2, s3, s4, s5⟩
                    go_simp
                    with_reducible rfl
                  rotate_left
                  · simp only [Act.put, List.setIfInBounds_toArray, List.set_cons_zero, List.set_cons_succ, i64_w, i32_w]
                    rfl
                  refine pure_ (i := 11) (N := some 39) (v := ?_) (a' := ?_) #[true, true, true, true, true, true, true, true, true, true, true, true, false, false] rfl rfl (any_of HT_.out (by kernel_rfl)) (fun _ _ _ h => h) (Or.inl ⟨by rfl, ?_⟩) ?_ ?_
                  rotate_left
                  · intro w'
                    go_simp
                    with_reducible rfl
                  rotate_left
                  · simp only [Act.put, List.setIfInBounds_toArray, List.set_cons_zero, List.set_cons_succ, i64_w, i32_w]
                    rfl
                  refine one_ (i := 12) (N := some 40) #[true, true, true, true, true, true, true, true, true, true, true, true, true, false] rfl rfl (one_of HT_.out (by kernel_rfl)) (by decide) (fun K hK => ?_)
                  refine goes_ Tryz.func17 (by kernel_rfl) rfl #[.slice Ao14 x5_2.length co14, .agg #[.string ((rd_T33 l1 x7_2).f0), .string ((rd_T33 l1 x7_2).f1)]] (by rfl) rfl rfl (by (try simp only [List.map_toArray, List.map_cons, List.map_nil]); first | done | rfl | (simp only [List.length_drop, List.length_take]; rfl)) ?_
                  with_reducible refine (cellarerref11_in.calls k2 _ _ x5_2 ((rd_T33 l1 x7_2).f0) ((rd_T33 l1 x7_2).f1) t128 _ ?side1 ?side2 A10.out).mono ?_
                  (case side1 => repeat (first | exact (Kd.R_reads' HO_5.out).2.2 | (with_reducible refine Kd.C_alloc ?_ _) | (with_reducible refine Kd.C_drewN ?_ _) | (with_reducible refine Kd.C_drew ?_)))
                  (case side2 => exact (Kd.R_reads' HO_5.out).2.1)
                  rintro e w15 ⟨v129, rfl, ho0, hb⟩
                  refine ⟨_, rfl, ?_⟩
                  have n0_ := Aside0.mk (Kd.R_elder' (by (with_reducible repeat (first | apply Kd.R_alloc | apply Kd.R_drewN | apply Kd.R_drew)); exact HO_5.out) (Kd.R_base ho0) hb)
                  have n1_ := Aside0.mk (Kd.R_lower (Kd.R_new' ho0 (Kd.R_lt (by (with_reducible repeat (first | apply Kd.R_alloc | apply Kd.R_drewN | apply Kd.R_drew)); exact HO_5.out))) (below_size (by repeat (first | (with_reducible first | exact HB.out | apply below_alloc | apply pw_below_drewN | apply below_drew1) | exact HB.out))))
                  have n2_ := Aside0.mk (below_step (by repeat (first | (with_reducible first | exact HB.out | apply below_alloc | apply pw_below_drewN | apply below_drew1) | exact HB.out)) hb)
                  clear HO_5
                  clear HB
                  have HO_5 := n0_
                  have HO130 := n1_
                  have HB := n2_
                  clear n0_ n1_ n2_
                  (try clear hb)
                  (try clear hb2)
                  (try clear hk)
                  (try clear hi)
                  (try clear ho0)
                  refine hK.out _ _ ⟨((HB.out.cell (World.block_lt_of_cell? w _ hw126_0)).trans hw126_0), ((HB.out.cell (World.block_lt_of_cell? w _ hw126_1)).trans hw126_1), ((HB.out.cell (World.block_lt_of_cell? w _ hw126_2)).trans hw126_2), ((HB.out.cell (World.block_lt_of_cell? w _ hw127_0)).trans hw127_0), ((HB.out.cell (World.block_lt_of_cell? w _ hw127_1)).trans hw127_1), ((HB.out.cell (World.block_lt_of_cell? w _ hw127_2)).trans hw127_2)⟩ (fun hHeld => ?_)
                  clear hK K
                  refine norm_ (a' := ?_) ?_ ?_
                  rotate_left
                  · show Act.put _ (some 40) _ = _
                    simp only [Act.put, List.setIfInBounds_toArray, List.set_cons_zero, List.set_cons_succ, i64_w, i32_w]
                    rfl
                  refine pure_ (i := 13) (N := some 5) (v := ?_) (a' := ?_) #[true, true, true, true, true, true, true, true, true, true, true, true, true, true] rfl rfl (any_of HT_.out (by kernel_rfl)) (fun _ _ _ h => h) (Or.inl ⟨by rfl, ?_⟩) ?_ ?_
                  rotate_left
                  · intro w'
                    go_simp
                    with_reducible rfl
                  rotate_left
                  · simp only [Act.put, List.setIfInBounds_toArray, List.set_cons_zero, List.set_cons_succ, i64_w, i32_w]
                    rfl
                  refine done_ (done_of HT_.out (by kernel_rfl)) ?_
                  have p131 : 0 ≤ (x7_2 : Int) := of_decide_eq_true (by first | (with_reducible assumption) | assumption)
                  have q131 : x7_2 < (l1.length : Int) := of_decide_eq_true (by first | (with_reducible assumption) | assumption)
                  obtain ⟨ad131, e131, hx131_0, hx131_1, hx131_2⟩ := at_T33 HR1.out x7_2 p131 q131
                  (try rw [← Nbq11.out] at hx131_2); (try rw [← Nbq11.out] at hw131_2)
                  obtain rfl : ad126 = ad131 := (by injection e131)
                  replace hx131_0 := (HB.out.cell (World.block_lt_of_cell? w _ hx131_0)).trans hx131_0
                  replace hx131_1 := (HB.out.cell (World.block_lt_of_cell? w _ hx131_1)).trans hx131_1
                  replace hx131_2 := (HB.out.cell (World.block_lt_of_cell? w _ hx131_2)).trans hx131_2
                  replace p131 := eq_true p131
                  replace q131 := eq_true q131
                  try go_wp2
                  go_loopg [8, 9] k2 (fun kq v8 v9 w' => ∃ (x8_3 : List (S35)) (x9_3 : Int), v9 = .int .i64 x9_3 ∧ Aside0 (cellarerref11_With.l2 kq l1 t128 x7_2 x8_3 x9_3 = some r) ∧ Aside0 (kq ≤ k2) ∧ Aside0 (Kd.R k35 35 w' w.heap.size (fun k_ => some k_ ≠ (v8 : Value).ownBlock) v129 t128) ∧ Aside0 (Kd.R k35 35 w' w.heap.size (fun k_ => some k_ ≠ (v129 : Value).ownBlock) v8 x8_3) ∧ Aside0 (Below w.heap.size w w'))
                  case atStart => exact ⟨(([] : List (S35))), (0), (by first | rfl | (simp; done) | (simp [*]; done)), H', ⟨Nat.le_refl _⟩, ⟨by (with_reducible repeat (first | apply Kd.R_alloc | apply Kd.R_drewN | apply Kd.R_drew)); exact Kd.R_mono HO130.out (fun _ hk => (by simp [Value.ownBlock]))⟩, ⟨by first | exact Kd.R_nil _ _ _ _ _ | exact Kd.N_nil _ _ _ _ _ | exact Kd.V_nil _ _ _ _ _ | exact Kd.Q_nil _ _ _ _ _ | exact Kd.S_nil _ _ _ _ _⟩, ⟨by repeat (first | (with_reducible first | exact HB.out | apply below_alloc | apply pw_below_drewN | apply below_drew1) | exact HB.out)⟩⟩
                  case round =>
                    clear H'
                    try clear c1
                    try clear p1
                    try clear q1
                    try clear hx1
                    try clear p2
                    try clear c3
                    try clear c3b0
                    try clear c4
                    try clear c4b0
                    try clear p6
                    try clear c8
                    try clear c8b0
                    try clear c9
                    try clear c9b0
                    try clear q11
                    try clear c12
                    try clear p12
                    try clear q12
                    try clear hx12
                    try clear p13
                    try clear q13
                    try clear hx13
                    try clear hx122_0
                    try clear hx122_1
                    try clear hx126_0
                    try clear hx126_1
                    try clear hx126_2
                    try clear hx127_0
                    try clear hx127_1
                    try clear hx127_2
                    try clear hx131_0
                    try clear hx131_1
                    try clear hx131_2
                    try clear p1
                    try clear p122
                    try clear p126
                    try clear p127
                    try clear p131
                    try clear p2
                    try clear p6
                    try clear q1
                    try clear q122
                    try clear q126
                    try clear q127
                    try clear q131
                    obtain ⟨x8_3, x9_3, rfl, HA, HK3, HO_5, HO_8, HB⟩ := hrel
                    cases gk with
                    | zero => exact absurd HA.out (by simp [cellarerref11_With.l2])
                    | succ k3 =>
                      have H := HA.out
                      clear HA
                      simp only [cellarerref11_With.l2] at H
                      by_cases c16 : x9_3 < (t128.length : Int)
                      · rw [if_pos c16] at H
                        have c16b0 : decide (x9_3 < (t128.length : Int)) = true := decide_eq_true c16
                        clear c16
                        by_cases c17 : 0 ≤ x9_3
                        · rw [if_pos c17] at H
                          have c17b0 : decide (0 ≤ x9_3) = true := decide_eq_true c17
                          clear c17
                          by_cases c18 : 0 ≤ x7_2
                          · rw [if_pos c18] at H
                            have c18b0 : decide (0 ≤ x7_2) = true := decide_eq_true c18
                            clear c18
                            by_cases c19 : x7_2 < (l1.length : Int)
                            · rw [if_pos c19] at H
                              have c19b0 : decide (x7_2 < (l1.length : Int)) = true := decide_eq_true c19
                              clear c19
                              by_cases c20 : ((rd_T35 t128 x9_3).f0).toList = ((rd_T33 l1 x7_2).f0).toList
                              · rw [if_pos c20] at H
                                have c20b0 : (((rd_T35 t128 x9_3).f0).toList == ((rd_T33 l1 x7_2).f0).toList) = true := beq_iff_eq.mpr c20
                                have c20b1 : (((rd_T35 t128 x9_3).f0).toList != ((rd_T33 l1 x7_2).f0).toList) = false := bne_eq_false_iff_eq.mpr c20
                                clear c20
                                have H' := Aside0.mk H
                                clear H
                                obtain ⟨Ao21, co21, eo21⟩ := Kd.R_slice HO_5.out
                                subst eo21
                                try go_wp2
                                have n0_ := Aside0.mk (Kd.R_drew HO_5.out)
                                have n1_ := Aside0.mk (Kd.R_drew HO_8.out)
                                have n2_ := Aside0.mk (below_drew1 HB.out)
                                clear HO_5
                                clear HO_8
                                clear HB
                                have HO_5 := n0_
                                have HO_8 := n1_
                                have HB := n2_
                                clear n0_ n1_ n2_
                                have p132 : 0 ≤ (x9_3 : Int) := of_decide_eq_true (by first | (with_reducible assumption) | assumption)
                                have q132 : x9_3 < (t128.length : Int) := of_decide_eq_true (by first | (with_reducible assumption) | assumption)
                                obtain ⟨ad132, e132, hx132_0, hx132_1⟩ := at_T35 (Kd.R_reads' HO_5.out).2.2 x9_3 p132 q132
                                cases e132
                                replace p132 := eq_true p132
                                replace q132 := eq_true q132
                                have p133 : 0 ≤ (x7_2 : Int) := of_decide_eq_true (by first | (with_reducible assumption) | assumption)
                                have q133 : x7_2 < (l1.length : Int) := of_decide_eq_true (by first | (with_reducible assumption) | assumption)
                                obtain ⟨ad133, e133, hx133_0, hx133_1, hx133_2⟩ := at_T33 HR1.out x7_2 p133 q133
                                have hw133_2 := hx133_2
                                have hw133_1 := hx133_1
                                have hw133_0 := hx133_0
                                (try rw [← Nbq11.out] at hx133_2); (try rw [← Nbq11.out] at hw133_2)
                                obtain rfl : ad126 = ad133 := (by injection e133)
                                replace hx133_0 := (HB.out.cell (World.block_lt_of_cell? w _ hx133_0)).trans hx133_0
                                replace hx133_1 := (HB.out.cell (World.block_lt_of_cell? w _ hx133_1)).trans hx133_1
                                replace hx133_2 := (HB.out.cell (World.block_lt_of_cell? w _ hx133_2)).trans hx133_2
                                replace p133 := eq_true p133
                                replace q133 := eq_true q133
                                refine start_ (n := 11) (S := fun w' => w'.cell? (ad132.add ((x9_3).toNat * 2)) = some (.string ((rd_T35 t128 x9_3).f0)) ∧ w'.cell? ⟨(ad132.add ((x9_3).toNat * 2)).block, (ad132.add ((x9_3).toNat * 2)).off + 1, none⟩ = some (.string ((rd_T35 t128 x9_3).f1)) ∧ w'.cell? (ad126.add ((x7_2).toNat * 3)) = some (.string ((rd_T33 l1 x7_2).f0)) ∧ w'.cell? ⟨(ad126.add ((x7_2).toNat * 3)).block, (ad126.add ((x7_2).toNat * 3)).off + 1, none⟩ = some (.string ((rd_T33 l1 x7_2).f1)) ∧ w'.cell? ⟨(ad126.add ((x7_2).toNat * 3)).block, (ad126.add ((x7_2).toNat * 3)).off + 2, none⟩ = some (.bool (true))) (ds := []) #[false, false, false, false, false, false, false, false, false, false, false] (by kernel_rfl) rfl rfl ⟨hx132_0, hx132_1, ((HB.out.cell (World.block_lt_of_cell? w _ hw133_0)).trans hw133_0), ((HB.out.cell (World.block_lt_of_cell? w _ hw133_1)).trans hw133_1), ((HB.out.cell (World.block_lt_of_cell? w _ hw133_2)).trans hw133_2)⟩ (fun hHeld => ?_); refine with_tabW cellarerref11_With.tab15 cellarerref11_With.bits15 (fun HT_ HW_ => ?_)
                                generalize wr.drew = w22 at HO_5 HO_8 HB hx132_0 hx132_1 hx133_0 hx133_1 hx133_2 hHeld ⊢
                                refine pure_ (i := 0) (N := some 52) (v := ?_) (a' := ?_) #[true, false, false, false, false, false, false, false, false, false, false] rfl rfl (any_of HT_.out (by kernel_rfl)) (fun _ _ _ h => h) (Or.inl ⟨by rfl, ?_⟩) ?_ ?_
                                rotate_left
                                · intro w'
                                  go_simp
                                  with_reducible rfl
                                rotate_left
                                · simp only [Act.put, List.setIfInBounds_toArray, List.set_cons_zero, List.set_cons_succ, i64_w, i32_w]
                                  rfl
                                refine pure_ (i := 1) (N := some 53) (v := ?_) (a' := ?_) #[true, true, false, false, false, false, false, false, false, false, false] rfl rfl (any_of HT_.out (by kernel_rfl)) (fun _ _ _ h => h) (Or.inl ⟨by rfl, ?_⟩) ?_ ?_
                                rotate_left
                                · intro w'
                                  go_simp
                                  with_reducible rfl
                                rotate_left
                                · simp only [Act.put, List.setIfInBounds_toArray, List.set_cons_zero, List.set_cons_succ, i64_w, i32_w]
                                  rfl
                                refine pure_ (i := 2) (N := some 54) (v := ?_) (a' := ?_) #[true, true, true, false, false, false, false, false, false, false, false] rfl rfl (any_of HT_.out (by kernel_rfl)) (fun _ _ _ h => h) (Or.inl ⟨by rfl, ?_⟩) ?_ ?_
                                rotate_left
                                · intro w'
                                  go_simp
                                  with_reducible rfl
                                rotate_left
                                · simp only [Act.put, List.setIfInBounds_toArray, List.set_cons_zero, List.set_cons_succ, i64_w, i32_w]
                                  rfl
                                refine pure_ (i := 3) (N := some 55) (v := ?_) (a' := ?_) #[true, true, true, true, false, false, false, false, false, false, false] rfl rfl (any_of HT_.out (by kernel_rfl)) (fun _ _ _ h => h) (Or.inl ⟨by rfl, ?_⟩) ?_ ?_
                                rotate_left
                                · intro w'
                                  go_simp
                                  with_reducible rfl
                                rotate_left
                                · simp only [Act.put, List.setIfInBounds_toArray, List.set_cons_zero, List.set_cons_succ, i64_w, i32_w]
                                  rfl
                                refine pure_ (i := 5) (N := some 57) (v := ?_) (a' := ?_) #[true, true, true, true, false, true, false, false, false, false, false] rfl rfl (any_of HT_.out (by kernel_rfl)) (fun _ _ _ h => h) (Or.inl ⟨by rfl, ?_⟩) ?_ ?_
                                rotate_left
                                · intro w'
                                  go_simp
                                  with_reducible rfl
                                rotate_left
                                · simp only [Act.put, List.setIfInBounds_toArray, List.set_cons_zero, List.set_cons_succ, i64_w, i32_w]
                                  rfl
                                refine pure_ (i := 6) (N := some 58) (v := ?_) (a' := ?_) #[true, true, true, true, false, true, true, false, false, false, false] rfl rfl (any_of HT_.out (by kernel_rfl)) (fun _ _ _ h => h) (Or.inl ⟨by rfl, ?_⟩) ?_ ?_
                                rotate_left
                                · intro w'
                                  go_simp
                                  with_reducible rfl
                                rotate_left
                                · simp only [Act.put, List.setIfInBounds_toArray, List.set_cons_zero, List.set_cons_succ, i64_w, i32_w]
                                  rfl
                                refine pure_ (i := 7) (N := some 59) (v := ?_) (a' := ?_) #[true, true, true, true, false, true, true, true, false, false, false] rfl rfl (any_of HT_.out (by kernel_rfl)) (fun _ _ _ h => h) (Or.inl ⟨by rfl, ?_⟩) ?_ ?_
                                rotate_left
                                · intro w'
                                  go_simp
                                  with_reducible rfl
                                rotate_left
                                · simp only [Act.put, List.setIfInBounds_toArray, List.set_cons_zero, List.set_cons_succ, i64_w, i32_w]
                                  rfl
                                refine pure_ (i := 8) (N := some 60) (v := ?_) (a' := ?_) #[true, true, true, true, false, true, true, true, true, false, false] rfl rfl (any_of HT_.out (by kernel_rfl)) (fun _ _ _ h => h) (Or.inl ⟨by rfl, ?_⟩) ?_ ?_
                                rotate_left
                                · intro w'
                                  go_simp
                                  with_reducible rfl
                                rotate_left
                                · simp only [Act.put, List.setIfInBounds_toArray, List.set_cons_zero, List.set_cons_succ, i64_w, i32_w]
                                  rfl
                                refine take_ (i := 4) (N := some 56) (v := ?_) (a' := ?_) #[true, true, true, true, true, true, true, true, true, false, false] rfl rfl (take_ofW HT_.out HW_.out (by kernel_rfl)) (fun _ _ _ h => h) (Or.inl ⟨by rfl, ?_⟩) hHeld ?_ ?_
                                rotate_left
                                · rintro w' ⟨s0, s1, s2, s3, s4⟩
                                  go_simp
                                  with_reducible rfl
                                rotate_left
                                · simp only [Act.put, List.setIfInBounds_toArray, List.set_cons_zero, List.set_cons_succ, i64_w, i32_w]
                                  rfl
                                refine take_ (i := 9) (N := some 61) (v := ?_) (a' := ?_) #[true, true, true, true, true, true, true, true, true, true, false] rfl rfl (take_ofW HT_.out HW_.out (by kernel_rfl)) (fun _ _ _ h => h) (Or.inl ⟨by rfl, ?_⟩) hHeld ?_ ?_
                                rotate_left
                                · rintro w' ⟨s0, s1, s2, s3, s4⟩
                                  go_simp
                                  with_reducible rfl
                                rotate_left
                                · simp only [Act.put, List.setIfInBounds_toArray, List.set_cons_zero, List.set_cons_succ, i64_w, i32_w]
                                  rfl
                                refine pure_ (i := 10) (N := some 62) (v := ?_) (a' := ?_) #[true, true, true, true, true, true, true, true, true, true, true] rfl rfl (any_of HT_.out (by kernel_rfl)) (fun _ _ _ h => h) (Or.inl ⟨by rfl, ?_⟩) ?_ ?_
                                rotate_left
                                · intro w'
                                  go_simp
                                  with_reducible rfl
                                rotate_left
                                · simp only [Act.put, List.setIfInBounds_toArray, List.set_cons_zero, List.set_cons_succ, i64_w, i32_w]
                                  rfl
                                refine done_ (done_of HT_.out (by kernel_rfl)) ?_
                                try go_wp2
                                go_roundg k3
                                case measure => have := HK1.out; have := HK2.out; have := HK3.out; omega
                                case rel => exact ⟨(x8_3), (wrap64 (x9_3 + 1)), (by first | rfl | (simp; done) | (simp [*]; done)), H', ⟨by have := HK1.out; have := HK2.out; have := HK3.out; omega⟩, ⟨by (with_reducible repeat (first | apply Kd.R_alloc | apply Kd.R_drewN | apply Kd.R_drew)); exact HO_5.out⟩, ⟨by (with_reducible repeat (first | apply Kd.R_alloc | apply Kd.R_drewN | apply Kd.R_drew)); exact HO_8.out⟩, ⟨by repeat (first | (with_reducible first | exact HB.out | apply below_alloc | apply pw_below_drewN | apply below_drew1) | exact HB.out)⟩⟩
                              · rw [if_neg c20] at H
                                have c20b0 : (((rd_T35 t128 x9_3).f0).toList == ((rd_T33 l1 x7_2).f0).toList) = false := beq_eq_false_iff_ne.mpr c20
                                have c20b1 : (((rd_T35 t128 x9_3).f0).toList != ((rd_T33 l1 x7_2).f0).toList) = true := bne_iff_ne.mpr c20
                                by_cases c23 : x8_3.length < 4398046511104
                                · rw [if_pos c23] at H
                                  have LMc23 := Aside0.mk c23
                                  clear c23
                                  obtain ⟨y135, hy135⟩ : ∃ y_ : List (S35), y_ = (x8_3 ++ [(⟨(rd_T35 t128 x9_3).f0, (rd_T35 t128 x9_3).f1⟩ : S35)]) := ⟨_, rfl⟩
                                  replace H : (cellarerref11_With.l2 k3 l1 t128 x7_2 y135 (wrap64 (x9_3 + 1))) = some r := by first | (rw [hy135]; with_reducible exact H) | (have H2_ := (Option.bind_some _ _).symm.trans H; rw [hy135]; with_reducible exact H2_) | (have H2_ := (Option.bind_some _ _).symm.trans H; with_reducible exact H2_) | with_reducible exact H | (rw [hy135]; exact H) | exact H
                                  have Ny135 := Aside0.mk hy135
                                  clear hy135
                                  have H' := Aside0.mk H
                                  clear H
                                  obtain ⟨Ao24, co24, eo24⟩ := Kd.R_slice HO_5.out
                                  subst eo24
                                  try go_wp2
                                  have n0_ := Aside0.mk (Kd.R_drew HO_5.out)
                                  have n1_ := Aside0.mk (Kd.R_drew HO_8.out)
                                  have n2_ := Aside0.mk (below_drew1 HB.out)
                                  clear HO_5
                                  clear HO_8
                                  clear HB
                                  have HO_5 := n0_
                                  have HO_8 := n1_
                                  have HB := n2_
                                  clear n0_ n1_ n2_
                                  have p132 : 0 ≤ (x9_3 : Int) := of_decide_eq_true (by first | (with_reducible assumption) | assumption)
                                  have q132 : x9_3 < (t128.length : Int) := of_decide_eq_true (by first | (with_reducible assumption) | assumption)
                                  obtain ⟨ad132, e132, hx132_0, hx132_1⟩ := at_T35 (Kd.R_reads' HO_5.out).2.2 x9_3 p132 q132
                                  cases e132
                                  replace p132 := eq_true p132
                                  replace q132 := eq_true q132
                                  have p133 : 0 ≤ (x7_2 : Int) := of_decide_eq_true (by first | (with_reducible assumption) | assumption)
                                  have q133 : x7_2 < (l1.length : Int) := of_decide_eq_true (by first | (with_reducible assumption) | assumption)
                                  obtain ⟨ad133, e133, hx133_0, hx133_1, hx133_2⟩ := at_T33 HR1.out x7_2 p133 q133
                                  have hw133_2 := hx133_2
                                  have hw133_1 := hx133_1
                                  have hw133_0 := hx133_0
                                  (try rw [← Nbq11.out] at hx133_2); (try rw [← Nbq11.out] at hw133_2)
                                  obtain rfl : ad126 = ad133 := (by injection e133)
                                  replace hx133_0 := (HB.out.cell (World.block_lt_of_cell? w _ hx133_0)).trans hx133_0
                                  replace hx133_1 := (HB.out.cell (World.block_lt_of_cell? w _ hx133_1)).trans hx133_1
                                  replace hx133_2 := (HB.out.cell (World.block_lt_of_cell? w _ hx133_2)).trans hx133_2
                                  replace p133 := eq_true p133
                                  replace q133 := eq_true q133
                                  refine start_ (n := 11) (S := fun w' => w'.cell? (ad132.add ((x9_3).toNat * 2)) = some (.string ((rd_T35 t128 x9_3).f0)) ∧ w'.cell? ⟨(ad132.add ((x9_3).toNat * 2)).block, (ad132.add ((x9_3).toNat * 2)).off + 1, none⟩ = some (.string ((rd_T35 t128 x9_3).f1)) ∧ w'.cell? (ad126.add ((x7_2).toNat * 3)) = some (.string ((rd_T33 l1 x7_2).f0)) ∧ w'.cell? ⟨(ad126.add ((x7_2).toNat * 3)).block, (ad126.add ((x7_2).toNat * 3)).off + 1, none⟩ = some (.string ((rd_T33 l1 x7_2).f1)) ∧ w'.cell? ⟨(ad126.add ((x7_2).toNat * 3)).block, (ad126.add ((x7_2).toNat * 3)).off + 2, none⟩ = some (.bool (true))) (ds := []) #[false, false, false, false, false, false, false, false, false, false, false] (by kernel_rfl) rfl rfl ⟨hx132_0, hx132_1, ((HB.out.cell (World.block_lt_of_cell? w _ hw133_0)).trans hw133_0), ((HB.out.cell (World.block_lt_of_cell? w _ hw133_1)).trans hw133_1), ((HB.out.cell (World.block_lt_of_cell? w _ hw133_2)).trans hw133_2)⟩ (fun hHeld => ?_); refine with_tabW cellarerref11_With.tab15 cellarerref11_With.bits15 (fun HT_ HW_ => ?_)
                                  generalize wr.drew = w25 at HO_5 HO_8 HB hx132_0 hx132_1 hx133_0 hx133_1 hx133_2 hHeld ⊢
                                  refine pure_ (i := 0) (N := some 52) (v := ?_) (a' := ?_) #[true, false, false, false, false, false, false, false, false, false, false] rfl rfl (any_of HT_.out (by kernel_rfl)) (fun _ _ _ h => h) (Or.inl ⟨by rfl, ?_⟩) ?_ ?_
                                  rotate_left
                                  · intro w'
                                    go_simp
                                    with_reducible rfl
                                  rotate_left
                                  · simp only [Act.put, List.setIfInBounds_toArray, List.set_cons_zero, List.set_cons_succ, i64_w, i32_w]
                                    rfl
                                  refine pure_ (i := 1) (N := some 53) (v := ?_) (a' := ?_) #[true, true, false, false, false, false, false, false, false, false, false] rfl rfl (any_of HT_.out (by kernel_rfl)) (fun _ _ _ h => h) (Or.inl ⟨by rfl, ?_⟩) ?_ ?_
                                  rotate_left
                                  · intro w'
                                    go_simp
                                    with_reducible rfl
                                  rotate_left
                                  · simp only [Act.put, List.setIfInBounds_toArray, List.set_cons_zero, List.set_cons_succ, i64_w, i32_w]
                                    rfl
                                  refine pure_ (i := 2) (N := some 54) (v := ?_) (a' := ?_) #[true, true, true, false, false, false, false, false, false, false, false] rfl rfl (any_of HT_.out (by kernel_rfl)) (fun _ _ _ h => h) (Or.inl ⟨by rfl, ?_⟩) ?_ ?_
                                  rotate_left
                                  · intro w'
                                    go_simp
                                    with_reducible rfl
                                  rotate_left
                                  · simp only [Act.put, List.setIfInBounds_toArray, List.set_cons_zero, List.set_cons_succ, i64_w, i32_w]
                                    rfl
                                  refine pure_ (i := 3) (N := some 55) (v := ?_) (a' := ?_) #[true, true, true, true, false, false, false, false, false, false, false] rfl rfl (any_of HT_.out (by kernel_rfl)) (fun _ _ _ h => h) (Or.inl ⟨by rfl, ?_⟩) ?_ ?_
                                  rotate_left
                                  · intro w'
                                    go_simp
                                    with_reducible rfl
                                  rotate_left
                                  · simp only [Act.put, List.setIfInBounds_toArray, List.set_cons_zero, List.set_cons_succ, i64_w, i32_w]
                                    rfl
                                  refine pure_ (i := 5) (N := some 57) (v := ?_) (a' := ?_) #[true, true, true, true, false, true, false, false, false, false, false] rfl rfl (any_of HT_.out (by kernel_rfl)) (fun _ _ _ h => h) (Or.inl ⟨by rfl, ?_⟩) ?_ ?_
                                  rotate_left
                                  · intro w'
                                    go_simp
                                    with_reducible rfl
                                  rotate_left
                                  · simp only [Act.put, List.setIfInBounds_toArray, List.set_cons_zero, List.set_cons_succ, i64_w, i32_w]
                                    rfl
                                  refine pure_ (i := 6) (N := some 58) (v := ?_) (a' := ?_) #[true, true, true, true, false, true, true, false, false, false, false] rfl rfl (any_of HT_.out (by kernel_rfl)) (fun _ _ _ h => h) (Or.inl ⟨by rfl, ?_⟩) ?_ ?_
                                  rotate_left
                                  · intro w'
                                    go_simp
                                    with_reducible rfl
                                  rotate_left
                                  · simp only [Act.put, List.setIfInBounds_toArray, List.set_cons_zero, List.set_cons_succ, i64_w, i32_w]
                                    rfl
                                  refine pure_ (i := 7) (N := some 59) (v := ?_) (a' := ?_) #[true, true, true, true, false, true, true, true, false, false, false] rfl rfl (any_of HT_.out (by kernel_rfl)) (fun _ _ _ h => h) (Or.inl ⟨by rfl, ?_⟩) ?_ ?_
                                  rotate_left
                                  · intro w'
                                    go_simp
                                    with_reducible rfl
                                  rotate_left
                                  · simp only [Act.put, List.setIfInBounds_toArray, List.set_cons_zero, List.set_cons_succ, i64_w, i32_w]
                                    rfl
                                  refine pure_ (i := 8) (N := some 60) (v := ?_) (a' := ?_) #[true, true, true, true, false, true, true, true, true, false, false] rfl rfl (any_of HT_.out (by kernel_rfl)) (fun _ _ _ h => h) (Or.inl ⟨by rfl, ?_⟩) ?_ ?_
                                  rotate_left
                                  · intro w'
                                    go_simp
                                    with_reducible rfl
                                  rotate_left
                                  · simp only [Act.put, List.setIfInBounds_toArray, List.set_cons_zero, List.set_cons_succ, i64_w, i32_w]
                                    rfl
                                  refine take_ (i := 4) (N := some 56) (v := ?_) (a' := ?_) #[true, true, true, true, true, true, true, true, true, false, false] rfl rfl (take_ofW HT_.out HW_.out (by kernel_rfl)) (fun _ _ _ h => h) (Or.inl ⟨by rfl, ?_⟩) hHeld ?_ ?_
                                  rotate_left
                                  · rintro w' ⟨s0, s1, s2, s3, s4⟩
                                    go_simp
                                    with_reducible rfl
                                  rotate_left
                                  · simp only [Act.put, List.setIfInBounds_toArray, List.set_cons_zero, List.set_cons_succ, i64_w, i32_w]
                                    rfl
                                  refine take_ (i := 9) (N := some 61) (v := ?_) (a' := ?_) #[true, true, true, true, true, true, true, true, true, true, false] rfl rfl (take_ofW HT_.out HW_.out (by kernel_rfl)) (fun _ _ _ h => h) (Or.inl ⟨by rfl, ?_⟩) hHeld ?_ ?_
                                  rotate_left
                                  · rintro w' ⟨s0, s1, s2, s3, s4⟩
                                    go_simp
                                    with_reducible rfl
                                  rotate_left
                                  · simp only [Act.put, List.setIfInBounds_toArray, List.set_cons_zero, List.set_cons_succ, i64_w, i32_w]
                                    rfl
                                  refine pure_ (i := 10) (N := some 62) (v := ?_) (a' := ?_) #[true, true, true, true, true, true, true, true, true, true, true] rfl rfl (any_of HT_.out (by kernel_rfl)) (fun _ _ _ h => h) (Or.inl ⟨by rfl, ?_⟩) ?_ ?_
                                  rotate_left
                                  · intro w'
                                    go_simp
                                    with_reducible rfl
                                  rotate_left
                                  · simp only [Act.put, List.setIfInBounds_toArray, List.set_cons_zero, List.set_cons_succ, i64_w, i32_w]
                                    rfl
                                  refine done_ (done_of HT_.out (by kernel_rfl)) ?_
                                  have p134 : 0 ≤ (x9_3 : Int) := of_decide_eq_true (by first | (with_reducible assumption) | assumption)
                                  have q134 : x9_3 < (t128.length : Int) := of_decide_eq_true (by first | (with_reducible assumption) | assumption)
                                  obtain ⟨ad134, e134, hx134_0, hx134_1⟩ := at_T35 (Kd.R_reads' HO_5.out).2.2 x9_3 p134 q134
                                  obtain rfl : ad132 = ad134 := (by injection e134)
                                  replace p134 := eq_true p134
                                  replace q134 := eq_true q134
                                  try go_wp2_with (first | ((with_reducible refine gate_builtin (b := .append) (xs := #[.tmp 63, .tmp 68]) rfl ?_); at_builtin; refine Kd.R_append k35 (w0 := w) w.heap.size rfl (.tmp 63) (.tmp 68) 22 35 (.agg #[(.string ⟨#[]⟩), (.string ⟨#[]⟩)]) 32 rfl Tryz.underlying22 info35 rfl (by decide) (by omega) u8 x8_3 (⟨(rd_T35 t128 x9_3).f0, (rd_T35 t128 x9_3).f1⟩ : S35) [.string ((rd_T35 t128 x9_3).f0), .string ((rd_T35 t128 x9_3).f1)] (fun k_ => some k_ ≠ (.slice (some ad132) t128.length co24 : Value).ownBlock) (fun _ => False) rfl rfl ?aP (fun _ hk => hk.elim) ?aF ?aO ?aB ?aS ?aL ?_; (case aP => exact k35_mkM _ _ _ (⟨(rd_T35 t128 x9_3).f0, (rd_T35 t128 x9_3).f1⟩ : S35)); (case aB => exact (by repeat (first | (with_reducible first | exact HB.out | apply below_alloc | apply pw_below_drewN | apply below_drew1) | exact HB.out))); (case aF => exact (fun k_ hk => Kd.fresh' (Kd.R_lt (by (with_reducible repeat (first | apply Kd.R_alloc | apply Kd.R_drewN | apply Kd.R_drew)); exact HO_5.out)) k_ hk)); (case aO => exact (by (with_reducible repeat (first | apply Kd.R_alloc | apply Kd.R_drewN | apply Kd.R_drew)); exact HO_8.out)); (case aS => exact (below_size (by repeat (first | (with_reducible first | exact HB.out | apply below_alloc | apply pw_below_drewN | apply below_drew1) | exact HB.out)))); (case aL => have := LMc23.out; omega); intro v136 w26 ho hb hg hat; rw [← Ny135.out] at ho; have n0_ := Aside0.mk (Kd.R_after (ok := (fun _ => True)) (by (with_reducible repeat (first | apply Kd.R_alloc | apply Kd.R_drewN | apply Kd.R_drew)); exact Kd.R_mono HO_5.out (fun _ hk => ⟨trivial, hk⟩)) hg hat); have n1_ := Aside0.mk (hb); have n2_ := Aside0.mk (ho); clear HO_5; clear HB; clear HO_8; have HO_5 := n0_; have HB := n1_; have HO137 := n2_; clear n0_ n1_ n2_; clear ho hb hg hat))
                                  go_roundg k3
                                  case measure => have := HK1.out; have := HK2.out; have := HK3.out; omega
                                  case rel => exact ⟨(y135), (wrap64 (x9_3 + 1)), (by first | rfl | (simp; done) | (simp [*]; done)), H', ⟨by have := HK1.out; have := HK2.out; have := HK3.out; omega⟩, ⟨by (with_reducible repeat (first | apply Kd.R_alloc | apply Kd.R_drewN | apply Kd.R_drew)); exact Kd.R_mono HO_5.out (fun _ hk => hk.2)⟩, ⟨by (with_reducible repeat (first | apply Kd.R_alloc | apply Kd.R_drewN | apply Kd.R_drew)); exact HO137.out⟩, ⟨by repeat (first | (with_reducible first | exact HB.out | apply below_alloc | apply pw_below_drewN | apply below_drew1) | exact HB.out)⟩⟩
                                · rw [if_neg c23] at H
                                  exact absurd H (by simp)
                            · rw [if_neg c19] at H
                              exact absurd H (by simp)
                          · rw [if_neg c18] at H
                            exact absurd H (by simp)
                        · rw [if_neg c17] at H
                          exact absurd H (by simp)
                      · rw [if_neg c16] at H
                        have c16b0 : decide (x9_3 < (t128.length : Int)) = false := decide_eq_false c16
                        clear c16
                        have H' := Aside0.mk H
                        clear H
                        obtain ⟨Ao27, co27, eo27⟩ := Kd.R_slice HO_5.out
                        subst eo27
                        go_wp2
                        go_roundg k3
                        case measure => have := HK1.out; have := HK2.out; have := HK3.out; omega
                        case rel => exact ⟨(x8_3), (wrap64 (x7_2 + 1)), (by first | rfl | (simp; done) | (simp [*]; done)), H', ⟨by have := HK1.out; have := HK2.out; have := HK3.out; omega⟩, ⟨by (with_reducible repeat (first | apply Kd.R_alloc | apply Kd.R_drewN | apply Kd.R_drew)); exact Kd.R_mono HO_8.out (fun _ hk => trivial)⟩, ⟨by repeat (first | (with_reducible first | exact HB.out | apply below_alloc | apply pw_below_drewN | apply below_drew1) | exact HB.out)⟩⟩
                · replace c12 := Bool.eq_false_iff.mpr c12
                  subst c12
                  have H1 : (cellarerref11_With.l1 k2 l1 t128 (wrap64 (x7_2 + 1))) = some r := by rw [if_neg (show ¬ (false = true) by decide)] at H; exact H
                  clear H
                  have H := H1
                  clear H1
                  have H' := Aside0.mk H
                  clear H
                  try go_wp2
                  have n0_ := Aside0.mk (Kd.R_drew HO_5.out)
                  have n1_ := Aside0.mk (below_drew1 HB.out)
                  clear HO_5
                  clear HB
                  have HO_5 := n0_
                  have HB := n1_
                  clear n0_ n1_
                  have p126 : 0 ≤ (x7_2 : Int) := of_decide_eq_true (by first | (with_reducible assumption) | assumption)
                  have q126 : x7_2 < (l1.length : Int) := of_decide_eq_true (by first | (with_reducible assumption) | assumption)
                  obtain ⟨ad126, e126, hx126_0, hx126_1, hx126_2⟩ := at_T33 HR1.out x7_2 p126 q126
                  have hw126_2 := hx126_2
                  have hw126_1 := hx126_1
                  have hw126_0 := hx126_0
                  (try rw [← Nbq11.out] at hx126_2); (try rw [← Nbq11.out] at hw126_2)
                  cases e126
                  replace hx126_0 := (HB.out.cell (World.block_lt_of_cell? w _ hx126_0)).trans hx126_0
                  replace hx126_1 := (HB.out.cell (World.block_lt_of_cell? w _ hx126_1)).trans hx126_1
                  replace hx126_2 := (HB.out.cell (World.block_lt_of_cell? w _ hx126_2)).trans hx126_2
                  replace p126 := eq_true p126
                  replace q126 := eq_true q126
                  have p127 : 0 ≤ (x7_2 : Int) := of_decide_eq_true (by first | (with_reducible assumption) | assumption)
                  have q127 : x7_2 < (l1.length : Int) := of_decide_eq_true (by first | (with_reducible assumption) | assumption)
                  obtain ⟨ad127, e127, hx127_0, hx127_1, hx127_2⟩ := at_T33 HR1.out x7_2 p127 q127
                  have hw127_2 := hx127_2
                  have hw127_1 := hx127_1
                  have hw127_0 := hx127_0
                  (try rw [← Nbq11.out] at hx127_2); (try rw [← Nbq11.out] at hw127_2)
                  obtain rfl : ad126 = ad127 := (by injection e127)
                  replace hx127_0 := (HB.out.cell (World.block_lt_of_cell? w _ hx127_0)).trans hx127_0
                  replace hx127_1 := (HB.out.cell (World.block_lt_of_cell? w _ hx127_1)).trans hx127_1
                  replace hx127_2 := (HB.out.cell (World.block_lt_of_cell? w _ hx127_2)).trans hx127_2
                  replace p127 := eq_true p127
                  replace q127 := eq_true q127
                  obtain ⟨Ao29, co29, eo29⟩ := Kd.R_slice HO_5.out
                  (first | subst eo29 | (injection eo29 with f1_ f2_ f3_; have f4_ := f1_.symm; have f5_ := f3_.symm; clear f1_ f2_ f3_; subst f4_; subst f5_))
                  refine start_ (n := 14) (S := fun w' => w'.cell? (ad126.add ((x7_2).toNat * 3)) = some (.string ((rd_T33 l1 x7_2).f0)) ∧ w'.cell? ⟨(ad126.add ((x7_2).toNat * 3)).block, (ad126.add ((x7_2).toNat * 3)).off + 1, none⟩ = some (.string ((rd_T33 l1 x7_2).f1)) ∧ w'.cell? ⟨(ad126.add ((x7_2).toNat * 3)).block, (ad126.add ((x7_2).toNat * 3)).off + 2, none⟩ = some (.bool false) ∧ w'.cell? (ad126.add ((x7_2).toNat * 3)) = some (.string ((rd_T33 l1 x7_2).f0)) ∧ w'.cell? ⟨(ad126.add ((x7_2).toNat * 3)).block, (ad126.add ((x7_2).toNat * 3)).off + 1, none⟩ = some (.string ((rd_T33 l1 x7_2).f1)) ∧ w'.cell? ⟨(ad126.add ((x7_2).toNat * 3)).block, (ad126.add ((x7_2).toNat * 3)).off + 2, none⟩ = some (.bool false)) (ds := []) #[false, false, false, false, false, false, false, false, false, false, false, false, false, false] (by kernel_rfl) rfl rfl ⟨((HB.out.cell (World.block_lt_of_cell? w _ hw126_0)).trans hw126_0), ((HB.out.cell (World.block_lt_of_cell? w _ hw126_1)).trans hw126_1), ((HB.out.cell (World.block_lt_of_cell? w _ hw126_2)).trans hw126_2), ((HB.out.cell (World.block_lt_of_cell? w _ hw127_0)).trans hw127_0), ((HB.out.cell (World.block_lt_of_cell? w _ hw127_1)).trans hw127_1), ((HB.out.cell (World.block_lt_of_cell? w _ hw127_2)).trans hw127_2)⟩ (fun hHeld => ?_); refine with_tabW cellarerref11_With.tab9 cellarerref11_With.bits9 (fun HT_ HW_ => ?_)
                  generalize wr.drew = w28 at HO_5 HB hx126_0 hx126_1 hx126_2 hx127_0 hx127_1 hx127_2 hHeld ⊢
                  refine pure_ (i := 0) (N := some 28) (v := ?_) (a' := ?_) #[true, false, false, false, false, false, false, false, false, false, false, false, false, false] rfl rfl (any_of HT_.out (by kernel_rfl)) (fun _ _ _ h => h) (Or.inl ⟨by rfl, ?_⟩) ?_ ?_
                  rotate_left
                  · intro w'
                    go_simp
                    with_reducible rfl
                  rotate_left
                  · simp only [Act.put, List.setIfInBounds_toArray, List.set_cons_zero, List.set_cons_succ, i64_w, i32_w]
                    rfl
                  refine pure_ (i := 1) (N := some 29) (v := ?_) (a' := ?_) #[true, true, false, false, false, false, false, false, false, false, false, false, false, false] rfl rfl (any_of HT_.out (by kernel_rfl)) (fun _ _ _ h => h) (Or.inl ⟨by rfl, ?_⟩) ?_ ?_
                  rotate_left
                  · intro w'
                    go_simp
                    with_reducible rfl
                  rotate_left
                  · simp only [Act.put, List.setIfInBounds_toArray, List.set_cons_zero, List.set_cons_succ, i64_w, i32_w]
                    rfl
                  refine pure_ (i := 2) (N := some 30) (v := ?_) (a' := ?_) #[true, true, true, false, false, false, false, false, false, false, false, false, false, false] rfl rfl (any_of HT_.out (by kernel_rfl)) (fun _ _ _ h => h) (Or.inl ⟨by rfl, ?_⟩) ?_ ?_
                  rotate_left
                  · intro w'
                    go_simp
                    with_reducible rfl
                  rotate_left
                  · simp only [Act.put, List.setIfInBounds_toArray, List.set_cons_zero, List.set_cons_succ, i64_w, i32_w]
                    rfl
                  refine pure_ (i := 3) (N := some 31) (v := ?_) (a' := ?_) #[true, true, true, true, false, false, false, false, false, false, false, false, false, false] rfl rfl (any_of HT_.out (by kernel_rfl)) (fun _ _ _ h => h) (Or.inl ⟨by rfl, ?_⟩) ?_ ?_
                  rotate_left
                  · intro w'
                    go_simp
                    with_reducible rfl
                  rotate_left
                  · simp only [Act.put, List.setIfInBounds_toArray, List.set_cons_zero, List.set_cons_succ, i64_w, i32_w]
                    rfl
                  refine pure_ (i := 4) (N := some 32) (v := ?_) (a' := ?_) #[true, true, true, true, true, false, false, false, false, false, false, false, false, false] rfl rfl (any_of HT_.out (by kernel_rfl)) (fun _ _ _ h => h) (Or.inl ⟨by rfl, ?_⟩) ?_ ?_
                  rotate_left
                  · intro w'
                    go_simp
                    with_reducible rfl
                  rotate_left
                  · simp only [Act.put, List.setIfInBounds_toArray, List.set_cons_zero, List.set_cons_succ, i64_w, i32_w]
                    rfl
                  refine pure_ (i := 6) (N := some 34) (v := ?_) (a' := ?_) #[true, true, true, true, true, false, true, false, false, false, false, false, false, false] rfl rfl (any_of HT_.out (by kernel_rfl)) (fun _ _ _ h => h) (Or.inl ⟨by rfl, ?_⟩) ?_ ?_
                  rotate_left
                  · intro w'
                    go_simp
                    with_reducible rfl
                  rotate_left
                  · simp only [Act.put, List.setIfInBounds_toArray, List.set_cons_zero, List.set_cons_succ, i64_w, i32_w]
                    rfl
                  refine pure_ (i := 7) (N := some 35) (v := ?_) (a' := ?_) #[true, true, true, true, true, false, true, true, false, false, false, false, false, false] rfl rfl (any_of HT_.out (by kernel_rfl)) (fun _ _ _ h => h) (Or.inl ⟨by rfl, ?_⟩) ?_ ?_
                  rotate_left
                  · intro w'
                    go_simp
                    with_reducible rfl
                  rotate_left
                  · simp only [Act.put, List.setIfInBounds_toArray, List.set_cons_zero, List.set_cons_succ, i64_w, i32_w]
                    rfl
                  refine pure_ (i := 8) (N := some 36) (v := ?_) (a' := ?_) #[true, true, true, true, true, false, true, true, true, false, false, false, false, false] rfl rfl (any_of HT_.out (by kernel_rfl)) (fun _ _ _ h => h) (Or.inl ⟨by rfl, ?_⟩) ?_ ?_
                  rotate_left
                  · intro w'
                    go_simp
                    with_reducible rfl
                  rotate_left
                  · simp only [Act.put, List.setIfInBounds_toArray, List.set_cons_zero, List.set_cons_succ, i64_w, i32_w]
                    rfl
                  refine pure_ (i := 9) (N := some 37) (v := ?_) (a' := ?_) #[true, true, true, true, true, false, true, true, true, true, false, false, false, false] rfl rfl (any_of HT_.out (by kernel_rfl)) (fun _ _ _ h => h) (Or.inl ⟨by rfl, ?_⟩) ?_ ?_
                  rotate_left
                  · intro w'
                    go_simp
                    with_reducible rfl
                  rotate_left
                  · simp only [Act.put, List.setIfInBounds_toArray, List.set_cons_zero, List.set_cons_succ, i64_w, i32_w]
                    rfl
                  refine take_ (i := 5) (N := some 33) (v := ?_) (a' := ?_) #[true, true, true, true, true, true, true, true, true, true, false, false, false, false] rfl rfl (take_ofW HT_.out HW_.out (by kernel_rfl)) (fun _ _ _ h => h) (Or.inl ⟨by rfl, ?_⟩) hHeld ?_ ?_
                  rotate_left
                  · rintro w' ⟨s0, s1, s2, s3, s4, s5⟩
                    go_simp
                    with_reducible rfl
                  rotate_left
                  · simp only [Act.put, List.setIfInBounds_toArray, List.set_cons_zero, List.set_cons_succ, i64_w, i32_w]
                    rfl
                  refine take_ (i := 10) (N := some 38) (v := ?_) (a' := ?_) #[true, true, true, true, true, true, true, true, true, true, true, false, false, false] rfl rfl (take_ofW HT_.out HW_.out (by kernel_rfl)) (fun _ _ _ h => h) (Or.inl ⟨by rfl, ?_⟩) hHeld ?_ ?_
                  rotate_left
                  · rintro w' ⟨s0, s1, s2, s3, s4, s5⟩
                    go_simp
                    with_reducible rfl
                  rotate_left
                  · simp only [Act.put, List.setIfInBounds_toArray, List.set_cons_zero, List.set_cons_succ, i64_w, i32_w]
                    rfl
                  refine pure_ (i := 11) (N := some 39) (v := ?_) (a' := ?_) #[true, true, true, true, true, true, true, true, true, true, true, true, false, false] rfl rfl (any_of HT_.out (by kernel_rfl)) (fun _ _ _ h => h) (Or.inl ⟨by rfl, ?_⟩) ?_ ?_
                  rotate_left
                  · intro w'
                    go_simp
                    with_reducible rfl
                  rotate_left
                  · simp only [Act.put, List.setIfInBounds_toArray, List.set_cons_zero, List.set_cons_succ, i64_w, i32_w]
                    rfl
                  refine one_ (i := 12) (N := some 40) #[true, true, true, true, true, true, true, true, true, true, true, true, true, false] rfl rfl (one_of HT_.out (by kernel_rfl)) (by decide) (fun K hK => ?_)
                  refine goes_ Tryz.func17 (by kernel_rfl) rfl #[.slice Ao29 x5_2.length co29, .agg #[.string ((rd_T33 l1 x7_2).f0), .string ((rd_T33 l1 x7_2).f1)]] (by rfl) rfl rfl (by (try simp only [List.map_toArray, List.map_cons, List.map_nil]); first | done | rfl | (simp only [List.length_drop, List.length_take]; rfl)) ?_
                  with_reducible refine (cellarerref11_in.calls k2 _ _ x5_2 ((rd_T33 l1 x7_2).f0) ((rd_T33 l1 x7_2).f1) t128 _ ?side1 ?side2 A10.out).mono ?_
                  (case side1 => repeat (first | exact (Kd.R_reads' HO_5.out).2.2 | (with_reducible refine Kd.C_alloc ?_ _) | (with_reducible refine Kd.C_drewN ?_ _) | (with_reducible refine Kd.C_drew ?_)))
                  (case side2 => exact (Kd.R_reads' HO_5.out).2.1)
                  rintro e w30 ⟨v129, rfl, ho0, hb⟩
                  refine ⟨_, rfl, ?_⟩
                  have n0_ := Aside0.mk (Kd.R_elder' (by (with_reducible repeat (first | apply Kd.R_alloc | apply Kd.R_drewN | apply Kd.R_drew)); exact HO_5.out) (Kd.R_base ho0) hb)
                  have n1_ := Aside0.mk (Kd.R_lower (Kd.R_new' ho0 (Kd.R_lt (by (with_reducible repeat (first | apply Kd.R_alloc | apply Kd.R_drewN | apply Kd.R_drew)); exact HO_5.out))) (below_size (by repeat (first | (with_reducible first | exact HB.out | apply below_alloc | apply pw_below_drewN | apply below_drew1) | exact HB.out))))
                  have n2_ := Aside0.mk (below_step (by repeat (first | (with_reducible first | exact HB.out | apply below_alloc | apply pw_below_drewN | apply below_drew1) | exact HB.out)) hb)
                  clear HO_5
                  clear HB
                  have HO_5 := n0_
                  have HO130 := n1_
                  have HB := n2_
                  clear n0_ n1_ n2_
                  (try clear hb)
                  (try clear hb2)
                  (try clear hk)
                  (try clear hi)
                  (try clear ho0)
                  refine hK.out _ _ ⟨((HB.out.cell (World.block_lt_of_cell? w _ hw126_0)).trans hw126_0), ((HB.out.cell (World.block_lt_of_cell? w _ hw126_1)).trans hw126_1), ((HB.out.cell (World.block_lt_of_cell? w _ hw126_2)).trans hw126_2), ((HB.out.cell (World.block_lt_of_cell? w _ hw127_0)).trans hw127_0), ((HB.out.cell (World.block_lt_of_cell? w _ hw127_1)).trans hw127_1), ((HB.out.cell (World.block_lt_of_cell? w _ hw127_2)).trans hw127_2)⟩ (fun hHeld => ?_)
                  clear hK K
                  refine norm_ (a' := ?_) ?_ ?_
                  rotate_left
                  · show Act.put _ (some 40) _ = _
                    simp only [Act.put, List.setIfInBounds_toArray, List.set_cons_zero, List.set_cons_succ, i64_w, i32_w]
                    rfl
                  refine pure_ (i := 13) (N := some 5) (v := ?_) (a' := ?_) #[true, true, true, true, true, true, true, true, true, true, true, true, true, true] rfl rfl (any_of HT_.out (by kernel_rfl)) (fun _ _ _ h => h) (Or.inl ⟨by rfl, ?_⟩) ?_ ?_
                  rotate_left
                  · intro w'
                    go_simp
                    with_reducible rfl
                  rotate_left
                  · simp only [Act.put, List.setIfInBounds_toArray, List.set_cons_zero, List.set_cons_succ, i64_w, i32_w]
                    rfl
                  refine done_ (done_of HT_.out (by kernel_rfl)) ?_
                  have p131 : 0 ≤ (x7_2 : Int) := of_decide_eq_true (by first | (with_reducible assumption) | assumption)
                  have q131 : x7_2 < (l1.length : Int) := of_decide_eq_true (by first | (with_reducible assumption) | assumption)
                  obtain ⟨ad131, e131, hx131_0, hx131_1, hx131_2⟩ := at_T33 HR1.out x7_2 p131 q131
                  (try rw [← Nbq11.out] at hx131_2); (try rw [← Nbq11.out] at hw131_2)
                  obtain rfl : ad126 = ad131 := (by injection e131)
                  replace hx131_0 := (HB.out.cell (World.block_lt_of_cell? w _ hx131_0)).trans hx131_0
                  replace hx131_1 := (HB.out.cell (World.block_lt_of_cell? w _ hx131_1)).trans hx131_1
                  replace hx131_2 := (HB.out.cell (World.block_lt_of_cell? w _ hx131_2)).trans hx131_2
                  replace p131 := eq_true p131
                  replace q131 := eq_true q131
                  try go_wp2
                  go_roundg k2
                  case measure => have := HK1.out; have := HK2.out; omega
                  case rel => exact ⟨(t128), (wrap64 (x7_2 + 1)), (by first | rfl | (simp; done) | (simp [*]; done)), H', ⟨by have := HK1.out; have := HK2.out; omega⟩, ⟨by (with_reducible repeat (first | apply Kd.R_alloc | apply Kd.R_drewN | apply Kd.R_drew)); exact Kd.R_mono HO130.out (fun _ hk => trivial)⟩, ⟨by repeat (first | (with_reducible first | exact HB.out | apply below_alloc | apply pw_below_drewN | apply below_drew1) | exact HB.out)⟩⟩
              · rw [if_neg c9] at H
                exact absurd H (by simp)
            · rw [if_neg c8] at H
              have c8b0 : decide (x7_2 < (l1.length : Int)) = false := decide_eq_false c8
              clear c8
              obtain rfl := Option.some.inj H
              go_wp2
              go_ret
              exact ⟨_, by first | rfl | (simp [errW_none, errW_some] <;> rfl) | (simp [*, errW_none, errW_some] <;> rfl), by (with_reducible repeat (first | apply Kd.R_alloc | apply Kd.R_drewN | apply Kd.R_drew)); exact HO_5.out, by repeat (first | (with_reducible first | exact HB.out | apply below_alloc | apply pw_below_drewN | apply below_drew1) | exact HB.out)⟩

end Go.Proofs.YtmckpkiodcmbeaaGreat.Q

-- B3
namespace Go.Proofs.YtmckpkiodcmbeaaGreat.Q
open Go.RowKit Go.Proofs.YtmckpkiodcmbeaaGreatW.PrintWords Go.Proofs.YtmckpkiodcmbeaaGreatW.PrintLast Go.Proofs.YtmckpkiodcmbeaaGreatW.PrintMore
attribute [local go_sem] max2_int min2_int max_two min_two max_three min_three max_four min_four   -- for this text's walks alone
set_option linter.unusedVariables false
set_option linter.unusedSimpArgs false

/-! ### cellarerref11_Diff: function 12 -/
mutual
def cellarerref11_Diff.l0 : Nat → List (S35) → List (S35) → List (S35) → Int → Option ((List (S33)))
  | 0, _, _, _, _ => none
  | k + 1, x0, x1, x5, x6 => if x6 < (x0.length : Int) then (if 0 ≤ x6 then ((cellarerref11_in.f k x5 ((rd_T35 x0 x6).f0) ((rd_T35 x0 x6).f1)).bind fun t143 => (cellarerref11_Diff.l0 k x0 x1 t143 (wrap64 (x6 + 1)))) else (none)) else (cellarerref11_Diff.l1 k x0 x1 x5 0)
def cellarerref11_Diff.l1 : Nat → List (S35) → List (S35) → List (S35) → Int → Option ((List (S33)))
  | 0, _, _, _, _ => none
  | k + 1, x0, x1, x5, x7 => if x7 < (x1.length : Int) then (if 0 ≤ x7 then ((cellarerref11_in.f k x5 ((rd_T35 x1 x7).f0) ((rd_T35 x1 x7).f1)).bind fun t147 => (cellarerref11_Diff.l1 k x0 x1 t147 (wrap64 (x7 + 1)))) else (none)) else (cellarerref11_Diff.l2 k x0 x1 x5 ([] : List (S33)) 0)
def cellarerref11_Diff.l2 : Nat → List (S35) → List (S35) → List (S35) → List (S33) → Int → Option ((List (S33)))
  | 0, _, _, _, _, _ => none
  | k + 1, x0, x1, x5, x8, x9 => if x9 < (x5.length : Int) then (if 0 ≤ x9 then ((cellarerref11_last.f k x0 ((rd_T35 x5 x9).f0)).bind fun bt151 => ((cellarerref11_last.f k x1 ((rd_T35 x5 x9).f0)).bind fun bt153 => (if bt153.2 = true then (if bt151.2 = true then (cellarerref11_Diff.j3 k x0 x1 x5 x8 x9 ((rd_T35 x5 x9).f0) bt151.2 bt153.1 bt153.2 (bt151.1.toList != bt153.1.toList)) else (cellarerref11_Diff.j3 k x0 x1 x5 x8 x9 ((rd_T35 x5 x9).f0) bt151.2 bt153.1 bt153.2 true)) else (cellarerref11_Diff.j3 k x0 x1 x5 x8 x9 ((rd_T35 x5 x9).f0) bt151.2 bt153.1 bt153.2 false)))) else (none)) else (some x8)
def cellarerref11_Diff.j3 : Nat → List (S35) → List (S35) → List (S35) → List (S33) → Int → ByteArray → Bool → ByteArray → Bool → Bool → Option ((List (S33)))
  | 0, _, _, _, _, _, _, _, _, _, _ => none
  | k + 1, x0, x1, x5, x8, x9, x10, x12, x13, x14, x71 => if x71 = true then (if x8.length < 3518437208883 then ((some (x8 ++ [(⟨x10, x13, false⟩ : S33)] : List (S33))).bind fun y155 => (if x12 = true then (if x14 = true then (cellarerref11_Diff.l2 k x0 x1 x5 y155 (wrap64 (x9 + 1))) else (if y155.length < 3518437208883 then (cellarerref11_Diff.l2 k x0 x1 x5 (y155 ++ [(⟨x10, (⟨#[]⟩ : ByteArray), true⟩ : S33)]) (wrap64 (x9 + 1))) else (none))) else (cellarerref11_Diff.l2 k x0 x1 x5 y155 (wrap64 (x9 + 1))))) else (none)) else (if x12 = true then (if x14 = true then (cellarerref11_Diff.l2 k x0 x1 x5 x8 (wrap64 (x9 + 1))) else (if x8.length < 3518437208883 then (cellarerref11_Diff.l2 k x0 x1 x5 (x8 ++ [(⟨x10, (⟨#[]⟩ : ByteArray), true⟩ : S33)]) (wrap64 (x9 + 1))) else (none))) else (cellarerref11_Diff.l2 k x0 x1 x5 x8 (wrap64 (x9 + 1))))
end
def cellarerref11_Diff.f (k : Nat) (l0 : List (S35)) (l1 : List (S35)) : Option ((List (S33))) := cellarerref11_Diff.l0 k l0 l1 ([] : List (S35)) 0
theorem cellarerref11_Diff.mono_l : ∀ k, (∀ y0 y1 y2 y3, LeO (cellarerref11_Diff.l0 k y0 y1 y2 y3) (cellarerref11_Diff.l0 (k + 1) y0 y1 y2 y3)) ∧ (∀ y0 y1 y2 y3, LeO (cellarerref11_Diff.l1 k y0 y1 y2 y3) (cellarerref11_Diff.l1 (k + 1) y0 y1 y2 y3)) ∧ (∀ y0 y1 y2 y3 y4, LeO (cellarerref11_Diff.l2 k y0 y1 y2 y3 y4) (cellarerref11_Diff.l2 (k + 1) y0 y1 y2 y3 y4)) ∧ (∀ y0 y1 y2 y3 y4 y5 y6 y7 y8 y9, LeO (cellarerref11_Diff.j3 k y0 y1 y2 y3 y4 y5 y6 y7 y8 y9) (cellarerref11_Diff.j3 (k + 1) y0 y1 y2 y3 y4 y5 y6 y7 y8 y9))
  | 0 => ⟨fun _ _ _ _ r h => by simp [cellarerref11_Diff.l0] at h, fun _ _ _ _ r h => by simp [cellarerref11_Diff.l1] at h, fun _ _ _ _ _ r h => by simp [cellarerref11_Diff.l2] at h, fun _ _ _ _ _ _ _ _ _ _ r h => by simp [cellarerref11_Diff.j3] at h⟩
  | k + 1 => by
    obtain ⟨ih0, ih1, ih2, ih3⟩ := cellarerref11_Diff.mono_l k
    refine ⟨?_, ?_, ?_, ?_⟩
    · intro y0 y1 y2 y3
      unfold cellarerref11_Diff.l0
      repeat' first
      | (with_reducible exact ih0 _ _ _ _)
      | (with_reducible exact ih1 _ _ _ _)
      | (with_reducible exact ih2 _ _ _ _ _)
      | (with_reducible exact ih3 _ _ _ _ _ _ _ _ _ _)
      | (with_reducible exact cellarerref11_in.mono _ _ _ _)
      | (with_reducible exact cellarerref11_last.mono _ _ _)
      | (with_reducible exact LeO.refl _)
      | (with_reducible exact LeO.none _)
      | (with_reducible refine LeO.ite ?_ ?_)
      | (with_reducible refine LeO.bind ?_ (fun _ => ?_))
      | exact ih0 _ _ _ _
      | exact ih1 _ _ _ _
      | exact ih2 _ _ _ _ _
      | exact ih3 _ _ _ _ _ _ _ _ _ _
      | exact cellarerref11_in.mono _ _ _ _
      | exact cellarerref11_last.mono _ _ _
      | exact LeO.none _
      | refine LeO.ite ?_ ?_
      | refine LeO.bind ?_ (fun _ => ?_)
    · intro y0 y1 y2 y3
      unfold cellarerref11_Diff.l1
      repeat' first
      | (with_reducible exact ih0 _ _ _ _)
      | (with_reducible exact ih1 _ _ _ _)
      | (with_reducible exact ih2 _ _ _ _ _)
      | (with_reducible exact ih3 _ _ _ _ _ _ _ _ _ _)
      | (with_reducible exact cellarerref11_in.mono _ _ _ _)
      | (with_reducible exact cellarerref11_last.mono _ _ _)
      | (with_reducible exact LeO.refl _)
      | (with_reducible exact LeO.none _)
      | (with_reducible refine LeO.ite ?_ ?_)
      | (with_reducible refine LeO.bind ?_ (fun _ => ?_))
      | exact ih0 _ _ _ _
      | exact ih1 _ _ _ _
      | exact ih2 _ _ _ _ _
      | exact ih3 _ _ _ _ _ _ _ _ _ _
      | exact cellarerref11_in.mono _ _ _ _
      | exact cellarerref11_last.mono _ _ _
      | exact LeO.none _
      | refine LeO.ite ?_ ?_
      | refine LeO.bind ?_ (fun _ => ?_)
    · intro y0 y1 y2 y3 y4
      unfold cellarerref11_Diff.l2
      repeat' first
      | (with_reducible exact ih0 _ _ _ _)
      | (with_reducible exact ih1 _ _ _ _)
      | (with_reducible exact ih2 _ _ _ _ _)
      | (with_reducible exact ih3 _ _ _ _ _ _ _ _ _ _)
      | (with_reducible exact cellarerref11_in.mono _ _ _ _)
      | (with_reducible exact cellarerref11_last.mono _ _ _)
      | (with_reducible exact LeO.refl _)
      | (with_reducible exact LeO.none _)
      | (with_reducible refine LeO.ite ?_ ?_)
      | (with_reducible refine LeO.bind ?_ (fun _ => ?_))
      | exact ih0 _ _ _ _
      | exact ih1 _ _ _ _
      | exact ih2 _ _ _ _ _
      | exact ih3 _ _ _ _ _ _ _ _ _ _
      | exact cellarerref11_in.mono _ _ _ _
      | exact cellarerref11_last.mono _ _ _
      | exact LeO.none _
      | refine LeO.ite ?_ ?_
      | refine LeO.bind ?_ (fun _ => ?_)
    · intro y0 y1 y2 y3 y4 y5 y6 y7 y8 y9
      unfold cellarerref11_Diff.j3
      repeat' first
      | (with_reducible exact ih0 _ _ _ _)
      | (with_reducible exact ih1 _ _ _ _)
      | (with_reducible exact ih2 _ _ _ _ _)
      | (with_reducible exact ih3 _ _ _ _ _ _ _ _ _ _)
      | (with_reducible exact cellarerref11_in.mono _ _ _ _)
      | (with_reducible exact cellarerref11_last.mono _ _ _)
      | (with_reducible exact LeO.refl _)
      | (with_reducible exact LeO.none _)
      | (with_reducible refine LeO.ite ?_ ?_)
      | (with_reducible refine LeO.bind ?_ (fun _ => ?_))
      | exact ih0 _ _ _ _
      | exact ih1 _ _ _ _
      | exact ih2 _ _ _ _ _
      | exact ih3 _ _ _ _ _ _ _ _ _ _
      | exact cellarerref11_in.mono _ _ _ _
      | exact cellarerref11_last.mono _ _ _
      | exact LeO.none _
      | refine LeO.ite ?_ ?_
      | refine LeO.bind ?_ (fun _ => ?_)
theorem cellarerref11_Diff.mono : ∀ a0 a1 k, LeO (cellarerref11_Diff.f k a0 a1) (cellarerref11_Diff.f (k + 1) a0 a1) := by
  intro a0 a1 k
  obtain ⟨ih0, ih1, ih2, ih3⟩ := cellarerref11_Diff.mono_l k
  unfold cellarerref11_Diff.f
  repeat' first
      | (with_reducible exact ih0 _ _ _ _)
      | (with_reducible exact ih1 _ _ _ _)
      | (with_reducible exact ih2 _ _ _ _ _)
      | (with_reducible exact ih3 _ _ _ _ _ _ _ _ _ _)
      | (with_reducible exact cellarerref11_in.mono _ _ _ _)
      | (with_reducible exact cellarerref11_last.mono _ _ _)
      | (with_reducible exact LeO.refl _)
      | (with_reducible exact LeO.none _)
      | (with_reducible refine LeO.ite ?_ ?_)
      | (with_reducible refine LeO.bind ?_ (fun _ => ?_))
      | exact ih0 _ _ _ _
      | exact ih1 _ _ _ _
      | exact ih2 _ _ _ _ _
      | exact ih3 _ _ _ _ _ _ _ _ _ _
      | exact cellarerref11_in.mono _ _ _ _
      | exact cellarerref11_last.mono _ _ _
      | exact LeO.none _
      | refine LeO.ite ?_ ?_
      | refine LeO.bind ?_ (fun _ => ?_)
set_option maxHeartbeats 8000000 in
set_option maxRecDepth 100000 in
theorem cellarerref11_Diff.calls (k : Nat) (A0 : Option Addr) (c0 : Nat) (l0 : List (S35)) (A1 : Option Addr) (c1 : Nat) (l1 : List (S35)) (r : List (S33)) (w : World) (hr0 : Kd.C k35 w A0 l0.length l0) (hc0 : l0.length ≤ c0) (hr1 : Kd.C k35 w A1 l1.length l1) (hc1 : l1.length ≤ c1) (h : cellarerref11_Diff.f k l0 l1 = some r) :
    Calls Tryz.prog 12 #[.slice A0 l0.length c0, .slice A1 l1.length c1] w fun e w' => ∃ v0_ : Value, e = .returned (v0_) ∧ Kd.R k33 33 w' w.heap.size (fun _ => True) v0_ r ∧ Below w.heap.size w w' := by
  have hu35 := Tryz.underlying35
  have hu33 := Tryz.underlying33
  have HR0 := Aside0.mk hr0
  have HC0 := Aside0.mk hc0
  clear hr0 hc0
  have HR1 := Aside0.mk hr1
  have HC1 := Aside0.mk hc1
  clear hr1 hc1
  have HB := Aside0.mk (Below.refl w.heap.size w)
  have H : (cellarerref11_Diff.l0 k l0 l1 ([] : List (S35)) 0) = some r := h
  clear h
  have H' := Aside0.mk H
  clear H
  go_enter Tryz.func12, Tryz.ntmps12
  go_wp2
  go_loopg [5, 6] k (fun kq v5 v6 w' => ∃ (x5_1 : List (S35)) (x6_1 : Int), v6 = .int .i64 x6_1 ∧ Aside0 (cellarerref11_Diff.l0 kq l0 l1 x5_1 x6_1 = some r) ∧ Aside0 (kq ≤ k) ∧ Aside0 (Kd.R k35 35 w' w.heap.size (fun _ => True) v5 x5_1) ∧ Aside0 (Below w.heap.size w w'))
  case atStart => exact ⟨(([] : List (S35))), (0), (by first | rfl | (simp; done) | (simp [*]; done)), H', ⟨Nat.le_refl _⟩, ⟨by first | exact Kd.R_nil _ _ _ _ _ | exact Kd.N_nil _ _ _ _ _ | exact Kd.V_nil _ _ _ _ _ | exact Kd.Q_nil _ _ _ _ _ | exact Kd.S_nil _ _ _ _ _⟩, ⟨by repeat (first | (with_reducible first | exact HB.out | apply below_alloc | apply pw_below_drewN | apply below_drew1) | exact HB.out)⟩⟩
  case round =>
    clear H'
    try clear c1
    try clear p2
    obtain ⟨x5_1, x6_1, rfl, HA, HK1, HO_5, HB⟩ := hrel
    cases gk with
    | zero => exact absurd HA.out (by simp [cellarerref11_Diff.l0])
    | succ k1 =>
      have H := HA.out
      clear HA
      simp only [cellarerref11_Diff.l0] at H
      by_cases c3 : x6_1 < (l0.length : Int)
      · rw [if_pos c3] at H
        have c3b0 : decide (x6_1 < (l0.length : Int)) = true := decide_eq_true c3
        clear c3
        by_cases c4 : 0 ≤ x6_1
        · rw [if_pos c4] at H
          have c4b0 : decide (0 ≤ x6_1) = true := decide_eq_true c4
          clear c4
          replace H := Option.bind_eq_some_iff.mp H
          obtain ⟨t143, A50, H⟩ := H
          replace H : (cellarerref11_Diff.l0 k1 l0 l1 t143 (wrap64 (x6_1 + 1))) = some r := H
          have A5 := Aside0.mk A50
          clear A50
          have H' := Aside0.mk H
          clear H
          have p142 : 0 ≤ (x6_1 : Int) := of_decide_eq_true (by first | (with_reducible assumption) | assumption)
          have q142 : x6_1 < (l0.length : Int) := of_decide_eq_true (by first | (with_reducible assumption) | assumption)
          obtain ⟨ad142, e142, hx142_0, hx142_1⟩ := at_T35 HR0.out x6_1 p142 q142
          cases e142
          replace hx142_0 := (HB.out.cell (World.block_lt_of_cell? w _ hx142_0)).trans hx142_0
          replace hx142_1 := (HB.out.cell (World.block_lt_of_cell? w _ hx142_1)).trans hx142_1
          replace p142 := eq_true p142
          replace q142 := eq_true q142
          obtain ⟨Ao6, co6, eo6⟩ := Kd.R_slice HO_5.out
          subst eo6
          go_wp2_with (first | ((with_reducible refine gate_callee (f := 17) rfl ?_); refine goesL_ (some 26) rfl rfl Tryz.func17 (by kernel_rfl) rfl #[.slice Ao6 x5_1.length co6, .agg #[.string ((rd_T35 l0 x6_1).f0), .string ((rd_T35 l0 x6_1).f1)]] rfl (by (try simp only [List.map_toArray, List.map_cons, List.map_nil]); first | done | rfl | (simp only [List.length_drop, List.length_take]; rfl)) ?_; (with_reducible refine (cellarerref11_in.calls k1 _ _ x5_1 ((rd_T35 l0 x6_1).f0) ((rd_T35 l0 x6_1).f1) t143 _ ?side1 ?side2 A5.out).mono ?_); (case side1 => repeat (first | exact (Kd.R_reads' HO_5.out).2.2 | (with_reducible refine Kd.C_alloc ?_ _) | (with_reducible refine Kd.C_drewN ?_ _) | (with_reducible refine Kd.C_drew ?_))); (case side2 => exact (Kd.R_reads' HO_5.out).2.1); rintro e w7 ⟨v144, rfl, ho0, hb⟩; refine ⟨_, rfl, ?_⟩; have n0_ := Aside0.mk (Kd.R_elder' (by (with_reducible repeat (first | apply Kd.R_alloc | apply Kd.R_drewN | apply Kd.R_drew)); exact HO_5.out) (Kd.R_base ho0) hb); have n1_ := Aside0.mk (Kd.R_lower (Kd.R_new' ho0 (Kd.R_lt (by (with_reducible repeat (first | apply Kd.R_alloc | apply Kd.R_drewN | apply Kd.R_drew)); exact HO_5.out))) (below_size (by repeat (first | (with_reducible first | exact HB.out | apply below_alloc | apply pw_below_drewN | apply below_drew1) | exact HB.out)))); have n2_ := Aside0.mk (below_step (by repeat (first | (with_reducible first | exact HB.out | apply below_alloc | apply pw_below_drewN | apply below_drew1) | exact HB.out)) hb); clear HO_5; clear HB; have HO_5 := n0_; have HO145 := n1_; have HB := n2_; clear n0_ n1_ n2_; (try clear hb); (try clear hb2); (try clear hk); (try clear hi); (try clear ho0)))
          go_roundg k1
          case measure => have := HK1.out; omega
          case rel => exact ⟨(t143), (wrap64 (x6_1 + 1)), (by first | rfl | (simp; done) | (simp [*]; done)), H', ⟨by have := HK1.out; omega⟩, ⟨by (with_reducible repeat (first | apply Kd.R_alloc | apply Kd.R_drewN | apply Kd.R_drew)); exact Kd.R_mono HO145.out (fun _ hk => trivial)⟩, ⟨by repeat (first | (with_reducible first | exact HB.out | apply below_alloc | apply pw_below_drewN | apply below_drew1) | exact HB.out)⟩⟩
        · rw [if_neg c4] at H
          exact absurd H (by simp)
      · rw [if_neg c3] at H
        have c3b0 : decide (x6_1 < (l0.length : Int)) = false := decide_eq_false c3
        clear c3
        have H' := Aside0.mk H
        clear H
        go_wp2
        go_loopg [5, 7] k1 (fun kq v5 v7 w' => ∃ (x5_2 : List (S35)) (x7_2 : Int), v7 = .int .i64 x7_2 ∧ Aside0 (cellarerref11_Diff.l1 kq l0 l1 x5_2 x7_2 = some r) ∧ Aside0 (kq ≤ k1) ∧ Aside0 (Kd.R k35 35 w' w.heap.size (fun _ => True) v5 x5_2) ∧ Aside0 (Below w.heap.size w w'))
        case atStart => exact ⟨(x5_1), (0), (by first | rfl | (simp; done) | (simp [*]; done)), H', ⟨Nat.le_refl _⟩, ⟨by (with_reducible repeat (first | apply Kd.R_alloc | apply Kd.R_drewN | apply Kd.R_drew)); exact HO_5.out⟩, ⟨by repeat (first | (with_reducible first | exact HB.out | apply below_alloc | apply pw_below_drewN | apply below_drew1) | exact HB.out)⟩⟩
        case round =>
          clear H'
          try clear c1
          try clear p1
          try clear q1
          try clear hx1
          try clear p2
          try clear c3
          try clear c3b0
          try clear c4
          try clear c4b0
          try clear p6
          try clear hx142_0
          try clear hx142_1
          try clear p142
          try clear p2
          try clear q142
          obtain ⟨x5_2, x7_2, rfl, HA, HK2, HO_5, HB⟩ := hrel
          cases gk with
          | zero => exact absurd HA.out (by simp [cellarerref11_Diff.l1])
          | succ k2 =>
            have H := HA.out
            clear HA
            simp only [cellarerref11_Diff.l1] at H
            by_cases c8 : x7_2 < (l1.length : Int)
            · rw [if_pos c8] at H
              have c8b0 : decide (x7_2 < (l1.length : Int)) = true := decide_eq_true c8
              clear c8
              by_cases c9 : 0 ≤ x7_2
              · rw [if_pos c9] at H
                have c9b0 : decide (0 ≤ x7_2) = true := decide_eq_true c9
                clear c9
                replace H := Option.bind_eq_some_iff.mp H
                obtain ⟨t147, A100, H⟩ := H
                replace H : (cellarerref11_Diff.l1 k2 l0 l1 t147 (wrap64 (x7_2 + 1))) = some r := H
                have A10 := Aside0.mk A100
                clear A100
                have H' := Aside0.mk H
                clear H
                have p146 : 0 ≤ (x7_2 : Int) := of_decide_eq_true (by first | (with_reducible assumption) | assumption)
                have q146 : x7_2 < (l1.length : Int) := of_decide_eq_true (by first | (with_reducible assumption) | assumption)
                obtain ⟨ad146, e146, hx146_0, hx146_1⟩ := at_T35 HR1.out x7_2 p146 q146
                cases e146
                replace hx146_0 := (HB.out.cell (World.block_lt_of_cell? w _ hx146_0)).trans hx146_0
                replace hx146_1 := (HB.out.cell (World.block_lt_of_cell? w _ hx146_1)).trans hx146_1
                replace p146 := eq_true p146
                replace q146 := eq_true q146
                obtain ⟨Ao11, co11, eo11⟩ := Kd.R_slice HO_5.out
                subst eo11
                go_wp2_with (first | ((with_reducible refine gate_callee (f := 17) rfl ?_); refine goesL_ (some 38) rfl rfl Tryz.func17 (by kernel_rfl) rfl #[.slice Ao11 x5_2.length co11, .agg #[.string ((rd_T35 l1 x7_2).f0), .string ((rd_T35 l1 x7_2).f1)]] rfl (by (try simp only [List.map_toArray, List.map_cons, List.map_nil]); first | done | rfl | (simp only [List.length_drop, List.length_take]; rfl)) ?_; (with_reducible refine (cellarerref11_in.calls k2 _ _ x5_2 ((rd_T35 l1 x7_2).f0) ((rd_T35 l1 x7_2).f1) t147 _ ?side1 ?side2 A10.out).mono ?_); (case side1 => repeat (first | exact (Kd.R_reads' HO_5.out).2.2 | (with_reducible refine Kd.C_alloc ?_ _) | (with_reducible refine Kd.C_drewN ?_ _) | (with_reducible refine Kd.C_drew ?_))); (case side2 => exact (Kd.R_reads' HO_5.out).2.1); rintro e w12 ⟨v148, rfl, ho0, hb⟩; refine ⟨_, rfl, ?_⟩; have n0_ := Aside0.mk (Kd.R_elder' (by (with_reducible repeat (first | apply Kd.R_alloc | apply Kd.R_drewN | apply Kd.R_drew)); exact HO_5.out) (Kd.R_base ho0) hb); have n1_ := Aside0.mk (Kd.R_lower (Kd.R_new' ho0 (Kd.R_lt (by (with_reducible repeat (first | apply Kd.R_alloc | apply Kd.R_drewN | apply Kd.R_drew)); exact HO_5.out))) (below_size (by repeat (first | (with_reducible first | exact HB.out | apply below_alloc | apply pw_below_drewN | apply below_drew1) | exact HB.out)))); have n2_ := Aside0.mk (below_step (by repeat (first | (with_reducible first | exact HB.out | apply below_alloc | apply pw_below_drewN | apply below_drew1) | exact HB.out)) hb); clear HO_5; clear HB; have HO_5 := n0_; have HO149 := n1_; have HB := n2_; clear n0_ n1_ n2_; (try clear hb); (try clear hb2); (try clear hk); (try clear hi); (try clear ho0)))
                go_roundg k2
                case measure => have := HK1.out; have := HK2.out; omega
                case rel => exact ⟨(t147), (wrap64 (x7_2 + 1)), (by first | rfl | (simp; done) | (simp [*]; done)), H', ⟨by have := HK1.out; have := HK2.out; omega⟩, ⟨by (with_reducible repeat (first | apply Kd.R_alloc | apply Kd.R_drewN | apply Kd.R_drew)); exact Kd.R_mono HO149.out (fun _ hk => trivial)⟩, ⟨by repeat (first | (with_reducible first | exact HB.out | apply below_alloc | apply pw_below_drewN | apply below_drew1) | exact HB.out)⟩⟩
              · rw [if_neg c9] at H
                exact absurd H (by simp)
            · rw [if_neg c8] at H
              have c8b0 : decide (x7_2 < (l1.length : Int)) = false := decide_eq_false c8
              clear c8
              have H' := Aside0.mk H
              clear H
              go_wp2
              go_loopg [8, 9] k2 (fun kq v8 v9 w' => ∃ (x8_3 : List (S33)) (x9_3 : Int), v9 = .int .i64 x9_3 ∧ Aside0 (cellarerref11_Diff.l2 kq l0 l1 x5_2 x8_3 x9_3 = some r) ∧ Aside0 (kq ≤ k2) ∧ Aside0 (Kd.R k35 35 w' w.heap.size (fun _ => True) u5 x5_2) ∧ Aside0 (Kd.R k33 33 w' w.heap.size (fun _ => True) v8 x8_3) ∧ Aside0 (Below w.heap.size w w'))
              case atStart => exact ⟨(([] : List (S33))), (0), (by first | rfl | (simp; done) | (simp [*]; done)), H', ⟨Nat.le_refl _⟩, ⟨by (with_reducible repeat (first | apply Kd.R_alloc | apply Kd.R_drewN | apply Kd.R_drew)); exact HO_5.out⟩, ⟨by first | exact Kd.R_nil _ _ _ _ _ | exact Kd.N_nil _ _ _ _ _ | exact Kd.V_nil _ _ _ _ _ | exact Kd.Q_nil _ _ _ _ _ | exact Kd.S_nil _ _ _ _ _⟩, ⟨by repeat (first | (with_reducible first | exact HB.out | apply below_alloc | apply pw_below_drewN | apply below_drew1) | exact HB.out)⟩⟩
              case round =>
                clear H'
                try clear c1
                try clear p1
                try clear q1
                try clear hx1
                try clear p2
                try clear c3
                try clear c3b0
                try clear c4
                try clear c4b0
                try clear p6
                try clear c8
                try clear c8b0
                try clear c9
                try clear c9b0
                try clear c12
                try clear hx142_0
                try clear hx142_1
                try clear hx146_0
                try clear hx146_1
                try clear p1
                try clear p142
                try clear p146
                try clear p2
                try clear p6
                try clear q1
                try clear q142
                try clear q146
                obtain ⟨x8_3, x9_3, rfl, HA, HK3, HO_5, HO_8, HB⟩ := hrel
                cases gk with
                | zero => exact absurd HA.out (by simp [cellarerref11_Diff.l2])
                | succ k3 =>
                  have H := HA.out
                  clear HA
                  simp only [cellarerref11_Diff.l2] at H
                  by_cases c13 : x9_3 < (x5_2.length : Int)
                  · rw [if_pos c13] at H
                    have c13b0 : decide (x9_3 < (x5_2.length : Int)) = true := decide_eq_true c13
                    clear c13
                    by_cases c14 : 0 ≤ x9_3
                    · rw [if_pos c14] at H
                      have c14b0 : decide (0 ≤ x9_3) = true := decide_eq_true c14
                      clear c14
                      replace H := Option.bind_eq_some_iff.mp H
                      obtain ⟨⟨t151, t152⟩, A150, H⟩ := H
                      replace H : ((cellarerref11_last.f k3 l1 ((rd_T35 x5_2 x9_3).f0)).bind fun bt153 => (if bt153.2 = true then (if t152 = true then (cellarerref11_Diff.j3 k3 l0 l1 x5_2 x8_3 x9_3 ((rd_T35 x5_2 x9_3).f0) t152 bt153.1 bt153.2 (t151.toList != bt153.1.toList)) else (cellarerref11_Diff.j3 k3 l0 l1 x5_2 x8_3 x9_3 ((rd_T35 x5_2 x9_3).f0) t152 bt153.1 bt153.2 true)) else (cellarerref11_Diff.j3 k3 l0 l1 x5_2 x8_3 x9_3 ((rd_T35 x5_2 x9_3).f0) t152 bt153.1 bt153.2 false))) = some r := H
                      have A15 := Aside0.mk A150
                      clear A150
                      replace H := Option.bind_eq_some_iff.mp H
                      obtain ⟨⟨t153, t154⟩, A160, H⟩ := H
                      replace H : (if t154 = true then (if t152 = true then (cellarerref11_Diff.j3 k3 l0 l1 x5_2 x8_3 x9_3 ((rd_T35 x5_2 x9_3).f0) t152 t153 t154 (t151.toList != t153.toList)) else (cellarerref11_Diff.j3 k3 l0 l1 x5_2 x8_3 x9_3 ((rd_T35 x5_2 x9_3).f0) t152 t153 t154 true)) else (cellarerref11_Diff.j3 k3 l0 l1 x5_2 x8_3 x9_3 ((rd_T35 x5_2 x9_3).f0) t152 t153 t154 false)) = some r := H
                      have A16 := Aside0.mk A160
                      clear A160
                      have HC17 := Aside0.mk H
                      clear H
                      obtain ⟨Ao18, co18, eo18⟩ := Kd.R_slice HO_5.out
                      subst eo18
                      have p150 : 0 ≤ (x9_3 : Int) := of_decide_eq_true (by first | (with_reducible assumption) | assumption)
                      have q150 : x9_3 < (x5_2.length : Int) := of_decide_eq_true (by first | (with_reducible assumption) | assumption)
                      obtain ⟨ad150, e150, hx150_0, hx150_1⟩ := at_T35 (Kd.R_reads' HO_5.out).2.2 x9_3 p150 q150
                      cases e150
                      replace p150 := eq_true p150
                      replace q150 := eq_true q150
                      go_upto_region 17 with (first | ((with_reducible refine gate_callee (f := 21) rfl ?_); refine goesL_ (some 53) rfl rfl Tryz.func21 (by kernel_rfl) rfl #[.slice A0 l0.length c0, .string ((rd_T35 x5_2 x9_3).f0)] rfl (by (try simp only [List.map_toArray, List.map_cons, List.map_nil]); first | done | rfl | (simp only [List.length_drop, List.length_take]; rfl)) ?_; (with_reducible refine (cellarerref11_last.calls k3 _ _ l0 ((rd_T35 x5_2 x9_3).f0) t151 t152 _ ?side1 ?side2 A15.out).mono ?_); (case side1 => repeat (first | exact (Kd.C_below HR0.out HB.out) | (with_reducible refine Kd.C_alloc ?_ _) | (with_reducible refine Kd.C_drewN ?_ _) | (with_reducible refine Kd.C_drew ?_))); (case side2 => exact HC0.out); rintro e w' ⟨rfl, ⟨nd, rfl⟩⟩; refine ⟨_, rfl, ?_⟩) | ((with_reducible refine gate_callee (f := 21) rfl ?_); refine goesL_ (some 59) rfl rfl Tryz.func21 (by kernel_rfl) rfl #[.slice A1 l1.length c1, .string ((rd_T35 x5_2 x9_3).f0)] rfl (by (try simp only [List.map_toArray, List.map_cons, List.map_nil]); first | done | rfl | (simp only [List.length_drop, List.length_take]; rfl)) ?_; (with_reducible refine (cellarerref11_last.calls k3 _ _ l1 ((rd_T35 x5_2 x9_3).f0) t153 t154 _ ?side1 ?side2 A16.out).mono ?_); (case side1 => repeat (first | exact (Kd.C_below HR1.out (by repeat (first | (with_reducible first | exact HB.out | apply below_alloc | apply pw_below_drewN | apply below_drew1) | exact HB.out))) | (with_reducible refine Kd.C_alloc ?_ _) | (with_reducible refine Kd.C_drewN ?_ _) | (with_reducible refine Kd.C_drew ?_))); (case side2 => exact HC1.out); rintro e w' ⟨rfl, ⟨nd, rfl⟩⟩; refine ⟨_, rfl, ?_⟩))
                      (try simp only [Act.put, List.setIfInBounds_toArray, List.set_cons_zero, List.set_cons_succ])
                      go_cut [71] (fun v71 wc => ∃ (kq : Nat) (x71_16 : Bool), v71 = .bool x71_16 ∧ Aside0 (cellarerref11_Diff.j3 kq l0 l1 x5_2 x8_3 x9_3 ((rd_T35 x5_2 x9_3).f0) t152 t153 t154 x71_16 = some r) ∧ Aside0 (kq ≤ k3) ∧ Aside0 (Kd.R k35 35 wc w.heap.size (fun _ => True) (.slice (some ad150) x5_2.length co18) x5_2) ∧ Aside0 (Kd.R k33 33 wc w.heap.size (fun _ => True) u8 x8_3) ∧ Aside0 (Below w.heap.size w wc))
                      case first =>
                        have H := HC17.out
                        clear HC17
                        by_cases c19 : t154 = true
                        · subst c19
                          have H1 : (if t152 = true then (cellarerref11_Diff.j3 k3 l0 l1 x5_2 x8_3 x9_3 ((rd_T35 x5_2 x9_3).f0) t152 t153 true (t151.toList != t153.toList)) else (cellarerref11_Diff.j3 k3 l0 l1 x5_2 x8_3 x9_3 ((rd_T35 x5_2 x9_3).f0) t152 t153 true true)) = some r := by rw [if_pos rfl] at H; exact H
                          clear H
                          have H := H1
                          clear H1
                          by_cases c20 : t152 = true
                          · subst c20
                            have H1 : (cellarerref11_Diff.j3 k3 l0 l1 x5_2 x8_3 x9_3 ((rd_T35 x5_2 x9_3).f0) true t153 true (t151.toList != t153.toList)) = some r := by rw [if_pos rfl] at H; exact H
                            clear H
                            have H := H1
                            clear H1
                            have H' := Aside0.mk H
                            clear H
                            go_wp2
                            go_meet
                            case rel => exact ⟨_, ((t151.toList != t153.toList)), (by first | rfl | (simp; done) | (simp [*]; done)), H', ⟨by have := HK1.out; have := HK2.out; have := HK3.out; first | omega | exact Nat.le_refl _⟩, ⟨by (with_reducible repeat (first | apply Kd.R_alloc | apply Kd.R_drewN | apply Kd.R_drew)); exact HO_5.out⟩, ⟨by (with_reducible repeat (first | apply Kd.R_alloc | apply Kd.R_drewN | apply Kd.R_drew)); exact HO_8.out⟩, ⟨by repeat (first | (with_reducible first | exact HB.out | apply below_alloc | apply pw_below_drewN | apply below_drew1) | exact HB.out)⟩⟩
                          · replace c20 := Bool.eq_false_iff.mpr c20
                            subst c20
                            have H1 : (cellarerref11_Diff.j3 k3 l0 l1 x5_2 x8_3 x9_3 ((rd_T35 x5_2 x9_3).f0) false t153 true true) = some r := by rw [if_neg (show ¬ (false = true) by decide)] at H; exact H
                            clear H
                            have H := H1
                            clear H1
                            have H' := Aside0.mk H
                            clear H
                            go_wp2
                            go_meet
                            case rel => exact ⟨_, (true), (by first | rfl | (simp; done) | (simp [*]; done)), H', ⟨by have := HK1.out; have := HK2.out; have := HK3.out; first | omega | exact Nat.le_refl _⟩, ⟨by (with_reducible repeat (first | apply Kd.R_alloc | apply Kd.R_drewN | apply Kd.R_drew)); exact HO_5.out⟩, ⟨by (with_reducible repeat (first | apply Kd.R_alloc | apply Kd.R_drewN | apply Kd.R_drew)); exact HO_8.out⟩, ⟨by repeat (first | (with_reducible first | exact HB.out | apply below_alloc | apply pw_below_drewN | apply below_drew1) | exact HB.out)⟩⟩
                        · replace c19 := Bool.eq_false_iff.mpr c19
                          subst c19
                          have H1 : (cellarerref11_Diff.j3 k3 l0 l1 x5_2 x8_3 x9_3 ((rd_T35 x5_2 x9_3).f0) t152 t153 false false) = some r := by rw [if_neg (show ¬ (false = true) by decide)] at H; exact H
                          clear H
                          have H := H1
                          clear H1
                          have H' := Aside0.mk H
                          clear H
                          go_wp2
                          go_meet
                          case rel => exact ⟨_, (false), (by first | rfl | (simp; done) | (simp [*]; done)), H', ⟨by have := HK1.out; have := HK2.out; have := HK3.out; first | omega | exact Nat.le_refl _⟩, ⟨by (with_reducible repeat (first | apply Kd.R_alloc | apply Kd.R_drewN | apply Kd.R_drew)); exact HO_5.out⟩, ⟨by (with_reducible repeat (first | apply Kd.R_alloc | apply Kd.R_drewN | apply Kd.R_drew)); exact HO_8.out⟩, ⟨by repeat (first | (with_reducible first | exact HB.out | apply below_alloc | apply pw_below_drewN | apply below_drew1) | exact HB.out)⟩⟩
                      case rest =>
                        clear HC17
                        try clear c1
                        try clear p1
                        try clear q1
                        try clear hx1
                        try clear c2
                        try clear p2
                        try clear c3
                        try clear c3b0
                        try clear c4
                        try clear c4b0
                        try clear p6
                        try clear c8
                        try clear c8b0
                        try clear c9
                        try clear c9b0
                        try clear c12
                        try clear c13
                        try clear c13b0
                        try clear c14
                        try clear c14b0
                        try clear p14
                        try clear q14
                        try clear hx14
                        try clear p15
                        try clear q15
                        try clear hx15
                        try clear c17
                        try clear c19
                        try clear c20
                        try clear hx142_0
                        try clear hx142_1
                        try clear hx146_0
                        try clear hx146_1
                        try clear hx150_0
                        try clear hx150_1
                        try clear p1
                        try clear p142
                        try clear p146
                        try clear p150
                        try clear p2
                        try clear p6
                        try clear q1
                        try clear q142
                        try clear q146
                        try clear q150
                        obtain ⟨kq, x71_16, rfl, HA, HJ16, HO_5, HO_8, HB⟩ := hcut
                        cases kq with
                        | zero => exact absurd HA.out (by simp [cellarerref11_Diff.j3])
                        | succ kj16 =>
                          have H := HA.out
                          clear HA
                          simp only [cellarerref11_Diff.j3] at H
                          by_cases c21 : x71_16 = true
                          · subst c21
                            have H1 : (if x8_3.length < 3518437208883 then ((some (x8_3 ++ [(⟨((rd_T35 x5_2 x9_3).f0), t153, false⟩ : S33)] : List (S33))).bind fun y155 => (if t152 = true then (if t154 = true then (cellarerref11_Diff.l2 kj16 l0 l1 x5_2 y155 (wrap64 (x9_3 + 1))) else (if y155.length < 3518437208883 then (cellarerref11_Diff.l2 kj16 l0 l1 x5_2 (y155 ++ [(⟨((rd_T35 x5_2 x9_3).f0), (⟨#[]⟩ : ByteArray), true⟩ : S33)]) (wrap64 (x9_3 + 1))) else (none))) else (cellarerref11_Diff.l2 kj16 l0 l1 x5_2 y155 (wrap64 (x9_3 + 1))))) else (none)) = some r := by rw [if_pos rfl] at H; exact H
                            clear H
                            have H := H1
                            clear H1
                            by_cases c22 : x8_3.length < 3518437208883
                            · rw [if_pos c22] at H
                              have LMc22 := Aside0.mk c22
                              clear c22
                              obtain ⟨y155, hy155⟩ : ∃ y_ : List (S33), y_ = (x8_3 ++ [(⟨((rd_T35 x5_2 x9_3).f0), t153, false⟩ : S33)]) := ⟨_, rfl⟩
                              replace H : (if t152 = true then (if t154 = true then (cellarerref11_Diff.l2 kj16 l0 l1 x5_2 y155 (wrap64 (x9_3 + 1))) else (if y155.length < 3518437208883 then (cellarerref11_Diff.l2 kj16 l0 l1 x5_2 (y155 ++ [(⟨((rd_T35 x5_2 x9_3).f0), (⟨#[]⟩ : ByteArray), true⟩ : S33)]) (wrap64 (x9_3 + 1))) else (none))) else (cellarerref11_Diff.l2 kj16 l0 l1 x5_2 y155 (wrap64 (x9_3 + 1)))) = some r := by first | (rw [hy155]; with_reducible exact H) | (have H2_ := (Option.bind_some _ _).symm.trans H; rw [hy155]; with_reducible exact H2_) | (have H2_ := (Option.bind_some _ _).symm.trans H; with_reducible exact H2_) | with_reducible exact H | (rw [hy155]; exact H) | exact H
                              have Ny155 := Aside0.mk hy155
                              clear hy155
                              by_cases c23 : t152 = true
                              · subst c23
                                have H1 : (if t154 = true then (cellarerref11_Diff.l2 kj16 l0 l1 x5_2 y155 (wrap64 (x9_3 + 1))) else (if y155.length < 3518437208883 then (cellarerref11_Diff.l2 kj16 l0 l1 x5_2 (y155 ++ [(⟨((rd_T35 x5_2 x9_3).f0), (⟨#[]⟩ : ByteArray), true⟩ : S33)]) (wrap64 (x9_3 + 1))) else (none))) = some r := by rw [if_pos rfl] at H; exact H
                                clear H
                                have H := H1
                                clear H1
                                by_cases c24 : t154 = true
                                · subst c24
                                  have H1 : (cellarerref11_Diff.l2 kj16 l0 l1 x5_2 y155 (wrap64 (x9_3 + 1))) = some r := by rw [if_pos rfl] at H; exact H
                                  clear H
                                  have H := H1
                                  clear H1
                                  have H' := Aside0.mk H
                                  clear H
                                  go_wp2_with (first | ((with_reducible refine gate_builtin (b := .append) (xs := #[.tmp 72, .tmp 76]) rfl ?_); at_builtin; refine Kd.R_append k33 (w0 := w) w.heap.size rfl (.tmp 72) (.tmp 76) 23 33 (.agg #[(.string ⟨#[]⟩), (.string ⟨#[]⟩), (.bool false)]) 40 rfl Tryz.underlying23 info33 rfl (by decide) (by omega) u8 x8_3 (⟨((rd_T35 x5_2 x9_3).f0), t153, false⟩ : S33) [.string ((rd_T35 x5_2 x9_3).f0), .string t153, .bool false] (fun _ => True) (fun _ => False) rfl rfl ?aP (fun _ hk => hk.elim) ?aF ?aO ?aB ?aS ?aL ?_; (case aP => exact k33_mkM _ _ _ (⟨((rd_T35 x5_2 x9_3).f0), t153, false⟩ : S33)); (case aB => exact (by repeat (first | (with_reducible first | exact HB.out | apply below_alloc | apply pw_below_drewN | apply below_drew1) | exact HB.out))); (case aF => exact (fun _ _ => trivial)); (case aO => exact (by (with_reducible repeat (first | apply Kd.R_alloc | apply Kd.R_drewN | apply Kd.R_drew)); exact HO_8.out)); (case aS => exact (below_size (by repeat (first | (with_reducible first | exact HB.out | apply below_alloc | apply pw_below_drewN | apply below_drew1) | exact HB.out)))); (case aL => have := LMc22.out; omega); intro v156 w25 ho hb hg hat; rw [← Ny155.out] at ho; have n0_ := Aside0.mk (Kd.R_over' (by (with_reducible repeat (first | apply Kd.R_alloc | apply Kd.R_drewN | apply Kd.R_drew)); exact HO_5.out) (Kd.R_typed (by (with_reducible repeat (first | apply Kd.R_alloc | apply Kd.R_drewN | apply Kd.R_drew)); exact HO_8.out)) (by decide) hg); have n1_ := Aside0.mk (hb); have n2_ := Aside0.mk (ho); clear HO_5; clear HB; clear HO_8; have HO_5 := n0_; have HB := n1_; have HO157 := n2_; clear n0_ n1_ n2_; clear ho hb hg hat))
                                  go_roundg kj16
                                  case measure => have := HK1.out; have := HK2.out; have := HK3.out; have := HJ16.out; omega
                                  case rel => exact ⟨(y155), (wrap64 (x9_3 + 1)), (by first | rfl | (simp; done) | (simp [*]; done)), H', ⟨by have := HK1.out; have := HK2.out; have := HK3.out; have := HJ16.out; omega⟩, ⟨by (with_reducible repeat (first | apply Kd.R_alloc | apply Kd.R_drewN | apply Kd.R_drew)); exact HO_5.out⟩, ⟨by (with_reducible repeat (first | apply Kd.R_alloc | apply Kd.R_drewN | apply Kd.R_drew)); exact HO157.out⟩, ⟨by repeat (first | (with_reducible first | exact HB.out | apply below_alloc | apply pw_below_drewN | apply below_drew1) | exact HB.out)⟩⟩
                                · replace c24 := Bool.eq_false_iff.mpr c24
                                  subst c24
                                  have H1 : (if y155.length < 3518437208883 then (cellarerref11_Diff.l2 kj16 l0 l1 x5_2 (y155 ++ [(⟨((rd_T35 x5_2 x9_3).f0), (⟨#[]⟩ : ByteArray), true⟩ : S33)]) (wrap64 (x9_3 + 1))) else (none)) = some r := by rw [if_neg (show ¬ (false = true) by decide)] at H; exact H
                                  clear H
                                  have H := H1
                                  clear H1
                                  by_cases c26 : y155.length < 3518437208883
                                  · rw [if_pos c26] at H
                                    have LMc26 := Aside0.mk c26
                                    clear c26
                                    obtain ⟨y158, hy158⟩ : ∃ y_ : List (S33), y_ = (y155 ++ [(⟨((rd_T35 x5_2 x9_3).f0), (⟨#[]⟩ : ByteArray), true⟩ : S33)]) := ⟨_, rfl⟩
                                    replace H : (cellarerref11_Diff.l2 kj16 l0 l1 x5_2 y158 (wrap64 (x9_3 + 1))) = some r := by first | (rw [hy158]; with_reducible exact H) | (have H2_ := (Option.bind_some _ _).symm.trans H; rw [hy158]; with_reducible exact H2_) | (have H2_ := (Option.bind_some _ _).symm.trans H; with_reducible exact H2_) | with_reducible exact H | (rw [hy158]; exact H) | exact H
                                    have Ny158 := Aside0.mk hy158
                                    clear hy158
                                    have H' := Aside0.mk H
                                    clear H
                                    go_wp2_with (first | ((with_reducible refine gate_builtin (b := .append) (xs := #[.tmp 72, .tmp 76]) rfl ?_); at_builtin; refine Kd.R_append k33 (w0 := w) w.heap.size rfl (.tmp 72) (.tmp 76) 23 33 (.agg #[(.string ⟨#[]⟩), (.string ⟨#[]⟩), (.bool false)]) 40 rfl Tryz.underlying23 info33 rfl (by decide) (by omega) u8 x8_3 (⟨((rd_T35 x5_2 x9_3).f0), t153, false⟩ : S33) [.string ((rd_T35 x5_2 x9_3).f0), .string t153, .bool false] (fun _ => True) (fun _ => False) rfl rfl ?aP (fun _ hk => hk.elim) ?aF ?aO ?aB ?aS ?aL ?_; (case aP => exact k33_mkM _ _ _ (⟨((rd_T35 x5_2 x9_3).f0), t153, false⟩ : S33)); (case aB => exact (by repeat (first | (with_reducible first | exact HB.out | apply below_alloc | apply pw_below_drewN | apply below_drew1) | exact HB.out))); (case aF => exact (fun _ _ => trivial)); (case aO => exact (by (with_reducible repeat (first | apply Kd.R_alloc | apply Kd.R_drewN | apply Kd.R_drew)); exact HO_8.out)); (case aS => exact (below_size (by repeat (first | (with_reducible first | exact HB.out | apply below_alloc | apply pw_below_drewN | apply below_drew1) | exact HB.out)))); (case aL => have := LMc22.out; omega); intro v156 w27 ho hb hg hat; rw [← Ny155.out] at ho; have n0_ := Aside0.mk (Kd.R_over' (by (with_reducible repeat (first | apply Kd.R_alloc | apply Kd.R_drewN | apply Kd.R_drew)); exact HO_5.out) (Kd.R_typed (by (with_reducible repeat (first | apply Kd.R_alloc | apply Kd.R_drewN | apply Kd.R_drew)); exact HO_8.out)) (by decide) hg); have n1_ := Aside0.mk (hb); have n2_ := Aside0.mk (ho); clear HO_5; clear HB; clear HO_8; have HO_5 := n0_; have HB := n1_; have HO157 := n2_; clear n0_ n1_ n2_; clear ho hb hg hat) | ((with_reducible refine gate_builtin (b := .append) (xs := #[.tmp 83, .tmp 86]) rfl ?_); at_builtin; refine Kd.R_append k33 (w0 := w) w.heap.size rfl (.tmp 83) (.tmp 86) 23 33 (.agg #[(.string ⟨#[]⟩), (.string ⟨#[]⟩), (.bool false)]) 40 rfl Tryz.underlying23 info33 rfl (by decide) (by omega) v156 y155 (⟨((rd_T35 x5_2 x9_3).f0), (⟨#[]⟩ : ByteArray), true⟩ : S33) [.string ((rd_T35 x5_2 x9_3).f0), .string (⟨#[]⟩ : ByteArray), .bool true] (fun _ => True) (fun _ => False) rfl rfl ?aP (fun _ hk => hk.elim) ?aF ?aO ?aB ?aS ?aL ?_; (case aP => exact k33_mkM _ _ _ (⟨((rd_T35 x5_2 x9_3).f0), (⟨#[]⟩ : ByteArray), true⟩ : S33)); (case aB => exact (by repeat (first | (with_reducible first | exact HB.out | apply below_alloc | apply pw_below_drewN | apply below_drew1) | exact HB.out))); (case aF => exact (fun _ _ => trivial)); (case aO => exact (by (with_reducible repeat (first | apply Kd.R_alloc | apply Kd.R_drewN | apply Kd.R_drew)); exact HO157.out)); (case aS => exact (below_size (by repeat (first | (with_reducible first | exact HB.out | apply below_alloc | apply pw_below_drewN | apply below_drew1) | exact HB.out)))); (case aL => have := LMc26.out; omega); intro v159 w28 ho hb hg hat; rw [← Ny158.out] at ho; have n0_ := Aside0.mk (Kd.R_over' (by (with_reducible repeat (first | apply Kd.R_alloc | apply Kd.R_drewN | apply Kd.R_drew)); exact HO_5.out) (Kd.R_typed (by (with_reducible repeat (first | apply Kd.R_alloc | apply Kd.R_drewN | apply Kd.R_drew)); exact HO157.out)) (by decide) hg); have n1_ := Aside0.mk (hb); have n2_ := Aside0.mk (ho); clear HO_5; clear HB; clear HO157; have HO_5 := n0_; have HB := n1_; have HO160 := n2_; clear n0_ n1_ n2_; clear ho hb hg hat))
                                    go_roundg kj16
                                    case measure => have := HK1.out; have := HK2.out; have := HK3.out; have := HJ16.out; omega
                                    case rel => exact ⟨(y158), (wrap64 (x9_3 + 1)), (by first | rfl | (simp; done) | (simp [*]; done)), H', ⟨by have := HK1.out; have := HK2.out; have := HK3.out; have := HJ16.out; omega⟩, ⟨by (with_reducible repeat (first | apply Kd.R_alloc | apply Kd.R_drewN | apply Kd.R_drew)); exact HO_5.out⟩, ⟨by (with_reducible repeat (first | apply Kd.R_alloc | apply Kd.R_drewN | apply Kd.R_drew)); exact HO160.out⟩, ⟨by repeat (first | (with_reducible first | exact HB.out | apply below_alloc | apply pw_below_drewN | apply below_drew1) | exact HB.out)⟩⟩
                                  · rw [if_neg c26] at H
                                    exact absurd H (by simp)
                              · replace c23 := Bool.eq_false_iff.mpr c23
                                subst c23
                                have H1 : (cellarerref11_Diff.l2 kj16 l0 l1 x5_2 y155 (wrap64 (x9_3 + 1))) = some r := by rw [if_neg (show ¬ (false = true) by decide)] at H; exact H
                                clear H
                                have H := H1
                                clear H1
                                have H' := Aside0.mk H
                                clear H
                                go_wp2_with (first | ((with_reducible refine gate_builtin (b := .append) (xs := #[.tmp 72, .tmp 76]) rfl ?_); at_builtin; refine Kd.R_append k33 (w0 := w) w.heap.size rfl (.tmp 72) (.tmp 76) 23 33 (.agg #[(.string ⟨#[]⟩), (.string ⟨#[]⟩), (.bool false)]) 40 rfl Tryz.underlying23 info33 rfl (by decide) (by omega) u8 x8_3 (⟨((rd_T35 x5_2 x9_3).f0), t153, false⟩ : S33) [.string ((rd_T35 x5_2 x9_3).f0), .string t153, .bool false] (fun _ => True) (fun _ => False) rfl rfl ?aP (fun _ hk => hk.elim) ?aF ?aO ?aB ?aS ?aL ?_; (case aP => exact k33_mkM _ _ _ (⟨((rd_T35 x5_2 x9_3).f0), t153, false⟩ : S33)); (case aB => exact (by repeat (first | (with_reducible first | exact HB.out | apply below_alloc | apply pw_below_drewN | apply below_drew1) | exact HB.out))); (case aF => exact (fun _ _ => trivial)); (case aO => exact (by (with_reducible repeat (first | apply Kd.R_alloc | apply Kd.R_drewN | apply Kd.R_drew)); exact HO_8.out)); (case aS => exact (below_size (by repeat (first | (with_reducible first | exact HB.out | apply below_alloc | apply pw_below_drewN | apply below_drew1) | exact HB.out)))); (case aL => have := LMc22.out; omega); intro v156 w29 ho hb hg hat; rw [← Ny155.out] at ho; have n0_ := Aside0.mk (Kd.R_over' (by (with_reducible repeat (first | apply Kd.R_alloc | apply Kd.R_drewN | apply Kd.R_drew)); exact HO_5.out) (Kd.R_typed (by (with_reducible repeat (first | apply Kd.R_alloc | apply Kd.R_drewN | apply Kd.R_drew)); exact HO_8.out)) (by decide) hg); have n1_ := Aside0.mk (hb); have n2_ := Aside0.mk (ho); clear HO_5; clear HB; clear HO_8; have HO_5 := n0_; have HB := n1_; have HO157 := n2_; clear n0_ n1_ n2_; clear ho hb hg hat))
                                go_roundg kj16
                                case measure => have := HK1.out; have := HK2.out; have := HK3.out; have := HJ16.out; omega
                                case rel => exact ⟨(y155), (wrap64 (x9_3 + 1)), (by first | rfl | (simp; done) | (simp [*]; done)), H', ⟨by have := HK1.out; have := HK2.out; have := HK3.out; have := HJ16.out; omega⟩, ⟨by (with_reducible repeat (first | apply Kd.R_alloc | apply Kd.R_drewN | apply Kd.R_drew)); exact HO_5.out⟩, ⟨by (with_reducible repeat (first | apply Kd.R_alloc | apply Kd.R_drewN | apply Kd.R_drew)); exact HO157.out⟩, ⟨by repeat (first | (with_reducible first | exact HB.out | apply below_alloc | apply pw_below_drewN | apply below_drew1) | exact HB.out)⟩⟩
                            · rw [if_neg c22] at H
                              exact absurd H (by simp)
                          · replace c21 := Bool.eq_false_iff.mpr c21
                            subst c21
                            have H1 : (if t152 = true then (if t154 = true then (cellarerref11_Diff.l2 kj16 l0 l1 x5_2 x8_3 (wrap64 (x9_3 + 1))) else (if x8_3.length < 3518437208883 then (cellarerref11_Diff.l2 kj16 l0 l1 x5_2 (x8_3 ++ [(⟨((rd_T35 x5_2 x9_3).f0), (⟨#[]⟩ : ByteArray), true⟩ : S33)]) (wrap64 (x9_3 + 1))) else (none))) else (cellarerref11_Diff.l2 kj16 l0 l1 x5_2 x8_3 (wrap64 (x9_3 + 1)))) = some r := by rw [if_neg (show ¬ (false = true) by decide)] at H; exact H
                            clear H
                            have H := H1
                            clear H1
                            by_cases c30 : t152 = true
                            · subst c30
                              have H1 : (if t154 = true then (cellarerref11_Diff.l2 kj16 l0 l1 x5_2 x8_3 (wrap64 (x9_3 + 1))) else (if x8_3.length < 3518437208883 then (cellarerref11_Diff.l2 kj16 l0 l1 x5_2 (x8_3 ++ [(⟨((rd_T35 x5_2 x9_3).f0), (⟨#[]⟩ : ByteArray), true⟩ : S33)]) (wrap64 (x9_3 + 1))) else (none))) = some r := by rw [if_pos rfl] at H; exact H
                              clear H
                              have H := H1
                              clear H1
                              by_cases c31 : t154 = true
                              · subst c31
                                have H1 : (cellarerref11_Diff.l2 kj16 l0 l1 x5_2 x8_3 (wrap64 (x9_3 + 1))) = some r := by rw [if_pos rfl] at H; exact H
                                clear H
                                have H := H1
                                clear H1
                                have H' := Aside0.mk H
                                clear H
                                go_wp2
                                go_roundg kj16
                                case measure => have := HK1.out; have := HK2.out; have := HK3.out; have := HJ16.out; omega
                                case rel => exact ⟨(x8_3), (wrap64 (x9_3 + 1)), (by first | rfl | (simp; done) | (simp [*]; done)), H', ⟨by have := HK1.out; have := HK2.out; have := HK3.out; have := HJ16.out; omega⟩, ⟨by (with_reducible repeat (first | apply Kd.R_alloc | apply Kd.R_drewN | apply Kd.R_drew)); exact HO_5.out⟩, ⟨by (with_reducible repeat (first | apply Kd.R_alloc | apply Kd.R_drewN | apply Kd.R_drew)); exact HO_8.out⟩, ⟨by repeat (first | (with_reducible first | exact HB.out | apply below_alloc | apply pw_below_drewN | apply below_drew1) | exact HB.out)⟩⟩
                              · replace c31 := Bool.eq_false_iff.mpr c31
                                subst c31
                                have H1 : (if x8_3.length < 3518437208883 then (cellarerref11_Diff.l2 kj16 l0 l1 x5_2 (x8_3 ++ [(⟨((rd_T35 x5_2 x9_3).f0), (⟨#[]⟩ : ByteArray), true⟩ : S33)]) (wrap64 (x9_3 + 1))) else (none)) = some r := by rw [if_neg (show ¬ (false = true) by decide)] at H; exact H
                                clear H
                                have H := H1
                                clear H1
                                by_cases c32 : x8_3.length < 3518437208883
                                · rw [if_pos c32] at H
                                  have LMc32 := Aside0.mk c32
                                  clear c32
                                  obtain ⟨y161, hy161⟩ : ∃ y_ : List (S33), y_ = (x8_3 ++ [(⟨((rd_T35 x5_2 x9_3).f0), (⟨#[]⟩ : ByteArray), true⟩ : S33)]) := ⟨_, rfl⟩
                                  replace H : (cellarerref11_Diff.l2 kj16 l0 l1 x5_2 y161 (wrap64 (x9_3 + 1))) = some r := by first | (rw [hy161]; with_reducible exact H) | (have H2_ := (Option.bind_some _ _).symm.trans H; rw [hy161]; with_reducible exact H2_) | (have H2_ := (Option.bind_some _ _).symm.trans H; with_reducible exact H2_) | with_reducible exact H | (rw [hy161]; exact H) | exact H
                                  have Ny161 := Aside0.mk hy161
                                  clear hy161
                                  have H' := Aside0.mk H
                                  clear H
                                  go_wp2_with (first | ((with_reducible refine gate_builtin (b := .append) (xs := #[.tmp 83, .tmp 86]) rfl ?_); at_builtin; refine Kd.R_append k33 (w0 := w) w.heap.size rfl (.tmp 83) (.tmp 86) 23 33 (.agg #[(.string ⟨#[]⟩), (.string ⟨#[]⟩), (.bool false)]) 40 rfl Tryz.underlying23 info33 rfl (by decide) (by omega) u8 x8_3 (⟨((rd_T35 x5_2 x9_3).f0), (⟨#[]⟩ : ByteArray), true⟩ : S33) [.string ((rd_T35 x5_2 x9_3).f0), .string (⟨#[]⟩ : ByteArray), .bool true] (fun _ => True) (fun _ => False) rfl rfl ?aP (fun _ hk => hk.elim) ?aF ?aO ?aB ?aS ?aL ?_; (case aP => exact k33_mkM _ _ _ (⟨((rd_T35 x5_2 x9_3).f0), (⟨#[]⟩ : ByteArray), true⟩ : S33)); (case aB => exact (by repeat (first | (with_reducible first | exact HB.out | apply below_alloc | apply pw_below_drewN | apply below_drew1) | exact HB.out))); (case aF => exact (fun _ _ => trivial)); (case aO => exact (by (with_reducible repeat (first | apply Kd.R_alloc | apply Kd.R_drewN | apply Kd.R_drew)); exact HO_8.out)); (case aS => exact (below_size (by repeat (first | (with_reducible first | exact HB.out | apply below_alloc | apply pw_below_drewN | apply below_drew1) | exact HB.out)))); (case aL => have := LMc32.out; omega); intro v162 w33 ho hb hg hat; rw [← Ny161.out] at ho; have n0_ := Aside0.mk (Kd.R_over' (by (with_reducible repeat (first | apply Kd.R_alloc | apply Kd.R_drewN | apply Kd.R_drew)); exact HO_5.out) (Kd.R_typed (by (with_reducible repeat (first | apply Kd.R_alloc | apply Kd.R_drewN | apply Kd.R_drew)); exact HO_8.out)) (by decide) hg); have n1_ := Aside0.mk (hb); have n2_ := Aside0.mk (ho); clear HO_5; clear HB; clear HO_8; have HO_5 := n0_; have HB := n1_; have HO163 := n2_; clear n0_ n1_ n2_; clear ho hb hg hat))
                                  go_roundg kj16
                                  case measure => have := HK1.out; have := HK2.out; have := HK3.out; have := HJ16.out; omega
                                  case rel => exact ⟨(y161), (wrap64 (x9_3 + 1)), (by first | rfl | (simp; done) | (simp [*]; done)), H', ⟨by have := HK1.out; have := HK2.out; have := HK3.out; have := HJ16.out; omega⟩, ⟨by (with_reducible repeat (first | apply Kd.R_alloc | apply Kd.R_drewN | apply Kd.R_drew)); exact HO_5.out⟩, ⟨by (with_reducible repeat (first | apply Kd.R_alloc | apply Kd.R_drewN | apply Kd.R_drew)); exact HO163.out⟩, ⟨by repeat (first | (with_reducible first | exact HB.out | apply below_alloc | apply pw_below_drewN | apply below_drew1) | exact HB.out)⟩⟩
                                · rw [if_neg c32] at H
                                  exact absurd H (by simp)
                            · replace c30 := Bool.eq_false_iff.mpr c30
                              subst c30
                              have H1 : (cellarerref11_Diff.l2 kj16 l0 l1 x5_2 x8_3 (wrap64 (x9_3 + 1))) = some r := by rw [if_neg (show ¬ (false = true) by decide)] at H; exact H
                              clear H
                              have H := H1
                              clear H1
                              have H' := Aside0.mk H
                              clear H
                              go_wp2
                              go_roundg kj16
                              case measure => have := HK1.out; have := HK2.out; have := HK3.out; have := HJ16.out; omega
                              case rel => exact ⟨(x8_3), (wrap64 (x9_3 + 1)), (by first | rfl | (simp; done) | (simp [*]; done)), H', ⟨by have := HK1.out; have := HK2.out; have := HK3.out; have := HJ16.out; omega⟩, ⟨by (with_reducible repeat (first | apply Kd.R_alloc | apply Kd.R_drewN | apply Kd.R_drew)); exact HO_5.out⟩, ⟨by (with_reducible repeat (first | apply Kd.R_alloc | apply Kd.R_drewN | apply Kd.R_drew)); exact HO_8.out⟩, ⟨by repeat (first | (with_reducible first | exact HB.out | apply below_alloc | apply pw_below_drewN | apply below_drew1) | exact HB.out)⟩⟩
                    · rw [if_neg c14] at H
                      exact absurd H (by simp)
                  · rw [if_neg c13] at H
                    have c13b0 : decide (x9_3 < (x5_2.length : Int)) = false := decide_eq_false c13
                    clear c13
                    obtain rfl := Option.some.inj H
                    obtain ⟨Ao34, co34, eo34⟩ := Kd.R_slice HO_5.out
                    subst eo34
                    go_wp2
                    go_ret
                    exact ⟨_, by first | rfl | (simp [errW_none, errW_some] <;> rfl) | (simp [*, errW_none, errW_some] <;> rfl), by (with_reducible repeat (first | apply Kd.R_alloc | apply Kd.R_drewN | apply Kd.R_drew)); exact HO_8.out, by repeat (first | (with_reducible first | exact HB.out | apply below_alloc | apply pw_below_drewN | apply below_drew1) | exact HB.out)⟩

end Go.Proofs.YtmckpkiodcmbeaaGreat.Q

-- A1
namespace Go.Proofs.YtmckpkiodcmbeaaGreat.Q
open Go.WideMaps Go.RowKit Go.Proofs.YtmckpkiodcmbeaaGreatW.PrintWords Go.Proofs.YtmckpkiodcmbeaaGreatW.PrintLast Go.Proofs.YtmckpkiodcmbeaaGreatW.PrintMore Go.Maps
set_option linter.unusedVariables false
set_option linter.unusedSimpArgs false

/-! ### names and items in order -/
theorem Lib.hid {p : Prop} (h : p) : Hid p := h
theorem keepc {w w' : World} {p : Addr} {v : Value} (hb : Below w.heap.size w w') (h : w.cell? p = some v) : w'.cell? p = some v := pw_cell_below hb h
theorem keepB {w w1 w2 : World} (h : Hid (Below w.heap.size w w1)) (hb : Below w1.heap.size w1 w2) : Hid (Below w.heap.size w w2) := h.out.trans (hb.mono h.out.size)
theorem bytes_inj {a b : ByteArray} (h : a.data.toList = b.data.toList) : a = b := by
  cases a; cases b
  congr 1
  exact Array.ext' h
theorem lit_ne {a b : ByteArray} (h : a ≠ b) : (Lit.string a.data.toList) ≠ Lit.string b.data.toList := fun e => h (bytes_inj (by injection e))
theorem cb_cons (a b : UInt8) (x y : List UInt8) : Go.Lib.compareBytes (a :: x) (b :: y) = if a < b then -1 else if b < a then 1 else Go.Lib.compareBytes x y := rfl
theorem u8_cases (a b : UInt8) : a < b ∨ a = b ∨ b < a := by
  rcases Nat.lt_trichotomy a.toNat b.toNat with h | h | h
  · exact Or.inl (UInt8.lt_iff_toNat_lt.2 h)
  · exact Or.inr (Or.inl (UInt8.toNat_inj.1 h))
  · exact Or.inr (Or.inr (UInt8.lt_iff_toNat_lt.2 h))
theorem u8_irrefl (a : UInt8) : ¬ a < a := fun h => Nat.lt_irrefl _ (UInt8.lt_iff_toNat_lt.1 h)
theorem u8_asymm {a b : UInt8} (h : a < b) : ¬ b < a := fun h' => by
  have h1 := UInt8.lt_iff_toNat_lt.1 h
  have h2 := UInt8.lt_iff_toNat_lt.1 h'
  omega
theorem u8_trans {a b c : UInt8} (h : a < b) (h' : b < c) : a < c := UInt8.lt_iff_toNat_lt.2 (Nat.lt_trans (UInt8.lt_iff_toNat_lt.1 h) (UInt8.lt_iff_toNat_lt.1 h'))
theorem cb_refl : ∀ x : List UInt8, Go.Lib.compareBytes x x = 0
  | [] => rfl
  | a :: x => by rw [cb_cons, if_neg (u8_irrefl a), if_neg (u8_irrefl a)]; exact cb_refl x
theorem cb_eq : ∀ {x y : List UInt8}, Go.Lib.compareBytes x y = 0 → x = y
  | [], [], _ => rfl
  | [], _ :: _, h => by exact absurd h (by simp [Go.Lib.compareBytes])
  | _ :: _, [], h => by exact absurd h (by simp [Go.Lib.compareBytes])
  | a :: x, b :: y, h => by
    rw [cb_cons] at h
    rcases u8_cases a b with h1 | rfl | h1
    · rw [if_pos h1] at h; exact absurd h (by decide)
    · rw [if_neg (u8_irrefl a), if_neg (u8_irrefl a)] at h; rw [cb_eq h]
    · rw [if_neg (u8_asymm h1), if_pos h1] at h; exact absurd h (by decide)
theorem cb_neg : ∀ x y : List UInt8, Go.Lib.compareBytes y x = - Go.Lib.compareBytes x y
  | [], [] => rfl
  | [], _ :: _ => rfl
  | _ :: _, [] => rfl
  | a :: x, b :: y => by
    rw [cb_cons, cb_cons]
    rcases u8_cases a b with h1 | rfl | h1
    · rw [if_neg (u8_asymm h1), if_pos h1, if_pos h1]; rfl
    · simp only [if_neg (u8_irrefl a)]; exact cb_neg x y
    · rw [if_pos h1, if_neg (u8_asymm h1), if_pos h1]
theorem cb_trans : ∀ {x y z : List UInt8}, Go.Lib.compareBytes x y < 0 → Go.Lib.compareBytes y z < 0 → Go.Lib.compareBytes x z < 0
  | [], [], _, h, _ => by exact absurd h (by decide)
  | [], _ :: _, [], _, h => by exact absurd h (by simp [Go.Lib.compareBytes])
  | [], _ :: _, _ :: _, _, _ => by simp [Go.Lib.compareBytes]
  | _ :: _, [], _, h, _ => by exact absurd h (by simp [Go.Lib.compareBytes])
  | _ :: _, _ :: _, [], _, h => by exact absurd h (by simp [Go.Lib.compareBytes])
  | a :: x, b :: y, c :: z, h, h' => by
    rw [cb_cons] at h h' ⊢
    rcases u8_cases a b with h1 | rfl | h1
    · rcases u8_cases b c with h2 | rfl | h2
      · rw [if_pos (u8_trans h1 h2)]; decide
      · rw [if_pos h1]; decide
      · rw [if_neg (u8_asymm h2), if_pos h2] at h'; exact absurd h' (by decide)
    · rcases u8_cases a c with h2 | rfl | h2
      · rw [if_pos h2]; decide
      · rw [if_neg (u8_irrefl a), if_neg (u8_irrefl a)] at h h' ⊢
        exact cb_trans h h'
      · rw [if_neg (u8_asymm h2), if_pos h2] at h'; exact absurd h' (by decide)
    · rw [if_neg (u8_asymm h1), if_pos h1] at h; exact absurd h (by decide)
/-- a stands ahead of b. -/
def ltN (a b : ByteArray) : Prop := Go.Lib.compareBytes a.data.toList b.data.toList < 0
theorem ltN_irrefl (a : ByteArray) : ¬ ltN a a := by unfold ltN; rw [cb_refl]; decide
theorem ltN_trans {a b c : ByteArray} (h : ltN a b) (h' : ltN b c) : ltN a c := cb_trans h h'
theorem ltN_asymm {a b : ByteArray} (h : ltN a b) : ¬ ltN b a := fun h' => ltN_irrefl a (ltN_trans h h')
theorem ltN_of {a b : ByteArray} (h : a ≠ b) (h' : ¬ ltN b a) : ltN a b := by
  unfold ltN at *
  have h1 := cb_neg a.data.toList b.data.toList
  have h2 : Go.Lib.compareBytes a.data.toList b.data.toList ≠ 0 := fun e => h (bytes_inj (cb_eq e))
  omega
theorem same11_from (xs : List S35) (hx : xs.length ≤ 1000000) : ∀ (n i : Nat), i + n = xs.length → cellarerref11_Same.l0 (n + 1) xs xs (i : Int) = some true
  | 0, i, h => by
    unfold cellarerref11_Same.l0
    rw [if_neg (by omega)]
  | n + 1, i, h => by
    unfold cellarerref11_Same.l0
    rw [if_pos (by omega), if_pos (by omega), if_pos (by omega), if_neg (by simp)]
    have e : wrap64 ((i : Int) + 1) = ((i + 1 : Nat) : Int) := by unfold wrap64; omega
    rw [e]
    exact same11_from xs hx n (i + 1) (by omega)
theorem same11_self (xs : List S35) (hx : xs.length ≤ 1000000) (k : Nat) (hk : xs.length + 1 ≤ k) : cellarerref11_Same.f k xs xs = some true := by
  have h : cellarerref11_Same.f (xs.length + 1) xs xs = some true := by
    unfold cellarerref11_Same.f
    rw [if_pos rfl]
    exact same11_from xs hx xs.length 0 (by omega)
  obtain ⟨d, rfl⟩ : ∃ d, k = xs.length + 1 + d := ⟨k - (xs.length + 1), by omega⟩
  induction d with
  | zero => exact h
  | succ d ih => exact cellarerref11_Same.mono _ _ _ _ (ih (by omega))
theorem bytes_eq {a b : ByteArray} (h : a.toList = b.toList) : a = b := by
  rw [Lib.toList_data, Lib.toList_data] at h
  cases a; cases b
  congr 1
  exact Array.toList_inj.1 h
theorem wrap_i (i : Nat) (h : i < 1000000000) : wrap64 ((i : Int) + 1) = ((i + 1 : Nat) : Int) := by unfold wrap64; omega
theorem rd35 {l : List S35} {i : Nat} (h : i < l.length) : rd_T35 l (i : Int) = l[i] := by unfold rd_T35; simp [h]
def keepI (s : ByteArray) (it : S35) : Bool := !(it.f0.toList == s.toList)
theorem bless_iff : ∀ x y : List UInt8, Op.bytesLess x y = true ↔ Go.Lib.compareBytes x y < 0
  | [], [] => by simp [Op.bytesLess, Go.Lib.compareBytes]
  | [], b :: y => by simp [Op.bytesLess, Go.Lib.compareBytes]
  | a :: x, [] => by simp [Op.bytesLess, Go.Lib.compareBytes]
  | a :: x, b :: y => by
    have ih := bless_iff x y
    unfold Op.bytesLess
    rw [cb_cons]
    by_cases h1 : a < b
    · simp [h1]
    · by_cases h2 : b < a
      · have h3 : a ≠ b := fun e => by subst e; exact h1 h2
        simp [h1, h2, h3]
      · have e : a = b := UInt8.toNat_inj.1 (Nat.le_antisymm (Nat.le_of_not_lt h2) (Nat.le_of_not_lt h1))
        subst e
        simp only [h1, decide_false, Bool.false_or, beq_self_eq_true, Bool.true_and, if_false]
        exact ih
theorem bless_ltN {a b : ByteArray} : Op.bytesLess a.toList b.toList = true ↔ ltN a b := by
  rw [Lib.toList_data, Lib.toList_data, bless_iff]
  rfl
def SI (xs : List S35) : Prop := xs.Pairwise (fun a b => ltN a.f0 b.f0)
theorem sortedI_ext : ∀ {xs ys : List S35}, SI xs → SI ys → (∀ n, n ∈ xs ↔ n ∈ ys) → xs = ys
  | [], [], _, _, _ => rfl
  | [], y :: ys, _, _, h => by exact absurd ((h y).2 List.mem_cons_self) (by simp)
  | x :: xs, [], _, _, h => by exact absurd ((h x).1 List.mem_cons_self) (by simp)
  | x :: xs, y :: ys, hx, hy, h => by
    unfold SI at hx hy
    rw [List.pairwise_cons] at hx hy
    have e : x = y := by
      rcases List.mem_cons.1 ((h x).1 List.mem_cons_self) with e | h1
      · exact e
      · rcases List.mem_cons.1 ((h y).2 List.mem_cons_self) with e | h2
        · exact e.symm
        · exact absurd (hx.1 y h2) (ltN_asymm (hy.1 x h1))
    subst e
    rw [sortedI_ext (xs := xs) (ys := ys) hx.2 hy.2 (fun n => ?_)]
    constructor
    · intro hn
      rcases List.mem_cons.1 ((h n).1 (List.mem_cons_of_mem _ hn)) with rfl | h1
      · exact absurd (hx.1 n hn) (ltN_irrefl _)
      · exact h1
    · intro hn
      rcases List.mem_cons.1 ((h n).2 (List.mem_cons_of_mem _ hn)) with rfl | h1
      · exact absurd (hy.1 n hn) (ltN_irrefl _)
      · exact h1
def upI (a : ByteArray) (it : S35) : Bool := Op.bytesLess a.toList it.f0.toList
def dnI (a : ByteArray) (it : S35) : Bool := Op.bytesLess it.f0.toList a.toList
theorem upI_lt {a : ByteArray} {it : S35} : upI a it = true ↔ ltN a it.f0 := bless_ltN
theorem dnI_lt {a : ByteArray} {it : S35} : dnI a it = true ↔ ltN it.f0 a := bless_ltN
def inL (out : List S35) (x : S35) : List S35 := out.filter (dnI x.f0) ++ [x] ++ out.filter (upI x.f0)
theorem inL_SI {out : List S35} (h : SI out) (x : S35) : SI (inL out x) := by
  unfold SI inL at *
  rw [List.pairwise_append, List.pairwise_append]
  refine ⟨⟨h.filter _, List.pairwise_singleton _ _, fun a ha b hb => ?_⟩, h.filter _, fun a ha b hb => ?_⟩
  · rw [List.mem_singleton.1 hb]
    exact dnI_lt.1 (List.mem_filter.1 ha).2
  · have hb2 := upI_lt.1 (List.mem_filter.1 hb).2
    rcases List.mem_append.1 ha with ha | ha
    · exact ltN_trans (dnI_lt.1 (List.mem_filter.1 ha).2) hb2
    · rw [List.mem_singleton.1 ha]; exact hb2
theorem inL_mem {out : List S35} {x it : S35} : it ∈ inL out x ↔ it = x ∨ (it ∈ out ∧ it.f0 ≠ x.f0) := by
  unfold inL
  rw [List.mem_append, List.mem_append, List.mem_filter, List.mem_filter, List.mem_singleton, dnI_lt, upI_lt]
  constructor
  · rintro ((⟨h, h1⟩ | h) | ⟨h, h1⟩)
    · exact Or.inr ⟨h, fun e => by rw [e] at h1; exact ltN_irrefl _ h1⟩
    · exact Or.inl h
    · exact Or.inr ⟨h, fun e => by rw [e] at h1; exact ltN_irrefl _ h1⟩
  · rintro (h | ⟨h, h1⟩)
    · exact Or.inl (Or.inr h)
    · by_cases h2 : ltN it.f0 x.f0
      · exact Or.inl (Or.inl ⟨h, h2⟩)
      · exact Or.inr ⟨h, ltN_of (fun e => h1 e.symm) h2⟩
theorem take_snoc {α : Type} (l : List α) (k : Nat) (h : k < l.length) : l.take (k + 1) = l.take k ++ [l[k]] := by
  rw [List.take_add_one, List.getElem?_eq_getElem h]; rfl
theorem take_snoc35 (l : List S35) (k : Nat) (h : k < l.length) : l.take (k + 1) = l.take k ++ [l[k]] := by rw [List.take_succ_eq_append_getElem h]
theorem in_l1 (out pre : List S35) (a b : ByteArray) (K : Nat) (ho : out.length ≤ 1000) (hp : pre.length ≤ 2000) :
    ∀ (n i : Nat), i + n = out.length → cellarerref11_in.l1 (K + n + 1) out (pre ++ (out.take i).filter (upI a)) (i : Int) a b = some (pre ++ out.filter (upI a))
  | 0, i, e => by
    have hi : i = out.length := by omega
    subst hi
    unfold cellarerref11_in.l1
    rw [if_neg (by omega), List.take_length]
  | n + 1, i, e => by
    have hi : i < out.length := by omega
    have hl : ((out.take i).filter (upI a)).length ≤ 1000 := Nat.le_trans (List.length_filter_le _ _) (by rw [List.length_take]; omega)
    have ih := in_l1 out pre a b K ho hp n (i + 1) (by omega)
    rw [take_snoc35 out i hi, List.filter_append] at ih
    unfold cellarerref11_in.l1
    rw [if_pos (by omega), if_pos (by omega), rd35 hi, wrap_i i (by omega)]
    by_cases h : Op.bytesLess a.toList out[i].f0.toList = true
    · rw [if_pos h, if_pos (by rw [List.length_append]; omega)]
      rw [List.filter_cons_of_pos (p := upI a) h, List.filter_nil, ← List.append_assoc] at ih
      exact ih
    · rw [if_neg h]
      rw [List.filter_cons_of_neg (p := upI a) h, List.filter_nil, List.append_nil] at ih
      exact ih
theorem in_l0 (out : List S35) (a b : ByteArray) (K : Nat) (ho : out.length ≤ 1000) :
    ∀ (n i : Nat), i + n = out.length → cellarerref11_in.l0 (K + n + 1) out ((out.take i).filter (dnI a)) (i : Int) a b =
      cellarerref11_in.l1 K out (out.filter (dnI a) ++ [⟨a, b⟩]) 0 a b
  | 0, i, e => by
    have hi : i = out.length := by omega
    subst hi
    have hl := List.length_filter_le (dnI a) out
    unfold cellarerref11_in.l0
    rw [if_neg (by omega), List.take_length, if_pos (by omega)]
  | n + 1, i, e => by
    have hi : i < out.length := by omega
    have hl : ((out.take i).filter (dnI a)).length ≤ 1000 := Nat.le_trans (List.length_filter_le _ _) (by rw [List.length_take]; omega)
    have ih := in_l0 out a b K ho n (i + 1) (by omega)
    rw [take_snoc35 out i hi, List.filter_append] at ih
    unfold cellarerref11_in.l0
    rw [if_pos (by omega), if_pos (by omega), rd35 hi, wrap_i i (by omega)]
    by_cases h : Op.bytesLess out[i].f0.toList a.toList = true
    · rw [if_pos h, if_pos (by omega)]
      rw [List.filter_cons_of_pos (p := dnI a) h, List.filter_nil] at ih
      exact ih
    · rw [if_neg h]
      rw [List.filter_cons_of_neg (p := dnI a) h, List.filter_nil, List.append_nil] at ih
      exact ih
theorem in_f (out : List S35) (a b : ByteArray) (k : Nat) (ho : out.length ≤ 1000) (hk : 2 * out.length + 2 ≤ k) : cellarerref11_in.f k out a b = some (inL out ⟨a, b⟩) := by
  unfold cellarerref11_in.f
  obtain ⟨K, rfl⟩ : ∃ K, k = (K + out.length + 1) + out.length + 1 := ⟨k - (2 * out.length + 2), by omega⟩
  have h0 := in_l0 out a b (K + out.length + 1) ho out.length 0 (by omega)
  have hl := List.length_filter_le (dnI a) out
  have h1 := in_l1 out (out.filter (dnI a) ++ [⟨a, b⟩]) a b K ho (by rw [List.length_append]; show _ + 1 ≤ _; omega) out.length 0 (by omega)
  rw [List.take_zero, List.filter_nil] at h0
  rw [List.take_zero, List.filter_nil, List.append_nil] at h1
  exact h0.trans h1
def stepI (out : List S35) (c : S33) : List S35 := if c.f2 = true then (inL out ⟨c.f0, c.f1⟩).filter (keepI c.f0) else inL out ⟨c.f0, c.f1⟩
theorem stepI_SI {out : List S35} (h : SI out) (c : S33) : SI (stepI out c) := by
  unfold stepI
  split
  · exact (inL_SI h _).filter _
  · exact inL_SI h _
theorem rd33 {l : List S33} {i : Nat} (h : i < l.length) : rd_T33 l (i : Int) = l[i] := by unfold rd_T33; simp [h]
theorem with_l2 (C : List S33) (out : List S35) (i : Nat) (hi : i < C.length) (K : Nat) (ho : out.length ≤ 1000) (hC : C.length ≤ 1000) :
    ∀ (n j : Nat), j + n = out.length → cellarerref11_With.l2 (K + n + 1) C out (i : Int) ((out.take j).filter (keepI C[i].f0)) (j : Int) = cellarerref11_With.l1 K C (out.filter (keepI C[i].f0)) ((i + 1 : Nat) : Int)
  | 0, j, e => by
    have hj : j = out.length := by omega
    subst hj
    unfold cellarerref11_With.l2
    rw [if_neg (by omega), List.take_length, wrap_i i (by omega)]
  | n + 1, j, e => by
    have hj : j < out.length := by omega
    have hl : ((out.take j).filter (keepI C[i].f0)).length ≤ 1000 := Nat.le_trans (List.length_filter_le _ _) (by rw [List.length_take]; omega)
    have ih := with_l2 C out i hi K ho hC n (j + 1) (by omega)
    rw [take_snoc35 out j hj, List.filter_append] at ih
    unfold cellarerref11_With.l2
    rw [if_pos (by omega), if_pos (by omega), if_pos (by omega), if_pos (by omega), rd35 hj, rd33 hi, wrap_i j (by omega)]
    by_cases h : out[j].f0.toList = C[i].f0.toList
    · rw [if_pos h]
      rw [List.filter_cons_of_neg (by simp [keepI, h]), List.filter_nil, List.append_nil] at ih
      exact ih
    · rw [if_neg h, if_pos (by omega)]
      rw [List.filter_cons_of_pos (by simp [keepI, h]), List.filter_nil] at ih
      exact ih
end Go.Proofs.YtmckpkiodcmbeaaGreat.Q

-- A2
namespace Go.Proofs.YtmckpkiodcmbeaaGreat.Q
open Go.RowKit Go.Proofs.YtmckpkiodcmbeaaGreatW.PrintWords Go.Proofs.YtmckpkiodcmbeaaGreatW.PrintLast Go.Proofs.YtmckpkiodcmbeaaGreatW.PrintMore
set_option linter.unusedVariables false
set_option linter.unusedSimpArgs false

/-! ### items as a function of names -/
def putF (f : ByteArray → Option ByteArray) (a b : ByteArray) : ByteArray → Option ByteArray := fun nm => if nm = a then some b else f nm
def delF (f : ByteArray → Option ByteArray) (a : ByteArray) : ByteArray → Option ByteArray := fun nm => if nm = a then none else f nm
def valF (f : ByteArray → Option ByteArray) (l : List S35) : ByteArray → Option ByteArray := l.foldl (fun g x => putF g x.f0 x.f1) f
def valL (l : List S35) : ByteArray → Option ByteArray := valF (fun _ => none) l
def stepF (f : ByteArray → Option ByteArray) (c : S33) : ByteArray → Option ByteArray := if c.f2 = true then delF f c.f0 else putF f c.f0 c.f1
def chgF (f : ByteArray → Option ByteArray) (C : List S33) : ByteArray → Option ByteArray := C.foldl stepF f
def RepF (xs : List S35) (f : ByteArray → Option ByteArray) : Prop := ∀ it : S35, it ∈ xs ↔ f it.f0 = some it.f1
def normFrom (out l : List S35) : List S35 := l.foldl inL out
def normL (l : List S35) : List S35 := normFrom [] l
def withL (out : List S35) (C : List S33) : List S35 := C.foldl stepI out
theorem repF_nil : RepF [] (fun _ => none) := fun it => ⟨fun h => (by cases h), fun h => (by cases h)⟩
theorem repF_in {out : List S35} {f : ByteArray → Option ByteArray} (h : RepF out f) (x : S35) : RepF (inL out x) (putF f x.f0 x.f1) := by
  intro it
  rw [inL_mem, h it]
  unfold putF
  by_cases e : it.f0 = x.f0
  · rw [if_pos e]
    constructor
    · rintro (rfl | ⟨_, hn⟩)
      · rfl
      · exact absurd e hn
    · intro hh
      injection hh with hh
      left
      obtain ⟨i0, i1⟩ := it
      obtain ⟨x0, x1⟩ := x
      simp only at e hh
      rw [e, hh]
  · rw [if_neg e]
    constructor
    · rintro (rfl | ⟨hh, _⟩)
      · exact absurd rfl e
      · exact hh
    · exact fun hh => .inr ⟨hh, e⟩
theorem keepI_iff {s : ByteArray} {it : S35} : keepI s it = true ↔ it.f0 ≠ s := by
  unfold keepI
  simp only [Bool.not_eq_true', beq_eq_false_iff_ne]
  exact ⟨fun h e => h (by rw [e]), fun h e => h (bytes_eq e)⟩
theorem repF_step {out : List S35} {f : ByteArray → Option ByteArray} (h : RepF out f) (c : S33) : RepF (stepI out c) (stepF f c) := by
  unfold stepI stepF
  split
  · intro it
    rw [List.mem_filter, keepI_iff, repF_in h ⟨c.f0, c.f1⟩ it]
    unfold putF delF
    by_cases e : it.f0 = c.f0
    · rw [if_pos e, if_pos e]
      exact ⟨fun hh => absurd e hh.2, fun hh => by cases hh⟩
    · rw [if_neg e, if_neg e]
      exact ⟨fun hh => hh.1, fun hh => ⟨hh, e⟩⟩
  · exact repF_in h ⟨c.f0, c.f1⟩
theorem normFrom_ok : ∀ (l out : List S35) (f : ByteArray → Option ByteArray), SI out → RepF out f → SI (normFrom out l) ∧ RepF (normFrom out l) (valF f l)
  | [], out, f, h, hr => ⟨h, hr⟩
  | x :: l, out, f, h, hr => normFrom_ok l (inL out x) _ (inL_SI h x) (repF_in hr x)
theorem normL_ok (l : List S35) : SI (normL l) ∧ RepF (normL l) (valL l) := normFrom_ok l [] _ List.Pairwise.nil repF_nil
theorem withL_ok : ∀ (C : List S33) (out : List S35) (f : ByteArray → Option ByteArray), SI out → RepF out f → SI (withL out C) ∧ RepF (withL out C) (chgF f C)
  | [], out, f, h, hr => ⟨h, hr⟩
  | c :: C, out, f, h, hr => withL_ok C (stepI out c) _ (stepI_SI h c) (repF_step hr c)
theorem repF_unique {xs ys : List S35} {f : ByteArray → Option ByteArray} (h1 : SI xs) (h2 : SI ys) (r1 : RepF xs f) (r2 : RepF ys f) : xs = ys :=
  sortedI_ext h1 h2 (fun it => (r1 it).trans (r2 it).symm)
theorem normFrom_len : ∀ (l out : List S35), SI out → (normFrom out l).length ≤ out.length + l.length
  | [], out, _ => Nat.le_refl _
  | x :: l, out, h => by
    have h1 := normFrom_len l (inL out x) (inL_SI h x)
    have h2 : (inL out x).length ≤ out.length + 1 := by
      unfold inL
      have hp : (out.filter (dnI x.f0)).length + (out.filter (upI x.f0)).length ≤ out.length := by
        clear h h1
        induction out with
        | nil => exact Nat.le_refl _
        | cons y ys ih =>
          by_cases a : dnI x.f0 y = true
          · have b : ¬ upI x.f0 y = true := by rw [upI_lt]; exact ltN_asymm (dnI_lt.1 a)
            rw [List.filter_cons_of_pos a, List.filter_cons_of_neg b, List.length_cons, List.length_cons]; omega
          · by_cases b : upI x.f0 y = true
            · rw [List.filter_cons_of_neg a, List.filter_cons_of_pos b, List.length_cons, List.length_cons]; omega
            · rw [List.filter_cons_of_neg a, List.filter_cons_of_neg b, List.length_cons]; omega
      rw [List.length_append, List.length_append, List.length_singleton]
      omega
    show (normFrom (inL out x) l).length ≤ _
    rw [List.length_cons]
    omega
theorem inL_len1 {out : List S35} (x : S35) : (inL out x).length ≤ out.length + 1 := by
  unfold inL
  have hp : (out.filter (dnI x.f0)).length + (out.filter (upI x.f0)).length ≤ out.length := by
    induction out with
    | nil => exact Nat.le_refl _
    | cons y ys ih =>
      by_cases a : dnI x.f0 y = true
      · have b : ¬ upI x.f0 y = true := by rw [upI_lt]; exact ltN_asymm (dnI_lt.1 a)
        rw [List.filter_cons_of_pos a, List.filter_cons_of_neg b, List.length_cons, List.length_cons]; omega
      · by_cases b : upI x.f0 y = true
        · rw [List.filter_cons_of_neg a, List.filter_cons_of_pos b, List.length_cons, List.length_cons]; omega
        · rw [List.filter_cons_of_neg a, List.filter_cons_of_neg b, List.length_cons]; omega
  rw [List.length_append, List.length_append, List.length_singleton]
  omega
theorem stepI_len (out : List S35) (c : S33) : (stepI out c).length ≤ out.length + 1 := by
  unfold stepI
  split
  · exact Nat.le_trans (List.length_filter_le _ _) (inL_len1 _)
  · exact inL_len1 _
theorem withL_len : ∀ (C : List S33) (out : List S35), (withL out C).length ≤ out.length + C.length
  | [], out => Nat.le_refl _
  | c :: C, out => by
    have h1 := withL_len C (stepI out c)
    have h2 := stepI_len out c
    show (withL (stepI out c) C).length ≤ _
    rw [List.length_cons]; omega

/-! ### changes between -/
def SC (xs : List S33) : Prop := xs.Pairwise (fun a b => ltN a.f0 b.f0)
def diffF (fa fb : ByteArray → Option ByteArray) (nm : ByteArray) : Option S33 :=
  match fb nm, fa nm with
  | some s, some t => if t = s then none else some ⟨nm, s, false⟩
  | some s, none => some ⟨nm, s, false⟩
  | none, some _ => some ⟨nm, ⟨#[]⟩, true⟩
  | none, none => none
def diffL (a b : List S35) : List S33 := (normFrom (normL a) b).filterMap (fun it => diffF (valL a) (valL b) it.f0)
theorem diffF_name {fa fb : ByteArray → Option ByteArray} {nm : ByteArray} {c : S33} (h : diffF fa fb nm = some c) : c.f0 = nm := by
  unfold diffF at h
  split at h
  · split at h
    · cases h
    · injection h with h; rw [← h]
  · injection h with h; rw [← h]
  · injection h with h; rw [← h]
  · cases h
theorem diffF_none {fa fb : ByteArray → Option ByteArray} {nm : ByteArray} : diffF fa fb nm = none ↔ fa nm = fb nm := by
  unfold diffF
  cases fb nm <;> cases fa nm <;> simp <;> try rfl
theorem sortedC_ext : ∀ {xs ys : List S33}, SC xs → SC ys → (∀ n, n ∈ xs ↔ n ∈ ys) → xs = ys
  | [], [], _, _, _ => rfl
  | [], y :: ys, _, _, h => by exact absurd ((h y).2 List.mem_cons_self) (by simp)
  | x :: xs, [], _, _, h => by exact absurd ((h x).1 List.mem_cons_self) (by simp)
  | x :: xs, y :: ys, hx, hy, h => by
    unfold SC at hx hy
    rw [List.pairwise_cons] at hx hy
    have e : x = y := by
      rcases List.mem_cons.1 ((h x).1 List.mem_cons_self) with e | h1
      · exact e
      · rcases List.mem_cons.1 ((h y).2 List.mem_cons_self) with e | h2
        · exact e.symm
        · exact absurd (hx.1 y h2) (ltN_asymm (hy.1 x h1))
    subst e
    rw [sortedC_ext (xs := xs) (ys := ys) hx.2 hy.2 (fun n => ?_)]
    constructor
    · intro hn
      rcases List.mem_cons.1 ((h n).1 (List.mem_cons_of_mem _ hn)) with rfl | h1
      · exact absurd (hx.1 n hn) (ltN_irrefl _)
      · exact h1
    · intro hn
      rcases List.mem_cons.1 ((h n).2 (List.mem_cons_of_mem _ hn)) with rfl | h1
      · exact absurd (hy.1 n hn) (ltN_irrefl _)
      · exact h1
theorem fm_SC (g : ByteArray → Option S33) (hg : ∀ nm c, g nm = some c → c.f0 = nm) : ∀ xs : List S35, SI xs → SC (xs.filterMap fun it => g it.f0)
  | [], _ => List.Pairwise.nil
  | x :: xs, h => by
    unfold SI at h
    rw [List.pairwise_cons] at h
    rw [List.filterMap_cons]
    cases hx : g x.f0 with
    | none => exact fm_SC g hg xs h.2
    | some c =>
      unfold SC
      rw [List.pairwise_cons]
      refine ⟨fun d hd => ?_, fm_SC g hg xs h.2⟩
      obtain ⟨y, hy, hy2⟩ := List.mem_filterMap.1 hd
      rw [hg _ _ hx, hg _ _ hy2]
      exact h.1 y hy
theorem diffL_SC (a b : List S35) : SC (diffL a b) := fm_SC _ (fun _ _ h => diffF_name h) _ (normFrom_ok b _ _ (normL_ok a).1 (normL_ok a).2).1
theorem valF_some : ∀ (l : List S35) (f : ByteArray → Option ByteArray) (nm : ByteArray), (valF f l nm).isSome = true ↔ (f nm).isSome = true ∨ ∃ x ∈ l, x.f0 = nm
  | [], f, nm => by simp [valF]
  | x :: l, f, nm => by
    show (valF (putF f x.f0 x.f1) l nm).isSome = true ↔ _
    rw [valF_some l]
    unfold putF
    by_cases e : nm = x.f0
    · rw [if_pos e]; simp [e]
    · rw [if_neg e]
      constructor
      · rintro (h | ⟨y, h1, h2⟩)
        · exact .inl h
        · exact .inr ⟨y, List.mem_cons_of_mem _ h1, h2⟩
      · rintro (h | ⟨y, h1, h2⟩)
        · exact .inl h
        · rcases List.mem_cons.1 h1 with rfl | h1
          · exact absurd h2.symm e
          · exact .inr ⟨y, h1, h2⟩
theorem diffL_mem (a b : List S35) (c : S33) : c ∈ diffL a b ↔ diffF (valL a) (valL b) c.f0 = some c := by
  unfold diffL
  rw [List.mem_filterMap]
  constructor
  · rintro ⟨it, _, h⟩
    have := diffF_name h
    rw [this]; exact h
  · intro h
    obtain ⟨_, hr⟩ := normFrom_ok b _ _ (normL_ok a).1 (normL_ok a).2
    have hs : (valF (valL a) b c.f0).isSome = true := by
      rw [valF_some]
      by_cases e : (valL a c.f0).isSome = true
      · exact .inl e
      · right
        have hb : (valL b c.f0).isSome = true := by
          cases h1 : valL b c.f0 with
          | some s => rfl
          | none =>
            have h2 : valL a c.f0 = none := by simpa using e
            exact absurd ((diffF_none (fa := valL a) (fb := valL b)).2 (by rw [h1, h2])) (by rw [h]; simp)
        have := (valF_some b (fun _ => none) c.f0).1 hb
        rcases this with h1 | h1
        · cases h1
        · exact h1
    obtain ⟨s, hs⟩ := Option.isSome_iff_exists.1 hs
    exact ⟨⟨c.f0, s⟩, (hr ⟨c.f0, s⟩).2 hs, h⟩
theorem diffL_len (a b : List S35) : (diffL a b).length ≤ a.length + b.length := by
  unfold diffL
  refine Nat.le_trans (List.length_filterMap_le _ _) ?_
  have h1 := normFrom_len b (normL a) (normL_ok a).1
  have h2 := normFrom_len a [] List.Pairwise.nil
  unfold normL at h1 ⊢
  simp at h2
  omega
end Go.Proofs.YtmckpkiodcmbeaaGreat.Q

-- G2
namespace Go.Proofs.YtmckpkiodcmbeaaGreat.Q
open Go.RowKit Go.Proofs.YtmckpkiodcmbeaaGreatW.PrintWords Go.Proofs.YtmckpkiodcmbeaaGreatW.PrintLast Go.Proofs.YtmckpkiodcmbeaaGreatW.PrintMore
set_option linter.unusedVariables false
/-! ### sizes; blocks of two and of three cells -/
theorem info_size9 : (Tryz.prog.info? 9).map (·.size) = some 1 := by kernel_rfl
theorem info_size35 : (Tryz.prog.info? 35).map (·.size) = some 2 := by kernel_rfl
theorem info_size33 : (Tryz.prog.info? 33).map (·.size) = some 3 := by kernel_rfl
theorem belowA (w : World) (o : Obj) : Below w.heap.size w (w.alloc o) := (Below.refl _ _).alloc (Nat.le_refl _) o
end Go.Proofs.YtmckpkiodcmbeaaGreat.Q
