/- The law ItemsGoes of the seat: a depot's items, turned by the changes between two depots, go to the other's. Part 23 of 26. -/
import Derived.Test.YtafeepdlcilicaaGreatCg1
import Derived.Deep.DeepMust
import Derived.Deep.RegionHeld3
import Derived.Maps.OwnSet
import Derived.Maps.RangeWalk
import Derived.ProofKit
import Derived.Deep.Strs
import Derived.Lib.SmallJoins
-- Qx7
namespace Go.Proofs.YtafeepdlcilicaaGreat.Q
open Go.RowKit Go.Proofs.YtafeepdlcilicaaGreatW.PrintWords Go.Proofs.YtafeepdlcilicaaGreatW.PrintLast Go.Proofs.YtafeepdlcilicaaGreatW.PrintMore
attribute [local go_sem] binOp_string_gtr2
attribute [local go_sem] max2_int min2_int max_two min_two max_three min_three max_four min_four
set_option linter.unusedVariables false
set_option linter.unusedSimpArgs false

/-! ### index_Count: function 110 -/
mutual
def index_Count.l0 : Nat → Int → Int → List (S38) → Int → Int → Option (Int × Int)
 | 0, _, _, _, _, _ => none
 | k + 1, x4, x5, x10, x11, x12 => if x12 < x11 then (if 0 ≤ x12 then (if x12 < (x10.length : Int) then (index_Count.l1 k (wrap64 (x4 + (((rd_T38 x10 x12).f1).length : Int))) x5 x10 x11 x12 ((rd_T38 x10 x12).f1) (((rd_T38 x10 x12).f1).length : Int) 0) else (none)) else (none)) else (some (x4, x5))
def index_Count.l1 : Nat → Int → Int → List (S38) → Int → Int → List (S80) → Int → Int → Option (Int × Int)
 | 0, _, _, _, _, _, _, _, _ => none
 | k + 1, x4, x5, x10, x11, x12, x22, x23, x24 => if x24 < x23 then (if 0 ≤ x24 then (if x24 < (x22.length : Int) then (index_Count.l1 k x4 (wrap64 (x5 + (((rd_T80 x22 x24).f1).size : Int))) x10 x11 x12 x22 x23 (wrap64 (x24 + 1))) else (none)) else (none)) else (index_Count.l0 k x4 x5 x10 x11 (wrap64 (x12 + 1)))
end
def index_Count.f (k : Nat) (l0 : List (S38)) : Option (Int × Int) := index_Count.l0 k 0 0 l0 (l0.length : Int) 0
theorem index_Count.mono_l : ∀ k, (∀ y0 y1 y2 y3 y4, LeO (index_Count.l0 k y0 y1 y2 y3 y4) (index_Count.l0 (k + 1) y0 y1 y2 y3 y4)) ∧ (∀ y0 y1 y2 y3 y4 y5 y6 y7, LeO (index_Count.l1 k y0 y1 y2 y3 y4 y5 y6 y7) (index_Count.l1 (k + 1) y0 y1 y2 y3 y4 y5 y6 y7))
 | 0 => ⟨fun _ _ _ _ _ r h => by simp [index_Count.l0] at h, fun _ _ _ _ _ _ _ _ r h => by simp [index_Count.l1] at h⟩
 | k + 1 => by
  obtain ⟨ih0, ih1⟩ := index_Count.mono_l k
  refine ⟨?_, ?_⟩
  ·intro y0 y1 y2 y3 y4
   unfold index_Count.l0
   repeat' first
   | (with_reducible exact ih0 _ _ _ _ _)
   | (with_reducible exact ih1 _ _ _ _ _ _ _ _)
   | (with_reducible exact LeO.refl _)
   | (with_reducible exact LeO.none _)
   | (with_reducible refine LeO.ite ?_ ?_)
   | (with_reducible refine LeO.bind ?_ (fun _ => ?_))
   | exact ih0 _ _ _ _ _
   | exact ih1 _ _ _ _ _ _ _ _
   | exact LeO.none _
   | refine LeO.ite ?_ ?_
   | refine LeO.bind ?_ (fun _ => ?_)
  ·intro y0 y1 y2 y3 y4 y5 y6 y7
   unfold index_Count.l1
   repeat' first
   | (with_reducible exact ih0 _ _ _ _ _)
   | (with_reducible exact ih1 _ _ _ _ _ _ _ _)
   | (with_reducible exact LeO.refl _)
   | (with_reducible exact LeO.none _)
   | (with_reducible refine LeO.ite ?_ ?_)
   | (with_reducible refine LeO.bind ?_ (fun _ => ?_))
   | exact ih0 _ _ _ _ _
   | exact ih1 _ _ _ _ _ _ _ _
   | exact LeO.none _
   | refine LeO.ite ?_ ?_
   | refine LeO.bind ?_ (fun _ => ?_)
theorem index_Count.mono : ∀ a0 k, LeO (index_Count.f k a0) (index_Count.f (k + 1) a0) := by
 intro a0 k
 obtain ⟨ih0, ih1⟩ := index_Count.mono_l k
 unfold index_Count.f
 repeat' first
   | (with_reducible exact ih0 _ _ _ _ _)
   | (with_reducible exact ih1 _ _ _ _ _ _ _ _)
   | (with_reducible exact LeO.refl _)
   | (with_reducible exact LeO.none _)
   | (with_reducible refine LeO.ite ?_ ?_)
   | (with_reducible refine LeO.bind ?_ (fun _ => ?_))
   | exact ih0 _ _ _ _ _
   | exact ih1 _ _ _ _ _ _ _ _
   | exact LeO.none _
   | refine LeO.ite ?_ ?_
   | refine LeO.bind ?_ (fun _ => ?_)
set_option maxHeartbeats 8000000 in
set_option maxRecDepth 100000 in
theorem index_Count.calls (k : Nat) (A0 : Option Addr) (c0 : Nat) (l0 : List (S38)) (r1 : Int) (r2 : Int) (w : World) (hr0 : Kd.C k38 w A0 l0.length l0) (hc0 : l0.length ≤ c0) (h : index_Count.f k l0 = some (r1, r2)) :
  Calls Tryz.prog 110 #[.slice A0 l0.length c0] w fun e w' => e = .returned (.tuple #[.int .i64 r1, .int .i64 r2]) ∧ Below w.heap.size w w' := by
 have hu38 := Tryz.underlying38
 have hu80 := Tryz.underlying80
 have HR0 := Aside0.mk hr0
 have HC0 := Aside0.mk hc0
 clear hr0 hc0
 have HB := Aside0.mk (Below.refl w.heap.size w)
 have H : (index_Count.l0 k 0 0 l0 (l0.length : Int) 0) = some (r1, r2) := h
 clear h
 have H' := Aside0.mk H
 clear H
 go_enter Tryz.func110, Tryz.ntmps110
 go_wp2
 go_loopg [4, 5, 12] k (fun kq v4 v5 v12 w' => ∃ (x4_1 : Int) (x5_1 : Int) (x12_1 : Int), v4 = .int .i64 x4_1 ∧ v5 = .int .i64 x5_1 ∧ v12 = .int .i64 x12_1 ∧ Aside0 (index_Count.l0 kq x4_1 x5_1 l0 (l0.length : Int) x12_1 = some (r1, r2)) ∧ Aside0 (kq ≤ k) ∧ Aside0 (Below w.heap.size w w'))
 case atStart => exact ⟨(0), (0), (0), (by first | rfl | (simp; done) | (simp [*]; done)), (by first | rfl | (simp; done) | (simp [*]; done)), (by first | rfl | (simp; done) | (simp [*]; done)), H', ⟨Nat.le_refl _⟩, ⟨by repeat (first | (with_reducible first | exact HB.out | apply below_alloc | apply pw_below_drewN | apply below_drew1) | exact HB.out)⟩⟩
 case round =>
  clear H'
  try clear c1
  obtain ⟨x4_1, x5_1, x12_1, rfl, rfl, rfl, HA, HK1, HB⟩ := hrel
  cases gk with
  | zero => exact absurd HA.out (by simp [index_Count.l0])
  | succ k1 =>
   have H := HA.out
   clear HA
   simp only [index_Count.l0] at H
   by_cases c2 : x12_1 < (l0.length : Int)
   ·rw [if_pos c2] at H
    have c2b0 : decide (x12_1 < (l0.length : Int)) = true := decide_eq_true c2
    clear c2
    by_cases c3 : 0 ≤ x12_1
    ·rw [if_pos c3] at H
     have c3b0 : decide (0 ≤ x12_1) = true := decide_eq_true c3
     clear c3
     by_cases c4 : x12_1 < (l0.length : Int)
     ·rw [if_pos c4] at H
      have c4b0 : decide (x12_1 < (l0.length : Int)) = true := decide_eq_true c4
      clear c4
      have H' := Aside0.mk H
      clear H
      have p172 : 0 ≤ (x12_1 : Int) := of_decide_eq_true (by first | (with_reducible assumption) | assumption)
      have q172 : x12_1 < (l0.length : Int) := of_decide_eq_true (by first | (with_reducible assumption) | assumption)
      obtain ⟨ad172, A172_1, c172_1, e172, hx172_0, hx172_1, hl172_1, hi172_1⟩ := at_T38 HR0.out x12_1 p172 q172
      cases e172
      replace hx172_0 := (HB.out.cell (World.block_lt_of_cell? w _ hx172_0)).trans hx172_0
      replace hx172_1 := (HB.out.cell (World.block_lt_of_cell? w _ hx172_1)).trans hx172_1
      have HR172_1 := Aside0.mk hi172_1
      have HC172_1 := Aside0.mk hl172_1
      clear hi172_1 hl172_1
      replace p172 := eq_true p172
      replace q172 := eq_true q172
      go_wp2_with (first | ((with_reducible refine gate_dst (N := 7) rfl ?_); refine box_event ?hg (N := 7) ?hd (cs := #[.string (⟨#[]⟩ : ByteArray), .slice none 0 0]) (t := 38) ?hr ?_; (case hd => rfl); (case hg => rfl); (case hr => first | (go_simp; done) | (go_simp; rfl)); intro gb173 hg w5 hbox hb; have n0_ := Aside0.mk (below_step (by repeat (first | (with_reducible first | exact HB.out | apply below_alloc | apply pw_below_drewN | apply below_drew1) | exact HB.out)) hb); have n1_ := Aside0.mk (hbox); have n2_ := Aside0.mk ((by rw [hg]; exact (below_size (by repeat (first | (with_reducible first | exact HB.out | apply below_alloc | apply pw_below_drewN | apply below_drew1) | exact HB.out))) : w.heap.size ≤ gb173)); have n3_ := Aside0.mk ((by rw [hg]; exact (below_size (by repeat (first | (with_reducible first | exact HB.out | apply below_alloc | apply pw_below_drewN | apply below_drew1) | exact HB.out))) : w.heap.size ≤ gb173)); clear HB; have HB := n0_; have BK173 := n1_; have GW173 := n2_; have GE173 := n3_; clear n0_ n1_ n2_ n3_; clear hb hbox hg; have hcz6_0 : w5.cell? ⟨gb173, 0, none⟩ = some (.string (⟨#[]⟩ : ByteArray)) := (blk_cell BK173.out 0).trans rfl; have hcz6_1 : w5.cell? ⟨gb173, 1, none⟩ = some (.slice none 0 0) := (blk_cell BK173.out 1).trans rfl; have hfz6_0 := blk_frozen BK173.out 0; have hfz6_1 := blk_frozen BK173.out 1))
      go_loopg [5, 24] k1 (fun kq v5 v24 w' => ∃ (x5_2 : Int) (x24_2 : Int), v5 = .int .i64 x5_2 ∧ v24 = .int .i64 x24_2 ∧ Aside0 (index_Count.l1 kq (wrap64 (x4_1 + (((rd_T38 l0 x12_1).f1).length : Int))) x5_2 l0 (l0.length : Int) x12_1 ((rd_T38 l0 x12_1).f1) (((rd_T38 l0 x12_1).f1).length : Int) x24_2 = some (r1, r2)) ∧ Aside0 (kq ≤ k1) ∧ Aside0 (w'.heap[gb173]? = some (.cells #[.string ((rd_T38 l0 x12_1).f0), (.slice A172_1 ((rd_T38 l0 x12_1).f1).length c172_1)] 38 (0, 0))) ∧ Aside0 (Below w.heap.size w w'))
      case atStart => exact ⟨(x5_1), (0), (by first | rfl | (simp; done) | (simp [*]; done)), (by first | rfl | (simp; done) | (simp [*]; done)), H', ⟨Nat.le_refl _⟩, ⟨by (with_reducible repeat (first | refine blk_drewN ?_ _ | refine blk_drew ?_ | refine blk_alloc ?_ _)); refine blk_put (cs := #[.string ((rd_T38 l0 x12_1).f0), .slice none 0 0]) ?_ 1 _ rfl; (with_reducible repeat (first | refine blk_drewN ?_ _ | refine blk_drew ?_ | refine blk_alloc ?_ _)); refine blk_put (cs := #[.string (⟨#[]⟩ : ByteArray), .slice none 0 0]) ?_ 0 _ rfl; (with_reducible repeat (first | refine blk_drewN ?_ _ | refine blk_drew ?_ | refine blk_alloc ?_ _)); exact BK173.out⟩, ⟨by repeat (first | (with_reducible first | exact HB.out | apply below_alloc | apply pw_below_drewN | apply below_drew1 | refine below_set ?_ GE173.out) | exact HB.out)⟩⟩
      case round =>
       clear H'
       try clear c1
       try clear p1
       try clear q1
       try clear hx1
       try clear c2
       try clear c2b0
       try clear p2
       try clear c3
       try clear c3b0
       try clear c4
       try clear c4b0
       try clear p6
       try clear hcz6_0
       try clear hcz6_1
       try clear hfz6_0
       try clear hfz6_1
       try clear hx172_0
       try clear hx172_1
       try clear p172
       try clear q172
       obtain ⟨x5_2, x24_2, rfl, rfl, HA, HK2, BK173, HB⟩ := hrel
       cases gk with
       | zero => exact absurd HA.out (by simp [index_Count.l1])
       | succ k2 =>
        have H := HA.out
        clear HA
        simp only [index_Count.l1] at H
        by_cases c7 : x24_2 < (((rd_T38 l0 x12_1).f1).length : Int)
        ·rw [if_pos c7] at H
         have c7b0 : decide (x24_2 < (((rd_T38 l0 x12_1).f1).length : Int)) = true := decide_eq_true c7
         clear c7
         by_cases c8 : 0 ≤ x24_2
         ·rw [if_pos c8] at H
          have c8b0 : decide (0 ≤ x24_2) = true := decide_eq_true c8
          clear c8
          by_cases c9 : x24_2 < (((rd_T38 l0 x12_1).f1).length : Int)
          ·rw [if_pos c9] at H
           have c9b0 : decide (x24_2 < (((rd_T38 l0 x12_1).f1).length : Int)) = true := decide_eq_true c9
           clear c9
           have H' := Aside0.mk H
           clear H
           have p174 : 0 ≤ (x24_2 : Int) := of_decide_eq_true (by first | (with_reducible assumption) | assumption)
           have q174 : x24_2 < (((rd_T38 l0 x12_1).f1).length : Int) := of_decide_eq_true (by first | (with_reducible assumption) | assumption)
           obtain ⟨ad174, e174, hx174_0, hx174_1, hx174_2, hx174_3⟩ := at_T80 HR172_1.out x24_2 p174 q174
           cases e174
           replace hx174_0 := (HB.out.cell (World.block_lt_of_cell? w _ hx174_0)).trans hx174_0
           replace hx174_1 := (HB.out.cell (World.block_lt_of_cell? w _ hx174_1)).trans hx174_1
           replace hx174_2 := (HB.out.cell (World.block_lt_of_cell? w _ hx174_2)).trans hx174_2
           replace hx174_3 := (HB.out.cell (World.block_lt_of_cell? w _ hx174_3)).trans hx174_3
           replace p174 := eq_true p174
           replace q174 := eq_true q174
           go_wp2_with (first | ((with_reducible refine gate_dst (N := 9) rfl ?_); refine box_event ?hg (N := 9) ?hd (cs := #[.int .u64 0, .string (⟨#[]⟩ : ByteArray), .bool false, .int .i64 0]) (t := 80) ?hr ?_; (case hd => rfl); (case hg => rfl); (case hr => first | (go_simp; done) | (go_simp; rfl)); intro gb175 hg w10 hbox hb; have n0_ := Aside0.mk (blk_below (g := gb173) (o := .cells #[.string ((rd_T38 l0 x12_1).f0), .slice (some ad174) ((rd_T38 l0 x12_1).f1).length c172_1] 38 (0, 0)) (by (with_reducible repeat (first | refine blk_drewN ?_ _ | refine blk_drew ?_ | refine blk_alloc ?_ _)); exact BK173.out) hb); have n1_ := Aside0.mk (below_step (by repeat (first | (with_reducible first | exact HB.out | apply below_alloc | apply pw_below_drewN | apply below_drew1 | refine below_set ?_ GE173.out) | exact HB.out)) hb); have n2_ := Aside0.mk (hbox); have n3_ := Aside0.mk ((by rw [hg]; exact (below_size (by repeat (first | (with_reducible first | exact HB.out | apply below_alloc | apply pw_below_drewN | apply below_drew1 | refine below_set ?_ GE173.out) | exact HB.out))) : w.heap.size ≤ gb175)); have n4_ := Aside0.mk ((by rw [hg]; exact (below_size (by repeat (first | (with_reducible first | exact HB.out | apply below_alloc | apply pw_below_drewN | apply below_drew1 | refine below_set ?_ GE173.out) | exact HB.out))) : w.heap.size ≤ gb175)); have n5_ := Aside0.mk ((by rw [hg]; exact Nat.ne_of_lt (blk_lt (g := gb173) (o := .cells #[.string ((rd_T38 l0 x12_1).f0), .slice (some ad174) ((rd_T38 l0 x12_1).f1).length c172_1] 38 (0, 0)) (by (with_reducible repeat (first | refine blk_drewN ?_ _ | refine blk_drew ?_ | refine blk_alloc ?_ _)); exact BK173.out)) : gb173 ≠ gb175)); have n6_ := Aside0.mk ((by rw [hg]; exact Nat.ne_of_gt (blk_lt (g := gb173) (o := .cells #[.string ((rd_T38 l0 x12_1).f0), .slice (some ad174) ((rd_T38 l0 x12_1).f1).length c172_1] 38 (0, 0)) (by (with_reducible repeat (first | refine blk_drewN ?_ _ | refine blk_drew ?_ | refine blk_alloc ?_ _)); exact BK173.out)) : gb175 ≠ gb173)); clear BK173; clear HB; have BK173 := n0_; have HB := n1_; have BK175 := n2_; have GW175 := n3_; have GE175 := n4_; have NB173_175 := n5_; have NB175_173 := n6_; clear n0_ n1_ n2_ n3_ n4_ n5_ n6_; clear hb hbox hg; have hnb11 := NB175_173.out; have hnc11 := NB173_175.out; have hcz12_0 : w10.cell? ⟨gb175, 0, none⟩ = some (.int .u64 0) := (blk_cell BK175.out 0).trans rfl; have hcz12_1 : w10.cell? ⟨gb175, 1, none⟩ = some (.string (⟨#[]⟩ : ByteArray)) := (blk_cell BK175.out 1).trans rfl; have hcz12_2 : w10.cell? ⟨gb175, 2, none⟩ = some (.bool false) := (blk_cell BK175.out 2).trans rfl; have hcz12_3 : w10.cell? ⟨gb175, 3, none⟩ = some (.int .i64 0) := (blk_cell BK175.out 3).trans rfl; have hfz12_0 := blk_frozen BK175.out 0; have hfz12_1 := blk_frozen BK175.out 1; have hfz12_2 := blk_frozen BK175.out 2; have hfz12_3 := blk_frozen BK175.out 3))
           go_roundg k2
           case measure => have := HK1.out; have := HK2.out; omega
           case rel => exact ⟨(wrap64 (x5_2 + (((rd_T80 ((rd_T38 l0 x12_1).f1) x24_2).f1).size : Int))), (wrap64 (x24_2 + 1)), (by first | rfl | (simp; done) | (simp [*]; done)), (by first | rfl | (simp; done) | (simp [*]; done)), H', ⟨by have := HK1.out; have := HK2.out; omega⟩, ⟨by (with_reducible repeat (first | refine blk_drewN ?_ _ | refine blk_drew ?_ | refine blk_alloc ?_ _)); refine blk_far ?_ NB173_175.out _; (with_reducible repeat (first | refine blk_drewN ?_ _ | refine blk_drew ?_ | refine blk_alloc ?_ _)); refine blk_far ?_ NB173_175.out _; (with_reducible repeat (first | refine blk_drewN ?_ _ | refine blk_drew ?_ | refine blk_alloc ?_ _)); refine blk_far ?_ NB173_175.out _; (with_reducible repeat (first | refine blk_drewN ?_ _ | refine blk_drew ?_ | refine blk_alloc ?_ _)); refine blk_far ?_ NB173_175.out _; (with_reducible repeat (first | refine blk_drewN ?_ _ | refine blk_drew ?_ | refine blk_alloc ?_ _)); exact BK173.out⟩, ⟨by repeat (first | (with_reducible first | exact HB.out | apply below_alloc | apply pw_below_drewN | apply below_drew1 | refine below_set ?_ GE173.out | refine below_set ?_ GE175.out) | exact HB.out)⟩⟩
          ·rw [if_neg c9] at H
           exact absurd H (by simp)
         ·rw [if_neg c8] at H
          exact absurd H (by simp)
        ·rw [if_neg c7] at H
         have c7b0 : decide (x24_2 < (((rd_T38 l0 x12_1).f1).length : Int)) = false := decide_eq_false c7
         clear c7
         have H' := Aside0.mk H
         clear H
         go_wp2
         go_roundg k2
         case measure => have := HK1.out; have := HK2.out; omega
         case rel => exact ⟨((wrap64 (x4_1 + (((rd_T38 l0 x12_1).f1).length : Int)))), (x5_2), (wrap64 (x12_1 + 1)), (by first | rfl | (simp; done) | (simp [*]; done)), (by first | rfl | (simp; done) | (simp [*]; done)), (by first | rfl | (simp; done) | (simp [*]; done)), H', ⟨by have := HK1.out; have := HK2.out; omega⟩, ⟨by repeat (first | (with_reducible first | exact HB.out | apply below_alloc | apply pw_below_drewN | apply below_drew1 | refine below_set ?_ GE173.out) | exact HB.out)⟩⟩
     ·rw [if_neg c4] at H
      exact absurd H (by simp)
    ·rw [if_neg c3] at H
     exact absurd H (by simp)
   ·rw [if_neg c2] at H
    have c2b0 : decide (x12_1 < (l0.length : Int)) = false := decide_eq_false c2
    clear c2
    simp only [Option.some.injEq, Prod.mk.injEq] at H
    obtain ⟨rfl, rfl⟩ := H
    go_wp2
    go_ret2
    exact ⟨by first | rfl | (simp [errW_none, errW_some] <;> rfl) | (simp [*, errW_none, errW_some] <;> rfl), by repeat (first | (with_reducible first | exact HB.out | apply below_alloc | apply pw_below_drewN | apply below_drew1) | exact HB.out)⟩

/-! ### parts_Octets: function 111 -/
mutual
def parts_Octets.l0 : Nat → Int → List (S41) → Int → Int → Option (Int)
 | 0, _, _, _, _ => none
 | k + 1, x3, x8, x9, x10 => if x10 < x9 then (if 0 ≤ x10 then (if x10 < (x8.length : Int) then (parts_Octets.l1 k x3 x8 x9 x10 ((rd_T41 x8 x10).f2) (((rd_T41 x8 x10).f2).length : Int) 0) else (none)) else (none)) else (some x3)
def parts_Octets.l1 : Nat → Int → List (S41) → Int → Int → List (S82) → Int → Int → Option (Int)
 | 0, _, _, _, _, _, _, _ => none
 | k + 1, x3, x8, x9, x10, x15, x16, x17 => if x17 < x16 then (if 0 ≤ x17 then (if x17 < (x15.length : Int) then (parts_Octets.l1 k (wrap64 (x3 + (((rd_T82 x15 x17).f1).size : Int))) x8 x9 x10 x15 x16 (wrap64 (x17 + 1))) else (none)) else (none)) else (parts_Octets.l0 k x3 x8 x9 (wrap64 (x10 + 1)))
end
def parts_Octets.f (k : Nat) (l0 : List (S41)) : Option (Int) := parts_Octets.l0 k 0 l0 (l0.length : Int) 0
theorem parts_Octets.mono_l : ∀ k, (∀ y0 y1 y2 y3, LeO (parts_Octets.l0 k y0 y1 y2 y3) (parts_Octets.l0 (k + 1) y0 y1 y2 y3)) ∧ (∀ y0 y1 y2 y3 y4 y5 y6, LeO (parts_Octets.l1 k y0 y1 y2 y3 y4 y5 y6) (parts_Octets.l1 (k + 1) y0 y1 y2 y3 y4 y5 y6))
 | 0 => ⟨fun _ _ _ _ r h => by simp [parts_Octets.l0] at h, fun _ _ _ _ _ _ _ r h => by simp [parts_Octets.l1] at h⟩
 | k + 1 => by
  obtain ⟨ih0, ih1⟩ := parts_Octets.mono_l k
  refine ⟨?_, ?_⟩
  ·intro y0 y1 y2 y3
   unfold parts_Octets.l0
   repeat' first
   | (with_reducible exact ih0 _ _ _ _)
   | (with_reducible exact ih1 _ _ _ _ _ _ _)
   | (with_reducible exact LeO.refl _)
   | (with_reducible exact LeO.none _)
   | (with_reducible refine LeO.ite ?_ ?_)
   | (with_reducible refine LeO.bind ?_ (fun _ => ?_))
   | exact ih0 _ _ _ _
   | exact ih1 _ _ _ _ _ _ _
   | exact LeO.none _
   | refine LeO.ite ?_ ?_
   | refine LeO.bind ?_ (fun _ => ?_)
  ·intro y0 y1 y2 y3 y4 y5 y6
   unfold parts_Octets.l1
   repeat' first
   | (with_reducible exact ih0 _ _ _ _)
   | (with_reducible exact ih1 _ _ _ _ _ _ _)
   | (with_reducible exact LeO.refl _)
   | (with_reducible exact LeO.none _)
   | (with_reducible refine LeO.ite ?_ ?_)
   | (with_reducible refine LeO.bind ?_ (fun _ => ?_))
   | exact ih0 _ _ _ _
   | exact ih1 _ _ _ _ _ _ _
   | exact LeO.none _
   | refine LeO.ite ?_ ?_
   | refine LeO.bind ?_ (fun _ => ?_)
theorem parts_Octets.mono : ∀ a0 k, LeO (parts_Octets.f k a0) (parts_Octets.f (k + 1) a0) := by
 intro a0 k
 obtain ⟨ih0, ih1⟩ := parts_Octets.mono_l k
 unfold parts_Octets.f
 repeat' first
   | (with_reducible exact ih0 _ _ _ _)
   | (with_reducible exact ih1 _ _ _ _ _ _ _)
   | (with_reducible exact LeO.refl _)
   | (with_reducible exact LeO.none _)
   | (with_reducible refine LeO.ite ?_ ?_)
   | (with_reducible refine LeO.bind ?_ (fun _ => ?_))
   | exact ih0 _ _ _ _
   | exact ih1 _ _ _ _ _ _ _
   | exact LeO.none _
   | refine LeO.ite ?_ ?_
   | refine LeO.bind ?_ (fun _ => ?_)
set_option maxHeartbeats 8000000 in
set_option maxRecDepth 100000 in
theorem parts_Octets.calls (k : Nat) (A0 : Option Addr) (c0 : Nat) (l0 : List (S41)) (r : Int) (w : World) (hr0 : Kd.C k41 w A0 l0.length l0) (hc0 : l0.length ≤ c0) (h : parts_Octets.f k l0 = some r) :
  Calls Tryz.prog 111 #[.slice A0 l0.length c0] w fun e w' => e = .returned (.int .i64 r) ∧ Below w.heap.size w w' := by
 have hu41 := Tryz.underlying41
 have hu82 := Tryz.underlying82
 have HR0 := Aside0.mk hr0
 have HC0 := Aside0.mk hc0
 clear hr0 hc0
 have HB := Aside0.mk (Below.refl w.heap.size w)
 have H : (parts_Octets.l0 k 0 l0 (l0.length : Int) 0) = some r := h
 clear h
 have H' := Aside0.mk H
 clear H
 go_enter Tryz.func111, Tryz.ntmps111
 go_wp2
 go_loopg [3, 10] k (fun kq v3 v10 w' => ∃ (x3_1 : Int) (x10_1 : Int), v3 = .int .i64 x3_1 ∧ v10 = .int .i64 x10_1 ∧ Aside0 (parts_Octets.l0 kq x3_1 l0 (l0.length : Int) x10_1 = some r) ∧ Aside0 (kq ≤ k) ∧ Aside0 (Below w.heap.size w w'))
 case atStart => exact ⟨(0), (0), (by first | rfl | (simp; done) | (simp [*]; done)), (by first | rfl | (simp; done) | (simp [*]; done)), H', ⟨Nat.le_refl _⟩, ⟨by repeat (first | (with_reducible first | exact HB.out | apply below_alloc | apply pw_below_drewN | apply below_drew1) | exact HB.out)⟩⟩
 case round =>
  clear H'
  try clear c1
  obtain ⟨x3_1, x10_1, rfl, rfl, HA, HK1, HB⟩ := hrel
  cases gk with
  | zero => exact absurd HA.out (by simp [parts_Octets.l0])
  | succ k1 =>
   have H := HA.out
   clear HA
   simp only [parts_Octets.l0] at H
   by_cases c2 : x10_1 < (l0.length : Int)
   ·rw [if_pos c2] at H
    have c2b0 : decide (x10_1 < (l0.length : Int)) = true := decide_eq_true c2
    clear c2
    by_cases c3 : 0 ≤ x10_1
    ·rw [if_pos c3] at H
     have c3b0 : decide (0 ≤ x10_1) = true := decide_eq_true c3
     clear c3
     by_cases c4 : x10_1 < (l0.length : Int)
     ·rw [if_pos c4] at H
      have c4b0 : decide (x10_1 < (l0.length : Int)) = true := decide_eq_true c4
      clear c4
      have H' := Aside0.mk H
      clear H
      have p176 : 0 ≤ (x10_1 : Int) := of_decide_eq_true (by first | (with_reducible assumption) | assumption)
      have q176 : x10_1 < (l0.length : Int) := of_decide_eq_true (by first | (with_reducible assumption) | assumption)
      obtain ⟨ad176, A176_2, c176_2, e176, hx176_0, hx176_1, hx176_2, hl176_2, hi176_2⟩ := at_T41 HR0.out x10_1 p176 q176
      cases e176
      replace hx176_0 := (HB.out.cell (World.block_lt_of_cell? w _ hx176_0)).trans hx176_0
      replace hx176_1 := (HB.out.cell (World.block_lt_of_cell? w _ hx176_1)).trans hx176_1
      replace hx176_2 := (HB.out.cell (World.block_lt_of_cell? w _ hx176_2)).trans hx176_2
      have HR176_2 := Aside0.mk hi176_2
      have HC176_2 := Aside0.mk hl176_2
      clear hi176_2 hl176_2
      replace p176 := eq_true p176
      replace q176 := eq_true q176
      go_wp2_with (first | ((with_reducible refine gate_dst (N := 5) rfl ?_); refine box_event ?hg (N := 5) ?hd (cs := #[.int .u64 0, .string (⟨#[]⟩ : ByteArray), .slice none 0 0]) (t := 41) ?hr ?_; (case hd => rfl); (case hg => rfl); (case hr => first | (go_simp; done) | (go_simp; rfl)); intro gb177 hg w5 hbox hb; have n0_ := Aside0.mk (below_step (by repeat (first | (with_reducible first | exact HB.out | apply below_alloc | apply pw_below_drewN | apply below_drew1) | exact HB.out)) hb); have n1_ := Aside0.mk (hbox); have n2_ := Aside0.mk ((by rw [hg]; exact (below_size (by repeat (first | (with_reducible first | exact HB.out | apply below_alloc | apply pw_below_drewN | apply below_drew1) | exact HB.out))) : w.heap.size ≤ gb177)); have n3_ := Aside0.mk ((by rw [hg]; exact (below_size (by repeat (first | (with_reducible first | exact HB.out | apply below_alloc | apply pw_below_drewN | apply below_drew1) | exact HB.out))) : w.heap.size ≤ gb177)); clear HB; have HB := n0_; have BK177 := n1_; have GW177 := n2_; have GE177 := n3_; clear n0_ n1_ n2_ n3_; clear hb hbox hg; have hcz6_0 : w5.cell? ⟨gb177, 0, none⟩ = some (.int .u64 0) := (blk_cell BK177.out 0).trans rfl; have hcz6_1 : w5.cell? ⟨gb177, 1, none⟩ = some (.string (⟨#[]⟩ : ByteArray)) := (blk_cell BK177.out 1).trans rfl; have hcz6_2 : w5.cell? ⟨gb177, 2, none⟩ = some (.slice none 0 0) := (blk_cell BK177.out 2).trans rfl; have hfz6_0 := blk_frozen BK177.out 0; have hfz6_1 := blk_frozen BK177.out 1; have hfz6_2 := blk_frozen BK177.out 2))
      go_loopg [3, 17] k1 (fun kq v3 v17 w' => ∃ (x3_2 : Int) (x17_2 : Int), v3 = .int .i64 x3_2 ∧ v17 = .int .i64 x17_2 ∧ Aside0 (parts_Octets.l1 kq x3_2 l0 (l0.length : Int) x10_1 ((rd_T41 l0 x10_1).f2) (((rd_T41 l0 x10_1).f2).length : Int) x17_2 = some r) ∧ Aside0 (kq ≤ k1) ∧ Aside0 (w'.heap[gb177]? = some (.cells #[.int .u64 ((rd_T41 l0 x10_1).f0), .string ((rd_T41 l0 x10_1).f1), (.slice A176_2 ((rd_T41 l0 x10_1).f2).length c176_2)] 41 (0, 0))) ∧ Aside0 (Below w.heap.size w w'))
      case atStart => exact ⟨(x3_1), (0), (by first | rfl | (simp; done) | (simp [*]; done)), (by first | rfl | (simp; done) | (simp [*]; done)), H', ⟨Nat.le_refl _⟩, ⟨by (with_reducible repeat (first | refine blk_drewN ?_ _ | refine blk_drew ?_ | refine blk_alloc ?_ _)); refine blk_put (cs := #[.int .u64 ((rd_T41 l0 x10_1).f0), .string ((rd_T41 l0 x10_1).f1), .slice none 0 0]) ?_ 2 _ rfl; (with_reducible repeat (first | refine blk_drewN ?_ _ | refine blk_drew ?_ | refine blk_alloc ?_ _)); refine blk_put (cs := #[.int .u64 ((rd_T41 l0 x10_1).f0), .string (⟨#[]⟩ : ByteArray), .slice none 0 0]) ?_ 1 _ rfl; (with_reducible repeat (first | refine blk_drewN ?_ _ | refine blk_drew ?_ | refine blk_alloc ?_ _)); refine blk_put (cs := #[.int .u64 0, .string (⟨#[]⟩ : ByteArray), .slice none 0 0]) ?_ 0 _ rfl; (with_reducible repeat (first | refine blk_drewN ?_ _ | refine blk_drew ?_ | refine blk_alloc ?_ _)); exact BK177.out⟩, ⟨by repeat (first | (with_reducible first | exact HB.out | apply below_alloc | apply pw_below_drewN | apply below_drew1 | refine below_set ?_ GE177.out) | exact HB.out)⟩⟩
      case round =>
       clear H'
       try clear c1
       try clear p1
       try clear q1
       try clear hx1
       try clear c2
       try clear c2b0
       try clear p2
       try clear c3
       try clear c3b0
       try clear c4
       try clear c4b0
       try clear hcz6_0
       try clear hcz6_1
       try clear hcz6_2
       try clear hfz6_0
       try clear hfz6_1
       try clear hfz6_2
       try clear hx176_0
       try clear hx176_1
       try clear hx176_2
       try clear p176
       try clear q176
       obtain ⟨x3_2, x17_2, rfl, rfl, HA, HK2, BK177, HB⟩ := hrel
       cases gk with
       | zero => exact absurd HA.out (by simp [parts_Octets.l1])
       | succ k2 =>
        have H := HA.out
        clear HA
        simp only [parts_Octets.l1] at H
        by_cases c7 : x17_2 < (((rd_T41 l0 x10_1).f2).length : Int)
        ·rw [if_pos c7] at H
         have c7b0 : decide (x17_2 < (((rd_T41 l0 x10_1).f2).length : Int)) = true := decide_eq_true c7
         clear c7
         by_cases c8 : 0 ≤ x17_2
         ·rw [if_pos c8] at H
          have c8b0 : decide (0 ≤ x17_2) = true := decide_eq_true c8
          clear c8
          by_cases c9 : x17_2 < (((rd_T41 l0 x10_1).f2).length : Int)
          ·rw [if_pos c9] at H
           have c9b0 : decide (x17_2 < (((rd_T41 l0 x10_1).f2).length : Int)) = true := decide_eq_true c9
           clear c9
           have H' := Aside0.mk H
           clear H
           have p178 : 0 ≤ (x17_2 : Int) := of_decide_eq_true (by first | (with_reducible assumption) | assumption)
           have q178 : x17_2 < (((rd_T41 l0 x10_1).f2).length : Int) := of_decide_eq_true (by first | (with_reducible assumption) | assumption)
           obtain ⟨ad178, e178, hx178_0, hx178_1⟩ := at_T82 HR176_2.out x17_2 p178 q178
           cases e178
           replace hx178_0 := (HB.out.cell (World.block_lt_of_cell? w _ hx178_0)).trans hx178_0
           replace hx178_1 := (HB.out.cell (World.block_lt_of_cell? w _ hx178_1)).trans hx178_1
           replace p178 := eq_true p178
           replace q178 := eq_true q178
           go_wp2_with (first | ((with_reducible refine gate_dst (N := 7) rfl ?_); refine box_event ?hg (N := 7) ?hd (cs := #[.int .i64 0, .string (⟨#[]⟩ : ByteArray)]) (t := 82) ?hr ?_; (case hd => rfl); (case hg => rfl); (case hr => first | (go_simp; done) | (go_simp; rfl)); intro gb179 hg w10 hbox hb; have n0_ := Aside0.mk (blk_below (g := gb177) (o := .cells #[.int .u64 ((rd_T41 l0 x10_1).f0), .string ((rd_T41 l0 x10_1).f1), .slice (some ad178) ((rd_T41 l0 x10_1).f2).length c176_2] 41 (0, 0)) (by (with_reducible repeat (first | refine blk_drewN ?_ _ | refine blk_drew ?_ | refine blk_alloc ?_ _)); exact BK177.out) hb); have n1_ := Aside0.mk (below_step (by repeat (first | (with_reducible first | exact HB.out | apply below_alloc | apply pw_below_drewN | apply below_drew1 | refine below_set ?_ GE177.out) | exact HB.out)) hb); have n2_ := Aside0.mk (hbox); have n3_ := Aside0.mk ((by rw [hg]; exact (below_size (by repeat (first | (with_reducible first | exact HB.out | apply below_alloc | apply pw_below_drewN | apply below_drew1 | refine below_set ?_ GE177.out) | exact HB.out))) : w.heap.size ≤ gb179)); have n4_ := Aside0.mk ((by rw [hg]; exact (below_size (by repeat (first | (with_reducible first | exact HB.out | apply below_alloc | apply pw_below_drewN | apply below_drew1 | refine below_set ?_ GE177.out) | exact HB.out))) : w.heap.size ≤ gb179)); have n5_ := Aside0.mk ((by rw [hg]; exact Nat.ne_of_lt (blk_lt (g := gb177) (o := .cells #[.int .u64 ((rd_T41 l0 x10_1).f0), .string ((rd_T41 l0 x10_1).f1), .slice (some ad178) ((rd_T41 l0 x10_1).f2).length c176_2] 41 (0, 0)) (by (with_reducible repeat (first | refine blk_drewN ?_ _ | refine blk_drew ?_ | refine blk_alloc ?_ _)); exact BK177.out)) : gb177 ≠ gb179)); have n6_ := Aside0.mk ((by rw [hg]; exact Nat.ne_of_gt (blk_lt (g := gb177) (o := .cells #[.int .u64 ((rd_T41 l0 x10_1).f0), .string ((rd_T41 l0 x10_1).f1), .slice (some ad178) ((rd_T41 l0 x10_1).f2).length c176_2] 41 (0, 0)) (by (with_reducible repeat (first | refine blk_drewN ?_ _ | refine blk_drew ?_ | refine blk_alloc ?_ _)); exact BK177.out)) : gb179 ≠ gb177)); clear BK177; clear HB; have BK177 := n0_; have HB := n1_; have BK179 := n2_; have GW179 := n3_; have GE179 := n4_; have NB177_179 := n5_; have NB179_177 := n6_; clear n0_ n1_ n2_ n3_ n4_ n5_ n6_; clear hb hbox hg; have hnb11 := NB179_177.out; have hnc11 := NB177_179.out; have hcz12_0 : w10.cell? ⟨gb179, 0, none⟩ = some (.int .i64 0) := (blk_cell BK179.out 0).trans rfl; have hcz12_1 : w10.cell? ⟨gb179, 1, none⟩ = some (.string (⟨#[]⟩ : ByteArray)) := (blk_cell BK179.out 1).trans rfl; have hfz12_0 := blk_frozen BK179.out 0; have hfz12_1 := blk_frozen BK179.out 1))
           go_roundg k2
           case measure => have := HK1.out; have := HK2.out; omega
           case rel => exact ⟨(wrap64 (x3_2 + (((rd_T82 ((rd_T41 l0 x10_1).f2) x17_2).f1).size : Int))), (wrap64 (x17_2 + 1)), (by first | rfl | (simp; done) | (simp [*]; done)), (by first | rfl | (simp; done) | (simp [*]; done)), H', ⟨by have := HK1.out; have := HK2.out; omega⟩, ⟨by (with_reducible repeat (first | refine blk_drewN ?_ _ | refine blk_drew ?_ | refine blk_alloc ?_ _)); refine blk_far ?_ NB177_179.out _; (with_reducible repeat (first | refine blk_drewN ?_ _ | refine blk_drew ?_ | refine blk_alloc ?_ _)); refine blk_far ?_ NB177_179.out _; (with_reducible repeat (first | refine blk_drewN ?_ _ | refine blk_drew ?_ | refine blk_alloc ?_ _)); exact BK177.out⟩, ⟨by repeat (first | (with_reducible first | exact HB.out | apply below_alloc | apply pw_below_drewN | apply below_drew1 | refine below_set ?_ GE177.out | refine below_set ?_ GE179.out) | exact HB.out)⟩⟩
          ·rw [if_neg c9] at H
           exact absurd H (by simp)
         ·rw [if_neg c8] at H
          exact absurd H (by simp)
        ·rw [if_neg c7] at H
         have c7b0 : decide (x17_2 < (((rd_T41 l0 x10_1).f2).length : Int)) = false := decide_eq_false c7
         clear c7
         have H' := Aside0.mk H
         clear H
         go_wp2
         go_roundg k2
         case measure => have := HK1.out; have := HK2.out; omega
         case rel => exact ⟨(x3_2), (wrap64 (x10_1 + 1)), (by first | rfl | (simp; done) | (simp [*]; done)), (by first | rfl | (simp; done) | (simp [*]; done)), H', ⟨by have := HK1.out; have := HK2.out; omega⟩, ⟨by repeat (first | (with_reducible first | exact HB.out | apply below_alloc | apply pw_below_drewN | apply below_drew1 | refine below_set ?_ GE177.out) | exact HB.out)⟩⟩
     ·rw [if_neg c4] at H
      exact absurd H (by simp)
    ·rw [if_neg c3] at H
     exact absurd H (by simp)
   ·rw [if_neg c2] at H
    have c2b0 : decide (x10_1 < (l0.length : Int)) = false := decide_eq_false c2
    clear c2
    obtain rfl := Option.some.inj H
    go_wp2
    go_ret
    exact ⟨by first | rfl | (simp [errW_none, errW_some] <;> rfl) | (simp [*, errW_none, errW_some] <;> rfl), by repeat (first | (with_reducible first | exact HB.out | apply below_alloc | apply pw_below_drewN | apply below_drew1) | exact HB.out)⟩

/-! ### bucket_octets: function 53 -/
def bucket_octets.f (k : Nat) (a0_0 : ByteArray) (a0_1 : Int) (l0_2 : List (S38)) (l0_3 : List (S41)) (a0_4 : Int) : Option (Int) := (index_Count.f k l0_2).bind fun bt181 => ((parts_Octets.f k l0_3).bind fun t183 => (some (wrap64 (bt181.2 + t183))))
set_option maxHeartbeats 8000000 in
set_option maxRecDepth 100000 in
theorem bucket_octets.calls (k : Nat) (a0_0 : ByteArray) (a0_1 : Int) (A0_2 : Option Addr) (c0_2 : Nat) (l0_2 : List (S38)) (A0_3 : Option Addr) (c0_3 : Nat) (l0_3 : List (S41)) (a0_4 : Int) (r : Int) (w : World) (hr0_2 : Kd.C k38 w A0_2 l0_2.length l0_2) (hc0_2 : l0_2.length ≤ c0_2) (hr0_3 : Kd.C k41 w A0_3 l0_3.length l0_3) (hc0_3 : l0_3.length ≤ c0_3) (h : bucket_octets.f k a0_0 a0_1 l0_2 l0_3 a0_4 = some r) :
  Calls Tryz.prog 53 #[.agg #[.string a0_0, .int .i64 a0_1, .slice A0_2 l0_2.length c0_2, .slice A0_3 l0_3.length c0_3, .int .u64 a0_4]] w fun e w' => e = .returned (.int .i64 r) ∧ Below w.heap.size w w' := by
 have hu35 := Tryz.underlying35
 have HR0_2 := Aside0.mk hr0_2
 have HC0_2 := Aside0.mk hc0_2
 clear hr0_2 hc0_2
 have HR0_3 := Aside0.mk hr0_3
 have HC0_3 := Aside0.mk hc0_3
 clear hr0_3 hc0_3
 have HB := Aside0.mk (Below.refl w.heap.size w)
 have H : ((index_Count.f k l0_2).bind fun bt181 => ((parts_Octets.f k l0_3).bind fun t183 => (some (wrap64 (bt181.2 + t183))))) = some r := h
 clear h
 replace H := Option.bind_eq_some_iff.mp H
 obtain ⟨⟨t181, t182⟩, A20, H⟩ := H
 replace H : ((parts_Octets.f k l0_3).bind fun t183 => (some (wrap64 (t182 + t183)))) = some r := H
 have A2 := Aside0.mk A20
 clear A20
 replace H := Option.bind_eq_some_iff.mp H
 obtain ⟨t183, A30, H⟩ := H
 replace H : (some (wrap64 (t182 + t183))) = some r := H
 have A3 := Aside0.mk A30
 clear A30
 obtain rfl := Option.some.inj H
 go_enter Tryz.func53, Tryz.ntmps53
 go_wp2_with (first | ((with_reducible refine gate_dst (N := 1) rfl ?_); refine box_event ?hg (N := 1) ?hd (cs := #[.string a0_0, .int .i64 a0_1, .slice A0_2 l0_2.length c0_2, .slice A0_3 l0_3.length c0_3, .int .u64 a0_4]) (t := 35) ?hr ?_; (case hd => rfl); (case hg => rfl); (case hr => first | (go_simp; done) | (go_simp; rfl)); intro gb180 hg w4 hbox hb; have n0_ := Aside0.mk (below_step (by repeat (first | (with_reducible first | exact HB.out | apply below_alloc | apply pw_below_drewN | apply below_drew1) | exact HB.out)) hb); have n1_ := Aside0.mk (hbox); have n2_ := Aside0.mk ((by rw [hg]; exact (below_size (by repeat (first | (with_reducible first | exact HB.out | apply below_alloc | apply pw_below_drewN | apply below_drew1) | exact HB.out))) : w.heap.size ≤ gb180)); have n3_ := Aside0.mk ((by rw [hg]; exact (below_size (by repeat (first | (with_reducible first | exact HB.out | apply below_alloc | apply pw_below_drewN | apply below_drew1) | exact HB.out))) : w.heap.size ≤ gb180)); clear HB; have HB := n0_; have BK180 := n1_; have GW180 := n2_; have GE180 := n3_; clear n0_ n1_ n2_ n3_; clear hb hbox hg; have hcz5_0 : w4.cell? ⟨gb180, 0, none⟩ = some (.string a0_0) := (blk_cell BK180.out 0).trans rfl; have hcz5_1 : w4.cell? ⟨gb180, 1, none⟩ = some (.int .i64 a0_1) := (blk_cell BK180.out 1).trans rfl; have hcz5_2 : w4.cell? ⟨gb180, 2, none⟩ = some (.slice A0_2 l0_2.length c0_2) := (blk_cell BK180.out 2).trans rfl; have hcz5_3 : w4.cell? ⟨gb180, 3, none⟩ = some (.slice A0_3 l0_3.length c0_3) := (blk_cell BK180.out 3).trans rfl; have hcz5_4 : w4.cell? ⟨gb180, 4, none⟩ = some (.int .u64 a0_4) := (blk_cell BK180.out 4).trans rfl; have hfz5_0 := blk_frozen BK180.out 0; have hfz5_1 := blk_frozen BK180.out 1; have hfz5_2 := blk_frozen BK180.out 2; have hfz5_3 := blk_frozen BK180.out 3; have hfz5_4 := blk_frozen BK180.out 4) | ((with_reducible refine gate_callee (f := 110) rfl ?_); refine goesL_ (some 8) rfl rfl Tryz.func110 (by kernel_rfl) rfl #[.slice A0_2 l0_2.length c0_2] rfl (by (try simp only [List.map_toArray, List.map_cons, List.map_nil]); first | done | rfl | (simp only [List.length_drop, List.length_take]; rfl)) ?_; (with_reducible refine (index_Count.calls k _ _ l0_2 t181 t182 _ ?side1 ?side2 A2.out).mono ?_); (case side1 => repeat (first | exact (Kd.C_below HR0_2.out HB.out) | (with_reducible refine Kd.C_alloc ?_ _) | (with_reducible refine Kd.C_drewN ?_ _) | (with_reducible refine Kd.C_drew ?_))); (case side2 => exact HC0_2.out); rintro e w6 ⟨rfl, hb⟩; refine ⟨_, rfl, ?_⟩; have n0_ := Aside0.mk (blk_below (g := gb180) (o := .cells #[.string a0_0, .int .i64 a0_1, .slice A0_2 l0_2.length c0_2, .slice A0_3 l0_3.length c0_3, .int .u64 a0_4] 35 (0, 0)) (by (with_reducible repeat (first | refine blk_drewN ?_ _ | refine blk_drew ?_ | refine blk_alloc ?_ _)); exact BK180.out) hb); have n1_ := Aside0.mk (below_step (by repeat (first | (with_reducible first | exact HB.out | apply below_alloc | apply pw_below_drewN | apply below_drew1 | refine below_set ?_ GE180.out) | exact HB.out)) hb); clear BK180; clear HB; have BK180 := n0_; have HB := n1_; clear n0_ n1_; (try clear hb); (try clear hb2); (try clear hk); (try clear hi); have hcz7_0 : w6.cell? ⟨gb180, 0, none⟩ = some (.string a0_0) := (blk_cell BK180.out 0).trans rfl; have hcz7_1 : w6.cell? ⟨gb180, 1, none⟩ = some (.int .i64 a0_1) := (blk_cell BK180.out 1).trans rfl; have hcz7_2 : w6.cell? ⟨gb180, 2, none⟩ = some (.slice A0_2 l0_2.length c0_2) := (blk_cell BK180.out 2).trans rfl; have hcz7_3 : w6.cell? ⟨gb180, 3, none⟩ = some (.slice A0_3 l0_3.length c0_3) := (blk_cell BK180.out 3).trans rfl; have hcz7_4 : w6.cell? ⟨gb180, 4, none⟩ = some (.int .u64 a0_4) := (blk_cell BK180.out 4).trans rfl; have hfz7_0 := blk_frozen BK180.out 0; have hfz7_1 := blk_frozen BK180.out 1; have hfz7_2 := blk_frozen BK180.out 2; have hfz7_3 := blk_frozen BK180.out 3; have hfz7_4 := blk_frozen BK180.out 4) | ((with_reducible refine gate_callee (f := 111) rfl ?_); refine goesL_ (some 14) rfl rfl Tryz.func111 (by kernel_rfl) rfl #[.slice A0_3 l0_3.length c0_3] rfl (by (try simp only [List.map_toArray, List.map_cons, List.map_nil]); first | done | rfl | (simp only [List.length_drop, List.length_take]; rfl)) ?_; (with_reducible refine (parts_Octets.calls k _ _ l0_3 t183 _ ?side1 ?side2 A3.out).mono ?_); (case side1 => repeat (first | exact (Kd.C_below HR0_3.out HB.out) | (with_reducible refine Kd.C_alloc ?_ _) | (with_reducible refine Kd.C_drewN ?_ _) | (with_reducible refine Kd.C_drew ?_))); (case side2 => exact HC0_3.out); rintro e w8 ⟨rfl, hb⟩; refine ⟨_, rfl, ?_⟩; have n0_ := Aside0.mk (blk_below (g := gb180) (o := .cells #[.string a0_0, .int .i64 a0_1, .slice A0_2 l0_2.length c0_2, .slice A0_3 l0_3.length c0_3, .int .u64 a0_4] 35 (0, 0)) (by (with_reducible repeat (first | refine blk_drewN ?_ _ | refine blk_drew ?_ | refine blk_alloc ?_ _)); exact BK180.out) hb); have n1_ := Aside0.mk (below_step (by repeat (first | (with_reducible first | exact HB.out | apply below_alloc | apply pw_below_drewN | apply below_drew1 | refine below_set ?_ GE180.out) | exact HB.out)) hb); clear BK180; clear HB; have BK180 := n0_; have HB := n1_; clear n0_ n1_; (try clear hb); (try clear hb2); (try clear hk); (try clear hi)))
 go_ret
 exact ⟨by first | rfl | (simp [errW_none, errW_some] <;> rfl) | (simp [*, errW_none, errW_some] <;> rfl), by repeat (first | (with_reducible first | exact HB.out | apply below_alloc | apply pw_below_drewN | apply below_drew1 | refine below_set ?_ GE180.out) | exact HB.out)⟩

-- NOT PRINTED: function 83 (api_Upload_83)

-- NOT PRINTED: function 56 (api_Upload_56)

-- NOT PRINTED: function 29 (bucket_Check)

-- NOT PRINTED: function 81 (api_Entry_81)

-- NOT PRINTED: function 58 (api_Entry_58)

-- NOT PRINTED: function 30 (depot_late)

-- NOT PRINTED: function 12 (depot_Check)

/-! ### wire_lay: function 32 -/
def wire_lay.l0 : Nat → Int → List Int → Int → Int → Option (ByteArray)
 | 0, _, _, _, _ => none
 | k + 1, x0, x5, x9, x10 => if x10 < x9 then (if 0 ≤ (wrap64 (8 * x10)) then (if 0 ≤ x10 then (if x10 < (x5.length : Int) then (wire_lay.l0 k x0 (x5.set (x10 : Int).toNat ((shr .u64 x0 (wrap64 (8 * x10))) % 256)) x9 (wrap64 (x10 + 1))) else (none)) else (none)) else (none)) else (some (strOfNums x5))
def wire_lay.f (k : Nat) (a0 : Int) (a1 : Int) : Option (ByteArray) := if 0 ≤ a1 then (if (a1 : Int).toNat ≤ 281474976710656 then (wire_lay.l0 k a0 (List.replicate (a1 : Int).toNat 0) a1 0) else (none)) else (none)
theorem wire_lay.mono_l : ∀ k, (∀ y0 y1 y2 y3, LeO (wire_lay.l0 k y0 y1 y2 y3) (wire_lay.l0 (k + 1) y0 y1 y2 y3))
 | 0 => fun _ _ _ _ r h => by simp [wire_lay.l0] at h
 | k + 1 => by
  have ih0 := wire_lay.mono_l k
  ·intro y0 y1 y2 y3
   unfold wire_lay.l0
   repeat' first
   | (with_reducible exact ih0 _ _ _ _)
   | (with_reducible exact LeO.refl _)
   | (with_reducible exact LeO.none _)
   | (with_reducible refine LeO.ite ?_ ?_)
   | (with_reducible refine LeO.bind ?_ (fun _ => ?_))
   | exact ih0 _ _ _ _
   | exact LeO.none _
   | refine LeO.ite ?_ ?_
   | refine LeO.bind ?_ (fun _ => ?_)
theorem wire_lay.mono : ∀ a0 a1 k, LeO (wire_lay.f k a0 a1) (wire_lay.f (k + 1) a0 a1) := by
 intro a0 a1 k
 have ih0 := wire_lay.mono_l k
 unfold wire_lay.f
 repeat' first
   | (with_reducible exact ih0 _ _ _ _)
   | (with_reducible exact LeO.refl _)
   | (with_reducible exact LeO.none _)
   | (with_reducible refine LeO.ite ?_ ?_)
   | (with_reducible refine LeO.bind ?_ (fun _ => ?_))
   | exact ih0 _ _ _ _
   | exact LeO.none _
   | refine LeO.ite ?_ ?_
   | refine LeO.bind ?_ (fun _ => ?_)
set_option maxHeartbeats 8000000 in
set_option maxRecDepth 100000 in
theorem wire_lay.calls (k : Nat) (a0 : Int) (a1 : Int) (r : ByteArray) (w : World) (h : wire_lay.f k a0 a1 = some r) :
  Calls Tryz.prog 32 #[.int .u64 a0, .int .i64 a1] w fun e w' => e = .returned (.string r) ∧ Below w.heap.size w w' := by
 have HB := Aside0.mk (Below.refl w.heap.size w)
 have H : (if 0 ≤ a1 then (if (a1 : Int).toNat ≤ 281474976710656 then (wire_lay.l0 k a0 (List.replicate (a1 : Int).toNat 0) a1 0) else (none)) else (none)) = some r := h
 clear h
 by_cases c3 : 0 ≤ a1
 ·rw [if_pos c3] at H
  have c3b0 := eq_true c3
  have c3b1 : decide (0 ≤ a1) = true := decide_eq_true c3
  clear c3
  by_cases c4 : (a1 : Int).toNat ≤ 281474976710656
  ·rw [if_pos c4] at H
   have c4b0 := eq_true c4
   have c4b1 : decide ((a1 : Int).toNat ≤ 281474976710656) = true := decide_eq_true c4
   clear c4
   obtain ⟨y189, hy189⟩ : ∃ y_ : List Int, y_ = (List.replicate (a1 : Int).toNat 0) := ⟨_, rfl⟩
   replace H : (wire_lay.l0 k a0 y189 a1 0) = some r := by first | (rw [hy189]; with_reducible exact H) | (have H2_ := (Option.bind_some _ _).symm.trans H; rw [hy189]; with_reducible exact H2_) | (have H2_ := (Option.bind_some _ _).symm.trans H; with_reducible exact H2_) | with_reducible exact H | (rw [hy189]; exact H) | exact H
   have Ny189 := Aside0.mk hy189
   clear hy189
   have H' := Aside0.mk H
   clear H
   go_enter Tryz.func32, Tryz.ntmps32
   go_wp2_with (first | ((with_reducible refine gate_dst (N := 8) rfl ?_); refine Kd.R_make (Kd.int .u8) _ 5 rfl (N := 8) rfl 108 _ _ rfl a1 rfl rfl Tryz.underlying108 (.int .u8 0) 1 info5 rfl (by decide) (by omega) 0 (ok := fun _ => True) (okp := fun _ => True) rfl (fun _ hk => hk) trivial (of_decide_eq_true (by first | (with_reducible assumption) | assumption)) (Nat.le_trans (Nat.mul_le_mul_right _ (of_decide_eq_true (by first | (with_reducible assumption) | assumption) : a1.toNat ≤ 281474976710656)) (by omega)) (Below.refl _ _) (Nat.le_refl _) ?_; intro v190 w5 ho6 hb hg_ hnew_; clear hg_ hnew_; (first | rw [← Ny189.out] at ho6 | (simp only [Int.reduceToNat] at ho6; rw [← Ny189.out] at ho6)); have n0_ := Aside0.mk (Kd.R_lower ho6 (below_size (by repeat (first | (with_reducible first | exact HB.out | apply below_alloc | apply pw_below_drewN | apply below_drew1) | exact HB.out)))); have n1_ := Aside0.mk (below_step (by repeat (first | (with_reducible first | exact HB.out | apply below_alloc | apply pw_below_drewN | apply below_drew1) | exact HB.out)) hb); clear HB; have HO191 := n0_; have HB := n1_; clear n0_ n1_; clear hb ho6))
   go_loopg [10] k (fun kq v10 w' => ∃ (x5_1 : List Int) (x10_1 : Int), v10 = .int .i64 x10_1 ∧ Aside0 (wire_lay.l0 kq a0 x5_1 a1 x10_1 = some r) ∧ Aside0 (kq ≤ k) ∧ Aside0 (Kd.R (Kd.int .u8) 5 w' w.heap.size (fun _ => True) v190 x5_1) ∧ Aside0 (Below w.heap.size w w'))
   case atStart => exact ⟨(y189), (0), (by first | rfl | (simp; done) | (simp [*]; done)), H', ⟨Nat.le_refl _⟩, ⟨by (with_reducible repeat (first | apply Kd.R_alloc | apply Kd.R_drewN | apply Kd.R_drew)); exact HO191.out⟩, ⟨by repeat (first | (with_reducible first | exact HB.out | apply below_alloc | apply pw_below_drewN | apply below_drew1) | exact HB.out)⟩⟩
   case round =>
    clear H'
    try clear p2
    try clear c3
    try clear c3b0
    try clear c3b1
    try clear c4
    try clear c4b0
    try clear c4b1
    obtain ⟨x5_1, x10_1, rfl, HA, HK1, HO_5, HB⟩ := hrel
    cases gk with
    | zero => exact absurd HA.out (by simp [wire_lay.l0])
    | succ k1 =>
     have H := HA.out
     clear HA
     simp only [wire_lay.l0] at H
     by_cases c7 : x10_1 < a1
     ·rw [if_pos c7] at H
      have c7b0 : decide (x10_1 < a1) = true := decide_eq_true c7
      clear c7
      obtain ⟨ji8, hji8⟩ : ∃ j_ : Int, (wrap64 (8 * x10_1)) = j_ := ⟨_, rfl⟩
      replace H : (if 0 ≤ (ji8) then (if 0 ≤ x10_1 then (if x10_1 < (x5_1.length : Int) then (wire_lay.l0 k1 a0 (x5_1.set (x10_1 : Int).toNat ((shr .u64 a0 (ji8)) % 256)) a1 (wrap64 (x10_1 + 1))) else (none)) else (none)) else (none)) = some r := by first | (rw [hji8] at H; exact H) | (simp only [hji8] at H ⊢; exact H)
      have hji8w : (IntKind.i64.wrap (8 * x10_1)) = ji8 := (i64_w _).trans hji8
      by_cases c9 : 0 ≤ (ji8)
      ·rw [if_pos c9] at H
       have c9b0 := eq_true c9
       have c9b1 : decide (0 ≤ (ji8)) = true := decide_eq_true c9
       clear c9
       obtain ⟨ji10, hji10⟩ : ∃ j_ : Int, (shr .u64 a0 (ji8)) = j_ := ⟨_, rfl⟩
       replace H : (if 0 ≤ x10_1 then (if x10_1 < (x5_1.length : Int) then (wire_lay.l0 k1 a0 (x5_1.set (x10_1 : Int).toNat ((ji10) % 256)) a1 (wrap64 (x10_1 + 1))) else (none)) else (none)) = some r := by first | (rw [hji10] at H; exact H) | (simp only [hji10] at H ⊢; exact H)
       have hji10_ : (a0 / 2 ^ min (ji8).toNat 64) = ji10 := hji10
       have hji10z : (ji8) ≤ 64 → (a0 / 2 ^ (ji8).toNat) = ji10 := shr_small hji10
       by_cases c11 : 0 ≤ x10_1
       ·rw [if_pos c11] at H
        have c11b0 : decide (0 ≤ x10_1) = true := decide_eq_true c11
        clear c11
        by_cases c12 : x10_1 < (x5_1.length : Int)
        ·rw [if_pos c12] at H
         have c12b0 : decide (x10_1 < (x5_1.length : Int)) = true := decide_eq_true c12
         clear c12
         obtain ⟨y192, hy192⟩ : ∃ y_ : List Int, y_ = (x5_1.set (x10_1 : Int).toNat ((ji10) % 256)) := ⟨_, rfl⟩
         replace H : (wire_lay.l0 k1 a0 y192 a1 (wrap64 (x10_1 + 1))) = some r := by first | (rw [hy192]; with_reducible exact H) | (have H2_ := (Option.bind_some _ _).symm.trans H; rw [hy192]; with_reducible exact H2_) | (have H2_ := (Option.bind_some _ _).symm.trans H; with_reducible exact H2_) | with_reducible exact H | (rw [hy192]; exact H) | exact H
         have Ny192 := Aside0.mk hy192
         clear hy192
         have H' := Aside0.mk H
         clear H
         have p13 : 0 ≤ (x10_1 : Int) := of_decide_eq_true (by first | (with_reducible assumption) | assumption)
         have q13 : (x10_1 : Int) < ((x5_1.length : Int) : Int) := of_decide_eq_true (by first | (with_reducible assumption) | assumption)
         obtain ⟨go13, co13, eo13, gb13, gl13, cl13, HG13⟩ := Kd.R_form HO_5.out (by omega)
         (first | cases eo13 | (injection eo13 with ea_ en_ ec_; (first | subst ea_ | (injection ea_ with ea_; subst ea_)); subst ec_; clear en_))
         have GB13 := Aside0.mk gb13
         have GG13 := Aside0.mk HG13
         clear gb13 gl13 HG13
         obtain ⟨hx13_0, hf13_0⟩ := Kd.R_celln 0 HO_5.out (x10_1 : Int) p13 q13
         replace p13 := eq_true p13
         replace q13 := eq_true q13
         have HP14 := Kd.R_putg HO_5.out (x10_1 : Int) ((ji10) % 256)
         go_wp2_with (first | ((with_reducible refine gate_store (t := 5) (p := 20) rfl ?_); refine store_event (t := 5) (p := 20) (v := ?vo_w15) (w1 := (wr.setCell ⟨go13, (x10_1 : Int).toNat, none⟩ (.int .u8 ((ji10) % 256)))) ?hg ?ho ?hn ?hr ?_; (case ho => rfl); (case hg => rfl); (case hn => rfl); (case hr => first | (go_simp; done) | (go_simp; rfl)); intro w15 hw; have hg : wr.grownBy w15 (some go13) := (by rw [hw]; exact HP14.2); have hp_ : Kd.R (Kd.int .u8) 5 w15 w.heap.size (fun _ => True) (.slice (some ⟨go13, 0, none⟩) x5_1.length co13) y192 := (by rw [hw, Ny192.out]; exact HP14.1); clear HP14; have n0_ := Aside0.mk (hp_); have n1_ := Aside0.mk ((by rw [hw]; exact below_set (HB.out) GB13.out : Below w.heap.size w w15)); clear HO_5; clear HB; have HO_5 := n0_; have HB := n1_; clear n0_ n1_; clear hg hw hp_))
         go_roundg k1
         case measure => have := HK1.out; omega
         case rel => exact ⟨(y192), (wrap64 (x10_1 + 1)), (by first | rfl | (simp; done) | (simp [*]; done)), H', ⟨by have := HK1.out; omega⟩, ⟨by (with_reducible repeat (first | apply Kd.R_alloc | apply Kd.R_drewN | apply Kd.R_drew)); exact HO_5.out⟩, ⟨by repeat (first | (with_reducible first | exact HB.out | apply below_alloc | apply pw_below_drewN | apply below_drew1) | exact HB.out)⟩⟩
        ·rw [if_neg c12] at H
         exact absurd H (by simp)
       ·rw [if_neg c11] at H
        exact absurd H (by simp)
      ·rw [if_neg c9] at H
       exact absurd H (by simp)
     ·rw [if_neg c7] at H
      have c7b0 : decide (x10_1 < a1) = false := decide_eq_false c7
      clear c7
      obtain rfl := Option.some.inj H
      have hcv16 := own_string (P := Tryz.prog) Tryz.underlying108 Tryz.underlying5 Tryz.underlying9 (Kd.own_of_R HO_5.out)
      go_wp2
      go_ret
      exact ⟨by first | rfl | (simp [errW_none, errW_some] <;> rfl) | (simp [*, errW_none, errW_some] <;> rfl), by repeat (first | (with_reducible first | exact HB.out | apply below_alloc | apply pw_below_drewN | apply below_drew1) | exact HB.out)⟩
  ·rw [if_neg c4] at H
   exact absurd H (by simp)
 ·rw [if_neg c3] at H
  exact absurd H (by simp)

-- NOT PRINTED: function 141 (abi_NoEscape)

-- NOT PRINTED: function 113 (strings_Builder_copyCheck)

-- NOT PRINTED: function 61 (strings_Builder_WriteString)

-- NOT PRINTED: function 62 (wire_Text)

-- NOT PRINTED: function 63 (strings_Builder_String)

-- NOT PRINTED: function 31 (wire_List)

-- NOT PRINTED: function 13 (items_val)

/-! ### wire_Num: function 15 -/
def wire_Num.f (k : Nat) (a0 : Int) : Option (ByteArray) := (wire_lay.f k a0 8).bind fun t193 => (some t193)
theorem wire_Num.mono : ∀ a0 k, LeO (wire_Num.f k a0) (wire_Num.f (k + 1) a0) := by
 intro a0 k
 unfold wire_Num.f
 repeat' first
   | (with_reducible exact wire_lay.mono _ _ _)
   | (with_reducible exact LeO.refl _)
   | (with_reducible exact LeO.none _)
   | (with_reducible refine LeO.ite ?_ ?_)
   | (with_reducible refine LeO.bind ?_ (fun _ => ?_))
   | exact wire_lay.mono _ _ _
   | exact LeO.none _
   | refine LeO.ite ?_ ?_
   | refine LeO.bind ?_ (fun _ => ?_)
set_option maxHeartbeats 8000000 in
set_option maxRecDepth 100000 in
theorem wire_Num.calls (k : Nat) (a0 : Int) (r : ByteArray) (w : World) (h : wire_Num.f k a0 = some r) :
  Calls Tryz.prog 15 #[.int .u64 a0] w fun e w' => e = .returned (.string r) ∧ Below w.heap.size w w' := by
 have HB := Aside0.mk (Below.refl w.heap.size w)
 have H : ((wire_lay.f k a0 8).bind fun t193 => (some t193)) = some r := h
 clear h
 replace H := Option.bind_eq_some_iff.mp H
 obtain ⟨t193, A20, H⟩ := H
 replace H : (some t193) = some r := H
 have A2 := Aside0.mk A20
 clear A20
 obtain rfl := Option.some.inj H
 go_enter Tryz.func15, Tryz.ntmps15
 go_wp2_with (first | ((with_reducible refine gate_callee (f := 32) rfl ?_); refine goesL_ (some 4) rfl rfl Tryz.func32 (by kernel_rfl) rfl #[.int .u64 a0, .int .i64 8] rfl (by (try simp only [List.map_toArray, List.map_cons, List.map_nil]); first | done | rfl | (simp only [List.length_drop, List.length_take]; rfl)) ?_; (with_reducible refine (wire_lay.calls k a0 8 t193 _ A2.out).mono ?_); rintro e w3 ⟨rfl, hb⟩; refine ⟨_, rfl, ?_⟩; have n0_ := Aside0.mk (below_step (by repeat (first | (with_reducible first | exact HB.out | apply below_alloc | apply pw_below_drewN | apply below_drew1) | exact HB.out)) hb); clear HB; have HB := n0_; clear n0_; (try clear hb); (try clear hb2); (try clear hk); (try clear hi)))
 go_ret
 exact ⟨by first | rfl | (simp [errW_none, errW_some] <;> rfl) | (simp [*, errW_none, errW_some] <;> rfl), by repeat (first | (with_reducible first | exact HB.out | apply below_alloc | apply pw_below_drewN | apply below_drew1) | exact HB.out)⟩

/-! ### items_num: function 14 -/
def items_num.f (k : Nat) (a0 : Int) : Option (ByteArray) := (wire_Num.f k (IntKind.u64.wrap (a0))).bind fun t194 => (some t194)
set_option maxHeartbeats 8000000 in
set_option maxRecDepth 100000 in
theorem items_num.calls (k : Nat) (a0 : Int) (r : ByteArray) (w : World) (h : items_num.f k a0 = some r) :
  Calls Tryz.prog 14 #[.int .i64 a0] w fun e w' => e = .returned (.string r) ∧ Below w.heap.size w w' := by
 have HB := Aside0.mk (Below.refl w.heap.size w)
 have H : ((wire_Num.f k (IntKind.u64.wrap (a0))).bind fun t194 => (some t194)) = some r := h
 clear h
 replace H := Option.bind_eq_some_iff.mp H
 obtain ⟨t194, A20, H⟩ := H
 replace H : (some t194) = some r := H
 have A2 := Aside0.mk A20
 clear A20
 obtain rfl := Option.some.inj H
 go_enter Tryz.func14, Tryz.ntmps14
 go_wp2_with (first | ((with_reducible refine gate_callee (f := 15) rfl ?_); refine goesL_ (some 5) rfl rfl Tryz.func15 (by kernel_rfl) rfl #[.int .u64 (IntKind.u64.wrap (a0))] rfl (by (try simp only [List.map_toArray, List.map_cons, List.map_nil]); first | done | rfl | (simp only [List.length_drop, List.length_take]; rfl)) ?_; (with_reducible refine (wire_Num.calls k (IntKind.u64.wrap (a0)) t194 _ A2.out).mono ?_); rintro e w3 ⟨rfl, hb⟩; refine ⟨_, rfl, ?_⟩; have n0_ := Aside0.mk (below_step (by repeat (first | (with_reducible first | exact HB.out | apply below_alloc | apply pw_below_drewN | apply below_drew1) | exact HB.out)) hb); clear HB; have HB := n0_; clear n0_; (try clear hb); (try clear hb2); (try clear hk); (try clear hi)))
 go_ret
 exact ⟨by first | rfl | (simp [errW_none, errW_some] <;> rfl) | (simp [*, errW_none, errW_some] <;> rfl), by repeat (first | (with_reducible first | exact HB.out | apply below_alloc | apply pw_below_drewN | apply below_drew1) | exact HB.out)⟩

-- NOT PRINTED: function 16 (items_versions)

-- NOT PRINTED: function 17 (items_uploads)

-- NOT PRINTED: function 64 (api_Item_64)

-- NOT PRINTED: function 114 (api_Item_114)

-- NOT PRINTED: function 65 (api_Item_65)

-- NOT PRINTED: function 72 (bits_Len32)

-- NOT PRINTED: function 73 (bits_Len64)

-- NOT PRINTED: function 34 (bits_Len)

-- NOT PRINTED: function 115 (slices_nextPowerOfTwo)

-- NOT PRINTED: function 116 (slices_xorshift_Next)

-- NOT PRINTED: function 66 (api_Item_66)

-- NOT PRINTED: function 142 (api_Item_142)

-- NOT PRINTED: function 118 (api_Item_118)

-- NOT PRINTED: function 117 (api_Item_117)

-- NOT PRINTED: function 67 (api_Item_67)

-- NOT PRINTED: function 68 (api_Item_68)

-- NOT PRINTED: function 69 (api_Item_69)

-- NOT PRINTED: function 70 (api_Item_70)

-- NOT PRINTED: function 71 (api_Item_71)

-- NOT PRINTED: function 33 (api_Item_33)

-- NOT PRINTED: function 18 (api_Item_18)

/-! ### cmp_isNaN_string: function 47 -/
def cmp_isNaN_string.f (a0 : ByteArray) : Option (Bool) := some (a0.toList != a0.toList)
set_option maxHeartbeats 8000000 in
set_option maxRecDepth 100000 in
theorem cmp_isNaN_string.calls (a0 : ByteArray) (r : Bool) (w : World) (h : cmp_isNaN_string.f a0 = some r) :
  Calls Tryz.prog 47 #[.string a0] w fun e w' => e = .returned (.bool r) ∧ Drawn0 w w' := by
 have H : (some (a0.toList != a0.toList)) = some r := h
 clear h
 obtain rfl := Option.some.inj H
 go_enter Tryz.func47, Tryz.ntmps47
 go_wp2
 go_ret
 exact ⟨by first | rfl | (simp; done) | (simp [*]; done), by repeat (first | exact Drawn0.refl _ | apply Drawn0.step)⟩

/-! ### cmp_Compare_string: function 25 -/
def cmp_Compare_string.f (a0 : ByteArray) (a1 : ByteArray) : Option (Int) := (cmp_isNaN_string.f a0).bind fun t213 => ((cmp_isNaN_string.f a1).bind fun t214 => (if t213 = true then (if t214 = true then (some 0) else (some (-1))) else (if t214 = true then (some 1) else (if (Op.bytesLess a0.toList a1.toList) = true then (some (-1)) else (if (Op.bytesLess a1.toList a0.toList) = true then (some 1) else (some 0))))))
set_option maxHeartbeats 8000000 in
set_option maxRecDepth 100000 in
theorem cmp_Compare_string.calls (a0 : ByteArray) (a1 : ByteArray) (r : Int) (w : World) (h : cmp_Compare_string.f a0 a1 = some r) :
  Calls Tryz.prog 25 #[.string a0, .string a1] w fun e w' => e = .returned (.int .i64 r) ∧ Drawn0 w w' := by
 have H : ((cmp_isNaN_string.f a0).bind fun t213 => ((cmp_isNaN_string.f a1).bind fun t214 => (if t213 = true then (if t214 = true then (some 0) else (some (-1))) else (if t214 = true then (some 1) else (if (Op.bytesLess a0.toList a1.toList) = true then (some (-1)) else (if (Op.bytesLess a1.toList a0.toList) = true then (some 1) else (some 0))))))) = some r := h
 clear h
 replace H := Option.bind_eq_some_iff.mp H
 obtain ⟨t213, A30, H⟩ := H
 replace H : ((cmp_isNaN_string.f a1).bind fun t214 => (if t213 = true then (if t214 = true then (some 0) else (some (-1))) else (if t214 = true then (some 1) else (if (Op.bytesLess a0.toList a1.toList) = true then (some (-1)) else (if (Op.bytesLess a1.toList a0.toList) = true then (some 1) else (some 0)))))) = some r := H
 have A3 := Aside0.mk A30
 clear A30
 replace H := Option.bind_eq_some_iff.mp H
 obtain ⟨t214, A40, H⟩ := H
 replace H : (if t213 = true then (if t214 = true then (some 0) else (some (-1))) else (if t214 = true then (some 1) else (if (Op.bytesLess a0.toList a1.toList) = true then (some (-1)) else (if (Op.bytesLess a1.toList a0.toList) = true then (some 1) else (some 0))))) = some r := H
 have A4 := Aside0.mk A40
 clear A40
 by_cases c5 : t213 = true
 ·subst c5
  have H1 : (if t214 = true then (some 0) else (some (-1))) = some r := by rw [if_pos rfl] at H; exact H
  clear H
  have H := H1
  clear H1
  by_cases c6 : t214 = true
  ·subst c6
   have H1 : (some 0) = some r := by rw [if_pos rfl] at H; exact H
   clear H
   have H := H1
   clear H1
   obtain rfl := Option.some.inj H
   go_enter Tryz.func25, Tryz.ntmps25
   go_wp2_with (first | ((with_reducible refine gate_callee (f := 47) rfl ?_); refine goesL_ (some 8) rfl rfl Tryz.func47 (by kernel_rfl) rfl #[.string a0] rfl (by (try simp only [List.map_toArray, List.map_cons, List.map_nil]); first | done | rfl | (simp only [List.length_drop, List.length_take]; rfl)) ?_; (with_reducible refine (cmp_isNaN_string.calls a0 true _ A3.out).mono ?_); rintro e w' ⟨rfl, ⟨nd, rfl⟩⟩; refine ⟨_, rfl, ?_⟩) | ((with_reducible refine gate_callee (f := 47) rfl ?_); refine goesL_ (some 10) rfl rfl Tryz.func47 (by kernel_rfl) rfl #[.string a1] rfl (by (try simp only [List.map_toArray, List.map_cons, List.map_nil]); first | done | rfl | (simp only [List.length_drop, List.length_take]; rfl)) ?_; (with_reducible refine (cmp_isNaN_string.calls a1 true _ A4.out).mono ?_); rintro e w' ⟨rfl, ⟨nd, rfl⟩⟩; refine ⟨_, rfl, ?_⟩))
   go_ret
   exact ⟨by first | rfl | (simp; done) | (simp [*]; done), by repeat (first | exact Drawn0.refl _ | apply Drawn0.step)⟩
  ·replace c6 := Bool.eq_false_iff.mpr c6
   subst c6
   have H1 : (some (-1)) = some r := by rw [if_neg (show ¬ (false = true) by decide)] at H; exact H
   clear H
   have H := H1
   clear H1
   obtain rfl := Option.some.inj H
   go_enter Tryz.func25, Tryz.ntmps25
   go_wp2_with (first | ((with_reducible refine gate_callee (f := 47) rfl ?_); refine goesL_ (some 8) rfl rfl Tryz.func47 (by kernel_rfl) rfl #[.string a0] rfl (by (try simp only [List.map_toArray, List.map_cons, List.map_nil]); first | done | rfl | (simp only [List.length_drop, List.length_take]; rfl)) ?_; (with_reducible refine (cmp_isNaN_string.calls a0 true _ A3.out).mono ?_); rintro e w' ⟨rfl, ⟨nd, rfl⟩⟩; refine ⟨_, rfl, ?_⟩) | ((with_reducible refine gate_callee (f := 47) rfl ?_); refine goesL_ (some 10) rfl rfl Tryz.func47 (by kernel_rfl) rfl #[.string a1] rfl (by (try simp only [List.map_toArray, List.map_cons, List.map_nil]); first | done | rfl | (simp only [List.length_drop, List.length_take]; rfl)) ?_; (with_reducible refine (cmp_isNaN_string.calls a1 false _ A4.out).mono ?_); rintro e w' ⟨rfl, ⟨nd, rfl⟩⟩; refine ⟨_, rfl, ?_⟩))
   go_ret
   exact ⟨by first | rfl | (simp; done) | (simp [*]; done), by repeat (first | exact Drawn0.refl _ | apply Drawn0.step)⟩
 ·replace c5 := Bool.eq_false_iff.mpr c5
  subst c5
  have H1 : (if t214 = true then (some 1) else (if (Op.bytesLess a0.toList a1.toList) = true then (some (-1)) else (if (Op.bytesLess a1.toList a0.toList) = true then (some 1) else (some 0)))) = some r := by rw [if_neg (show ¬ (false = true) by decide)] at H; exact H
  clear H
  have H := H1
  clear H1
  by_cases c7 : t214 = true
  ·subst c7
   have H1 : (some 1) = some r := by rw [if_pos rfl] at H; exact H
   clear H
   have H := H1
   clear H1
   obtain rfl := Option.some.inj H
   go_enter Tryz.func25, Tryz.ntmps25
   go_wp2_with (first | ((with_reducible refine gate_callee (f := 47) rfl ?_); refine goesL_ (some 8) rfl rfl Tryz.func47 (by kernel_rfl) rfl #[.string a0] rfl (by (try simp only [List.map_toArray, List.map_cons, List.map_nil]); first | done | rfl | (simp only [List.length_drop, List.length_take]; rfl)) ?_; (with_reducible refine (cmp_isNaN_string.calls a0 false _ A3.out).mono ?_); rintro e w' ⟨rfl, ⟨nd, rfl⟩⟩; refine ⟨_, rfl, ?_⟩) | ((with_reducible refine gate_callee (f := 47) rfl ?_); refine goesL_ (some 10) rfl rfl Tryz.func47 (by kernel_rfl) rfl #[.string a1] rfl (by (try simp only [List.map_toArray, List.map_cons, List.map_nil]); first | done | rfl | (simp only [List.length_drop, List.length_take]; rfl)) ?_; (with_reducible refine (cmp_isNaN_string.calls a1 true _ A4.out).mono ?_); rintro e w' ⟨rfl, ⟨nd, rfl⟩⟩; refine ⟨_, rfl, ?_⟩))
   go_ret
   exact ⟨by first | rfl | (simp; done) | (simp [*]; done), by repeat (first | exact Drawn0.refl _ | apply Drawn0.step)⟩
  ·replace c7 := Bool.eq_false_iff.mpr c7
   subst c7
   have H1 : (if (Op.bytesLess a0.toList a1.toList) = true then (some (-1)) else (if (Op.bytesLess a1.toList a0.toList) = true then (some 1) else (some 0))) = some r := by rw [if_neg (show ¬ (false = true) by decide)] at H; exact H
   clear H
   have H := H1
   clear H1
   by_cases c8 : (Op.bytesLess a0.toList a1.toList) = true
   ·rw [if_pos c8] at H
    have c8b0 : (Op.bytesLess a0.toList a1.toList) = true := c8
    clear c8
    obtain rfl := Option.some.inj H
    go_enter Tryz.func25, Tryz.ntmps25
    go_wp2_with (first | ((with_reducible refine gate_callee (f := 47) rfl ?_); refine goesL_ (some 8) rfl rfl Tryz.func47 (by kernel_rfl) rfl #[.string a0] rfl (by (try simp only [List.map_toArray, List.map_cons, List.map_nil]); first | done | rfl | (simp only [List.length_drop, List.length_take]; rfl)) ?_; (with_reducible refine (cmp_isNaN_string.calls a0 false _ A3.out).mono ?_); rintro e w' ⟨rfl, ⟨nd, rfl⟩⟩; refine ⟨_, rfl, ?_⟩) | ((with_reducible refine gate_callee (f := 47) rfl ?_); refine goesL_ (some 10) rfl rfl Tryz.func47 (by kernel_rfl) rfl #[.string a1] rfl (by (try simp only [List.map_toArray, List.map_cons, List.map_nil]); first | done | rfl | (simp only [List.length_drop, List.length_take]; rfl)) ?_; (with_reducible refine (cmp_isNaN_string.calls a1 false _ A4.out).mono ?_); rintro e w' ⟨rfl, ⟨nd, rfl⟩⟩; refine ⟨_, rfl, ?_⟩))
    go_ret
    exact ⟨by first | rfl | (simp; done) | (simp [*]; done), by repeat (first | exact Drawn0.refl _ | apply Drawn0.step)⟩
   ·rw [if_neg c8] at H
    have c8b0 : (Op.bytesLess a0.toList a1.toList) = false := by simpa using c8
    clear c8
    by_cases c9 : (Op.bytesLess a1.toList a0.toList) = true
    ·rw [if_pos c9] at H
     have c9b0 : (Op.bytesLess a1.toList a0.toList) = true := c9
     clear c9
     obtain rfl := Option.some.inj H
     go_enter Tryz.func25, Tryz.ntmps25
     go_wp2_with (first | ((with_reducible refine gate_callee (f := 47) rfl ?_); refine goesL_ (some 8) rfl rfl Tryz.func47 (by kernel_rfl) rfl #[.string a0] rfl (by (try simp only [List.map_toArray, List.map_cons, List.map_nil]); first | done | rfl | (simp only [List.length_drop, List.length_take]; rfl)) ?_; (with_reducible refine (cmp_isNaN_string.calls a0 false _ A3.out).mono ?_); rintro e w' ⟨rfl, ⟨nd, rfl⟩⟩; refine ⟨_, rfl, ?_⟩) | ((with_reducible refine gate_callee (f := 47) rfl ?_); refine goesL_ (some 10) rfl rfl Tryz.func47 (by kernel_rfl) rfl #[.string a1] rfl (by (try simp only [List.map_toArray, List.map_cons, List.map_nil]); first | done | rfl | (simp only [List.length_drop, List.length_take]; rfl)) ?_; (with_reducible refine (cmp_isNaN_string.calls a1 false _ A4.out).mono ?_); rintro e w' ⟨rfl, ⟨nd, rfl⟩⟩; refine ⟨_, rfl, ?_⟩))
     go_ret
     exact ⟨by first | rfl | (simp; done) | (simp [*]; done), by repeat (first | exact Drawn0.refl _ | apply Drawn0.step)⟩
    ·rw [if_neg c9] at H
     have c9b0 : (Op.bytesLess a1.toList a0.toList) = false := by simpa using c9
     clear c9
     obtain rfl := Option.some.inj H
     go_enter Tryz.func25, Tryz.ntmps25
     go_wp2_with (first | ((with_reducible refine gate_callee (f := 47) rfl ?_); refine goesL_ (some 8) rfl rfl Tryz.func47 (by kernel_rfl) rfl #[.string a0] rfl (by (try simp only [List.map_toArray, List.map_cons, List.map_nil]); first | done | rfl | (simp only [List.length_drop, List.length_take]; rfl)) ?_; (with_reducible refine (cmp_isNaN_string.calls a0 false _ A3.out).mono ?_); rintro e w' ⟨rfl, ⟨nd, rfl⟩⟩; refine ⟨_, rfl, ?_⟩) | ((with_reducible refine gate_callee (f := 47) rfl ?_); refine goesL_ (some 10) rfl rfl Tryz.func47 (by kernel_rfl) rfl #[.string a1] rfl (by (try simp only [List.map_toArray, List.map_cons, List.map_nil]); first | done | rfl | (simp only [List.length_drop, List.length_take]; rfl)) ?_; (with_reducible refine (cmp_isNaN_string.calls a1 false _ A4.out).mono ?_); rintro e w' ⟨rfl, ⟨nd, rfl⟩⟩; refine ⟨_, rfl, ?_⟩))
     go_ret
     exact ⟨by first | rfl | (simp; done) | (simp [*]; done), by repeat (first | exact Drawn0.refl _ | apply Drawn0.step)⟩

/-! ### items_byName: function 19 -/
-- NOT PRINTED: function 6 (items_Of)

-- NOT PRINTED: function 22 (items_gathered)

-- NOT PRINTED: function 96 (api_Change_96)

-- NOT PRINTED: function 133 (api_Change_133)

-- NOT PRINTED: function 97 (api_Change_97)

-- NOT PRINTED: function 98 (api_Change_98)

-- NOT PRINTED: function 173 (api_Change_173)

-- NOT PRINTED: function 135 (api_Change_135)

-- NOT PRINTED: function 134 (api_Change_134)

-- NOT PRINTED: function 99 (api_Change_99)

-- NOT PRINTED: function 100 (api_Change_100)

-- NOT PRINTED: function 101 (api_Change_101)

-- NOT PRINTED: function 102 (api_Change_102)

-- NOT PRINTED: function 103 (api_Change_103)

-- NOT PRINTED: function 46 (api_Change_46)

-- NOT PRINTED: function 23 (api_Change_23)

/-! ### stringslite_HasPrefix: function 143 -/
def stringslite_HasPrefix.f (a0 : ByteArray) (a1 : ByteArray) : Option (Bool) := if (a0.size : Int) ≥ (a1.size : Int) then (if 0 ≤ (a1.size : Int) then (if (a1.size : Int) ≤ (a0.size : Int) then (some ((a0.extract 0 ((a1.size : Int) : Int).toNat).toList == a1.toList)) else (none)) else (none)) else (some false)
set_option maxHeartbeats 8000000 in
set_option maxRecDepth 100000 in
theorem stringslite_HasPrefix.calls (a0 : ByteArray) (a1 : ByteArray) (r : Bool) (w : World) (h : stringslite_HasPrefix.f a0 a1 = some r) :
  Calls Tryz.prog 143 #[.string a0, .string a1] w fun e w' => e = .returned (.bool r) ∧ Drawn0 w w' := by
 have H : (if (a0.size : Int) ≥ (a1.size : Int) then (if 0 ≤ (a1.size : Int) then (if (a1.size : Int) ≤ (a0.size : Int) then (some ((a0.extract 0 ((a1.size : Int) : Int).toNat).toList == a1.toList)) else (none)) else (none)) else (some false)) = some r := h
 clear h
 by_cases c3 : (a0.size : Int) ≥ (a1.size : Int)
 ·rw [if_pos c3] at H
  have c3b0 : decide ((a1.size : Int) ≤ (a0.size : Int)) = true := decide_eq_true c3
  have c3b1 : decide (a1.size ≤ a0.size) = true := decide_eq_true (Int.ofNat_le.mp c3)
  clear c3
  by_cases c4 : 0 ≤ (a1.size : Int)
  ·rw [if_pos c4] at H
   have c4b0 := eq_true c4
   have c4b1 : decide (0 ≤ (a1.size : Int)) = true := decide_eq_true c4
   clear c4
   by_cases c5 : (a1.size : Int) ≤ (a0.size : Int)
   ·rw [if_pos c5] at H
    have c5b0 := eq_true c5
    have c5b1 : decide ((a1.size : Int) ≤ (a0.size : Int)) = true := decide_eq_true c5
    clear c5
    obtain rfl := Option.some.inj H
    go_enter Tryz.func143, Tryz.ntmps143
    go_wp2
    go_ret
    exact ⟨by first | rfl | (simp; done) | (simp [*]; done), by repeat (first | exact Drawn0.refl _ | apply Drawn0.step)⟩
   ·rw [if_neg c5] at H
    exact absurd H (by simp)
  ·rw [if_neg c4] at H
   exact absurd H (by simp)
 ·rw [if_neg c3] at H
  have c3b0 : decide ((a1.size : Int) ≤ (a0.size : Int)) = false := decide_eq_false c3
  have c3b1 : decide (a1.size ≤ a0.size) = false := decide_eq_false (fun h => c3 (Int.ofNat_le.mpr h))
  clear c3
  obtain rfl := Option.some.inj H
  go_enter Tryz.func143, Tryz.ntmps143
  go_wp2
  go_ret
  exact ⟨by first | rfl | (simp; done) | (simp [*]; done), by repeat (first | exact Drawn0.refl _ | apply Drawn0.step)⟩

end Go.Proofs.YtafeepdlcilicaaGreat.Q

-- Qx8
namespace Go.Proofs.YtafeepdlcilicaaGreat.Q
open Go.RowKit Go.Proofs.YtafeepdlcilicaaGreatW.PrintWords Go.Proofs.YtafeepdlcilicaaGreatW.PrintLast Go.Proofs.YtafeepdlcilicaaGreatW.PrintMore
attribute [local go_sem] max2_int min2_int max_two min_two max_three min_three max_four min_four
set_option linter.unusedVariables false
set_option linter.unusedSimpArgs false

attribute [local go_sem high] eqA43 eqA80
/-! ### stringslite_CutPrefix: function 119 -/
def stringslite_CutPrefix.f (a0 : ByteArray) (a1 : ByteArray) : Option (ByteArray × Bool) := (stringslite_HasPrefix.f a0 a1).bind fun t219 => (if t219 = true then (if 0 ≤ (a1.size : Int) then (if (a1.size : Int) ≤ (a0.size : Int) then (some (a0.extract ((a1.size : Int) : Int).toNat a0.size, true)) else (none)) else (none)) else (some (a0, false)))
set_option maxHeartbeats 8000000 in
set_option maxRecDepth 100000 in
theorem stringslite_CutPrefix.calls (a0 : ByteArray) (a1 : ByteArray) (r1 : ByteArray) (r2 : Bool) (w : World) (h : stringslite_CutPrefix.f a0 a1 = some (r1, r2)) :
  Calls Tryz.prog 119 #[.string a0, .string a1] w fun e w' => e = .returned (.tuple #[.string r1, .bool r2]) ∧ Drawn0 w w' := by
 have H : ((stringslite_HasPrefix.f a0 a1).bind fun t219 => (if t219 = true then (if 0 ≤ (a1.size : Int) then (if (a1.size : Int) ≤ (a0.size : Int) then (some (a0.extract ((a1.size : Int) : Int).toNat a0.size, true)) else (none)) else (none)) else (some (a0, false)))) = some (r1, r2) := h
 clear h
 replace H := Option.bind_eq_some_iff.mp H
 obtain ⟨t219, A30, H⟩ := H
 replace H : (if t219 = true then (if 0 ≤ (a1.size : Int) then (if (a1.size : Int) ≤ (a0.size : Int) then (some (a0.extract ((a1.size : Int) : Int).toNat a0.size, true)) else (none)) else (none)) else (some (a0, false))) = some (r1, r2) := H
 have A3 := Aside0.mk A30
 clear A30
 by_cases c4 : t219 = true
 ·subst c4
  have H1 : (if 0 ≤ (a1.size : Int) then (if (a1.size : Int) ≤ (a0.size : Int) then (some (a0.extract ((a1.size : Int) : Int).toNat a0.size, true)) else (none)) else (none)) = some (r1, r2) := by rw [if_pos rfl] at H; exact H
  clear H
  have H := H1
  clear H1
  by_cases c5 : 0 ≤ (a1.size : Int)
  ·rw [if_pos c5] at H
   have c5b0 := eq_true c5
   have c5b1 : decide (0 ≤ (a1.size : Int)) = true := decide_eq_true c5
   clear c5
   by_cases c6 : (a1.size : Int) ≤ (a0.size : Int)
   ·rw [if_pos c6] at H
    have c6b0 := eq_true c6
    have c6b1 : decide ((a1.size : Int) ≤ (a0.size : Int)) = true := decide_eq_true c6
    clear c6
    simp only [Option.some.injEq, Prod.mk.injEq] at H
    obtain ⟨rfl, rfl⟩ := H
    go_enter Tryz.func119, Tryz.ntmps119
    go_wp2_with (first | ((with_reducible refine gate_callee (f := 143) rfl ?_); refine goesL_ (some 8) rfl rfl Tryz.func143 (by kernel_rfl) rfl #[.string a0, .string a1] rfl (by (try simp only [List.map_toArray, List.map_cons, List.map_nil]); first | done | rfl | (simp only [List.length_drop, List.length_take]; rfl)) ?_; (with_reducible refine (stringslite_HasPrefix.calls a0 a1 true _ A3.out).mono ?_); rintro e w' ⟨rfl, ⟨nd, rfl⟩⟩; refine ⟨_, rfl, ?_⟩))
    go_ret2
    exact ⟨by first | rfl | (simp; done) | (simp [*]; done), by repeat (first | exact Drawn0.refl _ | apply Drawn0.step)⟩
   ·rw [if_neg c6] at H
    exact absurd H (by simp)
  ·rw [if_neg c5] at H
   exact absurd H (by simp)
 ·replace c4 := Bool.eq_false_iff.mpr c4
  subst c4
  have H1 : (some (a0, false)) = some (r1, r2) := by rw [if_neg (show ¬ (false = true) by decide)] at H; exact H
  clear H
  have H := H1
  clear H1
  simp only [Option.some.injEq, Prod.mk.injEq] at H
  obtain ⟨rfl, rfl⟩ := H
  go_enter Tryz.func119, Tryz.ntmps119
  go_wp2_with (first | ((with_reducible refine gate_callee (f := 143) rfl ?_); refine goesL_ (some 8) rfl rfl Tryz.func143 (by kernel_rfl) rfl #[.string a0, .string a1] rfl (by (try simp only [List.map_toArray, List.map_cons, List.map_nil]); first | done | rfl | (simp only [List.length_drop, List.length_take]; rfl)) ?_; (with_reducible refine (stringslite_HasPrefix.calls a0 a1 false _ A3.out).mono ?_); rintro e w' ⟨rfl, ⟨nd, rfl⟩⟩; refine ⟨_, rfl, ?_⟩))
  go_ret2
  exact ⟨by first | rfl | (simp; done) | (simp [*]; done), by repeat (first | exact Drawn0.refl _ | apply Drawn0.step)⟩

/-! ### strings_CutPrefix: function 74 -/
def strings_CutPrefix.f (a0 : ByteArray) (a1 : ByteArray) : Option (ByteArray × Bool) := (stringslite_CutPrefix.f a0 a1).bind fun bt220 => (some (bt220.1, bt220.2))
set_option maxHeartbeats 8000000 in
set_option maxRecDepth 100000 in
theorem strings_CutPrefix.calls (a0 : ByteArray) (a1 : ByteArray) (r1 : ByteArray) (r2 : Bool) (w : World) (h : strings_CutPrefix.f a0 a1 = some (r1, r2)) :
  Calls Tryz.prog 74 #[.string a0, .string a1] w fun e w' => e = .returned (.tuple #[.string r1, .bool r2]) ∧ Drawn0 w w' := by
 have H : ((stringslite_CutPrefix.f a0 a1).bind fun bt220 => (some (bt220.1, bt220.2))) = some (r1, r2) := h
 clear h
 replace H := Option.bind_eq_some_iff.mp H
 obtain ⟨⟨t220, t221⟩, A30, H⟩ := H
 replace H : (some (t220, t221)) = some (r1, r2) := H
 have A3 := Aside0.mk A30
 clear A30
 simp only [Option.some.injEq, Prod.mk.injEq] at H
 obtain ⟨rfl, rfl⟩ := H
 go_enter Tryz.func74, Tryz.ntmps74
 go_wp2_with (first | ((with_reducible refine gate_callee (f := 119) rfl ?_); refine goesL_ (some 8) rfl rfl Tryz.func119 (by kernel_rfl) rfl #[.string a0, .string a1] rfl (by (try simp only [List.map_toArray, List.map_cons, List.map_nil]); first | done | rfl | (simp only [List.length_drop, List.length_take]; rfl)) ?_; (with_reducible refine (stringslite_CutPrefix.calls a0 a1 t220 t221 _ A3.out).mono ?_); rintro e w' ⟨rfl, ⟨nd, rfl⟩⟩; refine ⟨_, rfl, ?_⟩))
 go_ret2
 exact ⟨by first | rfl | (simp; done) | (simp [*]; done), by repeat (first | exact Drawn0.refl _ | apply Drawn0.step)⟩

-- NOT PRINTED: function 35 (items_builder_all)

/-! ### wire_cut: function 120 -/
def wire_cut.f (a0 : ByteArray) (a1 : Int) : Option (ByteArray × ByteArray × Int) := if (a0.size : Int) < a1 then (some ((⟨#[]⟩ : ByteArray), (⟨#[]⟩ : ByteArray), 3)) else (if 0 ≤ a1 then (if a1 ≤ (a0.size : Int) then (some (a0.extract 0 (a1 : Int).toNat, a0.extract (a1 : Int).toNat a0.size, 0)) else (none)) else (none))
set_option maxHeartbeats 8000000 in
set_option maxRecDepth 100000 in
theorem wire_cut.calls (a0 : ByteArray) (a1 : Int) (r1 : ByteArray) (r2 : ByteArray) (r3 : Int) (w : World) (h : wire_cut.f a0 a1 = some (r1, r2, r3)) :
  Calls Tryz.prog 120 #[.string a0, .int .i64 a1] w fun e w' => e = .returned (.tuple #[.string r1, .string r2, .int .i64 r3]) ∧ Drawn0 w w' := by
 have H : (if (a0.size : Int) < a1 then (some ((⟨#[]⟩ : ByteArray), (⟨#[]⟩ : ByteArray), 3)) else (if 0 ≤ a1 then (if a1 ≤ (a0.size : Int) then (some (a0.extract 0 (a1 : Int).toNat, a0.extract (a1 : Int).toNat a0.size, 0)) else (none)) else (none))) = some (r1, r2, r3) := h
 clear h
 by_cases c3 : (a0.size : Int) < a1
 ·rw [if_pos c3] at H
  have c3b0 : decide ((a0.size : Int) < a1) = true := decide_eq_true c3
  clear c3
  simp only [Option.some.injEq, Prod.mk.injEq] at H
  obtain ⟨rfl, rfl, rfl⟩ := H
  go_enter Tryz.func120, Tryz.ntmps120
  go_wp2
  repeat (go_quiet (fail); try go_wp2)
  go_ret3
  exact ⟨by first | rfl | (simp; done) | (simp [*]; done), by repeat (first | exact Drawn0.refl _ | apply Drawn0.step)⟩
 ·rw [if_neg c3] at H
  have c3b0 : decide ((a0.size : Int) < a1) = false := decide_eq_false c3
  clear c3
  by_cases c4 : 0 ≤ a1
  ·rw [if_pos c4] at H
   have c4b0 := eq_true c4
   have c4b1 : decide (0 ≤ a1) = true := decide_eq_true c4
   clear c4
   by_cases c5 : a1 ≤ (a0.size : Int)
   ·rw [if_pos c5] at H
    have c5b0 := eq_true c5
    have c5b1 : decide (a1 ≤ (a0.size : Int)) = true := decide_eq_true c5
    clear c5
    have c6b0 := eq_true (of_decide_eq_true (by first | (with_reducible assumption) | assumption) : 0 ≤ a1)
    have c7b0 := eq_true (of_decide_eq_true (by first | (with_reducible assumption) | assumption) : a1 ≤ (a0.size : Int))
    simp only [Option.some.injEq, Prod.mk.injEq] at H
    obtain ⟨rfl, rfl, rfl⟩ := H
    go_enter Tryz.func120, Tryz.ntmps120
    go_wp2
    repeat (go_quiet (fail); try go_wp2)
    go_ret3
    exact ⟨by first | rfl | (simp; done) | (simp [*]; done), by repeat (first | exact Drawn0.refl _ | apply Drawn0.step)⟩
   ·rw [if_neg c5] at H
    exact absurd H (by simp)
  ·rw [if_neg c4] at H
   exact absurd H (by simp)

/-! ### wire_read: function 121 -/
def wire_read.l0 : Nat → ByteArray → Int → Int → Int → Option (Int)
 | 0, _, _, _, _ => none
 | k + 1, x0, x3, x6, x7 => if x7 < x6 then (if 0 ≤ x7 then (if x7 < (x0.size : Int) then (if 0 ≤ (wrap64 (8 * x7)) then (wire_read.l0 k x0 (Go.bits .or .u64 x3 (shl .u64 (IntKind.u64.wrap (bt x0 x7)) (wrap64 (8 * x7)))) x6 (wrap64 (x7 + 1))) else (none)) else (none)) else (none)) else (some x3)
def wire_read.f (k : Nat) (a0 : ByteArray) : Option (Int) := wire_read.l0 k a0 0 (a0.size : Int) 0
set_option maxHeartbeats 8000000 in
set_option maxRecDepth 100000 in
theorem wire_read.calls (k : Nat) (a0 : ByteArray) (r : Int) (w : World) (h : wire_read.f k a0 = some r) :
  Calls Tryz.prog 121 #[.string a0] w fun e w' => e = .returned (.int .u64 r) ∧ Drawn0 w w' := by
 have H : (wire_read.l0 k a0 0 (a0.size : Int) 0) = some r := h
 clear h
 have H' := Aside0.mk H
 clear H
 go_enter Tryz.func121, Tryz.ntmps121
 go_wp2
 go_loopg [3, 7] k (fun kq v3 v7 w' => ∃ (x3_1 : Int) (x7_1 : Int), v3 = .int .u64 x3_1 ∧ v7 = .int .i64 x7_1 ∧ Aside0 (wire_read.l0 kq a0 x3_1 (a0.size : Int) x7_1 = some r) ∧ Aside0 (kq ≤ k) ∧ Drawn0 w w')
 case atStart => exact ⟨(0), (0), (by first | rfl | (simp; done) | (simp [*]; done)), (by first | rfl | (simp; done) | (simp [*]; done)), H', ⟨Nat.le_refl _⟩, by repeat (first | exact Drawn0.refl _ | apply Drawn0.step)⟩
 case round =>
  clear H'
  try clear c1
  obtain ⟨x3_1, x7_1, rfl, rfl, HA, HK1, ⟨m1, rfl⟩⟩ := hrel
  cases gk with
  | zero => exact absurd HA.out (by simp [wire_read.l0])
  | succ k1 =>
   have H := HA.out
   clear HA
   simp only [wire_read.l0] at H
   by_cases c2 : x7_1 < (a0.size : Int)
   ·rw [if_pos c2] at H
    have c2b0 : decide (x7_1 < (a0.size : Int)) = true := decide_eq_true c2
    clear c2
    by_cases c3 : 0 ≤ x7_1
    ·rw [if_pos c3] at H
     have c3b0 : decide (0 ≤ x7_1) = true := decide_eq_true c3
     clear c3
     by_cases c4 : x7_1 < (a0.size : Int)
     ·rw [if_pos c4] at H
      have c4b0 : decide (x7_1 < (a0.size : Int)) = true := decide_eq_true c4
      clear c4
      obtain ⟨ji6, hji6⟩ : ∃ j_ : Int, (wrap64 (8 * x7_1)) = j_ := ⟨_, rfl⟩
      replace H : (if 0 ≤ (ji6) then (wire_read.l0 k1 a0 (Go.bits .or .u64 x3_1 (shl .u64 (IntKind.u64.wrap (bt a0 x7_1)) (ji6))) (a0.size : Int) (wrap64 (x7_1 + 1))) else (none)) = some r := by first | (rw [hji6] at H; exact H) | (simp only [hji6] at H ⊢; exact H)
      have hji6w : (IntKind.i64.wrap (8 * x7_1)) = ji6 := (i64_w _).trans hji6
      by_cases c7 : 0 ≤ (ji6)
      ·rw [if_pos c7] at H
       have c7b0 := eq_true c7
       have c7b1 : decide (0 ≤ (ji6)) = true := decide_eq_true c7
       clear c7
       obtain ⟨ji8, hji8⟩ : ∃ j_ : Int, (shl .u64 (IntKind.u64.wrap (bt a0 x7_1)) (ji6)) = j_ := ⟨_, rfl⟩
       replace H : (wire_read.l0 k1 a0 (Go.bits .or .u64 x3_1 (ji8)) (a0.size : Int) (wrap64 (x7_1 + 1))) = some r := by first | (rw [hji8] at H; exact H) | (simp only [hji8] at H ⊢; exact H)
       have hji8_ : (IntKind.u64.wrap ((IntKind.u64.wrap (bt a0 x7_1)) * 2 ^ min (ji6).toNat 64)) = ji8 := hji8
       have hji8z : (ji6) ≤ 64 → (IntKind.u64.wrap ((IntKind.u64.wrap (bt a0 x7_1)) * 2 ^ (ji6).toNat)) = ji8 := shl_small hji8
       have H' := Aside0.mk H
       clear H
       have p5 : 0 ≤ (x7_1 : Int) := of_decide_eq_true (by first | (with_reducible assumption) | assumption)
       have q5 : x7_1 < (a0.size : Int) := of_decide_eq_true (by first | (with_reducible assumption) | assumption)
       have hx5 := bt_at a0 x7_1
       replace p5 := eq_true p5
       replace q5 := eq_true q5
       go_wp2
       go_roundg k1
       case measure => have := HK1.out; omega
       case rel => exact ⟨(Go.bits .or .u64 x3_1 (ji8)), (wrap64 (x7_1 + 1)), (by first | rfl | (simp; done) | (simp only [← hji8] <;> (first | rfl | simp)) | (simp [*]; done)), (by first | rfl | (simp; done) | (simp [*]; done)), H', ⟨by have := HK1.out; omega⟩, by repeat (first | exact Drawn0.refl _ | apply Drawn0.step)⟩
      ·rw [if_neg c7] at H
       exact absurd H (by simp)
     ·rw [if_neg c4] at H
      exact absurd H (by simp)
    ·rw [if_neg c3] at H
     exact absurd H (by simp)
   ·rw [if_neg c2] at H
    have c2b0 : decide (x7_1 < (a0.size : Int)) = false := decide_eq_false c2
    clear c2
    obtain rfl := Option.some.inj H
    go_wp2
    go_ret
    exact ⟨by first | rfl | (simp; done) | (simp [*]; done), by repeat (first | exact Drawn0.refl _ | apply Drawn0.step)⟩

/-! ### wire_TakeNum: function 75 -/
def wire_TakeNum.f (k : Nat) (a0 : ByteArray) : Option (Int × ByteArray × Int) := (wire_cut.f a0 8).bind fun bt222 => (if bt222.2.2 = 0 then ((wire_read.f k bt222.1).bind fun t225 => (some (t225, bt222.2.1, 0))) else (some (0, (⟨#[]⟩ : ByteArray), bt222.2.2)))
set_option maxHeartbeats 8000000 in
set_option maxRecDepth 100000 in
theorem wire_TakeNum.calls (k : Nat) (a0 : ByteArray) (r1 : Int) (r2 : ByteArray) (r3 : Int) (w : World) (h : wire_TakeNum.f k a0 = some (r1, r2, r3)) :
  Calls Tryz.prog 75 #[.string a0] w fun e w' => e = .returned (.tuple #[.int .u64 r1, .string r2, .int .i64 r3]) ∧ Drawn0 w w' := by
 have H : ((wire_cut.f a0 8).bind fun bt222 => (if bt222.2.2 = 0 then ((wire_read.f k bt222.1).bind fun t225 => (some (t225, bt222.2.1, 0))) else (some (0, (⟨#[]⟩ : ByteArray), bt222.2.2)))) = some (r1, r2, r3) := h
 clear h
 replace H := Option.bind_eq_some_iff.mp H
 obtain ⟨⟨t222, t223, t224⟩, A20, H⟩ := H
 replace H : (if t224 = 0 then ((wire_read.f k t222).bind fun t225 => (some (t225, t223, 0))) else (some (0, (⟨#[]⟩ : ByteArray), t224))) = some (r1, r2, r3) := H
 have A2 := Aside0.mk A20
 clear A20
 by_cases c3 : t224 = 0
 ·rw [if_pos c3] at H
  have c3b0 : (t224 == 0) = true := beq_iff_eq.mpr c3
  have c3b1 : (t224 != 0) = false := bne_eq_false_iff_eq.mpr c3
  clear c3
  replace H := Option.bind_eq_some_iff.mp H
  obtain ⟨t225, A40, H⟩ := H
  replace H : (some (t225, t223, 0)) = some (r1, r2, r3) := H
  have A4 := Aside0.mk A40
  clear A40
  simp only [Option.some.injEq, Prod.mk.injEq] at H
  obtain ⟨rfl, rfl, rfl⟩ := H
  go_enter Tryz.func75, Tryz.ntmps75
  go_wp2_with (first | ((with_reducible refine gate_callee (f := 120) rfl ?_); refine goesL_ (some 10) rfl rfl Tryz.func120 (by kernel_rfl) rfl #[.string a0, .int .i64 8] rfl (by (try simp only [List.map_toArray, List.map_cons, List.map_nil]); first | done | rfl | (simp only [List.length_drop, List.length_take]; rfl)) ?_; (with_reducible refine (wire_cut.calls a0 8 t222 t223 t224 _ A2.out).mono ?_); rintro e w' ⟨rfl, ⟨nd, rfl⟩⟩; refine ⟨_, rfl, ?_⟩) | ((with_reducible refine gate_callee (f := 121) rfl ?_); refine goesL_ (some 18) rfl rfl Tryz.func121 (by kernel_rfl) rfl #[.string t222] rfl (by (try simp only [List.map_toArray, List.map_cons, List.map_nil]); first | done | rfl | (simp only [List.length_drop, List.length_take]; rfl)) ?_; (with_reducible refine (wire_read.calls k t222 t225 _ A4.out).mono ?_); rintro e w' ⟨rfl, ⟨nd, rfl⟩⟩; refine ⟨_, rfl, ?_⟩))
  go_ret3
  exact ⟨by first | rfl | (simp; done) | (simp [*]; done), by repeat (first | exact Drawn0.refl _ | apply Drawn0.step)⟩
 ·rw [if_neg c3] at H
  have c3b0 : (t224 == 0) = false := beq_eq_false_iff_ne.mpr c3
  have c3b1 : (t224 != 0) = true := bne_iff_ne.mpr c3
  simp only [Option.some.injEq, Prod.mk.injEq] at H
  obtain ⟨rfl, rfl, rfl⟩ := H
  go_enter Tryz.func75, Tryz.ntmps75
  go_wp2_with (first | ((with_reducible refine gate_callee (f := 120) rfl ?_); refine goesL_ (some 10) rfl rfl Tryz.func120 (by kernel_rfl) rfl #[.string a0, .int .i64 8] rfl (by (try simp only [List.map_toArray, List.map_cons, List.map_nil]); first | done | rfl | (simp only [List.length_drop, List.length_take]; rfl)) ?_; (with_reducible refine (wire_cut.calls a0 8 t222 t223 t224 _ A2.out).mono ?_); rintro e w' ⟨rfl, ⟨nd, rfl⟩⟩; refine ⟨_, rfl, ?_⟩))
  go_ret3
  exact ⟨by first | rfl | (simp; done) | (simp [*]; done), by repeat (first | exact Drawn0.refl _ | apply Drawn0.step)⟩

-- NOT PRINTED: function 37 (items_builder_number)

/-! ### wire_count: function 144 -/
def wire_count.f (k : Nat) (a0 : ByteArray) : Option (Int × ByteArray × Int) := (wire_cut.f a0 2).bind fun bt226 => ((wire_read.f k bt226.1).bind fun t229 => (if bt226.2.2 = 0 then (if (wrap64 (t229)) > 4000 then (some (0, (⟨#[]⟩ : ByteArray), 2)) else (some (wrap64 (t229), bt226.2.1, 0))) else (some (0, (⟨#[]⟩ : ByteArray), bt226.2.2))))
set_option maxHeartbeats 8000000 in
set_option maxRecDepth 100000 in
theorem wire_count.calls (k : Nat) (a0 : ByteArray) (r1 : Int) (r2 : ByteArray) (r3 : Int) (w : World) (h : wire_count.f k a0 = some (r1, r2, r3)) :
  Calls Tryz.prog 144 #[.string a0] w fun e w' => e = .returned (.tuple #[.int .i64 r1, .string r2, .int .i64 r3]) ∧ Drawn0 w w' := by
 have H : ((wire_cut.f a0 2).bind fun bt226 => ((wire_read.f k bt226.1).bind fun t229 => (if bt226.2.2 = 0 then (if (wrap64 (t229)) > 4000 then (some (0, (⟨#[]⟩ : ByteArray), 2)) else (some (wrap64 (t229), bt226.2.1, 0))) else (some (0, (⟨#[]⟩ : ByteArray), bt226.2.2))))) = some (r1, r2, r3) := h
 clear h
 replace H := Option.bind_eq_some_iff.mp H
 obtain ⟨⟨t226, t227, t228⟩, A20, H⟩ := H
 replace H : ((wire_read.f k t226).bind fun t229 => (if t228 = 0 then (if (wrap64 (t229)) > 4000 then (some (0, (⟨#[]⟩ : ByteArray), 2)) else (some (wrap64 (t229), t227, 0))) else (some (0, (⟨#[]⟩ : ByteArray), t228)))) = some (r1, r2, r3) := H
 have A2 := Aside0.mk A20
 clear A20
 replace H := Option.bind_eq_some_iff.mp H
 obtain ⟨t229, A30, H⟩ := H
 replace H : (if t228 = 0 then (if (wrap64 (t229)) > 4000 then (some (0, (⟨#[]⟩ : ByteArray), 2)) else (some (wrap64 (t229), t227, 0))) else (some (0, (⟨#[]⟩ : ByteArray), t228))) = some (r1, r2, r3) := H
 have A3 := Aside0.mk A30
 clear A30
 by_cases c4 : t228 = 0
 ·rw [if_pos c4] at H
  have c4b0 : (t228 == 0) = true := beq_iff_eq.mpr c4
  have c4b1 : (t228 != 0) = false := bne_eq_false_iff_eq.mpr c4
  clear c4
  by_cases c5 : (wrap64 (t229)) > 4000
  ·rw [if_pos c5] at H
   have c5b0 : decide (4000 < (wrap64 (t229))) = true := decide_eq_true c5
   clear c5
   simp only [Option.some.injEq, Prod.mk.injEq] at H
   obtain ⟨rfl, rfl, rfl⟩ := H
   go_enter Tryz.func144, Tryz.ntmps144
   go_wp2_with (first | ((with_reducible refine gate_callee (f := 120) rfl ?_); refine goesL_ (some 11) rfl rfl Tryz.func120 (by kernel_rfl) rfl #[.string a0, .int .i64 2] rfl (by (try simp only [List.map_toArray, List.map_cons, List.map_nil]); first | done | rfl | (simp only [List.length_drop, List.length_take]; rfl)) ?_; (with_reducible refine (wire_cut.calls a0 2 t226 t227 t228 _ A2.out).mono ?_); rintro e w' ⟨rfl, ⟨nd, rfl⟩⟩; refine ⟨_, rfl, ?_⟩) | ((with_reducible refine gate_callee (f := 121) rfl ?_); refine goesL_ (some 16) rfl rfl Tryz.func121 (by kernel_rfl) rfl #[.string t226] rfl (by (try simp only [List.map_toArray, List.map_cons, List.map_nil]); first | done | rfl | (simp only [List.length_drop, List.length_take]; rfl)) ?_; (with_reducible refine (wire_read.calls k t226 t229 _ A3.out).mono ?_); rintro e w' ⟨rfl, ⟨nd, rfl⟩⟩; refine ⟨_, rfl, ?_⟩))
   go_ret3
   exact ⟨by first | rfl | (simp; done) | (simp [*]; done), by repeat (first | exact Drawn0.refl _ | apply Drawn0.step)⟩
  ·rw [if_neg c5] at H
   have c5b0 : decide (4000 < (wrap64 (t229))) = false := decide_eq_false c5
   clear c5
   simp only [Option.some.injEq, Prod.mk.injEq] at H
   obtain ⟨rfl, rfl, rfl⟩ := H
   go_enter Tryz.func144, Tryz.ntmps144
   go_wp2_with (first | ((with_reducible refine gate_callee (f := 120) rfl ?_); refine goesL_ (some 11) rfl rfl Tryz.func120 (by kernel_rfl) rfl #[.string a0, .int .i64 2] rfl (by (try simp only [List.map_toArray, List.map_cons, List.map_nil]); first | done | rfl | (simp only [List.length_drop, List.length_take]; rfl)) ?_; (with_reducible refine (wire_cut.calls a0 2 t226 t227 t228 _ A2.out).mono ?_); rintro e w' ⟨rfl, ⟨nd, rfl⟩⟩; refine ⟨_, rfl, ?_⟩) | ((with_reducible refine gate_callee (f := 121) rfl ?_); refine goesL_ (some 16) rfl rfl Tryz.func121 (by kernel_rfl) rfl #[.string t226] rfl (by (try simp only [List.map_toArray, List.map_cons, List.map_nil]); first | done | rfl | (simp only [List.length_drop, List.length_take]; rfl)) ?_; (with_reducible refine (wire_read.calls k t226 t229 _ A3.out).mono ?_); rintro e w' ⟨rfl, ⟨nd, rfl⟩⟩; refine ⟨_, rfl, ?_⟩))
   go_ret3
   exact ⟨by first | rfl | (simp; done) | (simp [*]; done), by repeat (first | exact Drawn0.refl _ | apply Drawn0.step)⟩
 ·rw [if_neg c4] at H
  have c4b0 : (t228 == 0) = false := beq_eq_false_iff_ne.mpr c4
  have c4b1 : (t228 != 0) = true := bne_iff_ne.mpr c4
  simp only [Option.some.injEq, Prod.mk.injEq] at H
  obtain ⟨rfl, rfl, rfl⟩ := H
  go_enter Tryz.func144, Tryz.ntmps144
  go_wp2_with (first | ((with_reducible refine gate_callee (f := 120) rfl ?_); refine goesL_ (some 11) rfl rfl Tryz.func120 (by kernel_rfl) rfl #[.string a0, .int .i64 2] rfl (by (try simp only [List.map_toArray, List.map_cons, List.map_nil]); first | done | rfl | (simp only [List.length_drop, List.length_take]; rfl)) ?_; (with_reducible refine (wire_cut.calls a0 2 t226 t227 t228 _ A2.out).mono ?_); rintro e w' ⟨rfl, ⟨nd, rfl⟩⟩; refine ⟨_, rfl, ?_⟩) | ((with_reducible refine gate_callee (f := 121) rfl ?_); refine goesL_ (some 16) rfl rfl Tryz.func121 (by kernel_rfl) rfl #[.string t226] rfl (by (try simp only [List.map_toArray, List.map_cons, List.map_nil]); first | done | rfl | (simp only [List.length_drop, List.length_take]; rfl)) ?_; (with_reducible refine (wire_read.calls k t226 t229 _ A3.out).mono ?_); rintro e w' ⟨rfl, ⟨nd, rfl⟩⟩; refine ⟨_, rfl, ?_⟩))
  go_ret3
  exact ⟨by first | rfl | (simp; done) | (simp [*]; done), by repeat (first | exact Drawn0.refl _ | apply Drawn0.step)⟩

-- NOT PRINTED: function 122 (wire_TakeList)

-- NOT PRINTED: function 76 (wire_Whole)

-- NOT PRINTED: function 38 (items_builder_texts)

-- NOT PRINTED: function 77 (items_builder_tail)

-- NOT PRINTED: function 187 (bytealg_IndexByteString)

-- NOT PRINTED: function 174 (stringslite_IndexByte)

-- NOT PRINTED: function 175 (bytealg_IndexString)

-- NOT PRINTED: function 176 (bytealg_Cutover)

-- NOT PRINTED: function 188 (bytealg_hashStr_string)

-- NOT PRINTED: function 177 (bytealg_IndexRabinKarp_string)

-- NOT PRINTED: function 147 (stringslite_Index)

-- NOT PRINTED: function 123 (stringslite_Cut)

-- NOT PRINTED: function 78 (strings_Cut)

-- NOT PRINTED: function 148 (stringslite_HasSuffix)

-- NOT PRINTED: function 124 (stringslite_CutSuffix)

-- NOT PRINTED: function 79 (strings_CutSuffix)

-- NOT PRINTED: function 125 (api_Bucket)

-- NOT PRINTED: function 80 (items_builder_bucket)

-- NOT PRINTED: function 40 (items_builder_version)

-- NOT PRINTED: function 41 (items_builder_upload)

-- NOT PRINTED: function 42 (items_builder_part)

-- NOT PRINTED: function 149 (api_Entry_149)

-- NOT PRINTED: function 178 (api_Entry_178)

-- NOT PRINTED: function 150 (api_Entry_150)

-- NOT PRINTED: function 151 (api_Entry_151)

-- NOT PRINTED: function 189 (api_Entry_189)

-- NOT PRINTED: function 180 (api_Entry_180)

-- NOT PRINTED: function 179 (api_Entry_179)

-- NOT PRINTED: function 152 (api_Entry_152)

-- NOT PRINTED: function 153 (api_Entry_153)

-- NOT PRINTED: function 154 (api_Entry_154)

-- NOT PRINTED: function 155 (api_Entry_155)

-- NOT PRINTED: function 156 (api_Entry_156)

-- NOT PRINTED: function 127 (api_Entry_127)

-- NOT PRINTED: function 85 (api_Entry_85)

-- NOT PRINTED: function 157 (api_Upload_157)

-- NOT PRINTED: function 181 (api_Upload_181)

-- NOT PRINTED: function 158 (api_Upload_158)

-- NOT PRINTED: function 159 (api_Upload_159)

-- NOT PRINTED: function 190 (api_Upload_190)

-- NOT PRINTED: function 183 (api_Upload_183)

-- NOT PRINTED: function 182 (api_Upload_182)

-- NOT PRINTED: function 160 (api_Upload_160)

-- NOT PRINTED: function 161 (api_Upload_161)

-- NOT PRINTED: function 162 (api_Upload_162)

-- NOT PRINTED: function 163 (api_Upload_163)

-- NOT PRINTED: function 164 (api_Upload_164)

-- NOT PRINTED: function 128 (api_Upload_128)

-- NOT PRINTED: function 87 (api_Upload_87)

-- NOT PRINTED: function 90 (api_Version_90)

-- NOT PRINTED: function 165 (api_Part_165)

-- NOT PRINTED: function 184 (api_Part_184)

-- NOT PRINTED: function 166 (api_Part_166)

-- NOT PRINTED: function 167 (api_Part_167)

-- NOT PRINTED: function 191 (api_Part_191)

-- NOT PRINTED: function 186 (api_Part_186)

-- NOT PRINTED: function 185 (api_Part_185)

-- NOT PRINTED: function 168 (api_Part_168)

-- NOT PRINTED: function 169 (api_Part_169)

-- NOT PRINTED: function 170 (api_Part_170)

-- NOT PRINTED: function 171 (api_Part_171)

-- NOT PRINTED: function 172 (api_Part_172)

-- NOT PRINTED: function 130 (api_Part_130)

-- NOT PRINTED: function 91 (api_Part_91)

-- NOT PRINTED: function 43 (items_builder_done)

/-! ### api_Item_44: function 44 -/
def api_Item_44.l0 : Nat → List (S43) → List (S43) → Int → Int → Option (Bool)
 | 0, _, _, _, _ => none
 | k + 1, x0, x1, x12, x13 => if x13 < x12 then (if 0 ≤ x13 then (if x13 < (x0.length : Int) then (if x13 < (x1.length : Int) then (if (!((((rd_T43 x0 x13).f0).toList) == (((rd_T43 x1 x13).f0).toList)) || (!((((rd_T43 x0 x13).f1).toList) == (((rd_T43 x1 x13).f1).toList)))) = true then (some false) else (api_Item_44.l0 k x0 x1 x12 (wrap64 (x13 + 1)))) else (none)) else (none)) else (none)) else (some true)
def api_Item_44.f (k : Nat) (l0 : List (S43)) (l1 : List (S43)) : Option (Bool) := if (l0.length : Int) = (l1.length : Int) then (api_Item_44.l0 k l0 l1 (l0.length : Int) 0) else (some false)
set_option maxHeartbeats 8000000 in
set_option maxRecDepth 100000 in
theorem api_Item_44.calls (k : Nat) (A0 : Option Addr) (c0 : Nat) (l0 : List (S43)) (A1 : Option Addr) (c1 : Nat) (l1 : List (S43)) (r : Bool) (w : World) (hr0 : Kd.C k43 w A0 l0.length l0) (hc0 : l0.length ≤ c0) (hr1 : Kd.C k43 w A1 l1.length l1) (hc1 : l1.length ≤ c1) (h : api_Item_44.f k l0 l1 = some r) :
  Calls Tryz.prog 44 #[.slice A0 l0.length c0, .slice A1 l1.length c1] w fun e w' => e = .returned (.bool r) ∧ Drawn0 w w' := by
 have hu43 := Tryz.underlying43
 have HR0 := Aside0.mk hr0
 have HC0 := Aside0.mk hc0
 clear hr0 hc0
 have HR1 := Aside0.mk hr1
 have HC1 := Aside0.mk hc1
 clear hr1 hc1
 have H : (if (l0.length : Int) = (l1.length : Int) then (api_Item_44.l0 k l0 l1 (l0.length : Int) 0) else (some false)) = some r := h
 clear h
 by_cases c3 : (l0.length : Int) = (l1.length : Int)
 ·rw [if_pos c3] at H
  have c3b0 : ((l0.length : Int) == (l1.length : Int)) = true := beq_iff_eq.mpr c3
  have c3b1 : ((l0.length : Int) != (l1.length : Int)) = false := bne_eq_false_iff_eq.mpr c3
  have c3b2 : (l0.length == l1.length) = true := by first | simpa using c3 | (simp at c3 ⊢; omega)
  clear c3
  have H' := Aside0.mk H
  clear H
  go_enter Tryz.func44, Tryz.ntmps44
  go_wp2
  repeat (go_quiet (fail); try go_wp2)
  go_loopg [13] k (fun kq v13 w' => ∃ (x13_1 : Int), v13 = .int .i64 x13_1 ∧ Aside0 (api_Item_44.l0 kq l0 l1 (l0.length : Int) x13_1 = some r) ∧ Aside0 (kq ≤ k) ∧ Drawn0 w w')
  case atStart => exact ⟨(0), (by first | rfl | (simp; done) | (simp [*]; done)), H', ⟨Nat.le_refl _⟩, by repeat (first | exact Drawn0.refl _ | apply Drawn0.step)⟩
  case round =>
   clear H'
   try clear c1
   try clear p2
   try clear c3
   try clear c3b0
   try clear c3b1
   try clear c3b2
   obtain ⟨x13_1, rfl, HA, HK1, ⟨m1, rfl⟩⟩ := hrel
   cases gk with
   | zero => exact absurd HA.out (by simp [api_Item_44.l0])
   | succ k1 =>
    have H := HA.out
    clear HA
    simp only [api_Item_44.l0] at H
    by_cases c4 : x13_1 < (l0.length : Int)
    ·rw [if_pos c4] at H
     have c4b0 : decide (x13_1 < (l0.length : Int)) = true := decide_eq_true c4
     clear c4
     by_cases c5 : 0 ≤ x13_1
     ·rw [if_pos c5] at H
      have c5b0 : decide (0 ≤ x13_1) = true := decide_eq_true c5
      clear c5
      by_cases c6 : x13_1 < (l0.length : Int)
      ·rw [if_pos c6] at H
       have c6b0 : decide (x13_1 < (l0.length : Int)) = true := decide_eq_true c6
       clear c6
       by_cases c7 : x13_1 < (l1.length : Int)
       ·rw [if_pos c7] at H
        have c7b0 : decide (x13_1 < (l1.length : Int)) = true := decide_eq_true c7
        clear c7
        by_cases c8 : (!((((rd_T43 l0 x13_1).f0).toList) == (((rd_T43 l1 x13_1).f0).toList)) || (!((((rd_T43 l0 x13_1).f1).toList) == (((rd_T43 l1 x13_1).f1).toList)))) = true
        ·rw [if_pos c8] at H
         have c8b0 : (!((((rd_T43 l0 x13_1).f0).toList) == (((rd_T43 l1 x13_1).f0).toList)) || (!((((rd_T43 l0 x13_1).f1).toList) == (((rd_T43 l1 x13_1).f1).toList)))) = true := c8
         clear c8
         obtain rfl := Option.some.inj H
         have p234 : 0 ≤ (x13_1 : Int) := of_decide_eq_true (by first | (with_reducible assumption) | assumption)
         have q234 : x13_1 < (l0.length : Int) := of_decide_eq_true (by first | (with_reducible assumption) | assumption)
         obtain ⟨ad234, e234, hx234_0, hx234_1⟩ := at_T43 HR0.out x13_1 p234 q234
         cases e234
         replace p234 := eq_true p234
         replace q234 := eq_true q234
         have p235 : 0 ≤ (x13_1 : Int) := of_decide_eq_true (by first | (with_reducible assumption) | assumption)
         have q235 : x13_1 < (l1.length : Int) := of_decide_eq_true (by first | (with_reducible assumption) | assumption)
         obtain ⟨ad235, e235, hx235_0, hx235_1⟩ := at_T43 HR1.out x13_1 p235 q235
         cases e235
         replace p235 := eq_true p235
         replace q235 := eq_true q235
         go_wp2
         repeat (go_quiet (fail); try go_wp2)
         go_ret
         exact ⟨by first | rfl | (simp; done) | (simp [*]; done), by repeat (first | exact Drawn0.refl _ | apply Drawn0.step)⟩
        ·rw [if_neg c8] at H
         have c8b0 : (!((((rd_T43 l0 x13_1).f0).toList) == (((rd_T43 l1 x13_1).f0).toList)) || (!((((rd_T43 l0 x13_1).f1).toList) == (((rd_T43 l1 x13_1).f1).toList)))) = false := by simpa using c8
         clear c8
         have H' := Aside0.mk H
         clear H
         have p234 : 0 ≤ (x13_1 : Int) := of_decide_eq_true (by first | (with_reducible assumption) | assumption)
         have q234 : x13_1 < (l0.length : Int) := of_decide_eq_true (by first | (with_reducible assumption) | assumption)
         obtain ⟨ad234, e234, hx234_0, hx234_1⟩ := at_T43 HR0.out x13_1 p234 q234
         cases e234
         replace p234 := eq_true p234
         replace q234 := eq_true q234
         have p235 : 0 ≤ (x13_1 : Int) := of_decide_eq_true (by first | (with_reducible assumption) | assumption)
         have q235 : x13_1 < (l1.length : Int) := of_decide_eq_true (by first | (with_reducible assumption) | assumption)
         obtain ⟨ad235, e235, hx235_0, hx235_1⟩ := at_T43 HR1.out x13_1 p235 q235
         cases e235
         replace p235 := eq_true p235
         replace q235 := eq_true q235
         go_wp2
         repeat (go_quiet (fail); try go_wp2)
         go_roundg k1
         case measure => have := HK1.out; omega
         case rel => exact ⟨(wrap64 (x13_1 + 1)), (by first | rfl | (simp; done) | (simp [*]; done)), H', ⟨by have := HK1.out; omega⟩, by repeat (first | exact Drawn0.refl _ | apply Drawn0.step)⟩
       ·rw [if_neg c7] at H
        exact absurd H (by simp)
      ·rw [if_neg c6] at H
       exact absurd H (by simp)
     ·rw [if_neg c5] at H
      exact absurd H (by simp)
    ·rw [if_neg c4] at H
     have c4b0 : decide (x13_1 < (l0.length : Int)) = false := decide_eq_false c4
     clear c4
     obtain rfl := Option.some.inj H
     go_wp2
     repeat (go_quiet (fail); try go_wp2)
     go_ret
     exact ⟨by first | rfl | (simp; done) | (simp [*]; done), by repeat (first | exact Drawn0.refl _ | apply Drawn0.step)⟩
 ·rw [if_neg c3] at H
  have c3b0 : ((l0.length : Int) == (l1.length : Int)) = false := beq_eq_false_iff_ne.mpr c3
  have c3b1 : ((l0.length : Int) != (l1.length : Int)) = true := bne_iff_ne.mpr c3
  have c3b2 : (l0.length == l1.length) = false := by first | simpa using c3 | (simp at c3 ⊢; omega)
  obtain rfl := Option.some.inj H
  go_enter Tryz.func44, Tryz.ntmps44
  go_wp2
  repeat (go_quiet (fail); try go_wp2)
  go_ret
  exact ⟨by first | rfl | (simp; done) | (simp [*]; done), by repeat (first | exact Drawn0.refl _ | apply Drawn0.step)⟩

-- NOT PRINTED: function 20 (items_Build)

/-! ### cellarerref05_Same: function 132 -/
end Go.Proofs.YtafeepdlcilicaaGreat.Q

-- Qx11
namespace Go.Proofs.YtafeepdlcilicaaGreat.Q
open Go.RowKit Go.Proofs.YtafeepdlcilicaaGreatW.PrintWords Go.Proofs.YtafeepdlcilicaaGreatW.PrintLast Go.Proofs.YtafeepdlcilicaaGreatW.PrintMore
attribute [local go_sem] max2_int min2_int max_two min_two max_three min_three max_four min_four
set_option linter.unusedVariables false
set_option linter.unusedSimpArgs false

attribute [local go_sem high] eqA43
/-! ### cellarerref10_Same: function 21 -/
-- NOT PRINTED: function 7 (cellarerlaw11_awake)

-- NOT PRINTED: function 3 (cellarerlaw11_ItemsNames)

/-! ### cellarerref11_Same: function 9 -/
def cellarerref11_Same.l0 : Nat → List (S43) → List (S43) → Int → Option (Bool)
 | 0, _, _, _ => none
 | k + 1, x0, x1, x5 => if x5 < (x0.length : Int) then (if 0 ≤ x5 then (if x5 < (x1.length : Int) then (if (!((((rd_T43 x0 x5).f0).toList) == (((rd_T43 x1 x5).f0).toList)) || (!((((rd_T43 x0 x5).f1).toList) == (((rd_T43 x1 x5).f1).toList)))) = true then (some false) else (cellarerref11_Same.l0 k x0 x1 (wrap64 (x5 + 1)))) else (none)) else (none)) else (some true)
def cellarerref11_Same.f (k : Nat) (l0 : List (S43)) (l1 : List (S43)) : Option (Bool) := if (l0.length : Int) = (l1.length : Int) then (cellarerref11_Same.l0 k l0 l1 0) else (some false)
theorem cellarerref11_Same.mono_l : ∀ k, (∀ y0 y1 y2, LeO (cellarerref11_Same.l0 k y0 y1 y2) (cellarerref11_Same.l0 (k + 1) y0 y1 y2))
 | 0 => fun _ _ _ r h => by simp [cellarerref11_Same.l0] at h
 | k + 1 => by
  have ih0 := cellarerref11_Same.mono_l k
  ·intro y0 y1 y2
   unfold cellarerref11_Same.l0
   repeat' first
   | (with_reducible exact ih0 _ _ _)
   | (with_reducible exact LeO.refl _)
   | (with_reducible exact LeO.none _)
   | (with_reducible refine LeO.ite ?_ ?_)
   | (with_reducible refine LeO.bind ?_ (fun _ => ?_))
   | exact ih0 _ _ _
   | exact LeO.none _
   | refine LeO.ite ?_ ?_
   | refine LeO.bind ?_ (fun _ => ?_)
theorem cellarerref11_Same.mono : ∀ a0 a1 k, LeO (cellarerref11_Same.f k a0 a1) (cellarerref11_Same.f (k + 1) a0 a1) := by
 intro a0 a1 k
 have ih0 := cellarerref11_Same.mono_l k
 unfold cellarerref11_Same.f
 repeat' first
   | (with_reducible exact ih0 _ _ _)
   | (with_reducible exact LeO.refl _)
   | (with_reducible exact LeO.none _)
   | (with_reducible refine LeO.ite ?_ ?_)
   | (with_reducible refine LeO.bind ?_ (fun _ => ?_))
   | exact ih0 _ _ _
   | exact LeO.none _
   | refine LeO.ite ?_ ?_
   | refine LeO.bind ?_ (fun _ => ?_)
set_option maxHeartbeats 8000000 in
set_option maxRecDepth 100000 in
theorem cellarerref11_Same.calls (k : Nat) (A0 : Option Addr) (c0 : Nat) (l0 : List (S43)) (A1 : Option Addr) (c1 : Nat) (l1 : List (S43)) (r : Bool) (w : World) (hr0 : Kd.C k43 w A0 l0.length l0) (hc0 : l0.length ≤ c0) (hr1 : Kd.C k43 w A1 l1.length l1) (hc1 : l1.length ≤ c1) (h : cellarerref11_Same.f k l0 l1 = some r) :
  Calls Tryz.prog 9 #[.slice A0 l0.length c0, .slice A1 l1.length c1] w fun e w' => e = .returned (.bool r) ∧ Drawn0 w w' := by
 have hu43 := Tryz.underlying43
 have HR0 := Aside0.mk hr0
 have HC0 := Aside0.mk hc0
 clear hr0 hc0
 have HR1 := Aside0.mk hr1
 have HC1 := Aside0.mk hc1
 clear hr1 hc1
 have H : (if (l0.length : Int) = (l1.length : Int) then (cellarerref11_Same.l0 k l0 l1 0) else (some false)) = some r := h
 clear h
 by_cases c3 : (l0.length : Int) = (l1.length : Int)
 ·rw [if_pos c3] at H
  have c3b0 : ((l0.length : Int) == (l1.length : Int)) = true := beq_iff_eq.mpr c3
  have c3b1 : ((l0.length : Int) != (l1.length : Int)) = false := bne_eq_false_iff_eq.mpr c3
  have c3b2 : (l0.length == l1.length) = true := by first | simpa using c3 | (simp at c3 ⊢; omega)
  clear c3
  have H' := Aside0.mk H
  clear H
  go_enter Tryz.func9, Tryz.ntmps9
  go_wp2
  repeat (go_quiet (fail); try go_wp2)
  go_loopg [5] k (fun kq v5 w' => ∃ (x5_1 : Int), v5 = .int .i64 x5_1 ∧ Aside0 (cellarerref11_Same.l0 kq l0 l1 x5_1 = some r) ∧ Aside0 (kq ≤ k) ∧ Drawn0 w w')
  case atStart => exact ⟨(0), (by first | rfl | (simp; done) | (simp [*]; done)), H', ⟨Nat.le_refl _⟩, by repeat (first | exact Drawn0.refl _ | apply Drawn0.step)⟩
  case round =>
   clear H'
   try clear c1
   try clear p2
   try clear c3
   try clear c3b0
   try clear c3b1
   try clear c3b2
   obtain ⟨x5_1, rfl, HA, HK1, ⟨m1, rfl⟩⟩ := hrel
   cases gk with
   | zero => exact absurd HA.out (by simp [cellarerref11_Same.l0])
   | succ k1 =>
    have H := HA.out
    clear HA
    simp only [cellarerref11_Same.l0] at H
    by_cases c4 : x5_1 < (l0.length : Int)
    ·rw [if_pos c4] at H
     have c4b0 : decide (x5_1 < (l0.length : Int)) = true := decide_eq_true c4
     clear c4
     by_cases c5 : 0 ≤ x5_1
     ·rw [if_pos c5] at H
      have c5b0 : decide (0 ≤ x5_1) = true := decide_eq_true c5
      clear c5
      by_cases c6 : x5_1 < (l1.length : Int)
      ·rw [if_pos c6] at H
       have c6b0 : decide (x5_1 < (l1.length : Int)) = true := decide_eq_true c6
       clear c6
       by_cases c7 : (!((((rd_T43 l0 x5_1).f0).toList) == (((rd_T43 l1 x5_1).f0).toList)) || (!((((rd_T43 l0 x5_1).f1).toList) == (((rd_T43 l1 x5_1).f1).toList)))) = true
       ·rw [if_pos c7] at H
        have c7b0 : (!((((rd_T43 l0 x5_1).f0).toList) == (((rd_T43 l1 x5_1).f0).toList)) || (!((((rd_T43 l0 x5_1).f1).toList) == (((rd_T43 l1 x5_1).f1).toList)))) = true := c7
        clear c7
        obtain rfl := Option.some.inj H
        have p270 : 0 ≤ (x5_1 : Int) := of_decide_eq_true (by first | (with_reducible assumption) | assumption)
        have q270 : x5_1 < (l0.length : Int) := of_decide_eq_true (by first | (with_reducible assumption) | assumption)
        obtain ⟨ad270, e270, hx270_0, hx270_1⟩ := at_T43 HR0.out x5_1 p270 q270
        cases e270
        replace p270 := eq_true p270
        replace q270 := eq_true q270
        have p271 : 0 ≤ (x5_1 : Int) := of_decide_eq_true (by first | (with_reducible assumption) | assumption)
        have q271 : x5_1 < (l1.length : Int) := of_decide_eq_true (by first | (with_reducible assumption) | assumption)
        obtain ⟨ad271, e271, hx271_0, hx271_1⟩ := at_T43 HR1.out x5_1 p271 q271
        cases e271
        replace p271 := eq_true p271
        replace q271 := eq_true q271
        go_wp2
        repeat (go_quiet (fail); try go_wp2)
        go_ret
        exact ⟨by first | rfl | (simp; done) | (simp [*]; done), by repeat (first | exact Drawn0.refl _ | apply Drawn0.step)⟩
       ·rw [if_neg c7] at H
        have c7b0 : (!((((rd_T43 l0 x5_1).f0).toList) == (((rd_T43 l1 x5_1).f0).toList)) || (!((((rd_T43 l0 x5_1).f1).toList) == (((rd_T43 l1 x5_1).f1).toList)))) = false := by simpa using c7
        clear c7
        have H' := Aside0.mk H
        clear H
        have p270 : 0 ≤ (x5_1 : Int) := of_decide_eq_true (by first | (with_reducible assumption) | assumption)
        have q270 : x5_1 < (l0.length : Int) := of_decide_eq_true (by first | (with_reducible assumption) | assumption)
        obtain ⟨ad270, e270, hx270_0, hx270_1⟩ := at_T43 HR0.out x5_1 p270 q270
        cases e270
        replace p270 := eq_true p270
        replace q270 := eq_true q270
        have p271 : 0 ≤ (x5_1 : Int) := of_decide_eq_true (by first | (with_reducible assumption) | assumption)
        have q271 : x5_1 < (l1.length : Int) := of_decide_eq_true (by first | (with_reducible assumption) | assumption)
        obtain ⟨ad271, e271, hx271_0, hx271_1⟩ := at_T43 HR1.out x5_1 p271 q271
        cases e271
        replace p271 := eq_true p271
        replace q271 := eq_true q271
        go_wp2
        repeat (go_quiet (fail); try go_wp2)
        go_roundg k1
        case measure => have := HK1.out; omega
        case rel => exact ⟨(wrap64 (x5_1 + 1)), (by first | rfl | (simp; done) | (simp [*]; done)), H', ⟨by have := HK1.out; omega⟩, by repeat (first | exact Drawn0.refl _ | apply Drawn0.step)⟩
      ·rw [if_neg c6] at H
       exact absurd H (by simp)
     ·rw [if_neg c5] at H
      exact absurd H (by simp)
    ·rw [if_neg c4] at H
     have c4b0 : decide (x5_1 < (l0.length : Int)) = false := decide_eq_false c4
     clear c4
     obtain rfl := Option.some.inj H
     go_wp2
     repeat (go_quiet (fail); try go_wp2)
     go_ret
     exact ⟨by first | rfl | (simp; done) | (simp [*]; done), by repeat (first | exact Drawn0.refl _ | apply Drawn0.step)⟩
 ·rw [if_neg c3] at H
  have c3b0 : ((l0.length : Int) == (l1.length : Int)) = false := beq_eq_false_iff_ne.mpr c3
  have c3b1 : ((l0.length : Int) != (l1.length : Int)) = true := bne_iff_ne.mpr c3
  have c3b2 : (l0.length == l1.length) = false := by first | simpa using c3 | (simp at c3 ⊢; omega)
  obtain rfl := Option.some.inj H
  go_enter Tryz.func9, Tryz.ntmps9
  go_wp2
  repeat (go_quiet (fail); try go_wp2)
  go_ret
  exact ⟨by first | rfl | (simp; done) | (simp [*]; done), by repeat (first | exact Drawn0.refl _ | apply Drawn0.step)⟩

-- NOT PRINTED: function 4 (cellarerlaw11_ItemsGoes)

end Go.Proofs.YtafeepdlcilicaaGreat.Q

-- H0
namespace Go.Proofs.YtafeepdlcilicaaGreat.Q
open Go.WideMaps Go.RowKit Go.Proofs.YtafeepdlcilicaaGreatW.PrintWords Go.Proofs.YtafeepdlcilicaaGreatW.PrintLast Go.Proofs.YtafeepdlcilicaaGreatW.PrintMore Go.Maps
set_option linter.unusedVariables false
set_option linter.unusedSimpArgs false

theorem Lib.hid {p : Prop} (h : p) : Hid p := h
theorem keepc {w w' : World} {p : Addr} {v : Value} (hb : Below w.heap.size w w') (h : w.cell? p = some v) : w'.cell? p = some v := pw_cell_below hb h
theorem keepB {w w1 w2 : World} (h : Hid (Below w.heap.size w w1)) (hb : Below w1.heap.size w1 w2) : Hid (Below w.heap.size w w2) := h.out.trans (hb.mono h.out.size)
theorem outB {B : Nat} {w w1 : World} (h : Hid (Below B w w1)) : Below B w w1 := h
theorem below_drewN (B : Nat) (w : World) (n : Nat) : Below B w (w.drewN n) := pw_below_drewN (Below.refl _ _) _
theorem quiet0 {P : Program} {f : FuncId} {args : Array Value} {w : World} {n : Nat} {v : Value} (h : Calls P f args (w.drewN n) fun e w' => e = .returned v ∧ Drawn0 (w.drewN n) w') :
  Calls P f args (w.drewN n) fun e w'' => e = .returned v ∧ ∃ m, w'' = w.drewN m :=
 Calls.quiet_of (h.mono fun _ _ h => ⟨h.1, h.2.out⟩)
end Go.Proofs.YtafeepdlcilicaaGreat.Q

-- H1
namespace Go.Proofs.YtafeepdlcilicaaGreat.Q
open Go.WideMaps Go.RowKit Go.Proofs.YtafeepdlcilicaaGreatW.PrintWords Go.Proofs.YtafeepdlcilicaaGreatW.PrintLast Go.Proofs.YtafeepdlcilicaaGreatW.PrintMore Go.Maps
set_option linter.unusedVariables false
set_option linter.unusedSimpArgs false

/-! ### keys and names of buckets -/
def okb (c : UInt8) : Bool := decide (32 ≤ (c.toNat : Int)) && decide ((c.toNat : Int) ≤ 126)
def keyB (s : ByteArray) : Bool := decide (1 ≤ s.size) && (decide (s.size ≤ 60) && s.data.toList.all okb)
theorem plain_of (c : UInt8) : name_plain.f (c.toNat : Int) = some (okb c) := by
 unfold name_plain.f okb
 by_cases h : (c.toNat : Int) ≥ 32
 ·rw [if_pos h]; simp [h]
 ·rw [if_neg h]; simp [h]
def wrdb (c : UInt8) : Bool := (decide (97 ≤ (c.toNat : Int)) && decide ((c.toNat : Int) ≤ 122)) || ((decide (48 ≤ (c.toNat : Int)) && decide ((c.toNat : Int) ≤ 57)) || ((c.toNat : Int) == 45))
def wordB (s : ByteArray) : Bool := decide (3 ≤ s.size) && (decide (s.size ≤ 20) && s.data.toList.all wrdb)
theorem word_of (c : UInt8) : name_word.f (c.toNat : Int) = some (wrdb c) := by
 unfold name_word.f wrdb
 by_cases h : (c.toNat : Int) ≥ 97
 ·by_cases h2 : (c.toNat : Int) ≤ 122
  ·rw [if_pos h, if_pos h2]; simp [h, h2]
  ·rw [if_pos h, if_neg h2, if_pos (by omega), if_neg (by omega)]
   have : ¬ (c.toNat : Int) ≤ 57 := by omega
   simp [h, h2, this]
 ·rw [if_neg h]
  by_cases h3 : (c.toNat : Int) ≥ 48
  ·by_cases h4 : (c.toNat : Int) ≤ 57
   ·rw [if_pos h3, if_pos h4]; simp [h, h3, h4]
   ·rw [if_pos h3, if_neg h4]; simp [h, h3, h4]
  ·rw [if_neg h3]; simp [h, h3]

set_option maxHeartbeats 1000000 in
set_option maxRecDepth 100000 in
theorem kind_key.calls (s : ByteArray) (w : World) :
  Calls Tryz.prog 106 #[.agg #[.int .i64 1, .int .i64 60, .func (.func 136) #[] #[]], .string s] w fun e w' => e = .returned (.bool (keyB s)) ∧ Below w.heap.size w w' := by
 have HB0 : Hid (Below w.heap.size w w) := Below.refl _ _
 by_cases h1 : s.size < 1
 ·have e1 : keyB s = false := by unfold keyB; simp; omega
  rw [e1]; clear e1
  go_enter Tryz.func106, Tryz.ntmps106
  go_wp2
  go_ret
  exact ⟨rfl, HB0.out.alloc (Nat.le_refl _) _⟩
 by_cases h2 : 60 < s.size
 ·have e1 : keyB s = false := by unfold keyB; simp; omega
  rw [e1]; clear e1
  go_enter Tryz.func106, Tryz.ntmps106
  go_wp2
  go_ret
  exact ⟨rfl, HB0.out.alloc (Nat.le_refl _) _⟩
 have h1' : decide ((s.size : Int) < 1) = false := by simp; omega
 have h2' : decide (60 < (s.size : Int)) = false := by simp; omega
 go_enter Tryz.func106, Tryz.ntmps106
 go_wp2
 go_loopw [20] (fun i wr => ∃ k : Nat, i = .int .i64 k ∧ k ≤ s.size ∧ Hid ((s.data.toList.take k).all okb = true) ∧ Hid (wr.cell? ⟨w.heap.size, 2, none⟩ = some (.func (.func 136) #[] #[])) ∧ Hid (Below w.heap.size w wr)) (fun i _ => s.size - (intOf i).toNat)
 case atStart => exact ⟨0, rfl, Nat.zero_le _, by simp [Hid], by simp [Hid, go_sem], HB0.out.alloc (Nat.le_refl _) _⟩
 case round =>
  obtain ⟨k, rfl, hk, hall, hc, hb⟩ := hrel
  by_cases hlt : k < s.size
  ·have hc' := hc.out
   by_cases hp : okb (s[k]) = true
   ·have hq := plain_of (s[k])
    rw [hp] at hq
    have Hq := Lib.hid hq; clear hq
    have hall' : Hid ((s.data.toList.take (k+1)).all okb = true) := by
     unfold Hid
     have := hall.out
     rw [List.take_succ_eq_append_getElem (by simpa using hlt), List.all_append, this]
     simp only [List.all_cons, List.all_nil, Bool.and_true, Bool.true_and]; exact hp
    clear hp
    go_wp2
    go_quiet ((go_at_call 136; exact quiet0 (name_plain.calls _ true _ Hq.out)))
    go_wp2
    go_roundw
    case rel => exact ⟨k + 1, by go_num, by omega, hall', hc, hb.out.trans (below_drewN _ _ _)⟩
    case measure => simp [intOf]; omega
   ·replace hp := Bool.eq_false_iff.2 hp
    have hq := plain_of (s[k])
    rw [hp] at hq
    have Hq := Lib.hid hq; clear hq
    have e1 : keyB s = false := by
     unfold keyB
     have : s.data.toList.all okb = false := by
      rw [List.all_eq_false]
      exact ⟨s[k], by simp [ByteArray.getElem_eq_getElem_data], by simpa using hp⟩
     rw [this]; simp
    have He := Lib.hid e1; clear e1 hp
    go_wp2
    go_quiet ((go_at_call 136; exact quiet0 (name_plain.calls _ false _ Hq.out)))
    go_wp2
    go_ret
    exact ⟨by rw [He.out]; rfl, hb.out.trans (below_drewN _ _ _)⟩
  ·have e1 : keyB s = true := by
    have := hall.out
    rw [List.take_of_length_le (by simp; omega)] at this
    unfold keyB; rw [this]; simp; omega
   have He := Lib.hid e1; clear e1
   go_wp2
   go_ret
   exact ⟨by rw [He.out]; rfl, hb.out⟩

set_option maxHeartbeats 1000000 in
set_option maxRecDepth 100000 in
theorem kind_word.calls (s : ByteArray) (w : World) :
  Calls Tryz.prog 106 #[.agg #[.int .i64 3, .int .i64 20, .func (.func 105) #[] #[]], .string s] w fun e w' => e = .returned (.bool (wordB s)) ∧ Below w.heap.size w w' := by
 have HB0 : Hid (Below w.heap.size w w) := Below.refl _ _
 by_cases h1 : s.size < 3
 ·have e1 : wordB s = false := by unfold wordB; simp; omega
  rw [e1]; clear e1
  go_enter Tryz.func106, Tryz.ntmps106
  go_wp2
  go_ret
  exact ⟨rfl, HB0.out.alloc (Nat.le_refl _) _⟩
 by_cases h2 : 20 < s.size
 ·have e1 : wordB s = false := by unfold wordB; simp; omega
  rw [e1]; clear e1
  go_enter Tryz.func106, Tryz.ntmps106
  go_wp2
  go_ret
  exact ⟨rfl, HB0.out.alloc (Nat.le_refl _) _⟩
 have h1' : decide ((s.size : Int) < 3) = false := by simp; omega
 have h2' : decide (20 < (s.size : Int)) = false := by simp; omega
 go_enter Tryz.func106, Tryz.ntmps106
 go_wp2
 go_loopw [20] (fun i wr => ∃ k : Nat, i = .int .i64 k ∧ k ≤ s.size ∧ Hid ((s.data.toList.take k).all wrdb = true) ∧ Hid (wr.cell? ⟨w.heap.size, 2, none⟩ = some (.func (.func 105) #[] #[])) ∧ Hid (Below w.heap.size w wr)) (fun i _ => s.size - (intOf i).toNat)
 case atStart => exact ⟨0, rfl, Nat.zero_le _, by simp [Hid], by simp [Hid, go_sem], HB0.out.alloc (Nat.le_refl _) _⟩
 case round =>
  obtain ⟨k, rfl, hk, hall, hc, hb⟩ := hrel
  by_cases hlt : k < s.size
  ·have hc' := hc.out
   by_cases hp : wrdb (s[k]) = true
   ·have hq := word_of (s[k])
    rw [hp] at hq
    have Hq := Lib.hid hq; clear hq
    have hall' : Hid ((s.data.toList.take (k+1)).all wrdb = true) := by
     unfold Hid
     have := hall.out
     rw [List.take_succ_eq_append_getElem (by simpa using hlt), List.all_append, this]
     simp only [List.all_cons, List.all_nil, Bool.and_true, Bool.true_and]; exact hp
    clear hp
    go_wp2
    go_quiet ((go_at_call 105; exact quiet0 (name_word.calls _ true _ Hq.out)))
    go_wp2
    go_roundw
    case rel => exact ⟨k + 1, by go_num, by omega, hall', hc, hb.out.trans (below_drewN _ _ _)⟩
    case measure => simp [intOf]; omega
   ·replace hp := Bool.eq_false_iff.2 hp
    have hq := word_of (s[k])
    rw [hp] at hq
    have Hq := Lib.hid hq; clear hq
    have e1 : wordB s = false := by
     unfold wordB
     have : s.data.toList.all wrdb = false := by
      rw [List.all_eq_false]
      exact ⟨s[k], by simp [ByteArray.getElem_eq_getElem_data], by simpa using hp⟩
     rw [this]; simp
    have He := Lib.hid e1; clear e1 hp
    go_wp2
    go_quiet ((go_at_call 105; exact quiet0 (name_word.calls _ false _ Hq.out)))
    go_wp2
    go_ret
    exact ⟨by rw [He.out]; rfl, hb.out.trans (below_drewN _ _ _)⟩
  ·have e1 : wordB s = true := by
    have := hall.out
    rw [List.take_of_length_le (by simp; omega)] at this
    unfold wordB; rw [this]; simp; omega
   have He := Lib.hid e1; clear e1
   go_wp2
   go_ret
   exact ⟨by rw [He.out]; rfl, hb.out⟩

def name_Key.f (a0 : ByteArray) : Option Bool := some (keyB a0)
theorem name_Key.calls (a0 : ByteArray) (r : Bool) (w : World) (h : name_Key.f a0 = some r) :
  Calls Tryz.prog 107 #[.string a0] w fun e w' => e = .returned (.bool r) ∧ Below w.heap.size w w' := by
 obtain rfl := Option.some.inj h
 clear h
 go_enter Tryz.func107, Tryz.ntmps107
 go_wp2_with (go_at_call 106; refine (kind_key.calls a0 _).mono ?_; rintro e w' ⟨rfl, hb⟩; have HB := Lib.hid hb; clear hb)
 go_ret
 exact ⟨rfl, HB.out⟩
/-- May a text be a bucket's name? -/
def bnameB (s : ByteArray) : Bool := wordB s && (!((s.data.toList.getD 0 0) == 45) && !((s.data.toList.getD (s.size - 1) 0) == 45))
theorem u8_int (c : UInt8) : ((c.toNat : Int) == 45) = (c == 45) := by
 rw [Bool.eq_iff_iff]
 simp only [beq_iff_eq]
 constructor
 ·intro h
  have h' : c.toNat = 45 := by omega
  exact UInt8.toNat_inj.1 (by rw [h']; rfl)
 ·rintro rfl; rfl
set_option maxHeartbeats 1000000 in
set_option maxRecDepth 100000 in
theorem bname.walk (s : ByteArray) (w : World) : Calls Tryz.prog 50 #[.string s] w fun e w' => e = .returned (.bool (bnameB s)) ∧ Below w.heap.size w w' := by
 have HC := Lib.hid (fun W => kind_word.calls s W)
 cases hk : wordB s
 ·have HE : Hid (bnameB s = false) := by unfold Hid bnameB; rw [hk]; rfl
  rw [hk] at HC
  clear hk
  go_enter Tryz.func50, Tryz.ntmps50
  go_wp2_with (go_at_call 106; refine (HC.out _).mono ?_; rintro e w' ⟨rfl, hb⟩; have HB := Lib.hid hb; clear hb)
  go_ret
  exact ⟨by rw [HE.out]; rfl, HB.out⟩
 have h3 : 3 ≤ s.size := by
  have := hk; unfold wordB at this; simp only [Bool.and_eq_true, decide_eq_true_eq] at this; exact this.1
 have hm : s.size ≤ 20 := by
  have := hk; unfold wordB at this; simp only [Bool.and_eq_true, decide_eq_true_eq] at this; exact this.2.1
 have p0 : (0 : Nat) < s.size := by omega
 have p1 : s.size - 1 < s.size := by omega
 have g0 : s.data.toList.getD 0 0 = s[0] := by
  rw [List.getD_eq_getElem?_getD, List.getElem?_eq_getElem (by simpa using p0)]; rfl
 have g1 : s.data.toList.getD (s.size - 1) 0 = s[s.size - 1] := by
  rw [List.getD_eq_getElem?_getD, List.getElem?_eq_getElem (by simpa using p1)]; rfl
 have e1 : ((s.size : Int) - 1).toNat = s.size - 1 := by omega
 have HE : Hid (bnameB s = (!(((s[0]).toNat : Int) == 45) && !(((s[s.size - 1]).toNat : Int) == 45))) := by
  unfold Hid bnameB; rw [hk, g0, g1, u8_int, u8_int, Bool.true_and]
 rw [hk] at HC
 clear hk g0 g1
 cases q0 : (((s[0]).toNat : Int) == 45)
 ·have q0' : (((s[0]).toNat : Int) != 45) = true := by simp [bne, q0]
  rw [q0] at HE
  clear q0
  cases q1 : (((s[s.size - 1]).toNat : Int) == 45)
  ·have q1' : (((s[s.size - 1]).toNat : Int) != 45) = true := by simp [bne, q1]
   rw [q1] at HE
   clear q1
   go_enter Tryz.func50, Tryz.ntmps50
   go_wp2_with (go_at_call 106; refine (HC.out _).mono ?_; rintro e w' ⟨rfl, hb⟩; have HB := Lib.hid hb; clear hb)
   go_ret
   exact ⟨by rw [HE.out]; rfl, HB.out⟩
  ·have q1' : (((s[s.size - 1]).toNat : Int) != 45) = false := by simp [bne, q1]
   rw [q1] at HE
   clear q1
   go_enter Tryz.func50, Tryz.ntmps50
   go_wp2_with (go_at_call 106; refine (HC.out _).mono ?_; rintro e w' ⟨rfl, hb⟩; have HB := Lib.hid hb; clear hb)
   go_ret
   exact ⟨by rw [HE.out]; rfl, HB.out⟩
 ·have q0' : (((s[0]).toNat : Int) != 45) = false := by simp [bne, q0]
  rw [q0] at HE
  clear q0
  go_enter Tryz.func50, Tryz.ntmps50
  go_wp2_with (go_at_call 106; refine (HC.out _).mono ?_; rintro e w' ⟨rfl, hb⟩; have HB := Lib.hid hb; clear hb)
  go_ret
  exact ⟨by rw [HE.out]; rfl, HB.out⟩
end Go.Proofs.YtafeepdlcilicaaGreat.Q

-- H2
namespace Go.Proofs.YtafeepdlcilicaaGreat.Q
open Go.WideMaps Go.RowKit Go.Proofs.YtafeepdlcilicaaGreatW.PrintWords Go.Proofs.YtafeepdlcilicaaGreatW.PrintLast Go.Proofs.YtafeepdlcilicaaGreatW.PrintMore Go.Maps
set_option linter.unusedVariables false
set_option linter.unusedSimpArgs false

/-! ### elements of slices of structs -/
theorem rdVersion (l : List S80) (k : Nat) (h : k < l.length) : rd_T80 l k = l[k] := by unfold rd_T80; simp [List.getD_eq_getElem?_getD, h]
theorem atVersion {w w1 : World} {A : Option Addr} {l : List S80} (hr : Kd.C k80 w A l.length l) (hb : Below w.heap.size w w1) (k : Nat) (h : k < l.length) :
  ∃ ad, A = some ad ∧ w1.cell? (ad.add (k * 4)) = some (.int .u64 l[k].f0) ∧ w1.cell? ⟨(ad.add (k * 4)).block, (ad.add (k * 4)).off + 1, none⟩ = some (.string l[k].f1) ∧ w1.cell? ⟨(ad.add (k * 4)).block, (ad.add (k * 4)).off + 2, none⟩ = some (.bool l[k].f2) ∧ w1.cell? ⟨(ad.add (k * 4)).block, (ad.add (k * 4)).off + 3, none⟩ = some (.int .i64 l[k].f3) := by
 obtain ⟨ad, e, h0, h1, h2, h3⟩ := at_T80 hr k (by omega) (by omega)
 rw [Int.toNat_natCast, rdVersion l k h] at h0 h1 h2 h3
 exact ⟨ad, e, keepc hb h0, keepc hb h1, keepc hb h2, keepc hb h3⟩
theorem rdEntry (l : List S38) (k : Nat) (h : k < l.length) : rd_T38 l k = l[k] := by unfold rd_T38; simp [List.getD_eq_getElem?_getD, h]
theorem atEntry {w w1 : World} {A : Option Addr} {l : List S38} (hr : Kd.C k38 w A l.length l) (hb : Below w.heap.size w w1) (k : Nat) (h : k < l.length) :
  ∃ ad A1 c1, A = some ad ∧ w1.cell? (ad.add (k * 2)) = some (.string l[k].f0) ∧ w1.cell? ⟨(ad.add (k * 2)).block, (ad.add (k * 2)).off + 1, none⟩ = some (.slice A1 l[k].f1.length c1) ∧ l[k].f1.length ≤ c1 ∧ Kd.C k80 w1 A1 l[k].f1.length l[k].f1 := by
 obtain ⟨ad, A1, c1, e, h0, h1, l1, g1⟩ := at_T38 hr k (by omega) (by omega)
 rw [Int.toNat_natCast, rdEntry l k h] at h0 h1
 rw [rdEntry l k h] at l1 g1
 exact ⟨ad, A1, c1, e, keepc hb h0, keepc hb h1, l1, Kd.C_below g1 hb⟩
theorem rdPart (l : List S82) (k : Nat) (h : k < l.length) : rd_T82 l k = l[k] := by unfold rd_T82; simp [List.getD_eq_getElem?_getD, h]
theorem atPart {w w1 : World} {A : Option Addr} {l : List S82} (hr : Kd.C k82 w A l.length l) (hb : Below w.heap.size w w1) (k : Nat) (h : k < l.length) :
  ∃ ad, A = some ad ∧ w1.cell? (ad.add (k * 2)) = some (.int .i64 l[k].f0) ∧ w1.cell? ⟨(ad.add (k * 2)).block, (ad.add (k * 2)).off + 1, none⟩ = some (.string l[k].f1) := by
 obtain ⟨ad, e, h0, h1⟩ := at_T82 hr k (by omega) (by omega)
 rw [Int.toNat_natCast, rdPart l k h] at h0 h1
 exact ⟨ad, e, keepc hb h0, keepc hb h1⟩
theorem rdUpload (l : List S41) (k : Nat) (h : k < l.length) : rd_T41 l k = l[k] := by unfold rd_T41; simp [List.getD_eq_getElem?_getD, h]
theorem atUpload {w w1 : World} {A : Option Addr} {l : List S41} (hr : Kd.C k41 w A l.length l) (hb : Below w.heap.size w w1) (k : Nat) (h : k < l.length) :
  ∃ ad A2 c2, A = some ad ∧ w1.cell? (ad.add (k * 3)) = some (.int .u64 l[k].f0) ∧ w1.cell? ⟨(ad.add (k * 3)).block, (ad.add (k * 3)).off + 1, none⟩ = some (.string l[k].f1) ∧ w1.cell? ⟨(ad.add (k * 3)).block, (ad.add (k * 3)).off + 2, none⟩ = some (.slice A2 l[k].f2.length c2) ∧ l[k].f2.length ≤ c2 ∧ Kd.C k82 w1 A2 l[k].f2.length l[k].f2 := by
 obtain ⟨ad, A2, c2, e, h0, h1, h2, l2, g2⟩ := at_T41 hr k (by omega) (by omega)
 rw [Int.toNat_natCast, rdUpload l k h] at h0 h1 h2
 rw [rdUpload l k h] at l2 g2
 exact ⟨ad, A2, c2, e, keepc hb h0, keepc hb h1, keepc hb h2, l2, Kd.C_below g2 hb⟩
theorem rdBucket (l : List S35) (k : Nat) (h : k < l.length) : rd_T35 l k = l[k] := by unfold rd_T35; simp [List.getD_eq_getElem?_getD, h]
theorem atBucket {w w1 : World} {A : Option Addr} {l : List S35} (hr : Kd.C k35 w A l.length l) (hb : Below w.heap.size w w1) (k : Nat) (h : k < l.length) :
  ∃ ad A2 c2 A3 c3, A = some ad ∧ w1.cell? (ad.add (k * 5)) = some (.string l[k].f0) ∧ w1.cell? ⟨(ad.add (k * 5)).block, (ad.add (k * 5)).off + 1, none⟩ = some (.int .i64 l[k].f1) ∧ w1.cell? ⟨(ad.add (k * 5)).block, (ad.add (k * 5)).off + 2, none⟩ = some (.slice A2 l[k].f2.length c2) ∧ w1.cell? ⟨(ad.add (k * 5)).block, (ad.add (k * 5)).off + 3, none⟩ = some (.slice A3 l[k].f3.length c3) ∧ w1.cell? ⟨(ad.add (k * 5)).block, (ad.add (k * 5)).off + 4, none⟩ = some (.int .u64 l[k].f4) ∧ l[k].f2.length ≤ c2 ∧ Kd.C k38 w1 A2 l[k].f2.length l[k].f2 ∧ l[k].f3.length ≤ c3 ∧ Kd.C k41 w1 A3 l[k].f3.length l[k].f3 := by
 obtain ⟨ad, A2, c2, A3, c3, e, h0, h1, h2, h3, h4, l2, g2, l3, g3⟩ := at_T35 hr k (by omega) (by omega)
 rw [Int.toNat_natCast, rdBucket l k h] at h0 h1 h2 h3 h4
 rw [rdBucket l k h] at l2 g2 l3 g3
 exact ⟨ad, A2, c2, A3, c3, e, keepc hb h0, keepc hb h1, keepc hb h2, keepc hb h3, keepc hb h4, l2, Kd.C_below g2 hb, l3, Kd.C_below g3 hb⟩

def posI (r : Option Nat) : Int := match r with | some i => i | none => -1
theorem pos_any {α : Type} (l : List α) (P : α → Bool) : decide (0 ≤ posI (l.findIdx? P)) = l.any P := by
 cases h : l.findIdx? P with
 | none =>
  rw [List.findIdx?_eq_none_iff] at h
  have : l.any P = false := by rw [List.any_eq_false]; intro x hx; simp [h x hx]
  rw [this]; rfl
 | some k =>
  rw [List.findIdx?_eq_some_iff_getElem] at h
  obtain ⟨hk, hp, _⟩ := h
  have : l.any P = true := by rw [List.any_eq_true]; exact ⟨l[k], List.getElem_mem hk, hp⟩
  rw [this]; simp [posI]

/-! ### chains: may a version be? -/
def mayV (v : S80) : Bool := decide (v.f0 ≤ 281474976710655) && (decide ((v.f1.size : Int) ≤ 2000) && ((!v.f2 || (v.f1.toList == [])) && (decide (0 ≤ v.f3) && decide (v.f3 ≤ 1099511627775))))
set_option maxHeartbeats 4000000 in
set_option maxRecDepth 100000 in
theorem mayV.walk (v : S80) (w : World) : Calls Tryz.prog 138 #[.agg #[.int .u64 v.f0, .string v.f1, .bool v.f2, .int .i64 v.f3]] w fun e w' => e = .returned (.bool (mayV v)) ∧ Below w.heap.size w w' := by
 have HB0 : Hid (Below w.heap.size w w) := Below.refl _ _
 obtain ⟨a, s, m, t⟩ := v
 by_cases h1 : a ≤ 281474976710655
 ·by_cases h2 : (s.size : Int) ≤ 2000
  ·cases m
   ·by_cases h4 : 0 ≤ t
    ·have HE : Hid (mayV ⟨a, s, false, t⟩ = decide (t ≤ 1099511627775)) := by unfold Hid mayV; simp [h1, h2, h4]
     go_enter Tryz.func138, Tryz.ntmps138
     go_wp2
     go_ret
     exact ⟨by rw [HE.out]; rfl, HB0.out.alloc (Nat.le_refl _) _⟩
    ·have HE : Hid (mayV ⟨a, s, false, t⟩ = false) := by unfold Hid mayV; simp [h4]
     go_enter Tryz.func138, Tryz.ntmps138
     go_wp2
     go_ret
     exact ⟨by rw [HE.out]; rfl, HB0.out.alloc (Nat.le_refl _) _⟩
   ·cases h3 : (s.toList == [])
    ·have HE : Hid (mayV ⟨a, s, true, t⟩ = false) := by unfold Hid mayV; simp [h1, h2, h3]
     have h3' : (s.toList == ([] : List UInt8)) = false := h3
     go_enter Tryz.func138, Tryz.ntmps138
     go_wp2
     go_ret
     exact ⟨by rw [HE.out]; rfl, HB0.out.alloc (Nat.le_refl _) _⟩
    ·by_cases h4 : 0 ≤ t
     ·have HE : Hid (mayV ⟨a, s, true, t⟩ = decide (t ≤ 1099511627775)) := by unfold Hid mayV; simp [h1, h2, h3, h4]
      go_enter Tryz.func138, Tryz.ntmps138
      go_wp2
      go_ret
      exact ⟨by rw [HE.out]; rfl, HB0.out.alloc (Nat.le_refl _) _⟩
     ·have HE : Hid (mayV ⟨a, s, true, t⟩ = false) := by unfold Hid mayV; simp [h4]
      go_enter Tryz.func138, Tryz.ntmps138
      go_wp2
      go_ret
      exact ⟨by rw [HE.out]; rfl, HB0.out.alloc (Nat.le_refl _) _⟩
  ·have HE : Hid (mayV ⟨a, s, m, t⟩ = false) := by unfold Hid mayV; simp [h2]
   go_enter Tryz.func138, Tryz.ntmps138
   go_wp2
   go_ret
   exact ⟨by rw [HE.out]; rfl, HB0.out.alloc (Nat.le_refl _) _⟩
 ·have HE : Hid (mayV ⟨a, s, m, t⟩ = false) := by unfold Hid mayV; simp [h1]
  go_enter Tryz.func138, Tryz.ntmps138
  go_wp2
  go_ret
  exact ⟨by rw [HE.out]; rfl, HB0.out.alloc (Nat.le_refl _) _⟩
def badV (v : S80) : Bool := !mayV v
set_option maxHeartbeats 4000000 in
set_option maxRecDepth 100000 in
theorem badV.walk (v : S80) (w : World) : Calls Tryz.prog 137 #[.agg #[.int .u64 v.f0, .string v.f1, .bool v.f2, .int .i64 v.f3]] w fun e w' => e = .returned (.bool (badV v)) ∧ Below w.heap.size w w' := by
 have HC := Lib.hid (mayV.walk v)
 have HB := Lib.hid ((Below.refl w.heap.size w).alloc (Nat.le_refl _) (.cells #[.int .u64 v.f0, .string v.f1, .bool v.f2, .int .i64 v.f3] 80))
 unfold badV
 cases hm : mayV v
 all_goals
  rw [hm] at HC
  clear hm
  go_enter Tryz.func137, Tryz.ntmps137
  go_wp2_with (go_at_call 138; refine (HC.out _).mono ?_; rintro e w1 ⟨rfl, hb1⟩; have HB1 := Lib.hid hb1; clear hb1)
  go_ret
  exact ⟨rfl, keepB HB HB1.out⟩
set_option maxHeartbeats 2000000 in
set_option maxRecDepth 100000 in
theorem idx_bad.walk (A : Option Addr) (c : Nat) (l : List S80) (w : World) (hr : Kd.C k80 w A l.length l) :
  Calls Tryz.prog 112 #[.slice A l.length c, .func (.func 137) #[] #[]] w fun e w' => e = .returned (.int .i64 (posI (l.findIdx? badV))) ∧ Below w.heap.size w w' := by
 have HR := Lib.hid hr
 have hlen : (l.length : Int) ≤ 9223372036854775807 := by have := hr.2.1; omega
 clear hr
 have HB0 : Hid (Below w.heap.size w w) := Below.refl _ _
 go_enter Tryz.func112, Tryz.ntmps112
 go_wp2
 go_loopw [5, 8] (fun _ i wr => ∃ (k : Nat), i = .int .i64 k ∧ k ≤ l.length ∧ Hid (∀ j (hj : j < k) (hl : j < l.length), badV l[j] = false) ∧ Hid (Below w.heap.size w wr)) (fun _ i _ => l.length - (intOf i).toNat)
 case atStart => exact ⟨0, rfl, Nat.zero_le _, fun j hj => absurd hj (Nat.not_lt_zero _), HB0⟩
 case round =>
  obtain ⟨k, rfl, hk, hall, hb⟩ := hrel
  by_cases hlt : k < l.length
  ·obtain ⟨ad, e', hc0, hc1, hc2, hc3⟩ := atVersion HR.out hb.out k hlt
   subst e'
   have HC := Lib.hid (badV.walk l[k] wr)
   cases hp : badV l[k]
   ·have hn : Hid (∀ j (hj : j < k + 1) (hl : j < l.length), badV l[j] = false) := fun j hj hl => by
     rcases Nat.eq_or_lt_of_le (Nat.le_of_lt_succ hj) with rfl | h
     ·exact hp
     ·exact hall.out j h hl
    rw [hp] at HC
    clear hp
    go_wp2_with (go_at_call 137; refine HC.out.mono ?_; rintro e w1 ⟨rfl, hb1⟩; have HB1 := Lib.hid hb1; clear hb1)
    go_roundw
    case rel => exact ⟨k + 1, by go_num, by omega, hn, keepB hb HB1.out⟩
    case measure => simp [intOf]; omega
   ·have hn : Hid (l.findIdx? badV = some k) := by
     unfold Hid
     rw [List.findIdx?_eq_some_iff_getElem]
     exact ⟨hlt, hp, fun j hj => by rw [hall.out j hj (by omega)]; simp⟩
    rw [hp] at HC
    clear hp
    go_wp2_with (go_at_call 137; refine HC.out.mono ?_; rintro e w1 ⟨rfl, hb1⟩; have HB1 := Lib.hid hb1; clear hb1)
    go_ret
    exact ⟨by rw [hn.out]; rfl, keepB hb HB1.out⟩
  ·have hn : Hid (l.findIdx? badV = none) := by
    unfold Hid
    rw [List.findIdx?_eq_none_iff]
    intro u hu
    obtain ⟨j, hj, rfl⟩ := List.getElem_of_mem hu
    exact hall.out j (by omega) hj
   go_wp2
   go_ret
   exact ⟨by rw [hn.out]; rfl, hb.out⟩
theorem cont_bad.walk (A : Option Addr) (c : Nat) (l : List S80) (w : World) (hr : Kd.C k80 w A l.length l) :
  Calls Tryz.prog 55 #[.slice A l.length c, .func (.func 137) #[] #[]] w fun e w' => e = .returned (.bool (l.any badV)) ∧ Below w.heap.size w w' := by
 have H := Lib.hid (idx_bad.walk A c l w hr)
 clear hr
 have HA := Lib.hid (pos_any l badV)
 generalize posI (l.findIdx? badV) = r at H HA
 generalize l.any badV = q at HA ⊢
 go_enter Tryz.func55, Tryz.ntmps55
 go_wp2_with (go_at_call 112; refine H.out.mono ?_; rintro e w1 ⟨rfl, hb⟩; have HB := Lib.hid hb; clear hb)
 go_ret
 refine ⟨?_, HB.out⟩
 show Ending.returned (.bool (decide (0 ≤ r))) = _
 rw [HA.out]
end Go.Proofs.YtafeepdlcilicaaGreat.Q

-- J2
namespace Go.Proofs.YtafeepdlcilicaaGreat.Q
open Go.WideMaps Go.RowKit Go.Proofs.YtafeepdlcilicaaGreatW.PrintWords Go.Proofs.YtafeepdlcilicaaGreatW.PrintLast Go.Proofs.YtafeepdlcilicaaGreatW.PrintMore Go.Maps
set_option linter.unusedVariables false
set_option linter.unusedSimpArgs false

/-! ### what an argument's reading gives: the kinds' own relation, and that numbers fit -/
def wfu (n : Int) : Prop := 0 ≤ n ∧ n ≤ 18446744073709551615
def wfi (n : Int) : Prop := -9223372036854775808 ≤ n ∧ n ≤ 9223372036854775807
theorem wfu_of {n : Int} (h : (Lit.int .u64 n).wf = true) : wfu n := by
 have h2 : (decide ((IntKind.u64).min ≤ n) && decide (n ≤ (IntKind.u64).max)) = true := h
 rw [Bool.and_eq_true, decide_eq_true_eq, decide_eq_true_eq, show (IntKind.u64).min = 0 from rfl, show (IntKind.u64).max = 18446744073709551615 from rfl] at h2
 exact h2
theorem wfi_of {n : Int} (h : (Lit.int .i64 n).wf = true) : wfi n := by
 have h2 : (decide ((IntKind.i64).min ≤ n) && decide (n ≤ (IntKind.i64).max)) = true := h
 rw [Bool.and_eq_true, decide_eq_true_eq, decide_eq_true_eq, show (IntKind.i64).min = -9223372036854775808 from rfl, show (IntKind.i64).max = 9223372036854775807 from rfl] at h2
 exact h2
theorem tstruct5 {H : Type} {enc : TypeId × Value → H} {P : Program} {w : World} {base : Nat} {spare : Nat → Bool} {held : Bool} {t : TypeId} {f0 f1 f2 f3 f4 : Field} {fuel : Nat} {cs : List Value} {x : DataW H × List MemPlace} (ht : P.underlying t = some (.struct #[f0, f1, f2, f3, f4])) (h : DataW.trod enc P w base spare held fuel t cs = some x) :
  ∃ y0 y1 y2 y3 y4 n, cs.length = P.cellsOf t ∧ DataW.trod enc P w base spare held n f0.type ((cs.drop f0.offset).take (P.cellsOf f0.type)) = some y0 ∧ DataW.trod enc P w base spare held n f1.type ((cs.drop f1.offset).take (P.cellsOf f1.type)) = some y1 ∧
   DataW.trod enc P w base spare held n f2.type ((cs.drop f2.offset).take (P.cellsOf f2.type)) = some y2 ∧ DataW.trod enc P w base spare held n f3.type ((cs.drop f3.offset).take (P.cellsOf f3.type)) = some y3 ∧ DataW.trod enc P w base spare held n f4.type ((cs.drop f4.offset).take (P.cellsOf f4.type)) = some y4 := by
 obtain ⟨xs, n, _, _, hl, hlen, hf⟩ := DataW.trod_struct ht h
 match xs, hlen with
 | [y0, y1, y2, y3, y4], _ => exact ⟨y0, y1, y2, y3, y4, n, hl, hf 0 f0 rfl, hf 1 f1 rfl, hf 2 f2 rfl, hf 3 f3 rfl, hf 4 f4 rfl⟩
theorem tstruct4 {H : Type} {enc : TypeId × Value → H} {P : Program} {w : World} {base : Nat} {spare : Nat → Bool} {held : Bool} {t : TypeId} {f0 f1 f2 f3 : Field} {fuel : Nat} {cs : List Value} {x : DataW H × List MemPlace} (ht : P.underlying t = some (.struct #[f0, f1, f2, f3])) (h : DataW.trod enc P w base spare held fuel t cs = some x) :
  ∃ y0 y1 y2 y3 n, cs.length = P.cellsOf t ∧ DataW.trod enc P w base spare held n f0.type ((cs.drop f0.offset).take (P.cellsOf f0.type)) = some y0 ∧ DataW.trod enc P w base spare held n f1.type ((cs.drop f1.offset).take (P.cellsOf f1.type)) = some y1 ∧
   DataW.trod enc P w base spare held n f2.type ((cs.drop f2.offset).take (P.cellsOf f2.type)) = some y2 ∧ DataW.trod enc P w base spare held n f3.type ((cs.drop f3.offset).take (P.cellsOf f3.type)) = some y3 := by
 obtain ⟨xs, n, _, _, hl, hlen, hf⟩ := DataW.trod_struct ht h
 match xs, hlen with
 | [y0, y1, y2, y3], _ => exact ⟨y0, y1, y2, y3, n, hl, hf 0 f0 rfl, hf 1 f1 rfl, hf 2 f2 rfl, hf 3 f3 rfl⟩
theorem tstruct3 {H : Type} {enc : TypeId × Value → H} {P : Program} {w : World} {base : Nat} {spare : Nat → Bool} {held : Bool} {t : TypeId} {f0 f1 f2 : Field} {fuel : Nat} {cs : List Value} {x : DataW H × List MemPlace} (ht : P.underlying t = some (.struct #[f0, f1, f2])) (h : DataW.trod enc P w base spare held fuel t cs = some x) :
  ∃ y0 y1 y2 n, cs.length = P.cellsOf t ∧ DataW.trod enc P w base spare held n f0.type ((cs.drop f0.offset).take (P.cellsOf f0.type)) = some y0 ∧ DataW.trod enc P w base spare held n f1.type ((cs.drop f1.offset).take (P.cellsOf f1.type)) = some y1 ∧
   DataW.trod enc P w base spare held n f2.type ((cs.drop f2.offset).take (P.cellsOf f2.type)) = some y2 := by
 obtain ⟨xs, n, _, _, hl, hlen, hf⟩ := DataW.trod_struct ht h
 match xs, hlen with
 | [y0, y1, y2], _ => exact ⟨y0, y1, y2, n, hl, hf 0 f0 rfl, hf 1 f1 rfl, hf 2 f2 rfl⟩
theorem tstruct2 {H : Type} {enc : TypeId × Value → H} {P : Program} {w : World} {base : Nat} {spare : Nat → Bool} {held : Bool} {t : TypeId} {f0 f1 : Field} {fuel : Nat} {cs : List Value} {x : DataW H × List MemPlace} (ht : P.underlying t = some (.struct #[f0, f1])) (h : DataW.trod enc P w base spare held fuel t cs = some x) :
  ∃ y0 y1 n, cs.length = P.cellsOf t ∧ DataW.trod enc P w base spare held n f0.type ((cs.drop f0.offset).take (P.cellsOf f0.type)) = some y0 ∧ DataW.trod enc P w base spare held n f1.type ((cs.drop f1.offset).take (P.cellsOf f1.type)) = some y1 := by
 obtain ⟨xs, n, _, _, hl, hlen, hf⟩ := DataW.trod_struct ht h
 match xs, hlen with
 | [y0, y1], _ => exact ⟨y0, y1, n, hl, hf 0 f0 rfl, hf 1 f1 rfl⟩
def OpensQ {α : Type} (P : Program) (d : Kd α) (t : TypeId) (Q : α → Prop) : Prop :=
 ∀ (H : Type) (enc : TypeId × Value → H) (W : World) (n : Nat) (cs : List Value) (x : DataW H × List MemPlace), DataW.trod enc P W 0 (fun _ => true) true n t cs = some x → ∃ y : α, d.K W y cs ∧ Q y
set_option maxRecDepth 100000 in
theorem opensQ_C {α : Type} {P : Program} {d : Kd α} {t e : TypeId} (ht : P.underlying t = some (.slice e)) (hs : P.cellsOf e = d.sz) {Q : α → Prop} (he : OpensQ P d e Q) (z : α) (H : Type) (enc : TypeId × Value → H) (W : World) (n : Nat) (cs : List Value) (x : DataW H × List MemPlace)
  (h : DataW.trod enc P W 0 (fun _ => true) true n t cs = some x) : ∃ (l : List α) (A : Option Addr) (c : Nat), cs = [.slice A l.length c] ∧ l.length ≤ c ∧ d.C W A l.length l ∧ ∀ x ∈ l, Q x := by
 rcases DataW.trod_slice ht h with ⟨rfl, _⟩ | ⟨a, len, cap, elems, rest, m, _, rfl, _, _, hl, hm, hlen, hel, _, _⟩
 ·exact ⟨[], none, 0, rfl, Nat.le_refl _, ⟨rfl, by simp, fun h0 => by simp at h0⟩, fun x hx => by cases hx⟩
 have each : ∀ i : Nat, ∃ p : α, i < len → Q p ∧ ∃ c : List Value, c.length = d.sz ∧ d.K W p c ∧ ∀ j u, c[j]? = some u → W.cell? (a.add (i * d.sz + j)) = some u := by
  intro i
  by_cases hi : i < len
  ·have h1 := hel i hi
   rw [List.getElem?_eq_getElem (by omega), Option.bind_eq_some_iff] at h1
   obtain ⟨c, hc, ht'⟩ := h1
   obtain ⟨y, hy, hq⟩ := he H enc W m c _ ht'
   refine ⟨y, fun _ => ⟨hq, c, d.K_len hy, hy, fun j u hu => ?_⟩⟩
   obtain ⟨_, hcl, hcell⟩ := World.cells?_some hc
   have := hcell j (by have := (List.getElem?_eq_some_iff.1 hu).1; omega)
   rw [hs, add_add] at this
   rw [this, hu]
  ·exact ⟨z, fun h => absurd h hi⟩
 obtain ⟨f, hf⟩ := Classical.skolem.1 each
 refine ⟨(List.range len).map f, some a, cap, by simp, by simpa using hl, ⟨by simp, by simp [maxLen] at hm ⊢; omega, fun _ => ⟨a, rfl, fun j p hj => ?_⟩⟩, fun x hx => by
  obtain ⟨j, hj, rfl⟩ := List.mem_map.1 hx
  exact (hf j (List.mem_range.1 hj)).1⟩
 rw [List.getElem?_map] at hj
 have hjl : j < len := by
  rcases Nat.lt_or_ge j len with h | h
  ·exact h
  ·rw [List.getElem?_eq_none (by simpa using h)] at hj; cases hj
 rw [List.getElem?_range hjl] at hj
 injection hj with hj
 subst hj
 exact (hf j hjl).2
theorem cellsT_uint64 : Tryz.prog.cellsOf 33 = 1 := by kernel_rfl
theorem cellsT_3 : Tryz.prog.cellsOf 3 = 1 := by kernel_rfl
theorem cellsT_9 : Tryz.prog.cellsOf 9 = 1 := by kernel_rfl
theorem cellsT_4 : Tryz.prog.cellsOf 4 = 1 := by kernel_rfl
theorem cellsT_Version : Tryz.prog.cellsOf 36 = 1 := by kernel_rfl
theorem cellsT_Entry : Tryz.prog.cellsOf 31 = 1 := by kernel_rfl
theorem cellsT_Part : Tryz.prog.cellsOf 39 = 1 := by kernel_rfl
theorem cellsT_Upload : Tryz.prog.cellsOf 32 = 1 := by kernel_rfl
theorem cellsT_Bucket : Tryz.prog.cellsOf 22 = 1 := by kernel_rfl
theorem cellsS_Version : Tryz.prog.cellsOf 80 = 4 := by kernel_rfl
def wfVersion (x : S80) : Prop := wfu x.f0 ∧ wfi x.f3
set_option maxRecDepth 100000 in
theorem opensQVersion : OpensQ Tryz.prog k80 80 wfVersion := by
 intro H enc W n cs x h
 obtain ⟨y0, y1, y2, y3, m, hl, t0, t1, t2, t3⟩ := tstruct4 Tryz.underlying80 h
 rw [cellsS_Version] at hl
 match cs, hl with
 | [a, b, c, d], _ =>
  simp only [cellsT_3, cellsT_4, cellsT_9, cellsT_uint64, List.drop, List.take] at t0 t1 t2 t3
  obtain ⟨s0, e0, _, w0⟩ := DataW.trod_int Tryz.underlying33 t0
  obtain ⟨s1, e1, _, _⟩ := DataW.trod_string Tryz.underlying9 t1
  obtain ⟨s2, e2, _⟩ := DataW.trod_bool Tryz.underlying4 t2
  obtain ⟨s3, e3, _, w3⟩ := DataW.trod_int Tryz.underlying3 t3
  injection e0 with e0; injection e1 with e1; injection e2 with e2; injection e3 with e3
  subst e0 e1 e2 e3
  exact ⟨⟨s0, s1, s2, s3⟩, k80_mk W ⟨s0, s1, s2, s3⟩ , wfu_of w0, wfi_of w3⟩
theorem cellsS_Entry : Tryz.prog.cellsOf 38 = 2 := by kernel_rfl
def wfEntry (x : S38) : Prop := (∀ y ∈ x.f1, wfVersion y)
set_option maxRecDepth 100000 in
theorem opensQEntry : OpensQ Tryz.prog k38 38 wfEntry := by
 intro H enc W n cs x h
 obtain ⟨y0, y1, m, hl, t0, t1⟩ := tstruct2 Tryz.underlying38 h
 rw [cellsS_Entry] at hl
 match cs, hl with
 | [a, b], _ =>
  simp only [cellsT_9, cellsT_Version, List.drop, List.take] at t0 t1
  obtain ⟨s0, e0, _, _⟩ := DataW.trod_string Tryz.underlying9 t0
  obtain ⟨s1, A1, c1, e1, hle1, hC1, w1⟩ := opensQ_C Tryz.underlying36 cellsS_Version opensQVersion z80 _ _ _ _ _ _ t1
  injection e0 with e0; injection e1 with e1
  subst e0 e1
  exact ⟨⟨s0, s1⟩, k38_mk W ⟨s0, s1⟩ hle1 hC1, w1⟩
theorem cellsS_Part : Tryz.prog.cellsOf 82 = 2 := by kernel_rfl
def wfPart (x : S82) : Prop := wfi x.f0
set_option maxRecDepth 100000 in
theorem opensQPart : OpensQ Tryz.prog k82 82 wfPart := by
 intro H enc W n cs x h
 obtain ⟨y0, y1, m, hl, t0, t1⟩ := tstruct2 Tryz.underlying82 h
 rw [cellsS_Part] at hl
 match cs, hl with
 | [a, b], _ =>
  simp only [cellsT_3, cellsT_9, List.drop, List.take] at t0 t1
  obtain ⟨s0, e0, _, w0⟩ := DataW.trod_int Tryz.underlying3 t0
  obtain ⟨s1, e1, _, _⟩ := DataW.trod_string Tryz.underlying9 t1
  injection e0 with e0; injection e1 with e1
  subst e0 e1
  exact ⟨⟨s0, s1⟩, k82_mk W ⟨s0, s1⟩ , wfi_of w0⟩
theorem cellsS_Upload : Tryz.prog.cellsOf 41 = 3 := by kernel_rfl
def wfUpload (x : S41) : Prop := wfu x.f0 ∧ (∀ y ∈ x.f2, wfPart y)
set_option maxRecDepth 100000 in
theorem opensQUpload : OpensQ Tryz.prog k41 41 wfUpload := by
 intro H enc W n cs x h
 obtain ⟨y0, y1, y2, m, hl, t0, t1, t2⟩ := tstruct3 Tryz.underlying41 h
 rw [cellsS_Upload] at hl
 match cs, hl with
 | [a, b, c], _ =>
  simp only [cellsT_9, cellsT_Part, cellsT_uint64, List.drop, List.take] at t0 t1 t2
  obtain ⟨s0, e0, _, w0⟩ := DataW.trod_int Tryz.underlying33 t0
  obtain ⟨s1, e1, _, _⟩ := DataW.trod_string Tryz.underlying9 t1
  obtain ⟨s2, A2, c2, e2, hle2, hC2, w2⟩ := opensQ_C Tryz.underlying39 cellsS_Part opensQPart z82 _ _ _ _ _ _ t2
  injection e0 with e0; injection e1 with e1; injection e2 with e2
  subst e0 e1 e2
  exact ⟨⟨s0, s1, s2⟩, k41_mk W ⟨s0, s1, s2⟩ hle2 hC2, wfu_of w0, w2⟩
theorem cellsS_Bucket : Tryz.prog.cellsOf 35 = 5 := by kernel_rfl
def wfBucket (x : S35) : Prop := wfi x.f1 ∧ (∀ y ∈ x.f2, wfEntry y) ∧ (∀ y ∈ x.f3, wfUpload y) ∧ wfu x.f4
set_option maxRecDepth 100000 in
theorem opensQBucket : OpensQ Tryz.prog k35 35 wfBucket := by
 intro H enc W n cs x h
 obtain ⟨y0, y1, y2, y3, y4, m, hl, t0, t1, t2, t3, t4⟩ := tstruct5 Tryz.underlying35 h
 rw [cellsS_Bucket] at hl
 match cs, hl with
 | [a, b, c, d, e], _ =>
  simp only [cellsT_3, cellsT_9, cellsT_Entry, cellsT_Upload, cellsT_uint64, List.drop, List.take] at t0 t1 t2 t3 t4
  obtain ⟨s0, e0, _, _⟩ := DataW.trod_string Tryz.underlying9 t0
  obtain ⟨s1, e1, _, w1⟩ := DataW.trod_int Tryz.underlying3 t1
  obtain ⟨s2, A2, c2, e2, hle2, hC2, w2⟩ := opensQ_C Tryz.underlying31 cellsS_Entry opensQEntry z38 _ _ _ _ _ _ t2
  obtain ⟨s3, A3, c3, e3, hle3, hC3, w3⟩ := opensQ_C Tryz.underlying32 cellsS_Upload opensQUpload z41 _ _ _ _ _ _ t3
  obtain ⟨s4, e4, _, w4⟩ := DataW.trod_int Tryz.underlying33 t4
  injection e0 with e0; injection e1 with e1; injection e2 with e2; injection e3 with e3; injection e4 with e4
  subst e0 e1 e2 e3 e4
  exact ⟨⟨s0, s1, s2, s3, s4⟩, k35_mk W ⟨s0, s1, s2, s3, s4⟩ hle2 hC2 hle3 hC3, wfi_of w1, w2, w3, wfu_of w4⟩
theorem cellsS_Depot : Tryz.prog.cellsOf 24 = 2 := by kernel_rfl
set_option maxRecDepth 100000 in
/-- A depot that is handed in. -/
theorem open_depot {H : Type} {enc : TypeId × Value → H} {W : World} {base : Nat} {v : Value} {d : DataW H} {p : List MemPlace} (hv : Value.okWide Tryz.prog W .any base 24 v) (h : DataW.Trod enc Tryz.prog W 0 (fun _ => true) true 24 v d p) :
  ∃ (now : Int) (l : List S35) (A : Option Addr) (c : Nat), v = .agg #[.int .i64 now, .slice A l.length c] ∧ l.length ≤ c ∧ Kd.C k35 W A l.length l ∧ wfi now ∧ ∀ b ∈ l, wfBucket b := by
 obtain ⟨cs, rfl, hsz⟩ := Go.WideShapes.okWide_struct Tryz.underlying24 hv
 obtain ⟨n, hn⟩ := h
 obtain ⟨y0, y1, m, hl, t0, t1⟩ := tstruct2 Tryz.underlying24 hn
 rw [cellsS_Depot] at hl
 have hcs : ∃ a b, (Value.agg cs).cells.toList = [a, b] := by
  match h2 : (Value.agg cs).cells.toList, hl with
  | [a, b], _ => exact ⟨a, b, rfl⟩
 obtain ⟨a, b, hab⟩ := hcs
 rw [hab] at t0 t1
 simp only [cellsT_3, cellsT_Bucket, List.drop, List.take] at t0 t1
 obtain ⟨s0, e0, _, w0⟩ := DataW.trod_int Tryz.underlying3 t0
 obtain ⟨s1, A1, c1, e1, hle1, hC1, w1⟩ := opensQ_C Tryz.underlying22 cellsS_Bucket opensQBucket z35 _ _ _ _ _ _ t1
 injection e0 with e0; injection e1 with e1
 subst e0 e1
 refine ⟨s0, s1, A1, c1, ?_, hle1, hC1, wfi_of w0, w1⟩
 have e2 : cs.toList = [.int .i64 s0, .slice A1 s1.length c1] := by simpa [Value.cells] using hab
 rw [← Array.toArray_toList (xs := cs), e2]
end Go.Proofs.YtafeepdlcilicaaGreat.Q

-- H3
namespace Go.Proofs.YtafeepdlcilicaaGreat.Q
open Go.WideMaps Go.RowKit Go.Proofs.YtafeepdlcilicaaGreatW.PrintWords Go.Proofs.YtafeepdlcilicaaGreatW.PrintLast Go.Proofs.YtafeepdlcilicaaGreatW.PrintMore Go.Maps
set_option linter.unusedVariables false
set_option linter.unusedSimpArgs false

/-! ### chain.Check -/
def chFrom : List S80 → Int → Int → Bool → Bool
 | [], _, _, _ => true
 | v :: vs, pa, last, null => !(decide (v.f3 > pa)) && (!((v.f0 == 0) && null) && (!(decide (v.f0 ≥ last)) && (if (v.f0 == 0) = true then chFrom vs v.f3 last true else chFrom vs v.f3 v.f0 null)))
def chB (l : List S80) : Bool := chFrom l ((l.getD 0 z80).f3) 281474976710656 false
def chainB (l : List S80) : Bool := decide (l.length ≤ 20) && (!(l.any badV) && chB l)
def errB (b : Bool) : Int := if b = true then 0 else 1
def prevAt (l : List S80) (k : Nat) : Int := (l.getD (k - 1) z80).f3
theorem ch_step (l : List S80) (k : Nat) (h : k < l.length) (pa last : Int) (null : Bool) :
  chFrom (l.drop k) pa last null = (!(decide (l[k].f3 > pa)) && (!((l[k].f0 == 0) && null) && (!(decide (l[k].f0 ≥ last)) && (if (l[k].f0 == 0) = true then chFrom (l.drop (k + 1)) l[k].f3 last true else chFrom (l.drop (k + 1)) l[k].f3 l[k].f0 null)))) := by
 rw [List.drop_eq_getElem_cons h]; rfl
theorem prev_succ (l : List S80) (k : Nat) (h : k < l.length) : prevAt l (k + 1) = l[k].f3 := by
 unfold prevAt; rw [Nat.add_sub_cancel, List.getD_eq_getElem?_getD, List.getElem?_eq_getElem h]; rfl
set_option maxHeartbeats 8000000 in
set_option maxRecDepth 100000 in
theorem chain.walk (A : Option Addr) (c : Nat) (l : List S80) (w : World) (hr : Kd.C k80 w A l.length l) :
  Calls Tryz.prog 108 #[.slice A l.length c] w fun e w' => e = .returned (.int .i64 (errB (chainB l))) ∧ Below w.heap.size w w' := by
 have HB0 : Hid (Below w.heap.size w w) := Below.refl _ _
 have HC := Lib.hid (fun W (h : Below w.heap.size w W) => cont_bad.walk A c l W (Kd.C_below hr h))
 have HR := Lib.hid hr
 have hlen : (l.length : Int) ≤ 9223372036854775807 := by have := hr.2.1; omega
 clear hr
 by_cases h20 : l.length ≤ 20
 ·have d20 : decide ((20 : Int) < (l.length : Int)) = false := by simp; omega
  cases hbad : l.any badV
  ·have HX : Hid (chainB l = chB l) := by unfold Hid chainB; rw [hbad]; simp [h20]
   rw [hbad] at HC
   clear hbad
   go_enter Tryz.func108, Tryz.ntmps108
   go_wp2_with (go_at_call 55; refine (HC.out _ HB0.out).mono ?_; rintro e w1 ⟨rfl, hb⟩; have HB1 := Lib.hid hb; clear hb)
   go_loopw [3, 4, 16] (fun la nu i wr => ∃ (k : Nat) (last : Int) (null : Bool), la = .int .u64 last ∧ nu = .bool null ∧ i = .int .i64 k ∧ k ≤ l.length ∧ Hid (chFrom (l.drop k) (prevAt l k) last null = chB l) ∧ Hid (Below w.heap.size w wr)) (fun _ _ i _ => l.length - (intOf i).toNat)
   case atStart => exact ⟨0, 281474976710656, false, rfl, rfl, rfl, Nat.zero_le _, rfl, HB1⟩
   case round =>
    obtain ⟨k, last, null, rfl, rfl, rfl, hk, hch, hb⟩ := hrel
    by_cases hlt : k < l.length
    ·obtain ⟨ad, e', hc0, hc1, hc2, hc3⟩ := atVersion HR.out hb.out k hlt
     have hst := hch.out
     rw [ch_step l k hlt] at hst
     have hps := prev_succ l k hlt
     have hst2 := Lib.hid hst
     clear hst hch
     have HPS := Lib.hid hps
     clear hps
     by_cases hk0 : k = 0
     ·subst hk0
      have hpa : prevAt l 0 = l[0].f3 := by unfold prevAt; rw [List.getD_eq_getElem?_getD, List.getElem?_eq_getElem hlt]; rfl
      have hst3 := hst2.out
      rw [hpa] at hst3
      clear hst2 hpa
      subst e'
      generalize l[0] = v at *
      have hd0 : wr.cell? ad = some (.int .u64 v.f0) := hc0
      have hd1 : wr.cell? ⟨ad.block, ad.off + 1, none⟩ = some (.string v.f1) := hc1
      have hd2 : wr.cell? ⟨ad.block, ad.off + 2, none⟩ = some (.bool v.f2) := hc2
      have hd3 : wr.cell? ⟨ad.block, ad.off + 3, none⟩ = some (.int .i64 v.f3) := hc3
      clear hc0 hc1 hc2 hc3
      cases hz : (v.f0 == 0)
      ·by_cases p3 : last ≤ v.f0
       ·have HE : Hid (chainB l = false) := by unfold Hid; rw [HX.out, ← hst3]; simp [hz, p3]
        have HST := Lib.hid hst3; clear hst3
        go_wp2
        go_quiet (fail)
        go_wp2
        go_ret
        exact ⟨by rw [HE.out]; rfl, (hb.out.alloc hb.out.size _).trans (below_drewN _ _ _)⟩
       ·have HN : Hid (chFrom (l.drop (0 + 1)) (prevAt l (0 + 1)) v.f0 null = chB l) := by unfold Hid; rw [HPS.out, ← hst3]; simp [hz, p3]
        have HST := Lib.hid hst3; clear hst3
        go_wp2
        go_quiet (fail)
        go_wp2
        go_roundw
        case rel => exact ⟨0 + 1, v.f0, null, rfl, rfl, by go_num, by omega, HN, (hb.out.alloc hb.out.size _).trans (below_drewN _ _ _)⟩
        case measure => simp [intOf]; omega
      ·cases null
       ·by_cases p3 : last ≤ v.f0
        ·have HE : Hid (chainB l = false) := by unfold Hid; rw [HX.out, ← hst3]; simp [p3]
         have HST := Lib.hid hst3; clear hst3
         go_wp2
         go_quiet (fail)
         go_wp2
         go_ret
         exact ⟨by rw [HE.out]; rfl, (hb.out.alloc hb.out.size _).trans (below_drewN _ _ _)⟩
        ·have HN : Hid (chFrom (l.drop (0 + 1)) (prevAt l (0 + 1)) last true = chB l) := by unfold Hid; rw [HPS.out, ← hst3]; simp [hz, p3]
         have HST := Lib.hid hst3; clear hst3
         go_wp2
         go_quiet (fail)
         go_wp2
         go_roundw
         case rel => exact ⟨0 + 1, last, true, rfl, rfl, by go_num, by omega, HN, (hb.out.alloc hb.out.size _).trans (below_drewN _ _ _)⟩
         case measure => simp [intOf]; omega
       ·have HE : Hid (chainB l = false) := by unfold Hid; rw [HX.out, ← hst3]; simp [hz]
        have HST := Lib.hid hst3; clear hst3
        go_wp2
        go_quiet (fail)
        go_wp2
        go_ret
        exact ⟨by rw [HE.out]; rfl, (hb.out.alloc hb.out.size _).trans (below_drewN _ _ _)⟩
     ·obtain ⟨m, rfl⟩ : ∃ m, k = m + 1 := ⟨k - 1, by omega⟩
      obtain ⟨ad', e2, hd0, hd1, hd2, hd3⟩ := atVersion HR.out hb.out m (by omega)
      obtain rfl : ad = ad' := by rw [e'] at e2; injection e2
      subst e'
      clear e2 hk0
      have hpa : prevAt l (m + 1) = l[m].f3 := prev_succ l m (by omega)
      have hst3 := hst2.out
      rw [hpa] at hst3
      clear hst2 hpa
      generalize l[m] = u at *
      generalize l[m + 1] = v at *
      have hw : IntKind.i64.wrap ((m : Nat) : Int) = (m : Int) := IntWalk.i64_in _ (by omega)
      have hm : (m : Int) < l.length := by omega
      have e0 := World.new_ne wr _ hd3
      have hlt3 := World.block_lt_of_cell? wr _ hd3
      by_cases p1 : u.f3 < v.f3
      ·have HE : Hid (chainB l = false) := by unfold Hid; rw [HX.out, ← hst3]; simp [p1]
       have HST := Lib.hid hst3; clear hst3
       go_wp2
       go_quiet (fail)
       go_wp2
       go_ret
       exact ⟨by rw [HE.out]; rfl, (hb.out.alloc hb.out.size _).trans (below_drewN _ _ _)⟩
      ·cases hz : (v.f0 == 0)
       ·by_cases p3 : last ≤ v.f0
        ·have HE : Hid (chainB l = false) := by unfold Hid; rw [HX.out, ← hst3]; simp [hz, p3]
         have HST := Lib.hid hst3; clear hst3
         go_wp2
         go_quiet (fail)
         go_wp2
         go_ret
         exact ⟨by rw [HE.out]; rfl, (hb.out.alloc hb.out.size _).trans (below_drewN _ _ _)⟩
        ·have HN : Hid (chFrom (l.drop (m + 1 + 1)) (prevAt l (m + 1 + 1)) v.f0 null = chB l) := by unfold Hid; rw [HPS.out, ← hst3]; simp [hz, p3, p1]
         have HST := Lib.hid hst3; clear hst3
         go_wp2
         go_quiet (fail)
         go_wp2
         go_roundw
         case rel => exact ⟨m + 1 + 1, v.f0, null, rfl, rfl, by go_num, by omega, HN, (hb.out.alloc hb.out.size _).trans (below_drewN _ _ _)⟩
         case measure => simp [intOf]; omega
       ·cases null
        ·by_cases p3 : last ≤ v.f0
         ·have HE : Hid (chainB l = false) := by unfold Hid; rw [HX.out, ← hst3]; simp [p3]
          have HST := Lib.hid hst3; clear hst3
          go_wp2
          go_quiet (fail)
          go_wp2
          go_ret
          exact ⟨by rw [HE.out]; rfl, (hb.out.alloc hb.out.size _).trans (below_drewN _ _ _)⟩
         ·have HN : Hid (chFrom (l.drop (m + 1 + 1)) (prevAt l (m + 1 + 1)) last true = chB l) := by unfold Hid; rw [HPS.out, ← hst3]; simp [hz, p3, p1]
          have HST := Lib.hid hst3; clear hst3
          go_wp2
          go_quiet (fail)
          go_wp2
          go_roundw
          case rel => exact ⟨m + 1 + 1, last, true, rfl, rfl, by go_num, by omega, HN, (hb.out.alloc hb.out.size _).trans (below_drewN _ _ _)⟩
          case measure => simp [intOf]; omega
        ·have HE : Hid (chainB l = false) := by unfold Hid; rw [HX.out, ← hst3]; simp [hz]
         have HST := Lib.hid hst3; clear hst3
         go_wp2
         go_quiet (fail)
         go_wp2
         go_ret
         exact ⟨by rw [HE.out]; rfl, (hb.out.alloc hb.out.size _).trans (below_drewN _ _ _)⟩
    ·have HE : Hid (chainB l = true) := by
      have := hch.out
      rw [List.drop_eq_nil_of_le (by omega)] at this
      exact HX.out.trans this.symm
     go_wp2
     go_ret
     exact ⟨by rw [HE.out]; rfl, hb.out⟩
  ·have HE : Hid (chainB l = false) := by unfold Hid chainB; rw [hbad]; simp
   rw [hbad] at HC
   clear hbad
   go_enter Tryz.func108, Tryz.ntmps108
   go_wp2_with (go_at_call 55; refine (HC.out _ HB0.out).mono ?_; rintro e w1 ⟨rfl, hb⟩; have HB1 := Lib.hid hb; clear hb)
   go_ret
   exact ⟨by rw [HE.out]; rfl, HB1.out⟩
 ·have d20 : decide ((20 : Int) < (l.length : Int)) = true := by simp; omega
  have HE : Hid (chainB l = false) := by unfold Hid chainB; simp; omega
  go_enter Tryz.func108, Tryz.ntmps108
  go_wp2
  go_ret
  exact ⟨by rw [HE.out]; rfl, HB0.out⟩
end Go.Proofs.YtafeepdlcilicaaGreat.Q

-- H4
namespace Go.Proofs.YtafeepdlcilicaaGreat.Q
open Go.WideMaps Go.RowKit Go.Proofs.YtafeepdlcilicaaGreatW.PrintWords Go.Proofs.YtafeepdlcilicaaGreatW.PrintLast Go.Proofs.YtafeepdlcilicaaGreatW.PrintMore Go.Maps
set_option linter.unusedVariables false
set_option linter.unusedSimpArgs false
open List (getElem_toArray getElem_cons_zero getElem_cons_succ setIfInBounds_toArray set_cons_zero set_cons_succ)

theorem tk {P : Program} {md : Region.Mode} {ops : Array Oper} {Q : Exit → Act → World → Prop} {S : World → Prop} {i : Nat} {oi : Oper} {v : Value} {fuel : Nat} {listed : Array Bool} {a : Act} {w : World} (hi : ops[i]? = some oi)
  (hS : S w) (hy : YieldsIf P ops S oi v a) (h : wpAnyH P md ops Q S fuel (listed.setIfInBounds i true) (a.put oi.dst v) w)
  (hQ : ∀ c a w, Q (.panic c) (a.put oi.dst v) w → Q (.panic c) a w := by exact fun _ _ _ h => h)
  (hs : Region.noSelect ops = true := by kernel_rfl) (hf : Region.free md ops listed i = true := by kernel_rfl) (hr : (Region.ready md ops listed).contains i = true := by kernel_rfl) :
  wpAnyH P md ops Q S (fuel + 1) listed a w := wpAnyH_take hi hs hf hr hQ hy hS h
theorem tku {P : Program} {md : Region.Mode} {ops : Array Oper} {Q : Exit → Act → World → Prop} {S : World → Prop} {i : Nat} {oi : Oper} {fuel : Nat} {listed : Array Bool} {a : Act} {w : World} (hi : ops[i]? = some oi)
  (hS : S w) (hg : Region.wanted oi (yielded ops a.tmps) = false) (h : wpAnyH P md ops Q S fuel (listed.setIfInBounds i true) (a.put oi.dst undef) w)
  (hQ : ∀ c a w, Q (.panic c) (a.put oi.dst undef) w → Q (.panic c) a w := by exact fun _ _ _ h => h)
  (hs : Region.noSelect ops = true := by kernel_rfl) (hf : Region.free md ops listed i = true := by kernel_rfl) (hr : (Region.ready md ops listed).contains i = true := by kernel_rfl) :
  wpAnyH P md ops Q S (fuel + 1) listed a w := wpAnyH_take hi hs hf hr hQ (Or.inr ⟨hg, rfl⟩) hS h

/-! ### index.Check -/
theorem binOp_string_geq2 (t : TypeId) (a b : ByteArray) : binOp .geq t (.string a) (.string b) = pure (.bool (!(Op.bytesLess a.toList b.toList))) := by
 simp [binOp, Op.stringOp]
attribute [local go_sem] binOp_string_geq2 Oper.semAt_some
def upB (l : List S38) (k : Nat) : Bool := decide (k = 0) || Op.bytesLess (l.getD (k - 1) z38).f0.toList (l.getD k z38).f0.toList
def ixAt (l : List S38) (k : Nat) : Bool := keyB (l.getD k z38).f0 && (upB l k && (!((l.getD k z38).f1.length == 0) && chainB (l.getD k z38).f1))
def allFrom (P : Nat → Bool) (i : Nat) : Nat → Bool
 | 0 => true
 | d + 1 => P i && allFrom P (i + 1) d
theorem allFrom_snoc (P : Nat → Bool) (d : Nat) : ∀ i, allFrom P i (d + 1) = (allFrom P i d && P (i + d)) := by
 induction d with
 | zero => intro i; simp [allFrom]
 | succ d ih =>
  intro i
  rw [show allFrom P i (d + 1 + 1) = (P i && allFrom P (i + 1) (d + 1)) from rfl, ih (i + 1), show allFrom P i (d + 1) = (P i && allFrom P (i + 1) d) from rfl, Bool.and_assoc, show i + 1 + d = i + (d + 1) by omega]
theorem allFrom_at {P : Nat → Bool} {d : Nat} : ∀ {i : Nat}, allFrom P i d = true → ∀ j, i ≤ j → j < i + d → P j = true := by
 induction d with
 | zero => intro i _ j h1 h2; omega
 | succ d ih =>
  intro i h j h1 h2
  have h' : (P i && allFrom P (i + 1) d) = true := h
  rw [Bool.and_eq_true] at h'
  rcases Nat.eq_or_lt_of_le h1 with rfl | h3
  ·exact h'.1
  ·exact ih h'.2 j h3 (by omega)
theorem allFrom_false {P : Nat → Bool} {d i : Nat} (j : Nat) (h1 : i ≤ j) (h2 : j < i + d) (h : P j = false) : allFrom P i d = false := by
 cases hx : allFrom P i d
 ·rfl
 ·rw [allFrom_at hx j h1 h2] at h; cases h
def indexB (l : List S38) : Bool := decide (l.length ≤ 60) && allFrom (ixAt l) 0 l.length
theorem getD_at {α : Type} (l : List α) (k : Nat) (z : α) (h : k < l.length) : l.getD k z = l[k] := by rw [List.getD_eq_getElem?_getD, List.getElem?_eq_getElem h]; rfl
set_option maxHeartbeats 16000000 in
set_option maxRecDepth 100000 in
theorem index.walk (A : Option Addr) (c : Nat) (l : List S38) (w : World) (hr : Kd.C k38 w A l.length l) :
  Calls Tryz.prog 51 #[.slice A l.length c] w fun e w' => e = .returned (.int .i64 (errB (indexB l))) ∧ Below w.heap.size w w' := by
 have HB0 : Hid (Below w.heap.size w w) := Below.refl _ _
 have HR := Lib.hid hr
 have hlen : (l.length : Int) ≤ 9223372036854775807 := by have := hr.2.1; omega
 clear hr
 by_cases h60 : l.length ≤ 60
 ·have d60 : decide ((60 : Int) < (l.length : Int)) = false := by simp; omega
  go_enter Tryz.func51, Tryz.ntmps51
  go_wp2
  go_loopw [10] (fun i wr => ∃ (k : Nat), i = .int .i64 k ∧ k ≤ l.length ∧ Hid (allFrom (ixAt l) 0 k = true) ∧ Hid (Below w.heap.size w wr)) (fun i _ => l.length - (intOf i).toNat)
  case atStart => exact ⟨0, rfl, Nat.zero_le _, rfl, HB0⟩
  case round =>
   obtain ⟨k, rfl, hk, hall, hb⟩ := hrel
   by_cases hlt : k < l.length
   ·have HNO : Hid (ixAt l k = false → indexB l = false) := fun h => by
     unfold indexB; rw [allFrom_false k (Nat.zero_le _) (by omega) h]; simp
    have HYES : Hid (ixAt l k = true → allFrom (ixAt l) 0 (k + 1) = true) := fun h => by
     rw [allFrom_snoc, hall.out, Nat.zero_add, h]; rfl
    have HAT : Hid (ixAt l k = (keyB l[k].f0 && (upB l k && (!(l[k].f1.length == 0) && chainB l[k].f1)))) := by
     unfold Hid ixAt; rw [getD_at l k _ hlt]
    clear hall
    obtain ⟨ad, A1, c1, e', hc0, hc1, hl1, hC1⟩ := atEntry HR.out hb.out k hlt
    subst e'
    have HCE : Hid (Kd.C k80 w A1 l[k].f1.length l[k].f1) := by
     obtain ⟨ad2, A2, c2, e2, _, hx1, _, hx2⟩ := atEntry HR.out HB0.out k hlt
     injection e2 with e2; subst e2
     have := keepc hb.out hx1
     rw [this] at hc1
     injection hc1 with hc1; injection hc1 with hc1
     subst hc1
     exact hx2
    clear hC1
    cases hky : keyB l[k].f0
    ·have HE : Hid (indexB l = false) := HNO.out (by rw [HAT.out, hky]; rfl)
     have HKY : Hid (name_Key.f l[k].f0 = some false) := by unfold Hid name_Key.f; rw [hky]
     clear hky HNO HYES HAT
     generalize l[k] = x at *
     go_wp2
     skip
     refine wp_region_held_drew (S := fun W => W.cell? ⟨wr.heap.size, 0, none⟩ = some (.string x.f0) ∧ W.cell? ⟨wr.heap.size, 1, none⟩ = some (.slice A1 x.f1.length c1) ∧ Hid (Below w.heap.size w W)) (by kernel_rfl) ?_ (fun hHeld => ?_)
     ·exact ⟨by simp [go_sem], by simp [go_sem], (hb.out.alloc hb.out.size _).drew⟩
     refine tk (i := 0) (v := ?v0g1) rfl hHeld (Or.inl ⟨rfl, ?y0g1⟩) ?r0g1
     case y0g1 => (intro w h; obtain ⟨s0, s1, s2⟩ := h; go_simp; try with_reducible rfl)
     try simp only [getElem_toArray, getElem_cons_zero, getElem_cons_succ, Act.put, setIfInBounds_toArray, set_cons_zero, set_cons_succ]
     refine tk (i := 1) (v := ?v1g1) rfl hHeld (Or.inl ⟨rfl, ?y1g1⟩) ?r1g1
     case y1g1 => (intro w h; obtain ⟨s0, s1, s2⟩ := h; go_simp; try with_reducible rfl)
     try simp only [getElem_toArray, getElem_cons_zero, getElem_cons_succ, Act.put, setIfInBounds_toArray, set_cons_zero, set_cons_succ]
     refine wpAnyH_ready (rs := [2]) (by kernel_rfl) (by simp) ?_
     refine AllReadyH.cons (o := _) rfl (fun K hK => ?_) AllReadyH.nil
     rw [if_pos (by rfl)]
     go_simp
     obtain ⟨s0, s1, s2⟩ := hHeld
     refine (name_Key.calls _ _ _ HKY.out).mono ?_
     rintro e8 w8 ⟨rfl, hb8⟩
     refine hK.out _ _ ⟨keepc hb8 s0, keepc hb8 s1, keepB s2 hb8⟩ (fun hHeld => ?_)
     clear hK K hb8 s0 s1 s2
     try simp only [getElem_toArray, getElem_cons_zero, getElem_cons_succ, Act.put, setIfInBounds_toArray, set_cons_zero, set_cons_succ]
     refine tk (i := 3) (v := ?v3g1) rfl hHeld (Or.inl ⟨rfl, ?y3g1⟩) ?r3g1
     case y3g1 => (intro w h; obtain ⟨s0, s1, s2⟩ := h; go_simp; try with_reducible rfl)
     try simp only [getElem_toArray, getElem_cons_zero, getElem_cons_succ, Act.put, setIfInBounds_toArray, set_cons_zero, set_cons_succ]
     refine tk (i := 4) (v := ?v4g1) rfl hHeld (Or.inl ⟨rfl, ?y4g1⟩) ?r4g1
     case y4g1 => (intro w h; obtain ⟨s0, s1, s2⟩ := h; go_simp; try with_reducible rfl)
     try simp only [getElem_toArray, getElem_cons_zero, getElem_cons_succ, Act.put, setIfInBounds_toArray, set_cons_zero, set_cons_succ]
     refine tku (i := 5) rfl hHeld rfl ?_
     try simp only [getElem_toArray, getElem_cons_zero, getElem_cons_succ, Act.put, setIfInBounds_toArray, set_cons_zero, set_cons_succ]
     refine tku (i := 6) rfl hHeld rfl ?_
     try simp only [getElem_toArray, getElem_cons_zero, getElem_cons_succ, Act.put, setIfInBounds_toArray, set_cons_zero, set_cons_succ]
     refine tku (i := 7) rfl hHeld rfl ?_
     try simp only [getElem_toArray, getElem_cons_zero, getElem_cons_succ, Act.put, setIfInBounds_toArray, set_cons_zero, set_cons_succ]
     refine tku (i := 8) rfl hHeld rfl ?_
     try simp only [getElem_toArray, getElem_cons_zero, getElem_cons_succ, Act.put, setIfInBounds_toArray, set_cons_zero, set_cons_succ]
     refine tku (i := 9) rfl hHeld rfl ?_
     try simp only [getElem_toArray, getElem_cons_zero, getElem_cons_succ, Act.put, setIfInBounds_toArray, set_cons_zero, set_cons_succ]
     refine tku (i := 10) rfl hHeld rfl ?_
     try simp only [getElem_toArray, getElem_cons_zero, getElem_cons_succ, Act.put, setIfInBounds_toArray, set_cons_zero, set_cons_succ]
     refine tku (i := 11) rfl hHeld rfl ?_
     try simp only [getElem_toArray, getElem_cons_zero, getElem_cons_succ, Act.put, setIfInBounds_toArray, set_cons_zero, set_cons_succ]
     refine tku (i := 12) rfl hHeld rfl ?_
     try simp only [getElem_toArray, getElem_cons_zero, getElem_cons_succ, Act.put, setIfInBounds_toArray, set_cons_zero, set_cons_succ]
     refine tku (i := 13) rfl hHeld rfl ?_
     try simp only [getElem_toArray, getElem_cons_zero, getElem_cons_succ, Act.put, setIfInBounds_toArray, set_cons_zero, set_cons_succ]
     refine tku (i := 14) rfl hHeld rfl ?_
     try simp only [getElem_toArray, getElem_cons_zero, getElem_cons_succ, Act.put, setIfInBounds_toArray, set_cons_zero, set_cons_succ]
     refine tku (i := 15) rfl hHeld rfl ?_
     try simp only [getElem_toArray, getElem_cons_zero, getElem_cons_succ, Act.put, setIfInBounds_toArray, set_cons_zero, set_cons_succ]
     refine tku (i := 16) rfl hHeld rfl ?_
     try simp only [getElem_toArray, getElem_cons_zero, getElem_cons_succ, Act.put, setIfInBounds_toArray, set_cons_zero, set_cons_succ]
     refine tku (i := 17) rfl hHeld rfl ?_
     try simp only [getElem_toArray, getElem_cons_zero, getElem_cons_succ, Act.put, setIfInBounds_toArray, set_cons_zero, set_cons_succ]
     refine tk (i := 18) (v := ?v18g1) rfl hHeld (Or.inl ⟨rfl, ?y18g1⟩) ?r18g1
     case y18g1 => (intro w h; obtain ⟨s0, s1, s2⟩ := h; go_simp; try with_reducible rfl)
     try simp only [getElem_toArray, getElem_cons_zero, getElem_cons_succ, Act.put, setIfInBounds_toArray, set_cons_zero, set_cons_succ]
     refine tk (i := 19) (v := ?v19g1) rfl hHeld (Or.inl ⟨rfl, ?y19g1⟩) ?r19g1
     case y19g1 => (intro w h; obtain ⟨s0, s1, s2⟩ := h; go_simp; try with_reducible rfl)
     try simp only [getElem_toArray, getElem_cons_zero, getElem_cons_succ, Act.put, setIfInBounds_toArray, set_cons_zero, set_cons_succ]
     refine tku (i := 20) rfl hHeld rfl ?_
     try simp only [getElem_toArray, getElem_cons_zero, getElem_cons_succ, Act.put, setIfInBounds_toArray, set_cons_zero, set_cons_succ]
     refine tku (i := 21) rfl hHeld rfl ?_
     try simp only [getElem_toArray, getElem_cons_zero, getElem_cons_succ, Act.put, setIfInBounds_toArray, set_cons_zero, set_cons_succ]
     refine tku (i := 22) rfl hHeld rfl ?_
     try simp only [getElem_toArray, getElem_cons_zero, getElem_cons_succ, Act.put, setIfInBounds_toArray, set_cons_zero, set_cons_succ]
     refine tku (i := 23) rfl hHeld rfl ?_
     try simp only [getElem_toArray, getElem_cons_zero, getElem_cons_succ, Act.put, setIfInBounds_toArray, set_cons_zero, set_cons_succ]
     refine tk (i := 24) (v := ?v24g1) rfl hHeld (Or.inl ⟨rfl, ?y24g1⟩) ?r24g1
     case y24g1 => (intro w h; obtain ⟨s0, s1, s2⟩ := h; go_simp; try with_reducible rfl)
     try simp only [getElem_toArray, getElem_cons_zero, getElem_cons_succ, Act.put, setIfInBounds_toArray, set_cons_zero, set_cons_succ]
     refine tk (i := 25) (v := ?v25g1) rfl hHeld (Or.inl ⟨rfl, ?y25g1⟩) ?r25g1
     case y25g1 => (intro w h; obtain ⟨s0, s1, s2⟩ := h; go_simp; try with_reducible rfl)
     try simp only [getElem_toArray, getElem_cons_zero, getElem_cons_succ, Act.put, setIfInBounds_toArray, set_cons_zero, set_cons_succ]
     refine tku (i := 26) rfl hHeld rfl ?_
     try simp only [getElem_toArray, getElem_cons_zero, getElem_cons_succ, Act.put, setIfInBounds_toArray, set_cons_zero, set_cons_succ]
     refine tku (i := 27) rfl hHeld rfl ?_
     try simp only [getElem_toArray, getElem_cons_zero, getElem_cons_succ, Act.put, setIfInBounds_toArray, set_cons_zero, set_cons_succ]
     refine tku (i := 28) rfl hHeld rfl ?_
     try simp only [getElem_toArray, getElem_cons_zero, getElem_cons_succ, Act.put, setIfInBounds_toArray, set_cons_zero, set_cons_succ]
     refine tku (i := 29) rfl hHeld rfl ?_
     try simp only [getElem_toArray, getElem_cons_zero, getElem_cons_succ, Act.put, setIfInBounds_toArray, set_cons_zero, set_cons_succ]
     refine tk (i := 30) (v := ?v30g1) rfl hHeld (Or.inl ⟨rfl, ?y30g1⟩) ?r30g1
     case y30g1 => (intro w h; obtain ⟨s0, s1, s2⟩ := h; go_simp; try with_reducible rfl)
     try simp only [getElem_toArray, getElem_cons_zero, getElem_cons_succ, Act.put, setIfInBounds_toArray, set_cons_zero, set_cons_succ]
     refine wpAnyH_done (by kernel_rfl) ?_ _
     have HW := hHeld.2.2
     clear hHeld
     go_wp2
     go_ret
     exact ⟨by rw [HE.out]; rfl, HW.out⟩
    ·have HKY : Hid (name_Key.f l[k].f0 = some true) := by unfold Hid name_Key.f; rw [hky]
     rw [hky] at HAT
     clear hky
     by_cases h0 : (0 : Int) < (k : Int)
     ·obtain ⟨j, rfl⟩ : ∃ j, k = j + 1 := ⟨k - 1, by omega⟩
      have hj : j < l.length := by omega
      obtain ⟨ad', A3, c3, e3, hd0, hd1, hl3, hC3⟩ := atEntry HR.out hb.out j hj
      injection e3 with e3
      subst e3
      clear hd1 hl3 hC3
      have HUP : Hid (upB l (j + 1) = Op.bytesLess l[j].f0.toList l[j + 1].f0.toList) := by
       unfold Hid upB
       rw [getD_at l (j + 1) _ hlt, Nat.add_sub_cancel, getD_at l j _ hj, decide_eq_false (Nat.succ_ne_zero j), Bool.false_or]
      rw [HUP.out] at HAT
      clear HUP
      have e1 : IntKind.i64.wrap (((j + 1 : Nat) : Int) - 1) = (j : Int) := by simp [IntKind.wrap, IntKind.bits, IntKind.signed]; omega
      have p3 : (0 : Int) ≤ (j : Int) := by omega
      have p4 : (j : Int) < (l.length : Int) := by omega
      have e0 := World.new_ne wr _ hd0
      generalize l[j].f0 = q at *
      generalize l[j + 1] = x at *
      generalize hk1 : j + 1 = k at *
      have h0n : 0 < k := by omega
      have h0d : decide (0 < k) = true := decide_eq_true h0n
      cases hup : Op.bytesLess q.toList x.f0.toList
      ·have HE : Hid (indexB l = false) := HNO.out (by rw [HAT.out, hup]; rfl)
       clear HNO HYES HAT
       go_wp2
       skip
       refine wp_region_held_drew (S := fun W => W.cell? (ad.add (j * 2)) = some (.string q) ∧ W.cell? ⟨wr.heap.size, 0, none⟩ = some (.string x.f0) ∧ W.cell? ⟨wr.heap.size, 1, none⟩ = some (.slice A1 x.f1.length c1) ∧ Hid (Below w.heap.size w W)) (by kernel_rfl) ?_ (fun hHeld => ?_)
       ·exact ⟨keepc ((Below.refl _ _).alloc (Nat.le_refl _) _).drew hd0, by simp [go_sem], by simp [go_sem], (hb.out.alloc hb.out.size _).drew⟩
       refine tk (i := 0) (v := ?v0g2) rfl hHeld (Or.inl ⟨rfl, ?y0g2⟩) ?r0g2
       case y0g2 => (intro w h; obtain ⟨s0, s1, s2, s3⟩ := h; go_simp; try with_reducible rfl)
       try simp only [getElem_toArray, getElem_cons_zero, getElem_cons_succ, Act.put, setIfInBounds_toArray, set_cons_zero, set_cons_succ]
       refine tk (i := 1) (v := ?v1g2) rfl hHeld (Or.inl ⟨rfl, ?y1g2⟩) ?r1g2
       case y1g2 => (intro w h; obtain ⟨s0, s1, s2, s3⟩ := h; go_simp; try with_reducible rfl)
       try simp only [getElem_toArray, getElem_cons_zero, getElem_cons_succ, Act.put, setIfInBounds_toArray, set_cons_zero, set_cons_succ]
       refine wpAnyH_ready (rs := [2]) (by kernel_rfl) (by simp) ?_
       refine AllReadyH.cons (o := _) rfl (fun K hK => ?_) AllReadyH.nil
       rw [if_pos (by rfl)]
       go_simp
       obtain ⟨s0, s1, s2, s3⟩ := hHeld
       refine (name_Key.calls _ _ _ HKY.out).mono ?_
       rintro e8 w8 ⟨rfl, hb8⟩
       refine hK.out _ _ ⟨keepc hb8 s0, keepc hb8 s1, keepc hb8 s2, keepB s3 hb8⟩ (fun hHeld => ?_)
       clear hK K hb8 s0 s1 s2 s3
       try simp only [getElem_toArray, getElem_cons_zero, getElem_cons_succ, Act.put, setIfInBounds_toArray, set_cons_zero, set_cons_succ]
       refine tk (i := 3) (v := ?v3g2) rfl hHeld (Or.inl ⟨rfl, ?y3g2⟩) ?r3g2
       case y3g2 => (intro w h; obtain ⟨s0, s1, s2, s3⟩ := h; go_simp; try with_reducible rfl)
       try simp only [getElem_toArray, getElem_cons_zero, getElem_cons_succ, Act.put, setIfInBounds_toArray, set_cons_zero, set_cons_succ]
       refine tk (i := 4) (v := ?v4g2) rfl hHeld (Or.inl ⟨rfl, ?y4g2⟩) ?r4g2
       case y4g2 => (intro w h; obtain ⟨s0, s1, s2, s3⟩ := h; go_simp; try with_reducible rfl)
       try simp only [getElem_toArray, getElem_cons_zero, getElem_cons_succ, Act.put, setIfInBounds_toArray, set_cons_zero, set_cons_succ]
       refine tk (i := 5) (v := ?v5g2) rfl hHeld (Or.inl ⟨rfl, ?y5g2⟩) ?r5g2
       case y5g2 => (intro w h; obtain ⟨s0, s1, s2, s3⟩ := h; go_simp; try with_reducible rfl)
       try simp only [getElem_toArray, getElem_cons_zero, getElem_cons_succ, Act.put, setIfInBounds_toArray, set_cons_zero, set_cons_succ]
       refine tk (i := 6) (v := ?v6g2) rfl hHeld (Or.inl ⟨rfl, ?y6g2⟩) ?r6g2
       case y6g2 => (intro w h; obtain ⟨s0, s1, s2, s3⟩ := h; go_simp; try with_reducible rfl)
       try simp only [getElem_toArray, getElem_cons_zero, getElem_cons_succ, Act.put, setIfInBounds_toArray, set_cons_zero, set_cons_succ]
       refine tk (i := 7) (v := ?v7g2) rfl hHeld (Or.inl ⟨rfl, ?y7g2⟩) ?r7g2
       case y7g2 => (intro w h; obtain ⟨s0, s1, s2, s3⟩ := h; go_simp; try with_reducible rfl)
       try simp only [getElem_toArray, getElem_cons_zero, getElem_cons_succ, Act.put, setIfInBounds_toArray, set_cons_zero, set_cons_succ]
       refine tk (i := 8) (v := ?v8g2) rfl hHeld (Or.inl ⟨rfl, ?y8g2⟩) ?r8g2
       case y8g2 => (intro w h; obtain ⟨s0, s1, s2, s3⟩ := h; go_simp; try with_reducible rfl)
       try simp only [getElem_toArray, getElem_cons_zero, getElem_cons_succ, Act.put, setIfInBounds_toArray, set_cons_zero, set_cons_succ]
       refine tk (i := 9) (v := ?v9g2) rfl hHeld (Or.inl ⟨rfl, ?y9g2⟩) ?r9g2
       case y9g2 => (intro w h; obtain ⟨s0, s1, s2, s3⟩ := h; go_simp; try with_reducible rfl)
       try simp only [getElem_toArray, getElem_cons_zero, getElem_cons_succ, Act.put, setIfInBounds_toArray, set_cons_zero, set_cons_succ]
       refine tk (i := 10) (v := ?v10g2) rfl hHeld (Or.inl ⟨rfl, ?y10g2⟩) ?r10g2
       case y10g2 => (intro w h; obtain ⟨s0, s1, s2, s3⟩ := h; go_simp; try with_reducible rfl)
       try simp only [getElem_toArray, getElem_cons_zero, getElem_cons_succ, Act.put, setIfInBounds_toArray, set_cons_zero, set_cons_succ]
       refine tk (i := 11) (v := ?v11g2) rfl hHeld (Or.inl ⟨rfl, ?y11g2⟩) ?r11g2
       case y11g2 => (intro w h; obtain ⟨s0, s1, s2, s3⟩ := h; go_simp; try with_reducible rfl)
       try simp only [getElem_toArray, getElem_cons_zero, getElem_cons_succ, Act.put, setIfInBounds_toArray, set_cons_zero, set_cons_succ]
       refine tk (i := 12) (v := ?v12g2) rfl hHeld (Or.inl ⟨rfl, ?y12g2⟩) ?r12g2
       case y12g2 => (intro w h; obtain ⟨s0, s1, s2, s3⟩ := h; go_simp; try with_reducible rfl)
       try simp only [getElem_toArray, getElem_cons_zero, getElem_cons_succ, Act.put, setIfInBounds_toArray, set_cons_zero, set_cons_succ]
       refine tk (i := 13) (v := ?v13g2) rfl hHeld (Or.inl ⟨rfl, ?y13g2⟩) ?r13g2
       case y13g2 => (intro w h; obtain ⟨s0, s1, s2, s3⟩ := h; go_simp; try with_reducible rfl)
       try simp only [getElem_toArray, getElem_cons_zero, getElem_cons_succ, Act.put, setIfInBounds_toArray, set_cons_zero, set_cons_succ]
       refine tk (i := 14) (v := ?v14g2) rfl hHeld (Or.inl ⟨rfl, ?y14g2⟩) ?r14g2
       case y14g2 => (intro w h; obtain ⟨s0, s1, s2, s3⟩ := h; go_simp; try with_reducible rfl)
       try simp only [getElem_toArray, getElem_cons_zero, getElem_cons_succ, Act.put, setIfInBounds_toArray, set_cons_zero, set_cons_succ]
       refine tk (i := 15) (v := ?v15g2) rfl hHeld (Or.inl ⟨rfl, ?y15g2⟩) ?r15g2
       case y15g2 => (intro w h; obtain ⟨s0, s1, s2, s3⟩ := h; go_simp; try with_reducible rfl)
       try simp only [getElem_toArray, getElem_cons_zero, getElem_cons_succ, Act.put, setIfInBounds_toArray, set_cons_zero, set_cons_succ]
       refine tk (i := 16) (v := ?v16g2) rfl hHeld (Or.inl ⟨rfl, ?y16g2⟩) ?r16g2
       case y16g2 => (intro w h; obtain ⟨s0, s1, s2, s3⟩ := h; go_simp; try with_reducible rfl)
       try simp only [getElem_toArray, getElem_cons_zero, getElem_cons_succ, Act.put, setIfInBounds_toArray, set_cons_zero, set_cons_succ]
       refine tk (i := 17) (v := ?v17g2) rfl hHeld (Or.inl ⟨rfl, ?y17g2⟩) ?r17g2
       case y17g2 => (intro w h; obtain ⟨s0, s1, s2, s3⟩ := h; go_simp; try with_reducible rfl)
       try simp only [getElem_toArray, getElem_cons_zero, getElem_cons_succ, Act.put, setIfInBounds_toArray, set_cons_zero, set_cons_succ]
       refine tk (i := 18) (v := ?v18g2) rfl hHeld (Or.inl ⟨rfl, ?y18g2⟩) ?r18g2
       case y18g2 => (intro w h; obtain ⟨s0, s1, s2, s3⟩ := h; go_simp; try with_reducible rfl)
       try simp only [getElem_toArray, getElem_cons_zero, getElem_cons_succ, Act.put, setIfInBounds_toArray, set_cons_zero, set_cons_succ]
       refine tk (i := 19) (v := ?v19g2) rfl hHeld (Or.inl ⟨rfl, ?y19g2⟩) ?r19g2
       case y19g2 => (intro w h; obtain ⟨s0, s1, s2, s3⟩ := h; go_simp; try with_reducible rfl)
       try simp only [getElem_toArray, getElem_cons_zero, getElem_cons_succ, Act.put, setIfInBounds_toArray, set_cons_zero, set_cons_succ]
       refine tku (i := 20) rfl hHeld rfl ?_
       try simp only [getElem_toArray, getElem_cons_zero, getElem_cons_succ, Act.put, setIfInBounds_toArray, set_cons_zero, set_cons_succ]
       refine tku (i := 21) rfl hHeld rfl ?_
       try simp only [getElem_toArray, getElem_cons_zero, getElem_cons_succ, Act.put, setIfInBounds_toArray, set_cons_zero, set_cons_succ]
       refine tku (i := 22) rfl hHeld rfl ?_
       try simp only [getElem_toArray, getElem_cons_zero, getElem_cons_succ, Act.put, setIfInBounds_toArray, set_cons_zero, set_cons_succ]
       refine tku (i := 23) rfl hHeld rfl ?_
       try simp only [getElem_toArray, getElem_cons_zero, getElem_cons_succ, Act.put, setIfInBounds_toArray, set_cons_zero, set_cons_succ]
       refine tk (i := 24) (v := ?v24g2) rfl hHeld (Or.inl ⟨rfl, ?y24g2⟩) ?r24g2
       case y24g2 => (intro w h; obtain ⟨s0, s1, s2, s3⟩ := h; go_simp; try with_reducible rfl)
       try simp only [getElem_toArray, getElem_cons_zero, getElem_cons_succ, Act.put, setIfInBounds_toArray, set_cons_zero, set_cons_succ]
       refine tk (i := 25) (v := ?v25g2) rfl hHeld (Or.inl ⟨rfl, ?y25g2⟩) ?r25g2
       case y25g2 => (intro w h; obtain ⟨s0, s1, s2, s3⟩ := h; go_simp; try with_reducible rfl)
       try simp only [getElem_toArray, getElem_cons_zero, getElem_cons_succ, Act.put, setIfInBounds_toArray, set_cons_zero, set_cons_succ]
       refine tku (i := 26) rfl hHeld rfl ?_
       try simp only [getElem_toArray, getElem_cons_zero, getElem_cons_succ, Act.put, setIfInBounds_toArray, set_cons_zero, set_cons_succ]
       refine tku (i := 27) rfl hHeld rfl ?_
       try simp only [getElem_toArray, getElem_cons_zero, getElem_cons_succ, Act.put, setIfInBounds_toArray, set_cons_zero, set_cons_succ]
       refine tku (i := 28) rfl hHeld rfl ?_
       try simp only [getElem_toArray, getElem_cons_zero, getElem_cons_succ, Act.put, setIfInBounds_toArray, set_cons_zero, set_cons_succ]
       refine tku (i := 29) rfl hHeld rfl ?_
       try simp only [getElem_toArray, getElem_cons_zero, getElem_cons_succ, Act.put, setIfInBounds_toArray, set_cons_zero, set_cons_succ]
       refine tk (i := 30) (v := ?v30g2) rfl hHeld (Or.inl ⟨rfl, ?y30g2⟩) ?r30g2
       case y30g2 => (intro w h; obtain ⟨s0, s1, s2, s3⟩ := h; go_simp; try with_reducible rfl)
       try simp only [getElem_toArray, getElem_cons_zero, getElem_cons_succ, Act.put, setIfInBounds_toArray, set_cons_zero, set_cons_succ]
       refine wpAnyH_done (by kernel_rfl) ?_ _
       have HW := hHeld.2.2.2
       clear hHeld
       go_wp2
       go_ret
       exact ⟨by rw [HE.out]; rfl, HW.out⟩
      ·rw [hup] at HAT
       cases hz : ((x.f1.length : Int) == 0)
       ·have hzn : (x.f1.length == 0) = false := by rw [beq_eq_false_iff_ne] at hz ⊢; omega
        rw [hzn] at HAT
        clear hzn
        have HCN : Hid (∀ W, Below w.heap.size w W → Calls Tryz.prog 108 #[.slice A1 x.f1.length c1] W fun e w' => e = .returned (.int .i64 (errB (chainB x.f1))) ∧ Below W.heap.size W w') := fun W h => chain.walk A1 c1 x.f1 W (Kd.C_below HCE.out h)
        cases hch : chainB x.f1
        ·rw [hch] at HAT HCN
         rw [show errB false = 1 from rfl] at HCN
         have HE : Hid (indexB l = false) := HNO.out (by rw [HAT.out]; rfl)
         clear HNO HYES HAT hch
         go_wp2
         skip
         refine wp_region_held_drew (S := fun W => W.cell? (ad.add (j * 2)) = some (.string q) ∧ W.cell? ⟨wr.heap.size, 0, none⟩ = some (.string x.f0) ∧ W.cell? ⟨wr.heap.size, 1, none⟩ = some (.slice A1 x.f1.length c1) ∧ Hid (Below w.heap.size w W)) (by kernel_rfl) ?_ (fun hHeld => ?_)
         ·exact ⟨keepc ((Below.refl _ _).alloc (Nat.le_refl _) _).drew hd0, by simp [go_sem], by simp [go_sem], (hb.out.alloc hb.out.size _).drew⟩
         refine tk (i := 0) (v := ?v0g3) rfl hHeld (Or.inl ⟨rfl, ?y0g3⟩) ?r0g3
         case y0g3 => (intro w h; obtain ⟨s0, s1, s2, s3⟩ := h; go_simp; try with_reducible rfl)
         try simp only [getElem_toArray, getElem_cons_zero, getElem_cons_succ, Act.put, setIfInBounds_toArray, set_cons_zero, set_cons_succ]
         refine tk (i := 1) (v := ?v1g3) rfl hHeld (Or.inl ⟨rfl, ?y1g3⟩) ?r1g3
         case y1g3 => (intro w h; obtain ⟨s0, s1, s2, s3⟩ := h; go_simp; try with_reducible rfl)
         try simp only [getElem_toArray, getElem_cons_zero, getElem_cons_succ, Act.put, setIfInBounds_toArray, set_cons_zero, set_cons_succ]
         refine wpAnyH_ready (rs := [2]) (by kernel_rfl) (by simp) ?_
         refine AllReadyH.cons (o := _) rfl (fun K hK => ?_) AllReadyH.nil
         rw [if_pos (by rfl)]
         go_simp
         obtain ⟨s0, s1, s2, s3⟩ := hHeld
         refine (name_Key.calls _ _ _ HKY.out).mono ?_
         rintro e8 w8 ⟨rfl, hb8⟩
         refine hK.out _ _ ⟨keepc hb8 s0, keepc hb8 s1, keepc hb8 s2, keepB s3 hb8⟩ (fun hHeld => ?_)
         clear hK K hb8 s0 s1 s2 s3
         try simp only [getElem_toArray, getElem_cons_zero, getElem_cons_succ, Act.put, setIfInBounds_toArray, set_cons_zero, set_cons_succ]
         refine tk (i := 3) (v := ?v3g3) rfl hHeld (Or.inl ⟨rfl, ?y3g3⟩) ?r3g3
         case y3g3 => (intro w h; obtain ⟨s0, s1, s2, s3⟩ := h; go_simp; try with_reducible rfl)
         try simp only [getElem_toArray, getElem_cons_zero, getElem_cons_succ, Act.put, setIfInBounds_toArray, set_cons_zero, set_cons_succ]
         refine tk (i := 4) (v := ?v4g3) rfl hHeld (Or.inl ⟨rfl, ?y4g3⟩) ?r4g3
         case y4g3 => (intro w h; obtain ⟨s0, s1, s2, s3⟩ := h; go_simp; try with_reducible rfl)
         try simp only [getElem_toArray, getElem_cons_zero, getElem_cons_succ, Act.put, setIfInBounds_toArray, set_cons_zero, set_cons_succ]
         refine tk (i := 5) (v := ?v5g3) rfl hHeld (Or.inl ⟨rfl, ?y5g3⟩) ?r5g3
         case y5g3 => (intro w h; obtain ⟨s0, s1, s2, s3⟩ := h; go_simp; try with_reducible rfl)
         try simp only [getElem_toArray, getElem_cons_zero, getElem_cons_succ, Act.put, setIfInBounds_toArray, set_cons_zero, set_cons_succ]
         refine tk (i := 6) (v := ?v6g3) rfl hHeld (Or.inl ⟨rfl, ?y6g3⟩) ?r6g3
         case y6g3 => (intro w h; obtain ⟨s0, s1, s2, s3⟩ := h; go_simp; try with_reducible rfl)
         try simp only [getElem_toArray, getElem_cons_zero, getElem_cons_succ, Act.put, setIfInBounds_toArray, set_cons_zero, set_cons_succ]
         refine tk (i := 7) (v := ?v7g3) rfl hHeld (Or.inl ⟨rfl, ?y7g3⟩) ?r7g3
         case y7g3 => (intro w h; obtain ⟨s0, s1, s2, s3⟩ := h; go_simp; try with_reducible rfl)
         try simp only [getElem_toArray, getElem_cons_zero, getElem_cons_succ, Act.put, setIfInBounds_toArray, set_cons_zero, set_cons_succ]
         refine tk (i := 8) (v := ?v8g3) rfl hHeld (Or.inl ⟨rfl, ?y8g3⟩) ?r8g3
         case y8g3 => (intro w h; obtain ⟨s0, s1, s2, s3⟩ := h; go_simp; try with_reducible rfl)
         try simp only [getElem_toArray, getElem_cons_zero, getElem_cons_succ, Act.put, setIfInBounds_toArray, set_cons_zero, set_cons_succ]
         refine tk (i := 9) (v := ?v9g3) rfl hHeld (Or.inl ⟨rfl, ?y9g3⟩) ?r9g3
         case y9g3 => (intro w h; obtain ⟨s0, s1, s2, s3⟩ := h; go_simp; try with_reducible rfl)
         try simp only [getElem_toArray, getElem_cons_zero, getElem_cons_succ, Act.put, setIfInBounds_toArray, set_cons_zero, set_cons_succ]
         refine tk (i := 10) (v := ?v10g3) rfl hHeld (Or.inl ⟨rfl, ?y10g3⟩) ?r10g3
         case y10g3 => (intro w h; obtain ⟨s0, s1, s2, s3⟩ := h; go_simp; try with_reducible rfl)
         try simp only [getElem_toArray, getElem_cons_zero, getElem_cons_succ, Act.put, setIfInBounds_toArray, set_cons_zero, set_cons_succ]
         refine tk (i := 11) (v := ?v11g3) rfl hHeld (Or.inl ⟨rfl, ?y11g3⟩) ?r11g3
         case y11g3 => (intro w h; obtain ⟨s0, s1, s2, s3⟩ := h; go_simp; try with_reducible rfl)
         try simp only [getElem_toArray, getElem_cons_zero, getElem_cons_succ, Act.put, setIfInBounds_toArray, set_cons_zero, set_cons_succ]
         refine tk (i := 12) (v := ?v12g3) rfl hHeld (Or.inl ⟨rfl, ?y12g3⟩) ?r12g3
         case y12g3 => (intro w h; obtain ⟨s0, s1, s2, s3⟩ := h; go_simp; try with_reducible rfl)
         try simp only [getElem_toArray, getElem_cons_zero, getElem_cons_succ, Act.put, setIfInBounds_toArray, set_cons_zero, set_cons_succ]
         refine tk (i := 13) (v := ?v13g3) rfl hHeld (Or.inl ⟨rfl, ?y13g3⟩) ?r13g3
         case y13g3 => (intro w h; obtain ⟨s0, s1, s2, s3⟩ := h; go_simp; try with_reducible rfl)
         try simp only [getElem_toArray, getElem_cons_zero, getElem_cons_succ, Act.put, setIfInBounds_toArray, set_cons_zero, set_cons_succ]
         refine tk (i := 14) (v := ?v14g3) rfl hHeld (Or.inl ⟨rfl, ?y14g3⟩) ?r14g3
         case y14g3 => (intro w h; obtain ⟨s0, s1, s2, s3⟩ := h; go_simp; try with_reducible rfl)
         try simp only [getElem_toArray, getElem_cons_zero, getElem_cons_succ, Act.put, setIfInBounds_toArray, set_cons_zero, set_cons_succ]
         refine tk (i := 15) (v := ?v15g3) rfl hHeld (Or.inl ⟨rfl, ?y15g3⟩) ?r15g3
         case y15g3 => (intro w h; obtain ⟨s0, s1, s2, s3⟩ := h; go_simp; try with_reducible rfl)
         try simp only [getElem_toArray, getElem_cons_zero, getElem_cons_succ, Act.put, setIfInBounds_toArray, set_cons_zero, set_cons_succ]
         refine tk (i := 16) (v := ?v16g3) rfl hHeld (Or.inl ⟨rfl, ?y16g3⟩) ?r16g3
         case y16g3 => (intro w h; obtain ⟨s0, s1, s2, s3⟩ := h; go_simp; try with_reducible rfl)
         try simp only [getElem_toArray, getElem_cons_zero, getElem_cons_succ, Act.put, setIfInBounds_toArray, set_cons_zero, set_cons_succ]
         refine tk (i := 17) (v := ?v17g3) rfl hHeld (Or.inl ⟨rfl, ?y17g3⟩) ?r17g3
         case y17g3 => (intro w h; obtain ⟨s0, s1, s2, s3⟩ := h; go_simp; try with_reducible rfl)
         try simp only [getElem_toArray, getElem_cons_zero, getElem_cons_succ, Act.put, setIfInBounds_toArray, set_cons_zero, set_cons_succ]
         refine tk (i := 18) (v := ?v18g3) rfl hHeld (Or.inl ⟨rfl, ?y18g3⟩) ?r18g3
         case y18g3 => (intro w h; obtain ⟨s0, s1, s2, s3⟩ := h; go_simp; try with_reducible rfl)
         try simp only [getElem_toArray, getElem_cons_zero, getElem_cons_succ, Act.put, setIfInBounds_toArray, set_cons_zero, set_cons_succ]
         refine tk (i := 19) (v := ?v19g3) rfl hHeld (Or.inl ⟨rfl, ?y19g3⟩) ?r19g3
         case y19g3 => (intro w h; obtain ⟨s0, s1, s2, s3⟩ := h; go_simp; try with_reducible rfl)
         try simp only [getElem_toArray, getElem_cons_zero, getElem_cons_succ, Act.put, setIfInBounds_toArray, set_cons_zero, set_cons_succ]
         refine tk (i := 20) (v := ?v20g3) rfl hHeld (Or.inl ⟨rfl, ?y20g3⟩) ?r20g3
         case y20g3 => (intro w h; obtain ⟨s0, s1, s2, s3⟩ := h; go_simp; try with_reducible rfl)
         try simp only [getElem_toArray, getElem_cons_zero, getElem_cons_succ, Act.put, setIfInBounds_toArray, set_cons_zero, set_cons_succ]
         refine tk (i := 21) (v := ?v21g3) rfl hHeld (Or.inl ⟨rfl, ?y21g3⟩) ?r21g3
         case y21g3 => (intro w h; obtain ⟨s0, s1, s2, s3⟩ := h; go_simp; try with_reducible rfl)
         try simp only [getElem_toArray, getElem_cons_zero, getElem_cons_succ, Act.put, setIfInBounds_toArray, set_cons_zero, set_cons_succ]
         refine tk (i := 22) (v := ?v22g3) rfl hHeld (Or.inl ⟨rfl, ?y22g3⟩) ?r22g3
         case y22g3 => (intro w h; obtain ⟨s0, s1, s2, s3⟩ := h; go_simp; try with_reducible rfl)
         try simp only [getElem_toArray, getElem_cons_zero, getElem_cons_succ, Act.put, setIfInBounds_toArray, set_cons_zero, set_cons_succ]
         refine tk (i := 23) (v := ?v23g3) rfl hHeld (Or.inl ⟨rfl, ?y23g3⟩) ?r23g3
         case y23g3 => (intro w h; obtain ⟨s0, s1, s2, s3⟩ := h; go_simp; try with_reducible rfl)
         try simp only [getElem_toArray, getElem_cons_zero, getElem_cons_succ, Act.put, setIfInBounds_toArray, set_cons_zero, set_cons_succ]
         refine tk (i := 24) (v := ?v24g3) rfl hHeld (Or.inl ⟨rfl, ?y24g3⟩) ?r24g3
         case y24g3 => (intro w h; obtain ⟨s0, s1, s2, s3⟩ := h; go_simp; try with_reducible rfl)
         try simp only [getElem_toArray, getElem_cons_zero, getElem_cons_succ, Act.put, setIfInBounds_toArray, set_cons_zero, set_cons_succ]
         refine tk (i := 25) (v := ?v25g3) rfl hHeld (Or.inl ⟨rfl, ?y25g3⟩) ?r25g3
         case y25g3 => (intro w h; obtain ⟨s0, s1, s2, s3⟩ := h; go_simp; try with_reducible rfl)
         try simp only [getElem_toArray, getElem_cons_zero, getElem_cons_succ, Act.put, setIfInBounds_toArray, set_cons_zero, set_cons_succ]
         refine tk (i := 26) (v := ?v26g3) rfl hHeld (Or.inl ⟨rfl, ?y26g3⟩) ?r26g3
         case y26g3 => (intro w h; obtain ⟨s0, s1, s2, s3⟩ := h; go_simp; try with_reducible rfl)
         try simp only [getElem_toArray, getElem_cons_zero, getElem_cons_succ, Act.put, setIfInBounds_toArray, set_cons_zero, set_cons_succ]
         refine tk (i := 27) (v := ?v27g3) rfl hHeld (Or.inl ⟨rfl, ?y27g3⟩) ?r27g3
         case y27g3 => (intro w h; obtain ⟨s0, s1, s2, s3⟩ := h; go_simp; try with_reducible rfl)
         try simp only [getElem_toArray, getElem_cons_zero, getElem_cons_succ, Act.put, setIfInBounds_toArray, set_cons_zero, set_cons_succ]
         refine wpAnyH_ready (rs := [28]) (by kernel_rfl) (by simp) ?_
         refine AllReadyH.cons (o := _) rfl (fun K hK => ?_) AllReadyH.nil
         rw [if_pos (by rfl)]
         go_simp
         obtain ⟨s0, s1, s2, s3⟩ := hHeld
         refine (HCN.out _ (outB s3)).mono ?_
         rintro e8 w8 ⟨rfl, hb8⟩
         refine hK.out _ _ ⟨keepc hb8 s0, keepc hb8 s1, keepc hb8 s2, keepB s3 hb8⟩ (fun hHeld => ?_)
         clear hK K hb8 s0 s1 s2 s3
         try simp only [getElem_toArray, getElem_cons_zero, getElem_cons_succ, Act.put, setIfInBounds_toArray, set_cons_zero, set_cons_succ]
         refine tk (i := 29) (v := ?v29g3) rfl hHeld (Or.inl ⟨rfl, ?y29g3⟩) ?r29g3
         case y29g3 => (intro w h; obtain ⟨s0, s1, s2, s3⟩ := h; go_simp; try with_reducible rfl)
         try simp only [getElem_toArray, getElem_cons_zero, getElem_cons_succ, Act.put, setIfInBounds_toArray, set_cons_zero, set_cons_succ]
         refine tk (i := 30) (v := ?v30g3) rfl hHeld (Or.inl ⟨rfl, ?y30g3⟩) ?r30g3
         case y30g3 => (intro w h; obtain ⟨s0, s1, s2, s3⟩ := h; go_simp; try with_reducible rfl)
         try simp only [getElem_toArray, getElem_cons_zero, getElem_cons_succ, Act.put, setIfInBounds_toArray, set_cons_zero, set_cons_succ]
         refine wpAnyH_done (by kernel_rfl) ?_ _
         have HW := hHeld.2.2.2
         clear hHeld
         go_wp2
         go_ret
         exact ⟨by rw [HE.out]; rfl, HW.out⟩
        ·rw [hch] at HAT HCN
         rw [show errB true = 0 from rfl] at HCN
         have HN : Hid (allFrom (ixAt l) 0 (k + 1) = true) := HYES.out (by rw [HAT.out]; rfl)
         clear HNO HYES HAT hch
         go_wp2
         skip
         refine wp_region_held_drew (S := fun W => W.cell? (ad.add (j * 2)) = some (.string q) ∧ W.cell? ⟨wr.heap.size, 0, none⟩ = some (.string x.f0) ∧ W.cell? ⟨wr.heap.size, 1, none⟩ = some (.slice A1 x.f1.length c1) ∧ Hid (Below w.heap.size w W)) (by kernel_rfl) ?_ (fun hHeld => ?_)
         ·exact ⟨keepc ((Below.refl _ _).alloc (Nat.le_refl _) _).drew hd0, by simp [go_sem], by simp [go_sem], (hb.out.alloc hb.out.size _).drew⟩
         refine tk (i := 0) (v := ?v0g4) rfl hHeld (Or.inl ⟨rfl, ?y0g4⟩) ?r0g4
         case y0g4 => (intro w h; obtain ⟨s0, s1, s2, s3⟩ := h; go_simp; try with_reducible rfl)
         try simp only [getElem_toArray, getElem_cons_zero, getElem_cons_succ, Act.put, setIfInBounds_toArray, set_cons_zero, set_cons_succ]
         refine tk (i := 1) (v := ?v1g4) rfl hHeld (Or.inl ⟨rfl, ?y1g4⟩) ?r1g4
         case y1g4 => (intro w h; obtain ⟨s0, s1, s2, s3⟩ := h; go_simp; try with_reducible rfl)
         try simp only [getElem_toArray, getElem_cons_zero, getElem_cons_succ, Act.put, setIfInBounds_toArray, set_cons_zero, set_cons_succ]
         refine wpAnyH_ready (rs := [2]) (by kernel_rfl) (by simp) ?_
         refine AllReadyH.cons (o := _) rfl (fun K hK => ?_) AllReadyH.nil
         rw [if_pos (by rfl)]
         go_simp
         obtain ⟨s0, s1, s2, s3⟩ := hHeld
         refine (name_Key.calls _ _ _ HKY.out).mono ?_
         rintro e8 w8 ⟨rfl, hb8⟩
         refine hK.out _ _ ⟨keepc hb8 s0, keepc hb8 s1, keepc hb8 s2, keepB s3 hb8⟩ (fun hHeld => ?_)
         clear hK K hb8 s0 s1 s2 s3
         try simp only [getElem_toArray, getElem_cons_zero, getElem_cons_succ, Act.put, setIfInBounds_toArray, set_cons_zero, set_cons_succ]
         refine tk (i := 3) (v := ?v3g4) rfl hHeld (Or.inl ⟨rfl, ?y3g4⟩) ?r3g4
         case y3g4 => (intro w h; obtain ⟨s0, s1, s2, s3⟩ := h; go_simp; try with_reducible rfl)
         try simp only [getElem_toArray, getElem_cons_zero, getElem_cons_succ, Act.put, setIfInBounds_toArray, set_cons_zero, set_cons_succ]
         refine tk (i := 4) (v := ?v4g4) rfl hHeld (Or.inl ⟨rfl, ?y4g4⟩) ?r4g4
         case y4g4 => (intro w h; obtain ⟨s0, s1, s2, s3⟩ := h; go_simp; try with_reducible rfl)
         try simp only [getElem_toArray, getElem_cons_zero, getElem_cons_succ, Act.put, setIfInBounds_toArray, set_cons_zero, set_cons_succ]
         refine tk (i := 5) (v := ?v5g4) rfl hHeld (Or.inl ⟨rfl, ?y5g4⟩) ?r5g4
         case y5g4 => (intro w h; obtain ⟨s0, s1, s2, s3⟩ := h; go_simp; try with_reducible rfl)
         try simp only [getElem_toArray, getElem_cons_zero, getElem_cons_succ, Act.put, setIfInBounds_toArray, set_cons_zero, set_cons_succ]
         refine tk (i := 6) (v := ?v6g4) rfl hHeld (Or.inl ⟨rfl, ?y6g4⟩) ?r6g4
         case y6g4 => (intro w h; obtain ⟨s0, s1, s2, s3⟩ := h; go_simp; try with_reducible rfl)
         try simp only [getElem_toArray, getElem_cons_zero, getElem_cons_succ, Act.put, setIfInBounds_toArray, set_cons_zero, set_cons_succ]
         refine tk (i := 7) (v := ?v7g4) rfl hHeld (Or.inl ⟨rfl, ?y7g4⟩) ?r7g4
         case y7g4 => (intro w h; obtain ⟨s0, s1, s2, s3⟩ := h; go_simp; try with_reducible rfl)
         try simp only [getElem_toArray, getElem_cons_zero, getElem_cons_succ, Act.put, setIfInBounds_toArray, set_cons_zero, set_cons_succ]
         refine tk (i := 8) (v := ?v8g4) rfl hHeld (Or.inl ⟨rfl, ?y8g4⟩) ?r8g4
         case y8g4 => (intro w h; obtain ⟨s0, s1, s2, s3⟩ := h; go_simp; try with_reducible rfl)
         try simp only [getElem_toArray, getElem_cons_zero, getElem_cons_succ, Act.put, setIfInBounds_toArray, set_cons_zero, set_cons_succ]
         refine tk (i := 9) (v := ?v9g4) rfl hHeld (Or.inl ⟨rfl, ?y9g4⟩) ?r9g4
         case y9g4 => (intro w h; obtain ⟨s0, s1, s2, s3⟩ := h; go_simp; try with_reducible rfl)
         try simp only [getElem_toArray, getElem_cons_zero, getElem_cons_succ, Act.put, setIfInBounds_toArray, set_cons_zero, set_cons_succ]
         refine tk (i := 10) (v := ?v10g4) rfl hHeld (Or.inl ⟨rfl, ?y10g4⟩) ?r10g4
         case y10g4 => (intro w h; obtain ⟨s0, s1, s2, s3⟩ := h; go_simp; try with_reducible rfl)
         try simp only [getElem_toArray, getElem_cons_zero, getElem_cons_succ, Act.put, setIfInBounds_toArray, set_cons_zero, set_cons_succ]
         refine tk (i := 11) (v := ?v11g4) rfl hHeld (Or.inl ⟨rfl, ?y11g4⟩) ?r11g4
         case y11g4 => (intro w h; obtain ⟨s0, s1, s2, s3⟩ := h; go_simp; try with_reducible rfl)
         try simp only [getElem_toArray, getElem_cons_zero, getElem_cons_succ, Act.put, setIfInBounds_toArray, set_cons_zero, set_cons_succ]
         refine tk (i := 12) (v := ?v12g4) rfl hHeld (Or.inl ⟨rfl, ?y12g4⟩) ?r12g4
         case y12g4 => (intro w h; obtain ⟨s0, s1, s2, s3⟩ := h; go_simp; try with_reducible rfl)
         try simp only [getElem_toArray, getElem_cons_zero, getElem_cons_succ, Act.put, setIfInBounds_toArray, set_cons_zero, set_cons_succ]
         refine tk (i := 13) (v := ?v13g4) rfl hHeld (Or.inl ⟨rfl, ?y13g4⟩) ?r13g4
         case y13g4 => (intro w h; obtain ⟨s0, s1, s2, s3⟩ := h; go_simp; try with_reducible rfl)
         try simp only [getElem_toArray, getElem_cons_zero, getElem_cons_succ, Act.put, setIfInBounds_toArray, set_cons_zero, set_cons_succ]
         refine tk (i := 14) (v := ?v14g4) rfl hHeld (Or.inl ⟨rfl, ?y14g4⟩) ?r14g4
         case y14g4 => (intro w h; obtain ⟨s0, s1, s2, s3⟩ := h; go_simp; try with_reducible rfl)
         try simp only [getElem_toArray, getElem_cons_zero, getElem_cons_succ, Act.put, setIfInBounds_toArray, set_cons_zero, set_cons_succ]
         refine tk (i := 15) (v := ?v15g4) rfl hHeld (Or.inl ⟨rfl, ?y15g4⟩) ?r15g4
         case y15g4 => (intro w h; obtain ⟨s0, s1, s2, s3⟩ := h; go_simp; try with_reducible rfl)
         try simp only [getElem_toArray, getElem_cons_zero, getElem_cons_succ, Act.put, setIfInBounds_toArray, set_cons_zero, set_cons_succ]
         refine tk (i := 16) (v := ?v16g4) rfl hHeld (Or.inl ⟨rfl, ?y16g4⟩) ?r16g4
         case y16g4 => (intro w h; obtain ⟨s0, s1, s2, s3⟩ := h; go_simp; try with_reducible rfl)
         try simp only [getElem_toArray, getElem_cons_zero, getElem_cons_succ, Act.put, setIfInBounds_toArray, set_cons_zero, set_cons_succ]
         refine tk (i := 17) (v := ?v17g4) rfl hHeld (Or.inl ⟨rfl, ?y17g4⟩) ?r17g4
         case y17g4 => (intro w h; obtain ⟨s0, s1, s2, s3⟩ := h; go_simp; try with_reducible rfl)
         try simp only [getElem_toArray, getElem_cons_zero, getElem_cons_succ, Act.put, setIfInBounds_toArray, set_cons_zero, set_cons_succ]
         refine tk (i := 18) (v := ?v18g4) rfl hHeld (Or.inl ⟨rfl, ?y18g4⟩) ?r18g4
         case y18g4 => (intro w h; obtain ⟨s0, s1, s2, s3⟩ := h; go_simp; try with_reducible rfl)
         try simp only [getElem_toArray, getElem_cons_zero, getElem_cons_succ, Act.put, setIfInBounds_toArray, set_cons_zero, set_cons_succ]
         refine tk (i := 19) (v := ?v19g4) rfl hHeld (Or.inl ⟨rfl, ?y19g4⟩) ?r19g4
         case y19g4 => (intro w h; obtain ⟨s0, s1, s2, s3⟩ := h; go_simp; try with_reducible rfl)
         try simp only [getElem_toArray, getElem_cons_zero, getElem_cons_succ, Act.put, setIfInBounds_toArray, set_cons_zero, set_cons_succ]
         refine tk (i := 20) (v := ?v20g4) rfl hHeld (Or.inl ⟨rfl, ?y20g4⟩) ?r20g4
         case y20g4 => (intro w h; obtain ⟨s0, s1, s2, s3⟩ := h; go_simp; try with_reducible rfl)
         try simp only [getElem_toArray, getElem_cons_zero, getElem_cons_succ, Act.put, setIfInBounds_toArray, set_cons_zero, set_cons_succ]
         refine tk (i := 21) (v := ?v21g4) rfl hHeld (Or.inl ⟨rfl, ?y21g4⟩) ?r21g4
         case y21g4 => (intro w h; obtain ⟨s0, s1, s2, s3⟩ := h; go_simp; try with_reducible rfl)
         try simp only [getElem_toArray, getElem_cons_zero, getElem_cons_succ, Act.put, setIfInBounds_toArray, set_cons_zero, set_cons_succ]
         refine tk (i := 22) (v := ?v22g4) rfl hHeld (Or.inl ⟨rfl, ?y22g4⟩) ?r22g4
         case y22g4 => (intro w h; obtain ⟨s0, s1, s2, s3⟩ := h; go_simp; try with_reducible rfl)
         try simp only [getElem_toArray, getElem_cons_zero, getElem_cons_succ, Act.put, setIfInBounds_toArray, set_cons_zero, set_cons_succ]
         refine tk (i := 23) (v := ?v23g4) rfl hHeld (Or.inl ⟨rfl, ?y23g4⟩) ?r23g4
         case y23g4 => (intro w h; obtain ⟨s0, s1, s2, s3⟩ := h; go_simp; try with_reducible rfl)
         try simp only [getElem_toArray, getElem_cons_zero, getElem_cons_succ, Act.put, setIfInBounds_toArray, set_cons_zero, set_cons_succ]
         refine tk (i := 24) (v := ?v24g4) rfl hHeld (Or.inl ⟨rfl, ?y24g4⟩) ?r24g4
         case y24g4 => (intro w h; obtain ⟨s0, s1, s2, s3⟩ := h; go_simp; try with_reducible rfl)
         try simp only [getElem_toArray, getElem_cons_zero, getElem_cons_succ, Act.put, setIfInBounds_toArray, set_cons_zero, set_cons_succ]
         refine tk (i := 25) (v := ?v25g4) rfl hHeld (Or.inl ⟨rfl, ?y25g4⟩) ?r25g4
         case y25g4 => (intro w h; obtain ⟨s0, s1, s2, s3⟩ := h; go_simp; try with_reducible rfl)
         try simp only [getElem_toArray, getElem_cons_zero, getElem_cons_succ, Act.put, setIfInBounds_toArray, set_cons_zero, set_cons_succ]
         refine tk (i := 26) (v := ?v26g4) rfl hHeld (Or.inl ⟨rfl, ?y26g4⟩) ?r26g4
         case y26g4 => (intro w h; obtain ⟨s0, s1, s2, s3⟩ := h; go_simp; try with_reducible rfl)
         try simp only [getElem_toArray, getElem_cons_zero, getElem_cons_succ, Act.put, setIfInBounds_toArray, set_cons_zero, set_cons_succ]
         refine tk (i := 27) (v := ?v27g4) rfl hHeld (Or.inl ⟨rfl, ?y27g4⟩) ?r27g4
         case y27g4 => (intro w h; obtain ⟨s0, s1, s2, s3⟩ := h; go_simp; try with_reducible rfl)
         try simp only [getElem_toArray, getElem_cons_zero, getElem_cons_succ, Act.put, setIfInBounds_toArray, set_cons_zero, set_cons_succ]
         refine wpAnyH_ready (rs := [28]) (by kernel_rfl) (by simp) ?_
         refine AllReadyH.cons (o := _) rfl (fun K hK => ?_) AllReadyH.nil
         rw [if_pos (by rfl)]
         go_simp
         obtain ⟨s0, s1, s2, s3⟩ := hHeld
         refine (HCN.out _ (outB s3)).mono ?_
         rintro e8 w8 ⟨rfl, hb8⟩
         refine hK.out _ _ ⟨keepc hb8 s0, keepc hb8 s1, keepc hb8 s2, keepB s3 hb8⟩ (fun hHeld => ?_)
         clear hK K hb8 s0 s1 s2 s3
         try simp only [getElem_toArray, getElem_cons_zero, getElem_cons_succ, Act.put, setIfInBounds_toArray, set_cons_zero, set_cons_succ]
         refine tk (i := 29) (v := ?v29g4) rfl hHeld (Or.inl ⟨rfl, ?y29g4⟩) ?r29g4
         case y29g4 => (intro w h; obtain ⟨s0, s1, s2, s3⟩ := h; go_simp; try with_reducible rfl)
         try simp only [getElem_toArray, getElem_cons_zero, getElem_cons_succ, Act.put, setIfInBounds_toArray, set_cons_zero, set_cons_succ]
         refine tk (i := 30) (v := ?v30g4) rfl hHeld (Or.inl ⟨rfl, ?y30g4⟩) ?r30g4
         case y30g4 => (intro w h; obtain ⟨s0, s1, s2, s3⟩ := h; go_simp; try with_reducible rfl)
         try simp only [getElem_toArray, getElem_cons_zero, getElem_cons_succ, Act.put, setIfInBounds_toArray, set_cons_zero, set_cons_succ]
         refine wpAnyH_done (by kernel_rfl) ?_ _
         have HW := hHeld.2.2.2
         clear hHeld
         go_wp2
         go_roundw
         case rel => exact ⟨k + 1, by go_num, by omega, HN, HW⟩
         case measure => simp [intOf]; omega
       ·have hzn : (x.f1.length == 0) = true := by rw [beq_iff_eq] at hz ⊢; omega
        rw [hzn] at HAT
        have HE : Hid (indexB l = false) := HNO.out (by rw [HAT.out]; rfl)
        clear hzn HNO HYES HAT
        go_wp2
        skip
        refine wp_region_held_drew (S := fun W => W.cell? (ad.add (j * 2)) = some (.string q) ∧ W.cell? ⟨wr.heap.size, 0, none⟩ = some (.string x.f0) ∧ W.cell? ⟨wr.heap.size, 1, none⟩ = some (.slice A1 x.f1.length c1) ∧ Hid (Below w.heap.size w W)) (by kernel_rfl) ?_ (fun hHeld => ?_)
        ·exact ⟨keepc ((Below.refl _ _).alloc (Nat.le_refl _) _).drew hd0, by simp [go_sem], by simp [go_sem], (hb.out.alloc hb.out.size _).drew⟩
        refine tk (i := 0) (v := ?v0g5) rfl hHeld (Or.inl ⟨rfl, ?y0g5⟩) ?r0g5
        case y0g5 => (intro w h; obtain ⟨s0, s1, s2, s3⟩ := h; go_simp; try with_reducible rfl)
        try simp only [getElem_toArray, getElem_cons_zero, getElem_cons_succ, Act.put, setIfInBounds_toArray, set_cons_zero, set_cons_succ]
        refine tk (i := 1) (v := ?v1g5) rfl hHeld (Or.inl ⟨rfl, ?y1g5⟩) ?r1g5
        case y1g5 => (intro w h; obtain ⟨s0, s1, s2, s3⟩ := h; go_simp; try with_reducible rfl)
        try simp only [getElem_toArray, getElem_cons_zero, getElem_cons_succ, Act.put, setIfInBounds_toArray, set_cons_zero, set_cons_succ]
        refine wpAnyH_ready (rs := [2]) (by kernel_rfl) (by simp) ?_
        refine AllReadyH.cons (o := _) rfl (fun K hK => ?_) AllReadyH.nil
        rw [if_pos (by rfl)]
        go_simp
        obtain ⟨s0, s1, s2, s3⟩ := hHeld
        refine (name_Key.calls _ _ _ HKY.out).mono ?_
        rintro e8 w8 ⟨rfl, hb8⟩
        refine hK.out _ _ ⟨keepc hb8 s0, keepc hb8 s1, keepc hb8 s2, keepB s3 hb8⟩ (fun hHeld => ?_)
        clear hK K hb8 s0 s1 s2 s3
        try simp only [getElem_toArray, getElem_cons_zero, getElem_cons_succ, Act.put, setIfInBounds_toArray, set_cons_zero, set_cons_succ]
        refine tk (i := 3) (v := ?v3g5) rfl hHeld (Or.inl ⟨rfl, ?y3g5⟩) ?r3g5
        case y3g5 => (intro w h; obtain ⟨s0, s1, s2, s3⟩ := h; go_simp; try with_reducible rfl)
        try simp only [getElem_toArray, getElem_cons_zero, getElem_cons_succ, Act.put, setIfInBounds_toArray, set_cons_zero, set_cons_succ]
        refine tk (i := 4) (v := ?v4g5) rfl hHeld (Or.inl ⟨rfl, ?y4g5⟩) ?r4g5
        case y4g5 => (intro w h; obtain ⟨s0, s1, s2, s3⟩ := h; go_simp; try with_reducible rfl)
        try simp only [getElem_toArray, getElem_cons_zero, getElem_cons_succ, Act.put, setIfInBounds_toArray, set_cons_zero, set_cons_succ]
        refine tk (i := 5) (v := ?v5g5) rfl hHeld (Or.inl ⟨rfl, ?y5g5⟩) ?r5g5
        case y5g5 => (intro w h; obtain ⟨s0, s1, s2, s3⟩ := h; go_simp; try with_reducible rfl)
        try simp only [getElem_toArray, getElem_cons_zero, getElem_cons_succ, Act.put, setIfInBounds_toArray, set_cons_zero, set_cons_succ]
        refine tk (i := 6) (v := ?v6g5) rfl hHeld (Or.inl ⟨rfl, ?y6g5⟩) ?r6g5
        case y6g5 => (intro w h; obtain ⟨s0, s1, s2, s3⟩ := h; go_simp; try with_reducible rfl)
        try simp only [getElem_toArray, getElem_cons_zero, getElem_cons_succ, Act.put, setIfInBounds_toArray, set_cons_zero, set_cons_succ]
        refine tk (i := 7) (v := ?v7g5) rfl hHeld (Or.inl ⟨rfl, ?y7g5⟩) ?r7g5
        case y7g5 => (intro w h; obtain ⟨s0, s1, s2, s3⟩ := h; go_simp; try with_reducible rfl)
        try simp only [getElem_toArray, getElem_cons_zero, getElem_cons_succ, Act.put, setIfInBounds_toArray, set_cons_zero, set_cons_succ]
        refine tk (i := 8) (v := ?v8g5) rfl hHeld (Or.inl ⟨rfl, ?y8g5⟩) ?r8g5
        case y8g5 => (intro w h; obtain ⟨s0, s1, s2, s3⟩ := h; go_simp; try with_reducible rfl)
        try simp only [getElem_toArray, getElem_cons_zero, getElem_cons_succ, Act.put, setIfInBounds_toArray, set_cons_zero, set_cons_succ]
        refine tk (i := 9) (v := ?v9g5) rfl hHeld (Or.inl ⟨rfl, ?y9g5⟩) ?r9g5
        case y9g5 => (intro w h; obtain ⟨s0, s1, s2, s3⟩ := h; go_simp; try with_reducible rfl)
        try simp only [getElem_toArray, getElem_cons_zero, getElem_cons_succ, Act.put, setIfInBounds_toArray, set_cons_zero, set_cons_succ]
        refine tk (i := 10) (v := ?v10g5) rfl hHeld (Or.inl ⟨rfl, ?y10g5⟩) ?r10g5
        case y10g5 => (intro w h; obtain ⟨s0, s1, s2, s3⟩ := h; go_simp; try with_reducible rfl)
        try simp only [getElem_toArray, getElem_cons_zero, getElem_cons_succ, Act.put, setIfInBounds_toArray, set_cons_zero, set_cons_succ]
        refine tk (i := 11) (v := ?v11g5) rfl hHeld (Or.inl ⟨rfl, ?y11g5⟩) ?r11g5
        case y11g5 => (intro w h; obtain ⟨s0, s1, s2, s3⟩ := h; go_simp; try with_reducible rfl)
        try simp only [getElem_toArray, getElem_cons_zero, getElem_cons_succ, Act.put, setIfInBounds_toArray, set_cons_zero, set_cons_succ]
        refine tk (i := 12) (v := ?v12g5) rfl hHeld (Or.inl ⟨rfl, ?y12g5⟩) ?r12g5
        case y12g5 => (intro w h; obtain ⟨s0, s1, s2, s3⟩ := h; go_simp; try with_reducible rfl)
        try simp only [getElem_toArray, getElem_cons_zero, getElem_cons_succ, Act.put, setIfInBounds_toArray, set_cons_zero, set_cons_succ]
        refine tk (i := 13) (v := ?v13g5) rfl hHeld (Or.inl ⟨rfl, ?y13g5⟩) ?r13g5
        case y13g5 => (intro w h; obtain ⟨s0, s1, s2, s3⟩ := h; go_simp; try with_reducible rfl)
        try simp only [getElem_toArray, getElem_cons_zero, getElem_cons_succ, Act.put, setIfInBounds_toArray, set_cons_zero, set_cons_succ]
        refine tk (i := 14) (v := ?v14g5) rfl hHeld (Or.inl ⟨rfl, ?y14g5⟩) ?r14g5
        case y14g5 => (intro w h; obtain ⟨s0, s1, s2, s3⟩ := h; go_simp; try with_reducible rfl)
        try simp only [getElem_toArray, getElem_cons_zero, getElem_cons_succ, Act.put, setIfInBounds_toArray, set_cons_zero, set_cons_succ]
        refine tk (i := 15) (v := ?v15g5) rfl hHeld (Or.inl ⟨rfl, ?y15g5⟩) ?r15g5
        case y15g5 => (intro w h; obtain ⟨s0, s1, s2, s3⟩ := h; go_simp; try with_reducible rfl)
        try simp only [getElem_toArray, getElem_cons_zero, getElem_cons_succ, Act.put, setIfInBounds_toArray, set_cons_zero, set_cons_succ]
        refine tk (i := 16) (v := ?v16g5) rfl hHeld (Or.inl ⟨rfl, ?y16g5⟩) ?r16g5
        case y16g5 => (intro w h; obtain ⟨s0, s1, s2, s3⟩ := h; go_simp; try with_reducible rfl)
        try simp only [getElem_toArray, getElem_cons_zero, getElem_cons_succ, Act.put, setIfInBounds_toArray, set_cons_zero, set_cons_succ]
        refine tk (i := 17) (v := ?v17g5) rfl hHeld (Or.inl ⟨rfl, ?y17g5⟩) ?r17g5
        case y17g5 => (intro w h; obtain ⟨s0, s1, s2, s3⟩ := h; go_simp; try with_reducible rfl)
        try simp only [getElem_toArray, getElem_cons_zero, getElem_cons_succ, Act.put, setIfInBounds_toArray, set_cons_zero, set_cons_succ]
        refine tk (i := 18) (v := ?v18g5) rfl hHeld (Or.inl ⟨rfl, ?y18g5⟩) ?r18g5
        case y18g5 => (intro w h; obtain ⟨s0, s1, s2, s3⟩ := h; go_simp; try with_reducible rfl)
        try simp only [getElem_toArray, getElem_cons_zero, getElem_cons_succ, Act.put, setIfInBounds_toArray, set_cons_zero, set_cons_succ]
        refine tk (i := 19) (v := ?v19g5) rfl hHeld (Or.inl ⟨rfl, ?y19g5⟩) ?r19g5
        case y19g5 => (intro w h; obtain ⟨s0, s1, s2, s3⟩ := h; go_simp; try with_reducible rfl)
        try simp only [getElem_toArray, getElem_cons_zero, getElem_cons_succ, Act.put, setIfInBounds_toArray, set_cons_zero, set_cons_succ]
        refine tk (i := 20) (v := ?v20g5) rfl hHeld (Or.inl ⟨rfl, ?y20g5⟩) ?r20g5
        case y20g5 => (intro w h; obtain ⟨s0, s1, s2, s3⟩ := h; go_simp; try with_reducible rfl)
        try simp only [getElem_toArray, getElem_cons_zero, getElem_cons_succ, Act.put, setIfInBounds_toArray, set_cons_zero, set_cons_succ]
        refine tk (i := 21) (v := ?v21g5) rfl hHeld (Or.inl ⟨rfl, ?y21g5⟩) ?r21g5
        case y21g5 => (intro w h; obtain ⟨s0, s1, s2, s3⟩ := h; go_simp; try with_reducible rfl)
        try simp only [getElem_toArray, getElem_cons_zero, getElem_cons_succ, Act.put, setIfInBounds_toArray, set_cons_zero, set_cons_succ]
        refine tk (i := 22) (v := ?v22g5) rfl hHeld (Or.inl ⟨rfl, ?y22g5⟩) ?r22g5
        case y22g5 => (intro w h; obtain ⟨s0, s1, s2, s3⟩ := h; go_simp; try with_reducible rfl)
        try simp only [getElem_toArray, getElem_cons_zero, getElem_cons_succ, Act.put, setIfInBounds_toArray, set_cons_zero, set_cons_succ]
        refine tk (i := 23) (v := ?v23g5) rfl hHeld (Or.inl ⟨rfl, ?y23g5⟩) ?r23g5
        case y23g5 => (intro w h; obtain ⟨s0, s1, s2, s3⟩ := h; go_simp; try with_reducible rfl)
        try simp only [getElem_toArray, getElem_cons_zero, getElem_cons_succ, Act.put, setIfInBounds_toArray, set_cons_zero, set_cons_succ]
        refine tk (i := 24) (v := ?v24g5) rfl hHeld (Or.inl ⟨rfl, ?y24g5⟩) ?r24g5
        case y24g5 => (intro w h; obtain ⟨s0, s1, s2, s3⟩ := h; go_simp; try with_reducible rfl)
        try simp only [getElem_toArray, getElem_cons_zero, getElem_cons_succ, Act.put, setIfInBounds_toArray, set_cons_zero, set_cons_succ]
        refine tk (i := 25) (v := ?v25g5) rfl hHeld (Or.inl ⟨rfl, ?y25g5⟩) ?r25g5
        case y25g5 => (intro w h; obtain ⟨s0, s1, s2, s3⟩ := h; go_simp; try with_reducible rfl)
        try simp only [getElem_toArray, getElem_cons_zero, getElem_cons_succ, Act.put, setIfInBounds_toArray, set_cons_zero, set_cons_succ]
        refine tku (i := 26) rfl hHeld rfl ?_
        try simp only [getElem_toArray, getElem_cons_zero, getElem_cons_succ, Act.put, setIfInBounds_toArray, set_cons_zero, set_cons_succ]
        refine tku (i := 27) rfl hHeld rfl ?_
        try simp only [getElem_toArray, getElem_cons_zero, getElem_cons_succ, Act.put, setIfInBounds_toArray, set_cons_zero, set_cons_succ]
        refine tku (i := 28) rfl hHeld rfl ?_
        try simp only [getElem_toArray, getElem_cons_zero, getElem_cons_succ, Act.put, setIfInBounds_toArray, set_cons_zero, set_cons_succ]
        refine tku (i := 29) rfl hHeld rfl ?_
        try simp only [getElem_toArray, getElem_cons_zero, getElem_cons_succ, Act.put, setIfInBounds_toArray, set_cons_zero, set_cons_succ]
        refine tk (i := 30) (v := ?v30g5) rfl hHeld (Or.inl ⟨rfl, ?y30g5⟩) ?r30g5
        case y30g5 => (intro w h; obtain ⟨s0, s1, s2, s3⟩ := h; go_simp; try with_reducible rfl)
        try simp only [getElem_toArray, getElem_cons_zero, getElem_cons_succ, Act.put, setIfInBounds_toArray, set_cons_zero, set_cons_succ]
        refine wpAnyH_done (by kernel_rfl) ?_ _
        have HW := hHeld.2.2.2
        clear hHeld
        go_wp2
        go_ret
        exact ⟨by rw [HE.out]; rfl, HW.out⟩
     ·have HUP : Hid (upB l k = true) := by
       obtain rfl : k = 0 := by omega
       rfl
      rw [HUP.out] at HAT
      clear HUP
      generalize l[k] = x at *
      have h0n : ¬ 0 < k := by omega
      have h0d : decide (0 < k) = false := decide_eq_false h0n
      cases hz : ((x.f1.length : Int) == 0)
      ·have hzn : (x.f1.length == 0) = false := by rw [beq_eq_false_iff_ne] at hz ⊢; omega
       rw [hzn] at HAT
       clear hzn
       have HCN : Hid (∀ W, Below w.heap.size w W → Calls Tryz.prog 108 #[.slice A1 x.f1.length c1] W fun e w' => e = .returned (.int .i64 (errB (chainB x.f1))) ∧ Below W.heap.size W w') := fun W h => chain.walk A1 c1 x.f1 W (Kd.C_below HCE.out h)
       cases hch : chainB x.f1
       ·rw [hch] at HAT HCN
        rw [show errB false = 1 from rfl] at HCN
        have HE : Hid (indexB l = false) := HNO.out (by rw [HAT.out]; rfl)
        clear HNO HYES HAT hch
        go_wp2
        skip
        refine wp_region_held_drew (S := fun W => W.cell? ⟨wr.heap.size, 0, none⟩ = some (.string x.f0) ∧ W.cell? ⟨wr.heap.size, 1, none⟩ = some (.slice A1 x.f1.length c1) ∧ Hid (Below w.heap.size w W)) (by kernel_rfl) ?_ (fun hHeld => ?_)
        ·exact ⟨by simp [go_sem], by simp [go_sem], (hb.out.alloc hb.out.size _).drew⟩
        refine tk (i := 0) (v := ?v0g6) rfl hHeld (Or.inl ⟨rfl, ?y0g6⟩) ?r0g6
        case y0g6 => (intro w h; obtain ⟨s0, s1, s2⟩ := h; go_simp; try with_reducible rfl)
        try simp only [getElem_toArray, getElem_cons_zero, getElem_cons_succ, Act.put, setIfInBounds_toArray, set_cons_zero, set_cons_succ]
        refine tk (i := 1) (v := ?v1g6) rfl hHeld (Or.inl ⟨rfl, ?y1g6⟩) ?r1g6
        case y1g6 => (intro w h; obtain ⟨s0, s1, s2⟩ := h; go_simp; try with_reducible rfl)
        try simp only [getElem_toArray, getElem_cons_zero, getElem_cons_succ, Act.put, setIfInBounds_toArray, set_cons_zero, set_cons_succ]
        refine wpAnyH_ready (rs := [2]) (by kernel_rfl) (by simp) ?_
        refine AllReadyH.cons (o := _) rfl (fun K hK => ?_) AllReadyH.nil
        rw [if_pos (by rfl)]
        go_simp
        obtain ⟨s0, s1, s2⟩ := hHeld
        refine (name_Key.calls _ _ _ HKY.out).mono ?_
        rintro e8 w8 ⟨rfl, hb8⟩
        refine hK.out _ _ ⟨keepc hb8 s0, keepc hb8 s1, keepB s2 hb8⟩ (fun hHeld => ?_)
        clear hK K hb8 s0 s1 s2
        try simp only [getElem_toArray, getElem_cons_zero, getElem_cons_succ, Act.put, setIfInBounds_toArray, set_cons_zero, set_cons_succ]
        refine tk (i := 3) (v := ?v3g6) rfl hHeld (Or.inl ⟨rfl, ?y3g6⟩) ?r3g6
        case y3g6 => (intro w h; obtain ⟨s0, s1, s2⟩ := h; go_simp; try with_reducible rfl)
        try simp only [getElem_toArray, getElem_cons_zero, getElem_cons_succ, Act.put, setIfInBounds_toArray, set_cons_zero, set_cons_succ]
        refine tk (i := 4) (v := ?v4g6) rfl hHeld (Or.inl ⟨rfl, ?y4g6⟩) ?r4g6
        case y4g6 => (intro w h; obtain ⟨s0, s1, s2⟩ := h; go_simp; try with_reducible rfl)
        try simp only [getElem_toArray, getElem_cons_zero, getElem_cons_succ, Act.put, setIfInBounds_toArray, set_cons_zero, set_cons_succ]
        refine tk (i := 5) (v := ?v5g6) rfl hHeld (Or.inl ⟨rfl, ?y5g6⟩) ?r5g6
        case y5g6 => (intro w h; obtain ⟨s0, s1, s2⟩ := h; go_simp; try with_reducible rfl)
        try simp only [getElem_toArray, getElem_cons_zero, getElem_cons_succ, Act.put, setIfInBounds_toArray, set_cons_zero, set_cons_succ]
        refine tk (i := 6) (v := ?v6g6) rfl hHeld (Or.inl ⟨rfl, ?y6g6⟩) ?r6g6
        case y6g6 => (intro w h; obtain ⟨s0, s1, s2⟩ := h; go_simp; try with_reducible rfl)
        try simp only [getElem_toArray, getElem_cons_zero, getElem_cons_succ, Act.put, setIfInBounds_toArray, set_cons_zero, set_cons_succ]
        refine tk (i := 7) (v := ?v7g6) rfl hHeld (Or.inl ⟨rfl, ?y7g6⟩) ?r7g6
        case y7g6 => (intro w h; obtain ⟨s0, s1, s2⟩ := h; go_simp; try with_reducible rfl)
        try simp only [getElem_toArray, getElem_cons_zero, getElem_cons_succ, Act.put, setIfInBounds_toArray, set_cons_zero, set_cons_succ]
        refine tku (i := 8) rfl hHeld rfl ?_
        try simp only [getElem_toArray, getElem_cons_zero, getElem_cons_succ, Act.put, setIfInBounds_toArray, set_cons_zero, set_cons_succ]
        refine tku (i := 9) rfl hHeld rfl ?_
        try simp only [getElem_toArray, getElem_cons_zero, getElem_cons_succ, Act.put, setIfInBounds_toArray, set_cons_zero, set_cons_succ]
        refine tku (i := 10) rfl hHeld rfl ?_
        try simp only [getElem_toArray, getElem_cons_zero, getElem_cons_succ, Act.put, setIfInBounds_toArray, set_cons_zero, set_cons_succ]
        refine tku (i := 11) rfl hHeld rfl ?_
        try simp only [getElem_toArray, getElem_cons_zero, getElem_cons_succ, Act.put, setIfInBounds_toArray, set_cons_zero, set_cons_succ]
        refine tku (i := 12) rfl hHeld rfl ?_
        try simp only [getElem_toArray, getElem_cons_zero, getElem_cons_succ, Act.put, setIfInBounds_toArray, set_cons_zero, set_cons_succ]
        refine tku (i := 13) rfl hHeld rfl ?_
        try simp only [getElem_toArray, getElem_cons_zero, getElem_cons_succ, Act.put, setIfInBounds_toArray, set_cons_zero, set_cons_succ]
        refine tku (i := 14) rfl hHeld rfl ?_
        try simp only [getElem_toArray, getElem_cons_zero, getElem_cons_succ, Act.put, setIfInBounds_toArray, set_cons_zero, set_cons_succ]
        refine tku (i := 15) rfl hHeld rfl ?_
        try simp only [getElem_toArray, getElem_cons_zero, getElem_cons_succ, Act.put, setIfInBounds_toArray, set_cons_zero, set_cons_succ]
        refine tku (i := 16) rfl hHeld rfl ?_
        try simp only [getElem_toArray, getElem_cons_zero, getElem_cons_succ, Act.put, setIfInBounds_toArray, set_cons_zero, set_cons_succ]
        refine tk (i := 17) (v := ?v17g6) rfl hHeld (Or.inl ⟨rfl, ?y17g6⟩) ?r17g6
        case y17g6 => (intro w h; obtain ⟨s0, s1, s2⟩ := h; go_simp; try with_reducible rfl)
        try simp only [getElem_toArray, getElem_cons_zero, getElem_cons_succ, Act.put, setIfInBounds_toArray, set_cons_zero, set_cons_succ]
        refine tk (i := 18) (v := ?v18g6) rfl hHeld (Or.inl ⟨rfl, ?y18g6⟩) ?r18g6
        case y18g6 => (intro w h; obtain ⟨s0, s1, s2⟩ := h; go_simp; try with_reducible rfl)
        try simp only [getElem_toArray, getElem_cons_zero, getElem_cons_succ, Act.put, setIfInBounds_toArray, set_cons_zero, set_cons_succ]
        refine tk (i := 19) (v := ?v19g6) rfl hHeld (Or.inl ⟨rfl, ?y19g6⟩) ?r19g6
        case y19g6 => (intro w h; obtain ⟨s0, s1, s2⟩ := h; go_simp; try with_reducible rfl)
        try simp only [getElem_toArray, getElem_cons_zero, getElem_cons_succ, Act.put, setIfInBounds_toArray, set_cons_zero, set_cons_succ]
        refine tk (i := 20) (v := ?v20g6) rfl hHeld (Or.inl ⟨rfl, ?y20g6⟩) ?r20g6
        case y20g6 => (intro w h; obtain ⟨s0, s1, s2⟩ := h; go_simp; try with_reducible rfl)
        try simp only [getElem_toArray, getElem_cons_zero, getElem_cons_succ, Act.put, setIfInBounds_toArray, set_cons_zero, set_cons_succ]
        refine tk (i := 21) (v := ?v21g6) rfl hHeld (Or.inl ⟨rfl, ?y21g6⟩) ?r21g6
        case y21g6 => (intro w h; obtain ⟨s0, s1, s2⟩ := h; go_simp; try with_reducible rfl)
        try simp only [getElem_toArray, getElem_cons_zero, getElem_cons_succ, Act.put, setIfInBounds_toArray, set_cons_zero, set_cons_succ]
        refine tk (i := 22) (v := ?v22g6) rfl hHeld (Or.inl ⟨rfl, ?y22g6⟩) ?r22g6
        case y22g6 => (intro w h; obtain ⟨s0, s1, s2⟩ := h; go_simp; try with_reducible rfl)
        try simp only [getElem_toArray, getElem_cons_zero, getElem_cons_succ, Act.put, setIfInBounds_toArray, set_cons_zero, set_cons_succ]
        refine tk (i := 23) (v := ?v23g6) rfl hHeld (Or.inl ⟨rfl, ?y23g6⟩) ?r23g6
        case y23g6 => (intro w h; obtain ⟨s0, s1, s2⟩ := h; go_simp; try with_reducible rfl)
        try simp only [getElem_toArray, getElem_cons_zero, getElem_cons_succ, Act.put, setIfInBounds_toArray, set_cons_zero, set_cons_succ]
        refine tk (i := 24) (v := ?v24g6) rfl hHeld (Or.inl ⟨rfl, ?y24g6⟩) ?r24g6
        case y24g6 => (intro w h; obtain ⟨s0, s1, s2⟩ := h; go_simp; try with_reducible rfl)
        try simp only [getElem_toArray, getElem_cons_zero, getElem_cons_succ, Act.put, setIfInBounds_toArray, set_cons_zero, set_cons_succ]
        refine tk (i := 25) (v := ?v25g6) rfl hHeld (Or.inl ⟨rfl, ?y25g6⟩) ?r25g6
        case y25g6 => (intro w h; obtain ⟨s0, s1, s2⟩ := h; go_simp; try with_reducible rfl)
        try simp only [getElem_toArray, getElem_cons_zero, getElem_cons_succ, Act.put, setIfInBounds_toArray, set_cons_zero, set_cons_succ]
        refine tk (i := 26) (v := ?v26g6) rfl hHeld (Or.inl ⟨rfl, ?y26g6⟩) ?r26g6
        case y26g6 => (intro w h; obtain ⟨s0, s1, s2⟩ := h; go_simp; try with_reducible rfl)
        try simp only [getElem_toArray, getElem_cons_zero, getElem_cons_succ, Act.put, setIfInBounds_toArray, set_cons_zero, set_cons_succ]
        refine tk (i := 27) (v := ?v27g6) rfl hHeld (Or.inl ⟨rfl, ?y27g6⟩) ?r27g6
        case y27g6 => (intro w h; obtain ⟨s0, s1, s2⟩ := h; go_simp; try with_reducible rfl)
        try simp only [getElem_toArray, getElem_cons_zero, getElem_cons_succ, Act.put, setIfInBounds_toArray, set_cons_zero, set_cons_succ]
        refine wpAnyH_ready (rs := [28]) (by kernel_rfl) (by simp) ?_
        refine AllReadyH.cons (o := _) rfl (fun K hK => ?_) AllReadyH.nil
        rw [if_pos (by rfl)]
        go_simp
        obtain ⟨s0, s1, s2⟩ := hHeld
        refine (HCN.out _ (outB s2)).mono ?_
        rintro e8 w8 ⟨rfl, hb8⟩
        refine hK.out _ _ ⟨keepc hb8 s0, keepc hb8 s1, keepB s2 hb8⟩ (fun hHeld => ?_)
        clear hK K hb8 s0 s1 s2
        try simp only [getElem_toArray, getElem_cons_zero, getElem_cons_succ, Act.put, setIfInBounds_toArray, set_cons_zero, set_cons_succ]
        refine tk (i := 29) (v := ?v29g6) rfl hHeld (Or.inl ⟨rfl, ?y29g6⟩) ?r29g6
        case y29g6 => (intro w h; obtain ⟨s0, s1, s2⟩ := h; go_simp; try with_reducible rfl)
        try simp only [getElem_toArray, getElem_cons_zero, getElem_cons_succ, Act.put, setIfInBounds_toArray, set_cons_zero, set_cons_succ]
        refine tk (i := 30) (v := ?v30g6) rfl hHeld (Or.inl ⟨rfl, ?y30g6⟩) ?r30g6
        case y30g6 => (intro w h; obtain ⟨s0, s1, s2⟩ := h; go_simp; try with_reducible rfl)
        try simp only [getElem_toArray, getElem_cons_zero, getElem_cons_succ, Act.put, setIfInBounds_toArray, set_cons_zero, set_cons_succ]
        refine wpAnyH_done (by kernel_rfl) ?_ _
        have HW := hHeld.2.2
        clear hHeld
        go_wp2
        go_ret
        exact ⟨by rw [HE.out]; rfl, HW.out⟩
       ·rw [hch] at HAT HCN
        rw [show errB true = 0 from rfl] at HCN
        have HN : Hid (allFrom (ixAt l) 0 (k + 1) = true) := HYES.out (by rw [HAT.out]; rfl)
        clear HNO HYES HAT hch
        go_wp2
        skip
        refine wp_region_held_drew (S := fun W => W.cell? ⟨wr.heap.size, 0, none⟩ = some (.string x.f0) ∧ W.cell? ⟨wr.heap.size, 1, none⟩ = some (.slice A1 x.f1.length c1) ∧ Hid (Below w.heap.size w W)) (by kernel_rfl) ?_ (fun hHeld => ?_)
        ·exact ⟨by simp [go_sem], by simp [go_sem], (hb.out.alloc hb.out.size _).drew⟩
        refine tk (i := 0) (v := ?v0g7) rfl hHeld (Or.inl ⟨rfl, ?y0g7⟩) ?r0g7
        case y0g7 => (intro w h; obtain ⟨s0, s1, s2⟩ := h; go_simp; try with_reducible rfl)
        try simp only [getElem_toArray, getElem_cons_zero, getElem_cons_succ, Act.put, setIfInBounds_toArray, set_cons_zero, set_cons_succ]
        refine tk (i := 1) (v := ?v1g7) rfl hHeld (Or.inl ⟨rfl, ?y1g7⟩) ?r1g7
        case y1g7 => (intro w h; obtain ⟨s0, s1, s2⟩ := h; go_simp; try with_reducible rfl)
        try simp only [getElem_toArray, getElem_cons_zero, getElem_cons_succ, Act.put, setIfInBounds_toArray, set_cons_zero, set_cons_succ]
        refine wpAnyH_ready (rs := [2]) (by kernel_rfl) (by simp) ?_
        refine AllReadyH.cons (o := _) rfl (fun K hK => ?_) AllReadyH.nil
        rw [if_pos (by rfl)]
        go_simp
        obtain ⟨s0, s1, s2⟩ := hHeld
        refine (name_Key.calls _ _ _ HKY.out).mono ?_
        rintro e8 w8 ⟨rfl, hb8⟩
        refine hK.out _ _ ⟨keepc hb8 s0, keepc hb8 s1, keepB s2 hb8⟩ (fun hHeld => ?_)
        clear hK K hb8 s0 s1 s2
        try simp only [getElem_toArray, getElem_cons_zero, getElem_cons_succ, Act.put, setIfInBounds_toArray, set_cons_zero, set_cons_succ]
        refine tk (i := 3) (v := ?v3g7) rfl hHeld (Or.inl ⟨rfl, ?y3g7⟩) ?r3g7
        case y3g7 => (intro w h; obtain ⟨s0, s1, s2⟩ := h; go_simp; try with_reducible rfl)
        try simp only [getElem_toArray, getElem_cons_zero, getElem_cons_succ, Act.put, setIfInBounds_toArray, set_cons_zero, set_cons_succ]
        refine tk (i := 4) (v := ?v4g7) rfl hHeld (Or.inl ⟨rfl, ?y4g7⟩) ?r4g7
        case y4g7 => (intro w h; obtain ⟨s0, s1, s2⟩ := h; go_simp; try with_reducible rfl)
        try simp only [getElem_toArray, getElem_cons_zero, getElem_cons_succ, Act.put, setIfInBounds_toArray, set_cons_zero, set_cons_succ]
        refine tk (i := 5) (v := ?v5g7) rfl hHeld (Or.inl ⟨rfl, ?y5g7⟩) ?r5g7
        case y5g7 => (intro w h; obtain ⟨s0, s1, s2⟩ := h; go_simp; try with_reducible rfl)
        try simp only [getElem_toArray, getElem_cons_zero, getElem_cons_succ, Act.put, setIfInBounds_toArray, set_cons_zero, set_cons_succ]
        refine tk (i := 6) (v := ?v6g7) rfl hHeld (Or.inl ⟨rfl, ?y6g7⟩) ?r6g7
        case y6g7 => (intro w h; obtain ⟨s0, s1, s2⟩ := h; go_simp; try with_reducible rfl)
        try simp only [getElem_toArray, getElem_cons_zero, getElem_cons_succ, Act.put, setIfInBounds_toArray, set_cons_zero, set_cons_succ]
        refine tk (i := 7) (v := ?v7g7) rfl hHeld (Or.inl ⟨rfl, ?y7g7⟩) ?r7g7
        case y7g7 => (intro w h; obtain ⟨s0, s1, s2⟩ := h; go_simp; try with_reducible rfl)
        try simp only [getElem_toArray, getElem_cons_zero, getElem_cons_succ, Act.put, setIfInBounds_toArray, set_cons_zero, set_cons_succ]
        refine tku (i := 8) rfl hHeld rfl ?_
        try simp only [getElem_toArray, getElem_cons_zero, getElem_cons_succ, Act.put, setIfInBounds_toArray, set_cons_zero, set_cons_succ]
        refine tku (i := 9) rfl hHeld rfl ?_
        try simp only [getElem_toArray, getElem_cons_zero, getElem_cons_succ, Act.put, setIfInBounds_toArray, set_cons_zero, set_cons_succ]
        refine tku (i := 10) rfl hHeld rfl ?_
        try simp only [getElem_toArray, getElem_cons_zero, getElem_cons_succ, Act.put, setIfInBounds_toArray, set_cons_zero, set_cons_succ]
        refine tku (i := 11) rfl hHeld rfl ?_
        try simp only [getElem_toArray, getElem_cons_zero, getElem_cons_succ, Act.put, setIfInBounds_toArray, set_cons_zero, set_cons_succ]
        refine tku (i := 12) rfl hHeld rfl ?_
        try simp only [getElem_toArray, getElem_cons_zero, getElem_cons_succ, Act.put, setIfInBounds_toArray, set_cons_zero, set_cons_succ]
        refine tku (i := 13) rfl hHeld rfl ?_
        try simp only [getElem_toArray, getElem_cons_zero, getElem_cons_succ, Act.put, setIfInBounds_toArray, set_cons_zero, set_cons_succ]
        refine tku (i := 14) rfl hHeld rfl ?_
        try simp only [getElem_toArray, getElem_cons_zero, getElem_cons_succ, Act.put, setIfInBounds_toArray, set_cons_zero, set_cons_succ]
        refine tku (i := 15) rfl hHeld rfl ?_
        try simp only [getElem_toArray, getElem_cons_zero, getElem_cons_succ, Act.put, setIfInBounds_toArray, set_cons_zero, set_cons_succ]
        refine tku (i := 16) rfl hHeld rfl ?_
        try simp only [getElem_toArray, getElem_cons_zero, getElem_cons_succ, Act.put, setIfInBounds_toArray, set_cons_zero, set_cons_succ]
        refine tk (i := 17) (v := ?v17g7) rfl hHeld (Or.inl ⟨rfl, ?y17g7⟩) ?r17g7
        case y17g7 => (intro w h; obtain ⟨s0, s1, s2⟩ := h; go_simp; try with_reducible rfl)
        try simp only [getElem_toArray, getElem_cons_zero, getElem_cons_succ, Act.put, setIfInBounds_toArray, set_cons_zero, set_cons_succ]
        refine tk (i := 18) (v := ?v18g7) rfl hHeld (Or.inl ⟨rfl, ?y18g7⟩) ?r18g7
        case y18g7 => (intro w h; obtain ⟨s0, s1, s2⟩ := h; go_simp; try with_reducible rfl)
        try simp only [getElem_toArray, getElem_cons_zero, getElem_cons_succ, Act.put, setIfInBounds_toArray, set_cons_zero, set_cons_succ]
        refine tk (i := 19) (v := ?v19g7) rfl hHeld (Or.inl ⟨rfl, ?y19g7⟩) ?r19g7
        case y19g7 => (intro w h; obtain ⟨s0, s1, s2⟩ := h; go_simp; try with_reducible rfl)
        try simp only [getElem_toArray, getElem_cons_zero, getElem_cons_succ, Act.put, setIfInBounds_toArray, set_cons_zero, set_cons_succ]
        refine tk (i := 20) (v := ?v20g7) rfl hHeld (Or.inl ⟨rfl, ?y20g7⟩) ?r20g7
        case y20g7 => (intro w h; obtain ⟨s0, s1, s2⟩ := h; go_simp; try with_reducible rfl)
        try simp only [getElem_toArray, getElem_cons_zero, getElem_cons_succ, Act.put, setIfInBounds_toArray, set_cons_zero, set_cons_succ]
        refine tk (i := 21) (v := ?v21g7) rfl hHeld (Or.inl ⟨rfl, ?y21g7⟩) ?r21g7
        case y21g7 => (intro w h; obtain ⟨s0, s1, s2⟩ := h; go_simp; try with_reducible rfl)
        try simp only [getElem_toArray, getElem_cons_zero, getElem_cons_succ, Act.put, setIfInBounds_toArray, set_cons_zero, set_cons_succ]
        refine tk (i := 22) (v := ?v22g7) rfl hHeld (Or.inl ⟨rfl, ?y22g7⟩) ?r22g7
        case y22g7 => (intro w h; obtain ⟨s0, s1, s2⟩ := h; go_simp; try with_reducible rfl)
        try simp only [getElem_toArray, getElem_cons_zero, getElem_cons_succ, Act.put, setIfInBounds_toArray, set_cons_zero, set_cons_succ]
        refine tk (i := 23) (v := ?v23g7) rfl hHeld (Or.inl ⟨rfl, ?y23g7⟩) ?r23g7
        case y23g7 => (intro w h; obtain ⟨s0, s1, s2⟩ := h; go_simp; try with_reducible rfl)
        try simp only [getElem_toArray, getElem_cons_zero, getElem_cons_succ, Act.put, setIfInBounds_toArray, set_cons_zero, set_cons_succ]
        refine tk (i := 24) (v := ?v24g7) rfl hHeld (Or.inl ⟨rfl, ?y24g7⟩) ?r24g7
        case y24g7 => (intro w h; obtain ⟨s0, s1, s2⟩ := h; go_simp; try with_reducible rfl)
        try simp only [getElem_toArray, getElem_cons_zero, getElem_cons_succ, Act.put, setIfInBounds_toArray, set_cons_zero, set_cons_succ]
        refine tk (i := 25) (v := ?v25g7) rfl hHeld (Or.inl ⟨rfl, ?y25g7⟩) ?r25g7
        case y25g7 => (intro w h; obtain ⟨s0, s1, s2⟩ := h; go_simp; try with_reducible rfl)
        try simp only [getElem_toArray, getElem_cons_zero, getElem_cons_succ, Act.put, setIfInBounds_toArray, set_cons_zero, set_cons_succ]
        refine tk (i := 26) (v := ?v26g7) rfl hHeld (Or.inl ⟨rfl, ?y26g7⟩) ?r26g7
        case y26g7 => (intro w h; obtain ⟨s0, s1, s2⟩ := h; go_simp; try with_reducible rfl)
        try simp only [getElem_toArray, getElem_cons_zero, getElem_cons_succ, Act.put, setIfInBounds_toArray, set_cons_zero, set_cons_succ]
        refine tk (i := 27) (v := ?v27g7) rfl hHeld (Or.inl ⟨rfl, ?y27g7⟩) ?r27g7
        case y27g7 => (intro w h; obtain ⟨s0, s1, s2⟩ := h; go_simp; try with_reducible rfl)
        try simp only [getElem_toArray, getElem_cons_zero, getElem_cons_succ, Act.put, setIfInBounds_toArray, set_cons_zero, set_cons_succ]
        refine wpAnyH_ready (rs := [28]) (by kernel_rfl) (by simp) ?_
        refine AllReadyH.cons (o := _) rfl (fun K hK => ?_) AllReadyH.nil
        rw [if_pos (by rfl)]
        go_simp
        obtain ⟨s0, s1, s2⟩ := hHeld
        refine (HCN.out _ (outB s2)).mono ?_
        rintro e8 w8 ⟨rfl, hb8⟩
        refine hK.out _ _ ⟨keepc hb8 s0, keepc hb8 s1, keepB s2 hb8⟩ (fun hHeld => ?_)
        clear hK K hb8 s0 s1 s2
        try simp only [getElem_toArray, getElem_cons_zero, getElem_cons_succ, Act.put, setIfInBounds_toArray, set_cons_zero, set_cons_succ]
        refine tk (i := 29) (v := ?v29g7) rfl hHeld (Or.inl ⟨rfl, ?y29g7⟩) ?r29g7
        case y29g7 => (intro w h; obtain ⟨s0, s1, s2⟩ := h; go_simp; try with_reducible rfl)
        try simp only [getElem_toArray, getElem_cons_zero, getElem_cons_succ, Act.put, setIfInBounds_toArray, set_cons_zero, set_cons_succ]
        refine tk (i := 30) (v := ?v30g7) rfl hHeld (Or.inl ⟨rfl, ?y30g7⟩) ?r30g7
        case y30g7 => (intro w h; obtain ⟨s0, s1, s2⟩ := h; go_simp; try with_reducible rfl)
        try simp only [getElem_toArray, getElem_cons_zero, getElem_cons_succ, Act.put, setIfInBounds_toArray, set_cons_zero, set_cons_succ]
        refine wpAnyH_done (by kernel_rfl) ?_ _
        have HW := hHeld.2.2
        clear hHeld
        go_wp2
        go_roundw
        case rel => exact ⟨k + 1, by go_num, by omega, HN, HW⟩
        case measure => simp [intOf]; omega
      ·have hzn : (x.f1.length == 0) = true := by rw [beq_iff_eq] at hz ⊢; omega
       rw [hzn] at HAT
       have HE : Hid (indexB l = false) := HNO.out (by rw [HAT.out]; rfl)
       clear hzn HNO HYES HAT
       go_wp2
       skip
       refine wp_region_held_drew (S := fun W => W.cell? ⟨wr.heap.size, 0, none⟩ = some (.string x.f0) ∧ W.cell? ⟨wr.heap.size, 1, none⟩ = some (.slice A1 x.f1.length c1) ∧ Hid (Below w.heap.size w W)) (by kernel_rfl) ?_ (fun hHeld => ?_)
       ·exact ⟨by simp [go_sem], by simp [go_sem], (hb.out.alloc hb.out.size _).drew⟩
       refine tk (i := 0) (v := ?v0g8) rfl hHeld (Or.inl ⟨rfl, ?y0g8⟩) ?r0g8
       case y0g8 => (intro w h; obtain ⟨s0, s1, s2⟩ := h; go_simp; try with_reducible rfl)
       try simp only [getElem_toArray, getElem_cons_zero, getElem_cons_succ, Act.put, setIfInBounds_toArray, set_cons_zero, set_cons_succ]
       refine tk (i := 1) (v := ?v1g8) rfl hHeld (Or.inl ⟨rfl, ?y1g8⟩) ?r1g8
       case y1g8 => (intro w h; obtain ⟨s0, s1, s2⟩ := h; go_simp; try with_reducible rfl)
       try simp only [getElem_toArray, getElem_cons_zero, getElem_cons_succ, Act.put, setIfInBounds_toArray, set_cons_zero, set_cons_succ]
       refine wpAnyH_ready (rs := [2]) (by kernel_rfl) (by simp) ?_
       refine AllReadyH.cons (o := _) rfl (fun K hK => ?_) AllReadyH.nil
       rw [if_pos (by rfl)]
       go_simp
       obtain ⟨s0, s1, s2⟩ := hHeld
       refine (name_Key.calls _ _ _ HKY.out).mono ?_
       rintro e8 w8 ⟨rfl, hb8⟩
       refine hK.out _ _ ⟨keepc hb8 s0, keepc hb8 s1, keepB s2 hb8⟩ (fun hHeld => ?_)
       clear hK K hb8 s0 s1 s2
       try simp only [getElem_toArray, getElem_cons_zero, getElem_cons_succ, Act.put, setIfInBounds_toArray, set_cons_zero, set_cons_succ]
       refine tk (i := 3) (v := ?v3g8) rfl hHeld (Or.inl ⟨rfl, ?y3g8⟩) ?r3g8
       case y3g8 => (intro w h; obtain ⟨s0, s1, s2⟩ := h; go_simp; try with_reducible rfl)
       try simp only [getElem_toArray, getElem_cons_zero, getElem_cons_succ, Act.put, setIfInBounds_toArray, set_cons_zero, set_cons_succ]
       refine tk (i := 4) (v := ?v4g8) rfl hHeld (Or.inl ⟨rfl, ?y4g8⟩) ?r4g8
       case y4g8 => (intro w h; obtain ⟨s0, s1, s2⟩ := h; go_simp; try with_reducible rfl)
       try simp only [getElem_toArray, getElem_cons_zero, getElem_cons_succ, Act.put, setIfInBounds_toArray, set_cons_zero, set_cons_succ]
       refine tk (i := 5) (v := ?v5g8) rfl hHeld (Or.inl ⟨rfl, ?y5g8⟩) ?r5g8
       case y5g8 => (intro w h; obtain ⟨s0, s1, s2⟩ := h; go_simp; try with_reducible rfl)
       try simp only [getElem_toArray, getElem_cons_zero, getElem_cons_succ, Act.put, setIfInBounds_toArray, set_cons_zero, set_cons_succ]
       refine tk (i := 6) (v := ?v6g8) rfl hHeld (Or.inl ⟨rfl, ?y6g8⟩) ?r6g8
       case y6g8 => (intro w h; obtain ⟨s0, s1, s2⟩ := h; go_simp; try with_reducible rfl)
       try simp only [getElem_toArray, getElem_cons_zero, getElem_cons_succ, Act.put, setIfInBounds_toArray, set_cons_zero, set_cons_succ]
       refine tk (i := 7) (v := ?v7g8) rfl hHeld (Or.inl ⟨rfl, ?y7g8⟩) ?r7g8
       case y7g8 => (intro w h; obtain ⟨s0, s1, s2⟩ := h; go_simp; try with_reducible rfl)
       try simp only [getElem_toArray, getElem_cons_zero, getElem_cons_succ, Act.put, setIfInBounds_toArray, set_cons_zero, set_cons_succ]
       refine tku (i := 8) rfl hHeld rfl ?_
       try simp only [getElem_toArray, getElem_cons_zero, getElem_cons_succ, Act.put, setIfInBounds_toArray, set_cons_zero, set_cons_succ]
       refine tku (i := 9) rfl hHeld rfl ?_
       try simp only [getElem_toArray, getElem_cons_zero, getElem_cons_succ, Act.put, setIfInBounds_toArray, set_cons_zero, set_cons_succ]
       refine tku (i := 10) rfl hHeld rfl ?_
       try simp only [getElem_toArray, getElem_cons_zero, getElem_cons_succ, Act.put, setIfInBounds_toArray, set_cons_zero, set_cons_succ]
       refine tku (i := 11) rfl hHeld rfl ?_
       try simp only [getElem_toArray, getElem_cons_zero, getElem_cons_succ, Act.put, setIfInBounds_toArray, set_cons_zero, set_cons_succ]
       refine tku (i := 12) rfl hHeld rfl ?_
       try simp only [getElem_toArray, getElem_cons_zero, getElem_cons_succ, Act.put, setIfInBounds_toArray, set_cons_zero, set_cons_succ]
       refine tku (i := 13) rfl hHeld rfl ?_
       try simp only [getElem_toArray, getElem_cons_zero, getElem_cons_succ, Act.put, setIfInBounds_toArray, set_cons_zero, set_cons_succ]
       refine tku (i := 14) rfl hHeld rfl ?_
       try simp only [getElem_toArray, getElem_cons_zero, getElem_cons_succ, Act.put, setIfInBounds_toArray, set_cons_zero, set_cons_succ]
       refine tku (i := 15) rfl hHeld rfl ?_
       try simp only [getElem_toArray, getElem_cons_zero, getElem_cons_succ, Act.put, setIfInBounds_toArray, set_cons_zero, set_cons_succ]
       refine tku (i := 16) rfl hHeld rfl ?_
       try simp only [getElem_toArray, getElem_cons_zero, getElem_cons_succ, Act.put, setIfInBounds_toArray, set_cons_zero, set_cons_succ]
       refine tk (i := 17) (v := ?v17g8) rfl hHeld (Or.inl ⟨rfl, ?y17g8⟩) ?r17g8
       case y17g8 => (intro w h; obtain ⟨s0, s1, s2⟩ := h; go_simp; try with_reducible rfl)
       try simp only [getElem_toArray, getElem_cons_zero, getElem_cons_succ, Act.put, setIfInBounds_toArray, set_cons_zero, set_cons_succ]
       refine tk (i := 18) (v := ?v18g8) rfl hHeld (Or.inl ⟨rfl, ?y18g8⟩) ?r18g8
       case y18g8 => (intro w h; obtain ⟨s0, s1, s2⟩ := h; go_simp; try with_reducible rfl)
       try simp only [getElem_toArray, getElem_cons_zero, getElem_cons_succ, Act.put, setIfInBounds_toArray, set_cons_zero, set_cons_succ]
       refine tk (i := 19) (v := ?v19g8) rfl hHeld (Or.inl ⟨rfl, ?y19g8⟩) ?r19g8
       case y19g8 => (intro w h; obtain ⟨s0, s1, s2⟩ := h; go_simp; try with_reducible rfl)
       try simp only [getElem_toArray, getElem_cons_zero, getElem_cons_succ, Act.put, setIfInBounds_toArray, set_cons_zero, set_cons_succ]
       refine tk (i := 20) (v := ?v20g8) rfl hHeld (Or.inl ⟨rfl, ?y20g8⟩) ?r20g8
       case y20g8 => (intro w h; obtain ⟨s0, s1, s2⟩ := h; go_simp; try with_reducible rfl)
       try simp only [getElem_toArray, getElem_cons_zero, getElem_cons_succ, Act.put, setIfInBounds_toArray, set_cons_zero, set_cons_succ]
       refine tk (i := 21) (v := ?v21g8) rfl hHeld (Or.inl ⟨rfl, ?y21g8⟩) ?r21g8
       case y21g8 => (intro w h; obtain ⟨s0, s1, s2⟩ := h; go_simp; try with_reducible rfl)
       try simp only [getElem_toArray, getElem_cons_zero, getElem_cons_succ, Act.put, setIfInBounds_toArray, set_cons_zero, set_cons_succ]
       refine tk (i := 22) (v := ?v22g8) rfl hHeld (Or.inl ⟨rfl, ?y22g8⟩) ?r22g8
       case y22g8 => (intro w h; obtain ⟨s0, s1, s2⟩ := h; go_simp; try with_reducible rfl)
       try simp only [getElem_toArray, getElem_cons_zero, getElem_cons_succ, Act.put, setIfInBounds_toArray, set_cons_zero, set_cons_succ]
       refine tk (i := 23) (v := ?v23g8) rfl hHeld (Or.inl ⟨rfl, ?y23g8⟩) ?r23g8
       case y23g8 => (intro w h; obtain ⟨s0, s1, s2⟩ := h; go_simp; try with_reducible rfl)
       try simp only [getElem_toArray, getElem_cons_zero, getElem_cons_succ, Act.put, setIfInBounds_toArray, set_cons_zero, set_cons_succ]
       refine tk (i := 24) (v := ?v24g8) rfl hHeld (Or.inl ⟨rfl, ?y24g8⟩) ?r24g8
       case y24g8 => (intro w h; obtain ⟨s0, s1, s2⟩ := h; go_simp; try with_reducible rfl)
       try simp only [getElem_toArray, getElem_cons_zero, getElem_cons_succ, Act.put, setIfInBounds_toArray, set_cons_zero, set_cons_succ]
       refine tk (i := 25) (v := ?v25g8) rfl hHeld (Or.inl ⟨rfl, ?y25g8⟩) ?r25g8
       case y25g8 => (intro w h; obtain ⟨s0, s1, s2⟩ := h; go_simp; try with_reducible rfl)
       try simp only [getElem_toArray, getElem_cons_zero, getElem_cons_succ, Act.put, setIfInBounds_toArray, set_cons_zero, set_cons_succ]
       refine tku (i := 26) rfl hHeld rfl ?_
       try simp only [getElem_toArray, getElem_cons_zero, getElem_cons_succ, Act.put, setIfInBounds_toArray, set_cons_zero, set_cons_succ]
       refine tku (i := 27) rfl hHeld rfl ?_
       try simp only [getElem_toArray, getElem_cons_zero, getElem_cons_succ, Act.put, setIfInBounds_toArray, set_cons_zero, set_cons_succ]
       refine tku (i := 28) rfl hHeld rfl ?_
       try simp only [getElem_toArray, getElem_cons_zero, getElem_cons_succ, Act.put, setIfInBounds_toArray, set_cons_zero, set_cons_succ]
       refine tku (i := 29) rfl hHeld rfl ?_
       try simp only [getElem_toArray, getElem_cons_zero, getElem_cons_succ, Act.put, setIfInBounds_toArray, set_cons_zero, set_cons_succ]
       refine tk (i := 30) (v := ?v30g8) rfl hHeld (Or.inl ⟨rfl, ?y30g8⟩) ?r30g8
       case y30g8 => (intro w h; obtain ⟨s0, s1, s2⟩ := h; go_simp; try with_reducible rfl)
       try simp only [getElem_toArray, getElem_cons_zero, getElem_cons_succ, Act.put, setIfInBounds_toArray, set_cons_zero, set_cons_succ]
       refine wpAnyH_done (by kernel_rfl) ?_ _
       have HW := hHeld.2.2
       clear hHeld
       go_wp2
       go_ret
       exact ⟨by rw [HE.out]; rfl, HW.out⟩
   ·have HE : Hid (indexB l = true) := by
     obtain rfl : k = l.length := by omega
     unfold Hid indexB
     rw [hall.out]
     simp; omega
    go_wp2
    go_ret
    exact ⟨by rw [HE.out]; rfl, hb.out⟩
 ·have d60 : decide ((60 : Int) < (l.length : Int)) = true := by simp; omega
  have HE : Hid (indexB l = false) := by unfold Hid indexB; simp; omega
  go_enter Tryz.func51, Tryz.ntmps51
  go_wp2
  go_ret
  exact ⟨by rw [HE.out]; rfl, HB0.out⟩
end Go.Proofs.YtafeepdlcilicaaGreat.Q
