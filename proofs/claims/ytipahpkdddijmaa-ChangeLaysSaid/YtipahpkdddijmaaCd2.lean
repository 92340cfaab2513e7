/- The law ChangeDead returns true for every input that its row lets in, under the row's own conditions and no others. Part 23 of 23. -/
import Derived.Test.YtipahpkdddijmaaCd1
import Derived.Lib.Builder
import Derived.Lib.AppendStr
import Derived.Deep.RegionHeld3
import Derived.Deep.DeepMust
import Derived.ProofKit
import Derived.Deep.Strs
import Derived.Test.YtipahpkdddijmaaRows
import Derived.WalkKit
import Derived.OpenShut
import Derived.ShutString
import Derived.ChangeOld
import Derived.Below
import Derived.SizedLaws
-- Qx5
namespace Go.Proofs.Ytipahpkdddijmaa.Q
open Go.RowKit Go.Proofs.YtipahpkdddijmaaW.PrintWords Go.Proofs.YtipahpkdddijmaaW.PrintLast Go.Proofs.YtipahpkdddijmaaW.PrintMore
attribute [local go_sem] max2_int min2_int max_two min_two max_three min_three max_four min_four   -- for this text's walks alone
set_option linter.unusedVariables false
set_option linter.unusedSimpArgs false

/-! ### change_Stamped: function 25 -/
def change_Stamped.l0 : Nat → Int → List (S39) → List (S37) → Int → Int → Option ((List (S39)))
  | 0, _, _, _, _, _ => none
  | k + 1, x1, x5, x8, x9, x10 => if x10 < x9 then (if 0 ≤ x10 then (if x10 < (x8.length : Int) then (if x5.length < 2932031007402 then (change_Stamped.l0 k x1 (x5 ++ [(⟨x1, (⟨(rd_T37 x8 x10).f0, (rd_T37 x8 x10).f1, (rd_T37 x8 x10).f2⟩ : S37)⟩ : S39)]) x8 x9 (wrap64 (x10 + 1))) else (none)) else (none)) else (none)) else (some x5)
def change_Stamped.f (k : Nat) (l0 : List (S37)) (a1 : Int) : Option ((List (S39))) := change_Stamped.l0 k a1 ([] : List (S39)) l0 (l0.length : Int) 0
theorem change_Stamped.mono_l : ∀ k, (∀ y0 y1 y2 y3 y4, LeO (change_Stamped.l0 k y0 y1 y2 y3 y4) (change_Stamped.l0 (k + 1) y0 y1 y2 y3 y4))
  | 0 => fun _ _ _ _ _ r h => by simp [change_Stamped.l0] at h
  | k + 1 => by
    have ih0 := change_Stamped.mono_l k
    · intro y0 y1 y2 y3 y4
      unfold change_Stamped.l0
      repeat' first
      | (with_reducible exact ih0 _ _ _ _ _)
      | (with_reducible exact LeO.refl _)
      | (with_reducible exact LeO.none _)
      | (with_reducible refine LeO.ite ?_ ?_)
      | (with_reducible refine LeO.bind ?_ (fun _ => ?_))
      | exact ih0 _ _ _ _ _
      | exact LeO.none _
      | refine LeO.ite ?_ ?_
      | refine LeO.bind ?_ (fun _ => ?_)
theorem change_Stamped.mono : ∀ a0 a1 k, LeO (change_Stamped.f k a0 a1) (change_Stamped.f (k + 1) a0 a1) := by
  intro a0 a1 k
  have ih0 := change_Stamped.mono_l k
  unfold change_Stamped.f
  repeat' first
      | (with_reducible exact ih0 _ _ _ _ _)
      | (with_reducible exact LeO.refl _)
      | (with_reducible exact LeO.none _)
      | (with_reducible refine LeO.ite ?_ ?_)
      | (with_reducible refine LeO.bind ?_ (fun _ => ?_))
      | exact ih0 _ _ _ _ _
      | exact LeO.none _
      | refine LeO.ite ?_ ?_
      | refine LeO.bind ?_ (fun _ => ?_)
set_option maxHeartbeats 8000000 in
set_option maxRecDepth 100000 in
theorem change_Stamped.calls (k : Nat) (A0 : Option Addr) (c0 : Nat) (l0 : List (S37)) (a1 : Int) (r : List (S39)) (w : World) (hr0 : Kd.C k37 w A0 l0.length l0) (hc0 : l0.length ≤ c0) (h : change_Stamped.f k l0 a1 = some r) :
    Calls Try.prog 25 #[.slice A0 l0.length c0, .int .u64 a1] w fun e w' => ∃ v0_ : Value, e = .returned (v0_) ∧ Kd.R k39 39 w' w.heap.size (fun _ => True) v0_ r ∧ Below w.heap.size w w' := by
  have hu37 := Try.underlying37
  have hu39 := Try.underlying39
  have HR0 := Aside0.mk hr0
  have HC0 := Aside0.mk hc0
  clear hr0 hc0
  have HB := Aside0.mk (Below.refl w.heap.size w)
  have H : (change_Stamped.l0 k a1 ([] : List (S39)) l0 (l0.length : Int) 0) = some r := h
  clear h
  have H' := Aside0.mk H
  clear H
  go_enter Try.func25, Try.ntmps25
  go_wp2
  go_loopg [5, 10] k (fun kq v5 v10 w' => ∃ (x5_1 : List (S39)) (x10_1 : Int), v10 = .int .i64 x10_1 ∧ Aside0 (change_Stamped.l0 kq a1 x5_1 l0 (l0.length : Int) x10_1 = some r) ∧ Aside0 (kq ≤ k) ∧ Aside0 (Kd.R k39 39 w' w.heap.size (fun _ => True) v5 x5_1) ∧ Aside0 (Below w.heap.size w w'))
  case atStart => exact ⟨(([] : List (S39))), (0), (by first | rfl | (simp; done) | (simp [*]; done)), H', ⟨Nat.le_refl _⟩, ⟨by first | exact Kd.R_nil _ _ _ _ _ | exact Kd.N_nil _ _ _ _ _ | exact Kd.V_nil _ _ _ _ _ | exact Kd.Q_nil _ _ _ _ _ | exact Kd.S_nil _ _ _ _ _⟩, ⟨by repeat (first | (with_reducible first | exact HB.out | apply below_alloc | apply pw_below_drewN | apply below_drew1) | exact HB.out)⟩⟩
  case round =>
    clear H'
    try clear c2
    try clear p2
    obtain ⟨x5_1, x10_1, rfl, HA, HK1, HO_5, HB⟩ := hrel
    cases gk with
    | zero => exact absurd HA.out (by simp [change_Stamped.l0])
    | succ k1 =>
      have H := HA.out
      clear HA
      simp only [change_Stamped.l0] at H
      by_cases c3 : x10_1 < (l0.length : Int)
      · rw [if_pos c3] at H
        have c3b0 : decide (x10_1 < (l0.length : Int)) = true := decide_eq_true c3
        clear c3
        by_cases c4 : 0 ≤ x10_1
        · rw [if_pos c4] at H
          have c4b0 : decide (0 ≤ x10_1) = true := decide_eq_true c4
          clear c4
          by_cases c5 : x10_1 < (l0.length : Int)
          · rw [if_pos c5] at H
            have c5b0 : decide (x10_1 < (l0.length : Int)) = true := decide_eq_true c5
            clear c5
            by_cases c6 : x5_1.length < 2932031007402
            · rw [if_pos c6] at H
              have LMc6 := Aside0.mk c6
              clear c6
              obtain ⟨y155, hy155⟩ : ∃ y_ : List (S39), y_ = (x5_1 ++ [(⟨a1, (⟨(rd_T37 l0 x10_1).f0, (rd_T37 l0 x10_1).f1, (rd_T37 l0 x10_1).f2⟩ : S37)⟩ : S39)]) := ⟨_, rfl⟩
              replace H : (change_Stamped.l0 k1 a1 y155 l0 (l0.length : Int) (wrap64 (x10_1 + 1))) = some r := by first | (rw [hy155]; with_reducible exact H) | (have H2_ := (Option.bind_some _ _).symm.trans H; rw [hy155]; with_reducible exact H2_) | (have H2_ := (Option.bind_some _ _).symm.trans H; with_reducible exact H2_) | with_reducible exact H | (rw [hy155]; exact H) | exact H
              have Ny155 := Aside0.mk hy155
              clear hy155
              have H' := Aside0.mk H
              clear H
              have p153 : 0 ≤ (x10_1 : Int) := of_decide_eq_true (by first | (with_reducible assumption) | assumption)
              have q153 : x10_1 < (l0.length : Int) := of_decide_eq_true (by first | (with_reducible assumption) | assumption)
              obtain ⟨ad153, e153, hx153_0, hx153_1, hx153_2⟩ := at_T37 HR0.out x10_1 p153 q153
              cases e153
              replace hx153_0 := (HB.out.cell (World.block_lt_of_cell? w _ hx153_0)).trans hx153_0
              replace hx153_1 := (HB.out.cell (World.block_lt_of_cell? w _ hx153_1)).trans hx153_1
              replace hx153_2 := (HB.out.cell (World.block_lt_of_cell? w _ hx153_2)).trans hx153_2
              replace p153 := eq_true p153
              replace q153 := eq_true q153
              go_wp2_with (first | ((with_reducible refine gate_dst (N := 7) rfl ?_); refine box_event ?hg (N := 7) ?hd (cs := #[.string (⟨#[]⟩ : ByteArray), .string (⟨#[]⟩ : ByteArray), .bool false]) (t := 37) ?hr ?_; (case hd => rfl); (case hg => rfl); (case hr => first | (go_simp; done) | (go_simp; rfl)); intro gb154 hg w7 hbox hb; have n0_ := Aside0.mk (Kd.R_below (by (with_reducible repeat (first | apply Kd.R_alloc | apply Kd.R_drewN | apply Kd.R_drew)); exact HO_5.out) hb); have n1_ := Aside0.mk (below_step (by repeat (first | (with_reducible first | exact HB.out | apply below_alloc | apply pw_below_drewN | apply below_drew1) | exact HB.out)) hb); have n2_ := Aside0.mk (hbox); have n3_ := Aside0.mk ((by rw [hg]; exact (below_size (by repeat (first | (with_reducible first | exact HB.out | apply below_alloc | apply pw_below_drewN | apply below_drew1) | exact HB.out))) : w.heap.size ≤ gb154)); have n4_ := Aside0.mk ((by rw [hg]; exact (below_size (by repeat (first | (with_reducible first | exact HB.out | apply below_alloc | apply pw_below_drewN | apply below_drew1) | exact HB.out))) : w.heap.size ≤ gb154)); clear HO_5; clear HB; have HO_5 := n0_; have HB := n1_; have BK154 := n2_; have GW154 := n3_; have GE154 := n4_; clear n0_ n1_ n2_ n3_ n4_; clear hb hbox hg; have hcz8_0 : w7.cell? ⟨gb154, 0, none⟩ = some (.string (⟨#[]⟩ : ByteArray)) := (blk_cell BK154.out 0).trans rfl; have hcz8_1 : w7.cell? ⟨gb154, 1, none⟩ = some (.string (⟨#[]⟩ : ByteArray)) := (blk_cell BK154.out 1).trans rfl; have hcz8_2 : w7.cell? ⟨gb154, 2, none⟩ = some (.bool false) := (blk_cell BK154.out 2).trans rfl; have hfz8_0 := blk_frozen BK154.out 0; have hfz8_1 := blk_frozen BK154.out 1; have hfz8_2 := blk_frozen BK154.out 2) | ((with_reducible refine gate_builtin (b := .append) (xs := #[.tmp 14, .tmp 18]) rfl ?_); at_builtin; refine Kd.R_append k39 (w0 := w) w.heap.size rfl (.tmp 14) (.tmp 18) 22 39 (.agg #[(.int .u64 0), (.string ⟨#[]⟩), (.string ⟨#[]⟩), (.bool false)]) 48 rfl Try.underlying22 info39 rfl (by decide) (by omega) u5 x5_1 (⟨a1, (⟨(rd_T37 l0 x10_1).f0, (rd_T37 l0 x10_1).f1, (rd_T37 l0 x10_1).f2⟩ : S37)⟩ : S39) [.int .u64 a1, .string ((rd_T37 l0 x10_1).f0), .string ((rd_T37 l0 x10_1).f1), .bool ((rd_T37 l0 x10_1).f2)] (fun _ => True) (fun _ => False) rfl (by first | (go_simp; done) | (go_simp; rfl)) ?aP (fun _ hk => hk.elim) ?aF ?aO ?aB ?aS ?aL ?_; (case aP => exact k39_mkM _ _ _ (⟨a1, (⟨(rd_T37 l0 x10_1).f0, (rd_T37 l0 x10_1).f1, (rd_T37 l0 x10_1).f2⟩ : S37)⟩ : S39)); (case aB => exact (by repeat (first | (with_reducible first | exact HB.out | apply below_alloc | apply pw_below_drewN | apply below_drew1 | refine below_set ?_ GE154.out) | exact HB.out))); (case aF => exact (fun _ _ => trivial)); (case aO => exact (by (with_reducible repeat (first | apply Kd.R_alloc | apply Kd.R_drewN | apply Kd.R_drew)); exact Kd.R_mono (Kd.R_far (p := ⟨gb154, 2, none⟩) (Kd.R_far (p := ⟨gb154, 1, none⟩) (Kd.R_far (p := ⟨gb154, 0, none⟩) (Kd.R_types HO_5.out BK154.out (by decide)) (fun _ hk => hk.2) (.string ((rd_T37 l0 x10_1).f0))) (fun _ hk => hk.2) (.string ((rd_T37 l0 x10_1).f1))) (fun _ hk => hk.2) (.bool ((rd_T37 l0 x10_1).f2))) (fun _ hk => trivial))); (case aS => exact (below_size (by repeat (first | (with_reducible first | exact HB.out | apply below_alloc | apply pw_below_drewN | apply below_drew1 | refine below_set ?_ GE154.out) | exact HB.out)))); (case aL => have := LMc6.out; omega); intro v156 w9 ho hb hg hat; rw [← Ny155.out] at ho; have n0_ := Aside0.mk (blk_grown (g := gb154) (o := .cells #[.string ((rd_T37 l0 x10_1).f0), .string ((rd_T37 l0 x10_1).f1), .bool ((rd_T37 l0 x10_1).f2)] 37 (0, 0)) (by (with_reducible repeat (first | refine blk_drewN ?_ _ | refine blk_drew ?_ | refine blk_alloc ?_ _)); refine blk_put (cs := #[.string ((rd_T37 l0 x10_1).f0), .string ((rd_T37 l0 x10_1).f1), .bool false]) ?_ 2 _ rfl; (with_reducible repeat (first | refine blk_drewN ?_ _ | refine blk_drew ?_ | refine blk_alloc ?_ _)); refine blk_put (cs := #[.string ((rd_T37 l0 x10_1).f0), .string (⟨#[]⟩ : ByteArray), .bool false]) ?_ 1 _ rfl; (with_reducible repeat (first | refine blk_drewN ?_ _ | refine blk_drew ?_ | refine blk_alloc ?_ _)); refine blk_put (cs := #[.string (⟨#[]⟩ : ByteArray), .string (⟨#[]⟩ : ByteArray), .bool false]) ?_ 0 _ rfl; (with_reducible repeat (first | refine blk_drewN ?_ _ | refine blk_drew ?_ | refine blk_alloc ?_ _)); exact BK154.out) hg (Kd.R_ne HO_5.out BK154.out (by decide))); have n1_ := Aside0.mk (hb); have n2_ := Aside0.mk (ho); clear BK154; clear HB; clear HO_5; have BK154 := n0_; have HB := n1_; have HO157 := n2_; clear n0_ n1_ n2_; clear ho hb hg hat))
              go_roundg k1
              case measure => have := HK1.out; omega
              case rel => exact ⟨(y155), (wrap64 (x10_1 + 1)), (by first | rfl | (simp; done) | (simp [*]; done)), H', ⟨by have := HK1.out; omega⟩, ⟨by (with_reducible repeat (first | apply Kd.R_alloc | apply Kd.R_drewN | apply Kd.R_drew)); exact HO157.out⟩, ⟨by repeat (first | (with_reducible first | exact HB.out | apply below_alloc | apply pw_below_drewN | apply below_drew1 | refine below_set ?_ GE154.out) | exact HB.out)⟩⟩
            · rw [if_neg c6] at H
              exact absurd H (by simp)
          · rw [if_neg c5] at H
            exact absurd H (by simp)
        · rw [if_neg c4] at H
          exact absurd H (by simp)
      · rw [if_neg c3] at H
        have c3b0 : decide (x10_1 < (l0.length : Int)) = false := decide_eq_false c3
        clear c3
        obtain rfl := Option.some.inj H
        go_wp2
        go_ret
        exact ⟨_, by first | rfl | (simp [errW_none, errW_some] <;> rfl) | (simp [*, errW_none, errW_some] <;> rfl), by (with_reducible repeat (first | apply Kd.R_alloc | apply Kd.R_drewN | apply Kd.R_drew)); exact HO_5.out, by repeat (first | (with_reducible first | exact HB.out | apply below_alloc | apply pw_below_drewN | apply below_drew1) | exact HB.out)⟩

-- NOT PRINTED: function 49 (cellarerref11_in)

-- NOT PRINTED: function 26 (cellarerref11_With)

-- NOT PRINTED: function 9 (cellarerlaw12_ChangeGoes)

end Go.Proofs.Ytipahpkdddijmaa.Q

-- N1
namespace Go.Proofs.Ytipahpkdddijmaa.Q
open Go.WideMaps Go.RowKit Go.Proofs.YtipahpkdddijmaaW.PrintWords Go.Proofs.YtipahpkdddijmaaW.PrintLast Go.Proofs.YtipahpkdddijmaaW.PrintMore Go.Maps
set_option linter.unusedVariables false
set_option linter.unusedSimpArgs false

theorem bd_info5 : (Try.prog.info? 5).map (fun i => (i.zero, i.size, i.bytes)) = some (some (.int .u8 0), 1, 1) := by kernel_rfl
theorem bd_size : (Try.prog.info? 90).map (·.size) = some 2 := by kernel_rfl
theorem bd_lies : liesAt Try.prog Try.prog.depth 90 (2 / Try.prog.cellsOf 90) 0 90 1 = true := by kernel_rfl
set_option maxHeartbeats 1000000 in
set_option maxRecDepth 100000 in
theorem bd_check_used (b : Nat) (w : World) (h0 : w.cell? ⟨b, 0, none⟩ = some (.pointer (some ⟨b, 0, none⟩))) :
    Calls Try.prog 67 #[.pointer (some ⟨b, 0, none⟩)] w fun e w' => e = .returned (.tuple #[]) ∧ w' = w := by
  obtain ⟨j, hj, _⟩ := Option.map_eq_some_iff.1 bd_size
  go_enter Try.func67, Try.ntmps67
  go_wp2
  rw [Lib.run_neq_ptr_same w _ Try.underlying87 hj]
  go_wp2
  go_end0
  exact ⟨rfl, rfl⟩
set_option maxHeartbeats 1000000 in
set_option maxRecDepth 100000 in
theorem bd_check_fresh (b : Nat) (w : World) (h0 : w.cell? ⟨b, 0, none⟩ = some (.pointer none)) (hsh : w.shape? b = some (90, 2)) (hfz : w.frozen? ⟨b, 0, none⟩ = false) :
    Calls Try.prog 67 #[.pointer (some ⟨b, 0, none⟩)] w fun e w' => e = .returned (.tuple #[]) ∧ w' = w.setCell ⟨b, 0, none⟩ (.pointer (some ⟨b, 0, none⟩)) := by
  obtain ⟨j, hj, hjs⟩ := Option.map_eq_some_iff.1 bd_size
  go_enter Try.func67, Try.ntmps67
  go_wp2
  rw [Lib.run_to_unsafe w ⟨b, 0, none⟩ Try.underlying87 Try.underlying129 hj (by rw [hjs]; decide) hsh (Nat.zero_lt_succ 1)]
  simp only [Result.andThen]
  rw [Oper.upon_value]
  go_wp2
  rw [run_callFunc_extern Try.func82 (by kernel_rfl) (by kernel_rfl) (by kernel_rfl) (e := Extern.AbiNoEscape.same) (by kernel_rfl)]
  rw [Lib.run_noEscape]
  simp only [Result.andThen]
  rw [Oper.upon_value]
  go_wp2
  rw [Lib.run_from_unsafe w ⟨b, 0, none⟩ Try.underlying129 Try.underlying87 hj hsh bd_lies]
  simp only [Result.andThen]
  rw [Oper.upon_value]
  go_wp2
  go_end0
  exact ⟨rfl, rfl⟩
theorem bd_check (B b : Nat) (bs : List Value) (w : World) (h : Lib.IsBuilder 90 5 B b bs w) :
    Calls Try.prog 67 #[.pointer (some ⟨b, 0, none⟩)] w fun e w' => e = .returned (.tuple #[]) ∧ (Lib.BuilderAt 90 5 B b (.pointer (some ⟨b, 0, none⟩)) bs w' ∧ Below B w w') := by
  rcases h with h | h
  · refine (bd_check_fresh b w h.cell0 h.shape h.frozen0).mono ?_
    rintro e w' ⟨rfl, rfl⟩
    exact ⟨rfl, h.used _, (Below.refl B w).setCell (p := ⟨b, 0, none⟩) h.1 _⟩
  · refine (bd_check_used b w h.cell0).mono ?_
    rintro e w' ⟨rfl, rfl⟩
    exact ⟨rfl, h, Below.refl B _⟩
set_option maxHeartbeats 2000000 in
set_option maxRecDepth 100000 in
theorem bd_WriteString (B b : Nat) (bs : List Value) (s : ByteArray) (w : World) (h : Lib.IsBuilder 90 5 B b bs w) (hlen : bs.length + s.size ≤ 140737488355328) (hBw : B ≤ w.heap.size) :
    Calls Try.prog 52 #[.pointer (some ⟨b, 0, none⟩), .string s] w fun e w' => e = .returned (.tuple #[.int .i64 s.size, .nilIface]) ∧ (Lib.BuilderAt 90 5 B b (.pointer (some ⟨b, 0, none⟩)) (bs ++ Lib.strCells s) w' ∧ Below B w w') := by
  obtain ⟨i0, hi, hz0, hz1, hz2⟩ := info_parts bd_info5
  go_enter Try.func52, Try.ntmps52
  go_wp2_with (go_at_call 67; refine (bd_check B b bs _ h).mono ?_)
  rintro e w1 ⟨rfl, h1, hb1⟩
  obtain ⟨hB, v, hbk, hown, hne⟩ := h1
  have c0 : w1.cell? ⟨b, 0, none⟩ = some (.pointer (some ⟨b, 0, none⟩)) := by rw [Lib.cell_of_heap hbk]; rfl
  have c1 : w1.cell? ⟨b, 1, none⟩ = some v := by rw [Lib.cell_of_heap hbk]; rfl
  go_wp2_with (at_builtin; refine Lib.wpList_append_own_string _ rfl _ _ 88 9 rfl B 5 i0 Try.underlying88 Try.underlying9 hi hz0 hz1 hz2 _ _ _ rfl hown s rfl ?c3 ?c4 ?c5 ?_)
  case c3 => unfold maxLen; omega
  case c4 => omega
  case c5 => have := hb1.size; omega
  intro v' w2 hown' hgrow _
  have hlt : b < w1.heap.size := blk_lt hbk
  have hb2 : w2.heap[b]? = some (.cells #[.pointer (some ⟨b, 0, none⟩), v] 90 (0, 0)) := by
    rw [hgrow.block b hlt (fun e => hne e.symm)]
    exact hbk
  have d0 : w2.cell? ⟨b, 0, none⟩ = some (.pointer (some ⟨b, 0, none⟩)) := by rw [Lib.cell_of_heap hb2]; rfl
  have d1 : w2.cell? ⟨b, 1, none⟩ = some v := by rw [Lib.cell_of_heap hb2]; rfl
  have f1 : w2.frozen? ⟨b, 1, none⟩ = false := Lib.frozen_of_heap hb2 1
  obtain ⟨ao, n', cap, rfl⟩ : ∃ ao n' cap, v' = .slice ao n' cap := by
    rcases hown'.2 with ⟨hv, _⟩ | ⟨g, cap, cur, hv, _⟩
    · exact ⟨_, _, _, hv⟩
    · exact ⟨_, _, _, hv⟩
  go_wp2
  go_ret2
  refine ⟨rfl, ?_, ?_⟩
  · exact Lib.BuilderAt.put (T := 90) (e := 5) hB hb2 (bs' := bs ++ Lib.strCells s) (by simpa [Lib.strCells_length] using hown') (by decide)
  · exact (hb1.grown hgrow (by have := hb1.size; omega) (fun k hk => (hown.lt k hk).1)).setCell (p := ⟨b, 1, none⟩) hB _

/-! ### numbers and texts as octets -/
def lay2B (n : Int) : ByteArray := strOfNums [(shr .u64 n 0) % 256, (shr .u64 n 8) % 256]
def num8 (n : Int) : ByteArray := strOfNums [(shr .u64 n 0) % 256, (shr .u64 n 8) % 256, (shr .u64 n 16) % 256, (shr .u64 n 24) % 256, (shr .u64 n 32) % 256, (shr .u64 n 40) % 256, (shr .u64 n 48) % 256, (shr .u64 n 56) % 256]
theorem lay2_eq (n : Int) : wire_lay.f 3 n 2 = some (lay2B n) := by simp [wire_lay.f, wire_lay.l0, wrap64, lay2B, List.replicate]
theorem num8_eq (n : Int) : wire_Num.f 9 n = some (num8 n) := by simp [wire_Num.f, wire_lay.f, wire_lay.l0, wrap64, num8, List.replicate]
theorem gone8_eq (b : Bool) : change_gone.f 9 b = some (num8 (if b then 1 else 0)) := by cases b <;> simp [change_gone.f, num8_eq]
theorem lay2B_size (n : Int) : (lay2B n).size = 2 := rfl
theorem num8_size (n : Int) : (num8 n).size = 8 := rfl
def textB (s : ByteArray) : ByteArray := lay2B s.size ++ s
theorem textB_size (s : ByteArray) : (textB s).size = 2 + s.size := by unfold textB; rw [ByteArray.size_append, lay2B_size]
end Go.Proofs.Ytipahpkdddijmaa.Q

-- N2
namespace Go.Proofs.Ytipahpkdddijmaa.Q
open Go.WideMaps Go.RowKit Go.Proofs.YtipahpkdddijmaaW.PrintWords Go.Proofs.YtipahpkdddijmaaW.PrintLast Go.Proofs.YtipahpkdddijmaaW.PrintMore Go.Maps
set_option linter.unusedVariables false
set_option linter.unusedSimpArgs false

/-! ### wire.Text, wire.List -/
theorem owns_row_below {w w1 : World} {base e sz n : Nat} {v : Value} {xs : List Value} (h : w.ownsRow base e sz v n xs) (hb : Below w.heap.size w w1) : w1.ownsRow base e sz v n xs := by
  obtain ⟨h1, h2⟩ := h
  refine ⟨h1, ?_⟩
  rcases h2 with h2 | ⟨g, cap, cur, e', hg, hh, r⟩
  · exact Or.inl h2
  · exact Or.inr ⟨g, cap, cur, e', hg, (hb.block g (blk_lt hh)).trans hh, r⟩
theorem bAt_below {B b : Nat} {p : Value} {bs : List Value} {w w1 : World} (h : Go.Lib.BuilderAt 90 5 B b p bs w) (hb : Below w.heap.size w w1) : Go.Lib.BuilderAt 90 5 B b p bs w1 := by
  obtain ⟨hB, v, hbk, hown, hne⟩ := h
  exact ⟨hB, v, (hb.block b (blk_lt hbk)).trans hbk, owns_row_below hown hb, hne⟩
theorem bIs_below {B b : Nat} {bs : List Value} {w w1 : World} (h : Go.Lib.IsBuilder 90 5 B b bs w) (hb : Below w.heap.size w w1) : Go.Lib.IsBuilder 90 5 B b bs w1 := by
  rcases h with h | h
  · exact Or.inl (bAt_below h hb)
  · exact Or.inr (bAt_below h hb)
theorem at_str {w w' : World} {A : Option Addr} {l : List ByteArray} (h : Kd.C Kd.string w A l.length l) (hb : Below w.heap.size w w') (k : Nat) (hk : k < l.length) : ∃ ad, A = some ad ∧ w'.cell? (ad.add k) = some (.string l[k]) := by
  obtain ⟨ad, c, e, _, hK, hc0⟩ := Kd.C_get h (⟨#[]⟩ : ByteArray) (k : Int) (by omega) (by omega)
  have hz : ((k : Nat) : Int).toNat = k := Int.toNat_natCast _
  have h1 := hc0 0 (.string l[k]) (by
    have hK' : c = [.string (l.getD ((k : Nat) : Int).toNat ⟨#[]⟩)] := hK
    rw [hK', hz]
    simp [List.getD_eq_getElem?_getD, hk])
  rw [hz] at h1
  refine ⟨ad, e, keepc hb ?_⟩
  have e1 : k * Kd.string.sz + 0 = k := Nat.mul_one k
  rwa [e1] at h1
set_option maxHeartbeats 1000000 in
set_option maxRecDepth 100000 in
theorem text.walk (s : ByteArray) (hs : s.size ≤ 4000) (w : World) : Calls Try.prog 53 #[.string s] w fun e w' => e = .returned (.tuple #[.string (textB s), .int .i64 0]) ∧ Below w.heap.size w w' := by
  have HC := fun W => wire_lay.calls 3 (s.size : Int) 2 (lay2B s.size) W (lay2_eq _)
  have h1 : ¬ ((s.size : Int) > 4000) := by omega
  have h2 : IntKind.u64.wrap (s.size : Int) = s.size := by simp [IntKind.wrap, IntKind.bits, IntKind.signed]; omega
  have h3 : ¬ (9223372036854775807 < (lay2B s.size).size + s.size) := by rw [lay2B_size]; omega
  unfold textB
  generalize lay2B (s.size : Int) = t at *
  go_enter Try.func53, Try.ntmps53
  go_wp2_with (go_at_call 51; refine (HC _).mono ?_; rintro e w1 ⟨rfl, hb1⟩; have HB1 := Lib.hid hb1; clear hb1)
  go_ret2
  exact ⟨rfl, HB1.out⟩
def textL (s : ByteArray) : List UInt8 := (textB s).data.toList
theorem textL_len (s : ByteArray) : (textL s).length = 2 + s.size := by unfold textL; rw [Array.length_toList]; exact textB_size s
def listL (l : List ByteArray) : List UInt8 := (lay2B l.length).data.toList ++ l.flatMap textL
def listB (l : List ByteArray) : ByteArray := ⟨(listL l).toArray⟩
def partL (l : List ByteArray) (k : Nat) : List UInt8 := (lay2B l.length).data.toList ++ (l.take k).flatMap textL
theorem partL_zero (l : List ByteArray) : partL l 0 = (lay2B l.length).data.toList := by simp [partL]
theorem partL_all (l : List ByteArray) : partL l l.length = listL l := by simp [partL, listL]
theorem partL_snoc (l : List ByteArray) (k : Nat) (h : k < l.length) : partL l (k + 1) = partL l k ++ textL l[k] := by
  unfold partL
  rw [take_snoc l k h, List.flatMap_append, List.append_assoc]
  simp
theorem partL_len (l : List ByteArray) (hs : ∀ s ∈ l, s.size ≤ 4000) : ∀ k, k ≤ l.length → (partL l k).length ≤ 2 + 4002 * k
  | 0, _ => by rw [partL_zero]; exact Nat.le_refl 2
  | k + 1, h => by
    have h1 := partL_len l hs k (by omega)
    have h2 := hs l[k] (List.getElem_mem (by omega))
    rw [partL_snoc l k (by omega), List.length_append, textL_len]
    omega
set_option maxHeartbeats 4000000 in
set_option maxRecDepth 100000 in
theorem list.walk (A : Option Addr) (c : Nat) (l : List ByteArray) (w : World) (hr : Kd.C Kd.string w A l.length l) (hn : l.length ≤ 4000) (hs : ∀ s ∈ l, s.size ≤ 4000) :
    Calls Try.prog 31 #[.slice A l.length c] w fun e w' => e = .returned (.tuple #[.string (listB l), .int .i64 0]) ∧ Below w.heap.size w w' := by
  have HR := Lib.hid hr
  have HS := Lib.hid hs
  clear hr hs
  have HC := fun W => wire_lay.calls 3 (l.length : Int) 2 (lay2B l.length) W (lay2_eq _)
  have h1 : ¬ ((l.length : Int) > 4000) := by omega
  have h2 : IntKind.u64.wrap (l.length : Int) = l.length := by simp [IntKind.wrap, IntKind.bits, IntKind.signed]; omega
  have HB0 := Lib.hid ((Below.refl w.heap.size w).alloc (Nat.le_refl _) (.cells #[.pointer none, .slice none 0 0] 90))
  have HI0 := Lib.hid (Go.Lib.fresh_isBuilder 90 5 w)
  have HP0 := Lib.hid (partL_zero l)
  obtain ⟨t0, ht0⟩ : ∃ t0, lay2B (l.length : Int) = t0 := ⟨_, rfl⟩
  have hz0 : t0.size = 2 := by rw [← ht0]; rfl
  have HT0 := Lib.hid ht0
  rw [ht0] at HC
  clear ht0
  go_enter Try.func31, Try.ntmps31
  go_wp2_with (first
    | (go_at_call 51; refine (HC _).mono ?_; rintro e w1 ⟨rfl, hb1⟩; have HB1 := keepB HB0 hb1; have HI1 := Lib.hid (bIs_below HI0.out hb1); clear hb1)
    | (go_at_call 52; refine (bd_WriteString w.heap.size w.heap.size [] t0 w1 HI1.out (by rw [hz0]; decide) HB1.out.size).mono ?_; rintro e w2 ⟨rfl, hi2, hb2⟩; have HI2 := Lib.hid (Or.inr hi2 : Go.Lib.IsBuilder 90 5 w.heap.size w.heap.size _ w2); have HB2 := Lib.hid (HB1.out.trans hb2); clear hi2 hb2))
  have HI2' : Hid (Go.Lib.IsBuilder 90 5 w.heap.size w.heap.size (Go.Lib.byteCells (partL l 0)) w2) := by
    have h := HI2.out
    rw [List.nil_append, Go.Lib.strCells_eq, ← HT0.out, ← HP0.out] at h
    exact h
  clear HI0 HB0 HI1 HB1 HI2 HT0 HP0
  go_loopw [19] (fun i wr => ∃ (k : Nat), i = .int .i64 k ∧ k ≤ l.length ∧ Hid (Go.Lib.IsBuilder 90 5 w.heap.size w.heap.size (Go.Lib.byteCells (partL l k)) wr) ∧ Hid (Below w.heap.size w wr)) (fun i _ => l.length - (intOf i).toNat)
  case atStart => exact ⟨0, rfl, Nat.zero_le _, HI2', HB2⟩
  case round =>
    clear HI2' HB2
    obtain ⟨k, rfl, hk, HI, HB⟩ := hrel
    by_cases hlt : k < l.length
    · obtain ⟨ad, e', c0⟩ := at_str HR.out HB.out k hlt
      subst e'
      have p0 : (0 : Int) ≤ (k : Int) := by omega
      have p1 : (k : Int) < (l.length : Int) := by omega
      have HX := fun W => text.walk l[k] (HS.out _ (List.getElem_mem hlt)) W
      have HN := Lib.hid (partL_snoc l k hlt)
      have hsz := HS.out _ (List.getElem_mem hlt)
      have hpl := partL_len l HS.out k hk
      have hbl : (Go.Lib.byteCells (partL l k)).length + (textB l[k]).size ≤ 140737488355328 := by rw [Go.Lib.byteCells_length, textB_size]; omega
      have HBL := Lib.hid hbl
      clear hsz hpl hbl
      generalize l[k] = s at *
      obtain ⟨tx, htx⟩ : ∃ tx, textB s = tx := ⟨_, rfl⟩
      have HTX : Hid (textL s = tx.data.toList) := by rw [← htx]; exact rfl
      simp only [htx] at HX HBL
      clear htx
      go_wp2_with (first
        | (go_at_call 53; refine (HX _).mono ?_; rintro e w1 ⟨rfl, hb1⟩; have HB1 := keepB HB hb1; have HI1 := Lib.hid (bIs_below HI.out hb1); clear hb1)
        | (go_at_call 52; refine (bd_WriteString w.heap.size w.heap.size _ tx w1 HI1.out HBL.out HB1.out.size).mono ?_; rintro e w2 ⟨rfl, hi2, hb2⟩; have HI2 := Lib.hid (Or.inr hi2 : Go.Lib.IsBuilder 90 5 w.heap.size w.heap.size _ w2); have HB2 := Lib.hid (HB1.out.trans hb2); clear hi2 hb2))
      go_roundw
      case rel => exact ⟨k + 1, by go_num, hlt, by
        have h := HI2.out
        rw [Go.Lib.strCells_eq, ← HTX.out, ← Go.Lib.byteCells_append, ← HN.out] at h
        exact h, HB2⟩
      case measure => simp [intOf]; omega
    · obtain rfl : k = l.length := by omega
      have HA := Lib.hid (partL_all l)
      have hst := Try.Builder_String_any w.heap.size w.heap.size (partL l l.length) wr HI.out HB.out.size
      have HST := Lib.hid hst
      clear hst
      go_wp2_with (go_at_call 54; refine HST.out.mono ?_; rintro e w1 ⟨rfl, hb1⟩; have HB1 := Lib.hid (HB.out.trans hb1); clear hb1)
      go_ret2
      exact ⟨by rw [HA.out]; rfl, HB1.out⟩
end Go.Proofs.Ytipahpkdddijmaa.Q

-- N3
namespace Go.Proofs.Ytipahpkdddijmaa.Q
open Go.WideMaps Go.RowKit Go.Proofs.YtipahpkdddijmaaW.PrintWords Go.Proofs.YtipahpkdddijmaaW.PrintLast Go.Proofs.YtipahpkdddijmaaW.PrintMore Go.Maps
set_option linter.unusedVariables false
set_option linter.unusedSimpArgs false

/-! ### change.May, the look for a note that may not be -/
def mayN (n : S39) : Bool := decide (1 ≤ n.f0) && (!decide (n.f1.f0.toList = [])) && decide (n.f1.f0.size ≤ 200) && decide (n.f1.f1.size ≤ 4000) && (!n.f1.f2 || n.f1.f1.toList == ([] : List UInt8))
theorem may_eq (n : S39) : change_May.f n.f0 n.f1.f0 n.f1.f1 n.f1.f2 = some (mayN n) := by
  unfold change_May.f mayN
  have e1 : ((n.f1.f0.size : Int) ≤ 200) ↔ (n.f1.f0.size ≤ 200) := by omega
  have e2 : ((n.f1.f1.size : Int) ≤ 4000) ↔ (n.f1.f1.size ≤ 4000) := by omega
  by_cases h1 : n.f0 ≥ 1
  · rw [if_pos h1, decide_eq_true (show 1 ≤ n.f0 from h1)]
    by_cases h2 : n.f1.f0.toList = ([] : List UInt8)
    · rw [if_pos h2]; simp [h2]
    · rw [if_neg h2]
      by_cases h3 : n.f1.f0.size ≤ 200
      · rw [if_pos (e1.2 h3)]
        by_cases h4 : n.f1.f1.size ≤ 4000
        · rw [if_pos (e2.2 h4)]
          cases n.f1.f2 <;> simp [h2, h3, h4]
        · rw [if_neg (fun h => h4 (e2.1 h))]; simp [h4]
      · rw [if_neg (fun h => h3 (e1.1 h))]; simp [h3]
  · rw [if_neg h1]
    have : decide (1 ≤ n.f0) = false := decide_eq_false h1
    simp [this]
set_option maxHeartbeats 1000000 in
set_option maxRecDepth 100000 in
theorem closure28.walk (n : S39) (W : World) : Calls Try.prog 28 #[.agg #[.int .u64 n.f0, .string n.f1.f0, .string n.f1.f1, .bool n.f1.f2]] W fun e w' => e = .returned (.bool (!mayN n)) ∧ Below W.heap.size W w' := by
  have HC := fun W' => change_May.calls n.f0 n.f1.f0 n.f1.f1 n.f1.f2 (mayN n) W' (may_eq n)
  have HB0 := Lib.hid ((Below.refl W.heap.size W).alloc (Nat.le_refl _) (.cells #[.int .u64 n.f0, .string n.f1.f0, .string n.f1.f1, .bool n.f1.f2] 39))
  generalize mayN n = b at *
  go_enter Try.func28, Try.ntmps28
  go_wp2_with (go_at_call 16; refine (HC _).mono ?_; rintro e w1 ⟨rfl, hb1⟩; have HB1 := keepB HB0 hb1; clear hb1)
  go_ret
  exact ⟨rfl, HB1.out⟩
theorem idxN_nonneg (p : S39 → Bool) (l : List S39) : decide (0 ≤ idxN p l) = l.any p := by
  unfold idxN
  by_cases h : l.findIdx p < l.length
  · rw [if_pos h]
    have h1 : l.any p = true := by
      rw [List.any_eq_true]
      exact ⟨_, List.getElem_mem h, List.findIdx_getElem (w := h)⟩
    rw [h1]
    exact decide_eq_true (by omega)
  · rw [if_neg h]
    have h1 : l.any p = false := by
      rw [List.any_eq_false]
      intro x hx
      have h2 : l.findIdx p = l.length := by have := List.findIdx_le_length (p := p) (xs := l); omega
      simpa using List.findIdx_eq_length.1 h2 x hx
    rw [h1]
    decide
set_option maxHeartbeats 1000000 in
set_option maxRecDepth 100000 in
theorem contains27.walk (A : Option Addr) (c : Nat) (l : List S39) (w : World) (hr : Kd.C k39 w A l.length l) (hn : l.length ≤ 1000000) :
    Calls Try.prog 27 #[.slice A l.length c, .func (.func 28) #[] #[]] w fun e w' => e = .returned (.bool (l.any (fun n => !mayN n))) ∧ Below w.heap.size w w' := by
  have HIX := Lib.hid (index28.walk A c l (fun n => !mayN n) w hr hn (fun W n _ _ => closure28.walk n W))
  have HE := Lib.hid (idxN_nonneg (fun n => !mayN n) l)
  clear hr
  generalize idxN (fun n => !mayN n) l = r at *
  go_enter Try.func27, Try.ntmps27
  go_wp2_with (go_at_call 50; refine HIX.out.mono ?_; rintro e w1 ⟨rfl, hb1⟩; have HB1 := Lib.hid hb1; clear hb1)
  go_ret
  refine ⟨?_, HB1.out⟩
  rw [← HE.out]
  rfl
end Go.Proofs.Ytipahpkdddijmaa.Q

-- N4
namespace Go.Proofs.Ytipahpkdddijmaa.Q
open Go.WideMaps Go.RowKit Go.Proofs.YtipahpkdddijmaaW.PrintWords Go.Proofs.YtipahpkdddijmaaW.PrintLast Go.Proofs.YtipahpkdddijmaaW.PrintMore Go.Maps
set_option linter.unusedVariables false
set_option linter.unusedSimpArgs false

/-! ### change.Lay -/
def goneN (b : Bool) : ByteArray := num8 (if b then 1 else 0)
def layT (n : S39) : List ByteArray := [num8 n.f0, n.f1.f0, goneN n.f1.f2, n.f1.f1]
def textsN (l : List S39) : List ByteArray := l.flatMap layT
theorem textsN_len : ∀ l : List S39, (textsN l).length = 4 * l.length
  | [] => rfl
  | n :: l => by unfold textsN; rw [List.flatMap_cons, List.length_append]; have := textsN_len l; unfold textsN at this; rw [this, List.length_cons]; show 4 + _ = _; omega
theorem textsN_snoc (l : List S39) (k : Nat) (h : k < l.length) : (textsN (l.take (k + 1))).map Value.string = (textsN (l.take k)).map Value.string ++ [.string (num8 l[k].f0), .string l[k].f1.f0, .string (goneN l[k].f1.f2), .string l[k].f1.f1] := by
  rw [take_snoc l k h]
  unfold textsN
  rw [List.flatMap_append, List.map_append]
  simp [layT]
def layR (l : List S39) : ByteArray × Int :=
  if l.length = 0 ∨ 100 < l.length ∨ l.any (fun n => !mayN n) = true then (⟨#[]⟩, 1)
  else if 12000 < (listB (textsN l)).size then (⟨#[]⟩, 6) else (listB (textsN l), 0)
def SRow (w : World) (base : Nat) (v : Value) (n : Nat) (xs : List Value) : Prop := w.ownsRow base 9 1 v n xs
theorem SRow.below {w w1 : World} {base n : Nat} {v : Value} {xs : List Value} (h : Hid (SRow w base v n xs)) (hb : Below w.heap.size w w1) : Hid (SRow w1 base v n xs) := owns_row_below h.out hb
theorem srow_ne {w : World} {base n g : Nat} {v : Value} {xs : List Value} {cs : Array Value} (h : SRow w base v n xs) (hb : w.heap[g]? = some (.cells cs 39 (0, 0))) : some g ≠ v.ownBlock := by
  rcases h.2 with ⟨rfl, _⟩ | ⟨g', cap, cur, rfl, _, hh, _⟩
  · simp [Value.ownBlock]
  · intro e
    have : g = g' := by simpa [Value.ownBlock] using e
    subst this
    rw [hb] at hh
    simp at hh
theorem srow_new {w : World} {cs : Array Value} {t : TypeId} : RawAt (w.alloc (.cells cs t)) ⟨w.heap.size, 0, none⟩ cs.toList := raw_new w cs t _ rfl
theorem one4 (a b c d : ByteArray) : ∀ u ∈ [Value.string a, .string b, .string c, .string d], u.oneCell' = true := by
  intro u hu
  simp at hu
  rcases hu with rfl | rfl | rfl | rfl <;> rfl
theorem srow_C {w : World} {base : Nat} {v : Value} {l : List ByteArray} (h : SRow w base v l.length (l.map Value.string)) : ∃ A c, v = .slice A l.length c ∧ l.length ≤ c ∧ Kd.C Kd.string w A l.length l := by
  have hR : Kd.R Kd.string 9 w base (fun _ => True) v l := Kd.R_of_own (by unfold SRow at h; simpa [encs] using h) (fun _ _ => trivial)
  exact Kd.R_reads hR
theorem mayN_size {n : S39} (h : mayN n = true) : n.f1.f0.size ≤ 200 ∧ n.f1.f1.size ≤ 4000 := by
  unfold mayN at h
  simp only [Bool.and_eq_true, decide_eq_true_eq] at h
  exact ⟨h.1.1.2, h.1.2⟩
theorem textsN_size {l : List S39} (h : l.any (fun n => !mayN n) = false) : ∀ s ∈ textsN l, s.size ≤ 4000 := by
  intro s hs
  unfold textsN at hs
  obtain ⟨n, hn, hs⟩ := List.mem_flatMap.1 hs
  have hm : mayN n = true := by
    have := List.any_eq_false.1 h n hn
    simpa using this
  obtain ⟨a, b⟩ := mayN_size hm
  simp only [layT, List.mem_cons, List.not_mem_nil, or_false] at hs
  rcases hs with rfl | rfl | rfl | rfl
  · rw [num8_size]; decide
  · omega
  · unfold goneN; rw [num8_size]; decide
  · exact b
theorem srowB {w w1 : World} {base n : Nat} {v : Value} {xs : List Value} (hb : Below w.heap.size w w1) (h : Hid (SRow w base v n xs)) : Hid (SRow w1 base v n xs) := owns_row_below h.out hb
theorem keepBB {w w1 w2 : World} (hb : Below w1.heap.size w1 w2) (h : Hid (Below w.heap.size w w1)) : Hid (Below w.heap.size w w2) := keepB h hb
theorem blkB {w w1 : World} {g : Nat} {o : Obj} (hb : Below w.heap.size w w1) (h : Hid (w.heap[g]? = some o)) : Hid (w1.heap[g]? = some o) := blk_below h.out hb
theorem belowA (w : World) (o : Obj) : Below w.heap.size w (w.alloc o) := (Below.refl _ _).alloc (Nat.le_refl _) o
theorem keep8 {w w1 w2 : World} (h : Hid (Below w.heap.size w w1)) (hb : Below w1.heap.size w1 w2) : Hid (Below w.heap.size w w2) := keepB h hb
theorem keep8D {w w1 : World} (h : Hid (Below w.heap.size w w1)) : Hid (Below w.heap.size w w1.drew) := h.out.trans ⟨rfl, rfl, rfl, Nat.le_refl _, fun _ _ => rfl⟩
theorem keepcD {w : World} {p : Addr} {v : Value} (h : w.cell? p = some v) : w.drew.cell? p = some v := h
theorem keepA {w w1 : World} (o : Obj) (h : Hid (Below w.heap.size w w1)) : Hid (Below w.heap.size w (w1.alloc o)) := h.out.alloc h.out.size o
theorem keepcA {w : World} {p : Addr} {v : Value} (o : Obj) (h : w.cell? p = some v) : (w.alloc o).cell? p = some v := keepc ((Below.refl _ _).alloc (Nat.le_refl _) o) h
set_option maxHeartbeats 8000000 in
set_option maxRecDepth 100000 in
theorem lay_loop.walk (A : Option Addr) (c : Nat) (l : List S39) (w : World) (hr : Kd.C k39 w A l.length l) (h0 : ¬ l.length = 0) (h1 : ¬ 100 < l.length) (h2 : l.any (fun n => !mayN n) = false) :
    Calls Try.prog 11 #[.slice A l.length c] w fun e w' => e = .returned (.tuple #[.string (layR l).1, .int .i64 (layR l).2]) ∧ Below w.heap.size w w' := by
  have HR := Lib.hid hr
  have hk := contains27.walk A c l w hr (by omega)
  rw [h2] at hk
  have HK := Lib.hid hk
  have H2 := Lib.hid h2
  clear hr hk h2
  have hz : ((l.length : Int) == 0) = false := beq_eq_false_iff_ne.2 (by omega)
  have hg : decide ((l.length : Int) > 100) = false := decide_eq_false (by omega)
  obtain ⟨i0, hi, hy0, hy1, hy2⟩ := info_parts info9
  go_enter Try.func11, Try.ntmps11
  go_wp2_with (go_at_call 27; refine HK.out.mono ?_; rintro e w1 ⟨rfl, hb1⟩; have HB1 := Lib.hid hb1; clear hb1)
  go_loopw [4, 23] (fun v i wr => ∃ (k : Nat), i = .int .i64 k ∧ k ≤ l.length ∧ Hid (SRow wr w.heap.size v (4 * k) ((textsN (l.take k)).map Value.string)) ∧ Hid (Below w.heap.size w wr)) (fun _ i _ => l.length - (intOf i).toNat)
  case atStart => exact ⟨0, rfl, Nat.zero_le _, ⟨rfl, Or.inl ⟨rfl, rfl⟩⟩, HB1⟩
  case round =>
    clear HB1
    obtain ⟨k, rfl, hk, HS, HB⟩ := hrel
    by_cases hlt : k < l.length
    · obtain ⟨ad, e', c0, c1, c2, c3⟩ := at39 HR.out HB.out k hlt
      subst e'
      have p0 : (0 : Int) ≤ (k : Int) := by omega
      have p1 : (k : Int) < (l.length : Int) := by omega
      have HN := Lib.hid (textsN_snoc l k hlt)
      generalize l[k] = n at *
      have HC1 := Lib.hid (fun W => wire_Num.calls 9 n.f0 (num8 n.f0) W (num8_eq _))
      have HC2 := Lib.hid (fun W => change_gone.calls 9 n.f1.f2 (goneN n.f1.f2) W (gone8_eq _))
      generalize num8 n.f0 = t1 at *
      generalize goneN n.f1.f2 = t2 at *
      go_wp2_with (first | ((with_reducible refine gate_dst (N := 6) rfl ?_); refine box_event ?hg (N := 6) ?hd (cs := #[.int .u64 0, .string (⟨#[]⟩ : ByteArray), .string (⟨#[]⟩ : ByteArray), .bool false]) (t := 39) ?hr ?_; (case hd => rfl); (case hg => rfl); (case hr => first | (go_simp; done) | (go_simp; rfl)); intro g6 hg6 w6 hb6 hbel6; have HB6 := Lib.hid hbel6; have G6 := Lib.hid (Nat.le_of_eq hg6.symm : wr.heap.size ≤ g6); have K6 := Lib.hid hb6; have d0 := (blk_cell hb6 0).trans rfl; have d1 := (blk_cell hb6 1).trans rfl; have d2 := (blk_cell hb6 2).trans rfl; have d3 := (blk_cell hb6 3).trans rfl; have z0 := blk_frozen hb6 0; have z1 := blk_frozen hb6 1; have z2 := blk_frozen hb6 2; have z3 := blk_frozen hb6 3; clear hg6 hb6 hbel6))
      have HB7 := Lib.hid (below_set4 HB6.out G6.out (.int .u64 n.f0) (.string n.f1.f0) (.string n.f1.f1) (.bool n.f1.f2))
      have K7 := Lib.hid (blk_set4 K6.out n)
      clear HB6 K6 d0 d1 d2 d3 z0 z1 z2 z3 c0 c1 c2 c3
      obtain ⟨w7, hw7⟩ : ∃ w7, ((((w6.setCell ⟨g6, 0, none⟩ (.int .u64 n.f0)).setCell ⟨g6, 1, none⟩ (.string n.f1.f0)).setCell ⟨g6, 2, none⟩ (.string n.f1.f1)).setCell ⟨g6, 3, none⟩ (.bool n.f1.f2)) = w7 := ⟨_, rfl⟩
      rw [hw7] at HB7 K7 ⊢
      clear hw7
      have m0 := (blk_cell K7.out 0).trans (rfl : _ = some (Value.int .u64 n.f0))
      have m1 := (blk_cell K7.out 1).trans (rfl : _ = some (Value.string n.f1.f0))
      have m2 := (blk_cell K7.out 2).trans (rfl : _ = some (Value.string n.f1.f1))
      have m3 := (blk_cell K7.out 3).trans (rfl : _ = some (Value.bool n.f1.f2))
      have HSX := SRow.below HS HB7.out
      have HBX := keep8 HB HB7.out
      have BKX := K7
      have hb1 : 4 * k + 4 ≤ maxLen := by unfold maxLen; omega
      have hb2 : (4 * k + 4) * 16 ≤ 140737488355328 := by omega
      go_region_held3 (fun W => W.cell? ⟨g6, 0, none⟩ = some (.int .u64 n.f0) ∧ W.cell? ⟨g6, 1, none⟩ = some (.string n.f1.f0) ∧ W.cell? ⟨g6, 2, none⟩ = some (.string n.f1.f1) ∧ W.cell? ⟨g6, 3, none⟩ = some (.bool n.f1.f2) ∧ Hid (Below w.heap.size w W))
        (((try go_split_ands); refine ⟨?_, ?_, ?_, ?_, ?_⟩ <;> first | assumption | (refine keepc hb ?_; assumption) | (refine keep8 ?_ hb; assumption) | (refine keepcD ?_; assumption) | (refine keep8D ?_; assumption) | (refine keepcA _ ?_; assumption) | (refine keepA _ ?_; assumption) ))
        (first | (go_at_call 29; refine (HC1.out _).mono ?_; rintro e w' ⟨rfl, hb⟩; have HSX := srowB hb HSX; (first | have HBX := keepBB hb HBX | have HBX := keepBB hb (keep8D HBX)); have BKX := blkB hb BKX) | (go_at_call 30; refine (HC2.out _).mono ?_; rintro e w' ⟨rfl, hb⟩; have HSX := srowB hb HSX; (first | have HBX := keepBB hb HBX | have HBX := keepBB hb (keep8D HBX)); have BKX := blkB hb BKX; have T30 : True := trivial) | (clear T30; refine step_append_lies _ rfl (.tmp 27) (.tmp 41) 59 rfl w.heap.size 9 i0 (.string ⟨#[]⟩) 1 16 Try.underlying59 hi hy0 hy1 hy2 rfl (by decide) u4 (4 * k) ((textsN (l.take k)).map Value.string) rfl ?c1 _ 4 4 [.string t1, .string n.f1.f0, .string t2, .string n.f1.f1] rfl rfl ?c2 ?c3 (by decide) hb1 hb2 ?c4 _ rfl ?_; (case c1 => exact (srowB (belowA _ _) HSX).out); (case c2 => exact srow_new); (case c3 => exact one4 _ _ _ _); (case c4 => exact (keepBB (belowA _ _) HBX).out.size); intro g cap w' hown hgrow hat hlt'; have HOWN := Lib.hid hown; have BKY : Hid (w'.heap[g6]? = some (.cells #[.int .u64 n.f0, .string n.f1.f0, .string n.f1.f1, .bool n.f1.f2] 39 (0, 0))) := (hgrow.block g6 (blk_lt (blkB (belowA _ _) BKX).out) (srow_ne HSX.out BKX.out)).trans (blkB (belowA _ _) BKX).out; have HBY := Lib.hid ((HBX.out.trans ((belowA _ _).mono HBX.out.size)).grown hgrow (HBX.out.trans ((belowA _ _).mono HBX.out.size)).size (own_base HSX.out)); have k0 := (blk_cell BKY.out 0).trans (rfl : _ = some (Value.int .u64 n.f0)); have k1 := (blk_cell BKY.out 1).trans (rfl : _ = some (Value.string n.f1.f0)); have k2 := (blk_cell BKY.out 2).trans (rfl : _ = some (Value.string n.f1.f1)); have k3 := (blk_cell BKY.out 3).trans (rfl : _ = some (Value.bool n.f1.f2))))
      go_wp2
      go_roundw
      case rel => exact ⟨k + 1, by go_num, hlt, by unfold Hid SRow; rw [HN.out, show 4 * (k + 1) = 4 * k + 4 by omega]; exact HOWN.out, HBY⟩
      case measure => simp [intOf]; omega
    · obtain rfl : k = l.length := by omega
      have hS := HS.out
      rw [List.take_length, ← textsN_len] at hS
      obtain ⟨A2, c2, hv, hc2, hC⟩ := srow_C hS
      subst hv
      have HL := Lib.hid (list.walk A2 c2 (textsN l) wr hC (by rw [textsN_len]; omega) (textsN_size H2.out))
      have hE : Hid (layR l = if 12000 < (listB (textsN l)).size then (⟨#[]⟩, 6) else (listB (textsN l), 0)) := by
        unfold Hid layR
        rw [if_neg]
        intro h
        rcases h with h | h | h
        · exact h0 h
        · exact h1 h
        · rw [H2.out] at h; cases h
      clear hS hC
      generalize textsN l = ts at *
      generalize listB ts = s at *
      by_cases hs : 12000 < s.size
      · have hE2 : Hid (layR l = (⟨#[]⟩, 6)) := by unfold Hid; rw [hE.out, if_pos hs]
        have hs2 : ((s.size : Int) > 12000) := by omega
        go_wp2_with (go_at_call 31; refine HL.out.mono ?_; rintro e w2 ⟨rfl, hb2⟩; have HB2 := keepB HB hb2; clear hb2)
        go_ret2
        exact ⟨by rw [hE2.out]; rfl, HB2.out⟩
      · have hE2 : Hid (layR l = (s, 0)) := by unfold Hid; rw [hE.out, if_neg hs]
        have hs2 : ¬ ((s.size : Int) > 12000) := by omega
        go_wp2_with (go_at_call 31; refine HL.out.mono ?_; rintro e w2 ⟨rfl, hb2⟩; have HB2 := keepB HB hb2; clear hb2)
        go_ret2
        exact ⟨by rw [hE2.out]; rfl, HB2.out⟩
set_option maxHeartbeats 4000000 in
set_option maxRecDepth 100000 in
theorem lay.walk (A : Option Addr) (c : Nat) (l : List S39) (w : World) (hr : Kd.C k39 w A l.length l) :
    Calls Try.prog 11 #[.slice A l.length c] w fun e w' => e = .returned (.tuple #[.string (layR l).1, .int .i64 (layR l).2]) ∧ Below w.heap.size w w' := by
  by_cases h0 : l.length = 0
  · have hE : Hid (layR l = (⟨#[]⟩, 1)) := by unfold Hid layR; rw [if_pos (Or.inl h0)]
    have hz : ((l.length : Int) == 0) = true := beq_iff_eq.2 (by omega)
    have HB0 : Hid (Below w.heap.size w w) := Below.refl _ _
    clear hr h0
    go_enter Try.func11, Try.ntmps11
    go_wp2
    go_ret2
    exact ⟨by rw [hE.out]; rfl, HB0.out⟩
  · by_cases h1 : 100 < l.length
    · have hE : Hid (layR l = (⟨#[]⟩, 1)) := by unfold Hid layR; rw [if_pos (Or.inr (Or.inl h1))]
      have hz : ((l.length : Int) == 0) = false := beq_eq_false_iff_ne.2 (by omega)
      have hg : decide ((l.length : Int) > 100) = true := decide_eq_true (by omega)
      have HB0 : Hid (Below w.heap.size w w) := Below.refl _ _
      clear hr h0
      go_enter Try.func11, Try.ntmps11
      go_wp2
      go_ret2
      exact ⟨by rw [hE.out]; rfl, HB0.out⟩
    · cases h2 : l.any (fun n => !mayN n)
      · exact lay_loop.walk A c l w hr h0 h1 h2
      · have hE : Hid (layR l = (⟨#[]⟩, 1)) := by unfold Hid layR; rw [if_pos (Or.inr (Or.inr h2))]
        have hz : ((l.length : Int) == 0) = false := beq_eq_false_iff_ne.2 (by omega)
        have hg : decide ((l.length : Int) > 100) = false := decide_eq_false (by omega)
        have hk := contains27.walk A c l w hr (by omega)
        rw [h2] at hk
        have HK := Lib.hid hk
        clear hr hk h2 h0
        go_enter Try.func11, Try.ntmps11
        go_wp2_with (go_at_call 27; refine HK.out.mono ?_; rintro e w1 ⟨rfl, hb1⟩; have HB1 := Lib.hid hb1; clear hb1)
        go_ret2
        exact ⟨by rw [hE.out]; rfl, HB1.out⟩
end Go.Proofs.Ytipahpkdddijmaa.Q

-- N5
namespace Go.Proofs.Ytipahpkdddijmaa.Q
open Go.WideMaps Go.RowKit Go.Proofs.YtipahpkdddijmaaW.PrintWords Go.Proofs.YtipahpkdddijmaaW.PrintLast Go.Proofs.YtipahpkdddijmaaW.PrintMore Go.Maps
set_option linter.unusedVariables false
set_option linter.unusedSimpArgs false

/-! ### change.Take of no octets -/
theorem count_empty : wire_count.f 1 (⟨#[]⟩ : ByteArray) = some (0, (⟨#[]⟩ : ByteArray), 3) := by
  have h1 : wire_cut.f (⟨#[]⟩ : ByteArray) 2 = some ((⟨#[]⟩ : ByteArray), (⟨#[]⟩ : ByteArray), 3) := rfl
  have h2 : wire_read.f 1 (⟨#[]⟩ : ByteArray) = some 0 := rfl
  unfold wire_count.f
  rw [h1, Option.bind_some, h2, Option.bind_some]
  rfl
theorem outD {w w' : World} (h : Drawn0 w w') : Below w.heap.size w w' := by
  obtain ⟨n, rfl⟩ := h
  exact ⟨rfl, rfl, rfl, Nat.le_refl _, fun _ _ => rfl⟩
set_option maxHeartbeats 2000000 in
set_option maxRecDepth 100000 in
theorem takeList_empty (w : World) : Calls Try.prog 57 #[.string ⟨#[]⟩] w fun e w' => e = .returned (.tuple #[.slice none 0 0, .string ⟨#[]⟩, .int .i64 3]) ∧ Below w.heap.size w w' := by
  have HC := fun W => wire_count.calls 1 (⟨#[]⟩ : ByteArray) 0 (⟨#[]⟩ : ByteArray) 3 W count_empty
  have HB0 : Hid (Below w.heap.size w w) := Below.refl _ _
  go_enter Try.func57, Try.ntmps57
  go_wp2_with (go_at_call 68; refine (HC _).mono ?_; rintro e w1 ⟨rfl, hb1⟩; have HB1 := keepB HB0 (outD hb1); clear hb1)
  refine wp_loop_rounds 1 ?_
  rw [rounds_succ]
  go_wp2
  go_region
  go_wp2
  go_ret3
  exact ⟨rfl, (keep8D (keepA _ (keepA _ (keepA _ HB1)))).out⟩
set_option maxHeartbeats 2000000 in
set_option maxRecDepth 100000 in
theorem whole_empty (w : World) : Calls Try.prog 34 #[.string ⟨#[]⟩] w fun e w' => e = .returned (.tuple #[.slice none 0 0, .int .i64 3]) ∧ Below w.heap.size w w' := by
  have HC := fun W => takeList_empty W
  go_enter Try.func34, Try.ntmps34
  go_wp2_with (go_at_call 57; refine (HC _).mono ?_; rintro e w1 ⟨rfl, hb1⟩; have HB1 := Lib.hid hb1; clear hb1)
  go_ret2
  exact ⟨rfl, HB1.out⟩
theorem blk_off {w : World} {g h : Nat} {o : Obj} (hb : w.heap[h]? = some o) (hg : h ≠ g) (i : Nat) (v : Value) : (w.setCell ⟨g, i, none⟩ v).heap[h]? = some o := by
  rw [RowKit.Below.heap_setCell _ _ _ _ hg]
  exact hb
set_option maxHeartbeats 2000000 in
set_option maxRecDepth 100000 in
theorem take_empty (w : World) : Calls Try.prog 13 #[.string ⟨#[]⟩] w fun e w' => e = .returned (.tuple #[.slice none 0 0, .int .i64 2]) ∧ Below w.heap.size w w' := by
  have HC := fun W => whole_empty W
  have HB0 : Hid (Below w.heap.size w w) := Below.refl _ _
  have HA := keepA (.cells #[.int .i64 0] 24) (keepA (.cells #[.slice none 0 0] 22) HB0)
  have K2 := Lib.hid (blk_alloc (blk_new w (.cells #[.slice none 0 0] 22)) (.cells #[.int .i64 0] 24))
  have K3 : Hid (((w.alloc (.cells #[.slice none 0 0] 22)).alloc (.cells #[.int .i64 0] 24)).heap[w.heap.size + 1]? = some (.cells #[.int .i64 0] 24 (0, 0))) := by
    have h := blk_new (w.alloc (.cells #[.slice none 0 0] 22)) (.cells #[.int .i64 0] 24)
    rw [World.size_alloc] at h
    exact h
  go_enter Try.func13, Try.ntmps13
  go_wp2_with (go_at_call 34; refine (HC _).mono ?_; rintro e w1 ⟨rfl, hb1⟩; have HB1 := keepB HA hb1; have k2 := blk_below K2.out hb1; have k3 := blk_below K3.out hb1; have d2 := (blk_cell k2 0).trans (rfl : _ = some (Value.slice none 0 0)); have d3 := (blk_cell k3 0).trans (rfl : _ = some (Value.int .i64 0)); have z2 := blk_frozen k2 0; have z3 := blk_frozen k3 0; have K22 := Lib.hid k2; have K33 := Lib.hid k3; clear hb1 k2 k3)
  have e2 := (blk_cell (blk_off (blk_set K22.out 0 (.slice none 0 0)) (show w.heap.size ≠ w.heap.size + 1 by omega) 0 (.int .i64 2)) 0).trans (rfl : _ = some (Value.slice none 0 0))
  refine bodyPost_ret (v := .tuple #[.slice none 0 0, .int .i64 2]) ?_ rfl ?_
  · simp [results, Try.results13, go_sem, d2, d3, e2]
  · exact ⟨rfl, (HB1.out.setCell (p := ⟨w.heap.size, 0, none⟩) (Nat.le_refl _) _).setCell (p := ⟨w.heap.size + 1, 0, none⟩) (Nat.le_succ _) _⟩
end Go.Proofs.Ytipahpkdddijmaa.Q

-- N6
namespace Go.Proofs.Ytipahpkdddijmaa.Q
open Go.WideMaps Go.RowKit Go.Proofs.YtipahpkdddijmaaW.PrintWords Go.Proofs.YtipahpkdddijmaaW.PrintLast Go.Proofs.YtipahpkdddijmaaW.PrintMore Go.Maps
set_option linter.unusedVariables false
set_option linter.unusedSimpArgs false

/-! ### stores into a block of one's own, the world behind them a letter -/
theorem info_size39 : (Try.prog.info? 39).map (·.size) = some 4 := by kernel_rfl
theorem info_size9 : (Try.prog.info? 9).map (·.size) = some 1 := by kernel_rfl
theorem store39_law {ops : Array Oper} {rest : List Oper} {o : Oper} {a : Act} {Q : Exit → Act → World → Prop} {W : World} (hN : o.dst = none) (hgd : o.guard = none) (p x : Operand) (ho : o.op = .store 39 p x) (g : Nat) (c0 c1 c2 c3 : Value) (n : S39)
    (haddr : a.eval p = .pointer (some ⟨g, 0, none⟩)) (hx : a.eval x = .agg #[.int .u64 n.f0, .string n.f1.f0, .string n.f1.f1, .bool n.f1.f2]) (hb : W.heap[g]? = some (.cells #[c0, c1, c2, c3] 39 (0, 0)))
    (h : ∀ w1, w1.heap[g]? = some (.cells #[.int .u64 n.f0, .string n.f1.f0, .string n.f1.f1, .bool n.f1.f2] 39 (0, 0)) → (∀ B, B ≤ g → Below B W w1) → wpList Try.prog ops Q rest a w1) : wpList Try.prog ops Q (o :: rest) a W := by
  refine wpList_plain hgd fun K hK => ?_
  have hrun := run_store_run (P := Try.prog) (w := W) (g := g) (o := 0) (e := 39) (cur := #[c0, c1, c2, c3]) 39 (.agg #[.int .u64 n.f0, .string n.f1.f0, .string n.f1.f1, .bool n.f1.f2]) (enc39 n) hb rfl info_size39 (by show 0 + 4 ≤ 4; decide) (enc_one n)
  unfold Oper.wp execOp
  simp only [ho, haddr, hx, Sem.run_bind, Sem.run_pure, Result.andThen_ok, hrun]
  show K (a.put o.dst undef) _
  rw [hN]
  exact hK _ _ (h _ (blk_set4 hb n) (fun B hB => below_set4 (Below.refl B W) hB _ _ _ _))
theorem store9_law {ops : Array Oper} {rest : List Oper} {o : Oper} {a : Act} {Q : Exit → Act → World → Prop} {W : World} (hN : o.dst = none) (hgd : o.guard = none) (p x : Operand) (ho : o.op = .store 9 p x) (g j : Nat) (cs : Array Value) (s : ByteArray)
    (haddr : a.eval p = .pointer (some ⟨g, j, none⟩)) (hx : a.eval x = .string s) (hb : W.heap[g]? = some (.cells cs 39 (0, 0))) (hj : j + 1 ≤ cs.size)
    (h : ∀ w1, w1.heap[g]? = some (.cells (cs.setIfInBounds j (.string s)) 39 (0, 0)) → (∀ B, B ≤ g → Below B W w1) → wpList Try.prog ops Q rest a w1) : wpList Try.prog ops Q (o :: rest) a W := by
  refine wpList_plain hgd fun K hK => ?_
  have hrun := run_store_run (P := Try.prog) (w := W) (g := g) (o := j) (e := 39) (cur := cs) 9 (.string s) [.string s] hb rfl info_size9 hj (by intro v hv; simp at hv; subst hv; rfl)
  unfold Oper.wp execOp
  simp only [ho, haddr, hx, Sem.run_bind, Sem.run_pure, Result.andThen_ok, hrun]
  show K (a.put o.dst undef) _
  rw [hN]
  exact hK _ _ (h _ (blk_set hb j _) (fun B hB => (Below.refl B W).setCell (p := ⟨g, j, none⟩) hB _))

/-! ### the law's own Few -/
def fewC (n : S39) : S39 := ⟨n.f0, ⟨if 201 < n.f1.f0.size then n.f1.f0.extract 0 201 else n.f1.f0, if 4001 < n.f1.f1.size then n.f1.f1.extract 0 4001 else n.f1.f1, n.f1.f2⟩⟩
def fewN (l : List S39) : List S39 := (l.take 101).map fewC
theorem fewT_snoc (l : List S39) (k : Nat) (h : k < l.length) : (l.take (k + 1)).map fewC = (l.take k).map fewC ++ [fewC l[k]] := by rw [take_snoc l k h, List.map_append]; rfl
set_option maxHeartbeats 2000000 in
set_option maxRecDepth 100000 in
theorem few.walk (A : Option Addr) (c : Nat) (l : List S39) (w : World) (hr : Kd.C k39 w A l.length l) (hc : l.length ≤ c) :
    Calls Try.prog 10 #[.slice A l.length c] w fun e w' => ∃ v, e = .returned v ∧ NRow w' w.heap.size v (fewN l) ∧ Below w.heap.size w w' := by
  have HR := Lib.hid hr
  have hbig : (l.length : Int) ≤ 9223372036854775807 := by have := hr.2.1; omega
  have HB0 : Hid (Below w.heap.size w w) := Below.refl _ _
  obtain ⟨i0, hi, hy0, hy1, hy2⟩ := info_parts info39
  clear hr
  go_enter Try.func10, Try.ntmps10
  go_wp2
  go_loopw [3, 4] (fun v i wr => ∃ (k : Nat), i = .int .i64 k ∧ k ≤ l.length ∧ k ≤ 101 ∧ Hid (NRow wr w.heap.size v ((l.take k).map fewC)) ∧ Hid (Below w.heap.size w wr)) (fun _ i _ => 102 - (intOf i).toNat)
  case atStart => exact ⟨0, rfl, Nat.zero_le _, Nat.zero_le _, NRow.nil _ _, HB0⟩
  case round =>
    obtain ⟨k, rfl, hk, hk2, HN, HB⟩ := hrel
    by_cases hlt : k < l.length
    · by_cases hlt2 : k < 101
      · obtain ⟨ad, e', c0, c1, c2, c3⟩ := at39 HR.out HB.out k hlt
        subst e'
        have p0 : (0 : Int) ≤ (k : Int) := by omega
        have p1 : (k : Int) < (l.length : Int) := by omega
        have p2 : (k : Int) < 101 := by omega
        have HT := Lib.hid (fewT_snoc l k hlt)
        have hlen : ((l.take k).map fewC).length = k := by rw [List.length_map, List.length_take]; omega
        generalize l[k] = n at *
        generalize hys : (l.take k).map fewC = ys at *
        clear hys
        have HLEN := Lib.hid hlen
        clear hlen
        by_cases h1 : 201 < n.f1.f0.size
        · by_cases h2 : 4001 < n.f1.f1.size
          · have HF : Hid (fewC n = ⟨n.f0, ⟨n.f1.f0.extract 0 201, n.f1.f1.extract 0 4001, n.f1.f2⟩⟩) := by unfold Hid fewC; rw [if_pos h1, if_pos h2]
            have h3 : (201 : Int) < n.f1.f0.size := by omega
            have h4 : (4001 : Int) < n.f1.f1.size := by omega
            clear h1 h2
            go_wp2_with (first | ((with_reducible refine gate_dst (N := 5) rfl ?_); refine box_event ?hg (N := 5) ?hd (cs := #[.int .u64 0, .string (⟨#[]⟩ : ByteArray), .string (⟨#[]⟩ : ByteArray), .bool false]) (t := 39) ?hr ?_; (case hd => rfl); (case hg => rfl); (case hr => first | (go_simp; done) | (go_simp; rfl)); intro g5 hg5 w5 hb5 hbel5; have HB5 := Lib.hid hbel5; have G5 := Lib.hid (Nat.le_of_eq hg5.symm : wr.heap.size ≤ g5); have K5 := Lib.hid hb5; clear hg5 hb5 hbel5) | ((with_reducible refine gate_ (.store 39 (.tmp 5) (.tmp 19)) rfl ?_); refine store39_law rfl rfl (.tmp 5) (.tmp 19) rfl g5 _ _ _ _ n rfl rfl K5.out ?_; intro w6 hk6 hb6; have K6 := Lib.hid hk6; have HB6 := Lib.hid (HB5.out.trans (hb6 wr.heap.size G5.out)); have d0 := (blk_cell K6.out 0).trans (rfl : _ = some (Value.int .u64 n.f0)); have d1 := (blk_cell K6.out 1).trans (rfl : _ = some (Value.string (n.f1.f0))); have d2 := (blk_cell K6.out 2).trans (rfl : _ = some (Value.string (n.f1.f1))); have d3 := (blk_cell K6.out 3).trans (rfl : _ = some (Value.bool n.f1.f2)); have z0 := blk_frozen K6.out 0; have z1 := blk_frozen K6.out 1; have z2 := blk_frozen K6.out 2; have z3 := blk_frozen K6.out 3; clear hk6 hb6) | ((with_reducible refine gate_ (.store 9 (.tmp 30) (.tmp 28)) rfl ?_); refine store9_law rfl rfl (.tmp 30) (.tmp 28) rfl g5 1 _ (n.f1.f0.extract 0 201) rfl rfl K6.out (by show _ ≤ 4; decide) ?_; intro w7 hk hb; have K7 : Hid (w7.heap[g5]? = some (.cells #[.int .u64 n.f0, .string (n.f1.f0.extract 0 201), .string (n.f1.f1), .bool n.f1.f2] 39 (0, 0))) := hk; have HB7 := Lib.hid (HB6.out.trans (hb wr.heap.size G5.out)); have d7_0 := (blk_cell K7.out 0).trans (rfl : _ = some (Value.int .u64 n.f0)); have d7_1 := (blk_cell K7.out 1).trans (rfl : _ = some (Value.string (n.f1.f0.extract 0 201))); have d7_2 := (blk_cell K7.out 2).trans (rfl : _ = some (Value.string (n.f1.f1))); have d7_3 := (blk_cell K7.out 3).trans (rfl : _ = some (Value.bool n.f1.f2)); have z7_0 := blk_frozen K7.out 0; have z7_1 := blk_frozen K7.out 1; have z7_2 := blk_frozen K7.out 2; have z7_3 := blk_frozen K7.out 3; clear hk hb) | ((with_reducible refine gate_ (.store 9 (.tmp 41) (.tmp 39)) rfl ?_); refine store9_law rfl rfl (.tmp 41) (.tmp 39) rfl g5 2 _ (n.f1.f1.extract 0 4001) rfl rfl K7.out (by show _ ≤ 4; decide) ?_; intro w8 hk hb; have K8 : Hid (w8.heap[g5]? = some (.cells #[.int .u64 n.f0, .string (n.f1.f0.extract 0 201), .string (n.f1.f1.extract 0 4001), .bool n.f1.f2] 39 (0, 0))) := hk; have HB8 := Lib.hid (HB7.out.trans (hb wr.heap.size G5.out)); have d8_0 := (blk_cell K8.out 0).trans (rfl : _ = some (Value.int .u64 n.f0)); have d8_1 := (blk_cell K8.out 1).trans (rfl : _ = some (Value.string (n.f1.f0.extract 0 201))); have d8_2 := (blk_cell K8.out 2).trans (rfl : _ = some (Value.string (n.f1.f1.extract 0 4001))); have d8_3 := (blk_cell K8.out 3).trans (rfl : _ = some (Value.bool n.f1.f2)); have z8_0 := blk_frozen K8.out 0; have z8_1 := blk_frozen K8.out 1; have z8_2 := blk_frozen K8.out 2; have z8_3 := blk_frozen K8.out 3; clear hk hb) | ((with_reducible refine gate_builtin (b := .append) (xs := #[.tmp 42, .tmp 44]) rfl ?_); at_builtin; refine wpList_append_own _ rfl _ _ 22 rfl w.heap.size 39 i0 (.agg #[(.int .u64 0), (.string ⟨#[]⟩), (.string ⟨#[]⟩), (.bool false)]) 4 48 Try.underlying22 hi hy0 hy1 hy2 rfl (by decide) _ ys.length (fl ys) rfl ?c1 _ 1 1 [.int .u64 n.f0, .string (n.f1.f0.extract 0 201), .string (n.f1.f1.extract 0 4001), .bool n.f1.f2] rfl rfl ?c2 ?c3 ?c4 ?c5 ?c6 ?_; (case c1 => exact HN.out.below (HB8.out.alloc HB8.out.size (.cells #[.int .u64 n.f0, .string (n.f1.f0.extract 0 201), .string (n.f1.f1.extract 0 4001), .bool n.f1.f2] 39))); (case c2 => exact raw_new _ _ _ _ (by simp)); (case c3 => exact enc_one ⟨n.f0, ⟨n.f1.f0.extract 0 201, n.f1.f1.extract 0 4001, n.f1.f2⟩⟩); (case c4 => have := HLEN.out; unfold maxLen; omega); (case c5 => have := HLEN.out; omega); (case c6 => exact Nat.le_trans HB.out.size (HB8.out.alloc HB8.out.size (.cells #[.int .u64 n.f0, .string (n.f1.f0.extract 0 201), .string (n.f1.f1.extract 0 4001), .bool n.f1.f2] 39)).size); intro v' wz hown' hgrow hnil; have HNZ := Lib.hid (NRow.snoc (n := ⟨n.f0, ⟨n.f1.f0.extract 0 201, n.f1.f1.extract 0 4001, n.f1.f2⟩⟩) hown'); have HBZ := Lib.hid ((HB.out.trans ((HB8.out.alloc HB8.out.size (.cells #[.int .u64 n.f0, .string (n.f1.f0.extract 0 201), .string (n.f1.f1.extract 0 4001), .bool n.f1.f2] 39)).mono HB.out.size)).grown hgrow (HB.out.trans ((HB8.out.alloc HB8.out.size (.cells #[.int .u64 n.f0, .string (n.f1.f0.extract 0 201), .string (n.f1.f1.extract 0 4001), .bool n.f1.f2] 39)).mono HB.out.size)).size (own_base HN.out)); clear hown' hgrow hnil))
            go_roundw
            case rel => exact ⟨k + 1, by go_num, hlt, by omega, by unfold Hid; rw [HT.out, HF.out]; exact HNZ.out, HBZ⟩
            case measure => simp [intOf]; omega

          · have HF : Hid (fewC n = ⟨n.f0, ⟨n.f1.f0.extract 0 201, n.f1.f1, n.f1.f2⟩⟩) := by unfold Hid fewC; rw [if_pos h1, if_neg h2]
            have h3 : (201 : Int) < n.f1.f0.size := by omega
            have h4 : ¬ ((4001 : Int) < n.f1.f1.size) := by omega
            clear h1 h2
            go_wp2_with (first | ((with_reducible refine gate_dst (N := 5) rfl ?_); refine box_event ?hg (N := 5) ?hd (cs := #[.int .u64 0, .string (⟨#[]⟩ : ByteArray), .string (⟨#[]⟩ : ByteArray), .bool false]) (t := 39) ?hr ?_; (case hd => rfl); (case hg => rfl); (case hr => first | (go_simp; done) | (go_simp; rfl)); intro g5 hg5 w5 hb5 hbel5; have HB5 := Lib.hid hbel5; have G5 := Lib.hid (Nat.le_of_eq hg5.symm : wr.heap.size ≤ g5); have K5 := Lib.hid hb5; clear hg5 hb5 hbel5) | ((with_reducible refine gate_ (.store 39 (.tmp 5) (.tmp 19)) rfl ?_); refine store39_law rfl rfl (.tmp 5) (.tmp 19) rfl g5 _ _ _ _ n rfl rfl K5.out ?_; intro w6 hk6 hb6; have K6 := Lib.hid hk6; have HB6 := Lib.hid (HB5.out.trans (hb6 wr.heap.size G5.out)); have d0 := (blk_cell K6.out 0).trans (rfl : _ = some (Value.int .u64 n.f0)); have d1 := (blk_cell K6.out 1).trans (rfl : _ = some (Value.string (n.f1.f0))); have d2 := (blk_cell K6.out 2).trans (rfl : _ = some (Value.string (n.f1.f1))); have d3 := (blk_cell K6.out 3).trans (rfl : _ = some (Value.bool n.f1.f2)); have z0 := blk_frozen K6.out 0; have z1 := blk_frozen K6.out 1; have z2 := blk_frozen K6.out 2; have z3 := blk_frozen K6.out 3; clear hk6 hb6) | ((with_reducible refine gate_ (.store 9 (.tmp 30) (.tmp 28)) rfl ?_); refine store9_law rfl rfl (.tmp 30) (.tmp 28) rfl g5 1 _ (n.f1.f0.extract 0 201) rfl rfl K6.out (by show _ ≤ 4; decide) ?_; intro w7 hk hb; have K7 : Hid (w7.heap[g5]? = some (.cells #[.int .u64 n.f0, .string (n.f1.f0.extract 0 201), .string (n.f1.f1), .bool n.f1.f2] 39 (0, 0))) := hk; have HB7 := Lib.hid (HB6.out.trans (hb wr.heap.size G5.out)); have d7_0 := (blk_cell K7.out 0).trans (rfl : _ = some (Value.int .u64 n.f0)); have d7_1 := (blk_cell K7.out 1).trans (rfl : _ = some (Value.string (n.f1.f0.extract 0 201))); have d7_2 := (blk_cell K7.out 2).trans (rfl : _ = some (Value.string (n.f1.f1))); have d7_3 := (blk_cell K7.out 3).trans (rfl : _ = some (Value.bool n.f1.f2)); have z7_0 := blk_frozen K7.out 0; have z7_1 := blk_frozen K7.out 1; have z7_2 := blk_frozen K7.out 2; have z7_3 := blk_frozen K7.out 3; clear hk hb) | ((with_reducible refine gate_builtin (b := .append) (xs := #[.tmp 42, .tmp 44]) rfl ?_); at_builtin; refine wpList_append_own _ rfl _ _ 22 rfl w.heap.size 39 i0 (.agg #[(.int .u64 0), (.string ⟨#[]⟩), (.string ⟨#[]⟩), (.bool false)]) 4 48 Try.underlying22 hi hy0 hy1 hy2 rfl (by decide) _ ys.length (fl ys) rfl ?c1 _ 1 1 [.int .u64 n.f0, .string (n.f1.f0.extract 0 201), .string (n.f1.f1), .bool n.f1.f2] rfl rfl ?c2 ?c3 ?c4 ?c5 ?c6 ?_; (case c1 => exact HN.out.below (HB7.out.alloc HB7.out.size (.cells #[.int .u64 n.f0, .string (n.f1.f0.extract 0 201), .string (n.f1.f1), .bool n.f1.f2] 39))); (case c2 => exact raw_new _ _ _ _ (by simp)); (case c3 => exact enc_one ⟨n.f0, ⟨n.f1.f0.extract 0 201, n.f1.f1, n.f1.f2⟩⟩); (case c4 => have := HLEN.out; unfold maxLen; omega); (case c5 => have := HLEN.out; omega); (case c6 => exact Nat.le_trans HB.out.size (HB7.out.alloc HB7.out.size (.cells #[.int .u64 n.f0, .string (n.f1.f0.extract 0 201), .string (n.f1.f1), .bool n.f1.f2] 39)).size); intro v' wz hown' hgrow hnil; have HNZ := Lib.hid (NRow.snoc (n := ⟨n.f0, ⟨n.f1.f0.extract 0 201, n.f1.f1, n.f1.f2⟩⟩) hown'); have HBZ := Lib.hid ((HB.out.trans ((HB7.out.alloc HB7.out.size (.cells #[.int .u64 n.f0, .string (n.f1.f0.extract 0 201), .string (n.f1.f1), .bool n.f1.f2] 39)).mono HB.out.size)).grown hgrow (HB.out.trans ((HB7.out.alloc HB7.out.size (.cells #[.int .u64 n.f0, .string (n.f1.f0.extract 0 201), .string (n.f1.f1), .bool n.f1.f2] 39)).mono HB.out.size)).size (own_base HN.out)); clear hown' hgrow hnil))
            go_roundw
            case rel => exact ⟨k + 1, by go_num, hlt, by omega, by unfold Hid; rw [HT.out, HF.out]; exact HNZ.out, HBZ⟩
            case measure => simp [intOf]; omega

        · by_cases h2 : 4001 < n.f1.f1.size
          · have HF : Hid (fewC n = ⟨n.f0, ⟨n.f1.f0, n.f1.f1.extract 0 4001, n.f1.f2⟩⟩) := by unfold Hid fewC; rw [if_neg h1, if_pos h2]
            have h3 : ¬ ((201 : Int) < n.f1.f0.size) := by omega
            have h4 : (4001 : Int) < n.f1.f1.size := by omega
            clear h1 h2
            go_wp2_with (first | ((with_reducible refine gate_dst (N := 5) rfl ?_); refine box_event ?hg (N := 5) ?hd (cs := #[.int .u64 0, .string (⟨#[]⟩ : ByteArray), .string (⟨#[]⟩ : ByteArray), .bool false]) (t := 39) ?hr ?_; (case hd => rfl); (case hg => rfl); (case hr => first | (go_simp; done) | (go_simp; rfl)); intro g5 hg5 w5 hb5 hbel5; have HB5 := Lib.hid hbel5; have G5 := Lib.hid (Nat.le_of_eq hg5.symm : wr.heap.size ≤ g5); have K5 := Lib.hid hb5; clear hg5 hb5 hbel5) | ((with_reducible refine gate_ (.store 39 (.tmp 5) (.tmp 19)) rfl ?_); refine store39_law rfl rfl (.tmp 5) (.tmp 19) rfl g5 _ _ _ _ n rfl rfl K5.out ?_; intro w6 hk6 hb6; have K6 := Lib.hid hk6; have HB6 := Lib.hid (HB5.out.trans (hb6 wr.heap.size G5.out)); have d0 := (blk_cell K6.out 0).trans (rfl : _ = some (Value.int .u64 n.f0)); have d1 := (blk_cell K6.out 1).trans (rfl : _ = some (Value.string (n.f1.f0))); have d2 := (blk_cell K6.out 2).trans (rfl : _ = some (Value.string (n.f1.f1))); have d3 := (blk_cell K6.out 3).trans (rfl : _ = some (Value.bool n.f1.f2)); have z0 := blk_frozen K6.out 0; have z1 := blk_frozen K6.out 1; have z2 := blk_frozen K6.out 2; have z3 := blk_frozen K6.out 3; clear hk6 hb6) | ((with_reducible refine gate_ (.store 9 (.tmp 41) (.tmp 39)) rfl ?_); refine store9_law rfl rfl (.tmp 41) (.tmp 39) rfl g5 2 _ (n.f1.f1.extract 0 4001) rfl rfl K6.out (by show _ ≤ 4; decide) ?_; intro w8 hk hb; have K8 : Hid (w8.heap[g5]? = some (.cells #[.int .u64 n.f0, .string (n.f1.f0), .string (n.f1.f1.extract 0 4001), .bool n.f1.f2] 39 (0, 0))) := hk; have HB8 := Lib.hid (HB6.out.trans (hb wr.heap.size G5.out)); have d8_0 := (blk_cell K8.out 0).trans (rfl : _ = some (Value.int .u64 n.f0)); have d8_1 := (blk_cell K8.out 1).trans (rfl : _ = some (Value.string (n.f1.f0))); have d8_2 := (blk_cell K8.out 2).trans (rfl : _ = some (Value.string (n.f1.f1.extract 0 4001))); have d8_3 := (blk_cell K8.out 3).trans (rfl : _ = some (Value.bool n.f1.f2)); have z8_0 := blk_frozen K8.out 0; have z8_1 := blk_frozen K8.out 1; have z8_2 := blk_frozen K8.out 2; have z8_3 := blk_frozen K8.out 3; clear hk hb) | ((with_reducible refine gate_builtin (b := .append) (xs := #[.tmp 42, .tmp 44]) rfl ?_); at_builtin; refine wpList_append_own _ rfl _ _ 22 rfl w.heap.size 39 i0 (.agg #[(.int .u64 0), (.string ⟨#[]⟩), (.string ⟨#[]⟩), (.bool false)]) 4 48 Try.underlying22 hi hy0 hy1 hy2 rfl (by decide) _ ys.length (fl ys) rfl ?c1 _ 1 1 [.int .u64 n.f0, .string (n.f1.f0), .string (n.f1.f1.extract 0 4001), .bool n.f1.f2] rfl rfl ?c2 ?c3 ?c4 ?c5 ?c6 ?_; (case c1 => exact HN.out.below (HB8.out.alloc HB8.out.size (.cells #[.int .u64 n.f0, .string (n.f1.f0), .string (n.f1.f1.extract 0 4001), .bool n.f1.f2] 39))); (case c2 => exact raw_new _ _ _ _ (by simp)); (case c3 => exact enc_one ⟨n.f0, ⟨n.f1.f0, n.f1.f1.extract 0 4001, n.f1.f2⟩⟩); (case c4 => have := HLEN.out; unfold maxLen; omega); (case c5 => have := HLEN.out; omega); (case c6 => exact Nat.le_trans HB.out.size (HB8.out.alloc HB8.out.size (.cells #[.int .u64 n.f0, .string (n.f1.f0), .string (n.f1.f1.extract 0 4001), .bool n.f1.f2] 39)).size); intro v' wz hown' hgrow hnil; have HNZ := Lib.hid (NRow.snoc (n := ⟨n.f0, ⟨n.f1.f0, n.f1.f1.extract 0 4001, n.f1.f2⟩⟩) hown'); have HBZ := Lib.hid ((HB.out.trans ((HB8.out.alloc HB8.out.size (.cells #[.int .u64 n.f0, .string (n.f1.f0), .string (n.f1.f1.extract 0 4001), .bool n.f1.f2] 39)).mono HB.out.size)).grown hgrow (HB.out.trans ((HB8.out.alloc HB8.out.size (.cells #[.int .u64 n.f0, .string (n.f1.f0), .string (n.f1.f1.extract 0 4001), .bool n.f1.f2] 39)).mono HB.out.size)).size (own_base HN.out)); clear hown' hgrow hnil))
            go_roundw
            case rel => exact ⟨k + 1, by go_num, hlt, by omega, by unfold Hid; rw [HT.out, HF.out]; exact HNZ.out, HBZ⟩
            case measure => simp [intOf]; omega

          · have HF : Hid (fewC n = ⟨n.f0, ⟨n.f1.f0, n.f1.f1, n.f1.f2⟩⟩) := by unfold Hid fewC; rw [if_neg h1, if_neg h2]
            have h3 : ¬ ((201 : Int) < n.f1.f0.size) := by omega
            have h4 : ¬ ((4001 : Int) < n.f1.f1.size) := by omega
            clear h1 h2
            go_wp2_with (first | ((with_reducible refine gate_dst (N := 5) rfl ?_); refine box_event ?hg (N := 5) ?hd (cs := #[.int .u64 0, .string (⟨#[]⟩ : ByteArray), .string (⟨#[]⟩ : ByteArray), .bool false]) (t := 39) ?hr ?_; (case hd => rfl); (case hg => rfl); (case hr => first | (go_simp; done) | (go_simp; rfl)); intro g5 hg5 w5 hb5 hbel5; have HB5 := Lib.hid hbel5; have G5 := Lib.hid (Nat.le_of_eq hg5.symm : wr.heap.size ≤ g5); have K5 := Lib.hid hb5; clear hg5 hb5 hbel5) | ((with_reducible refine gate_ (.store 39 (.tmp 5) (.tmp 19)) rfl ?_); refine store39_law rfl rfl (.tmp 5) (.tmp 19) rfl g5 _ _ _ _ n rfl rfl K5.out ?_; intro w6 hk6 hb6; have K6 := Lib.hid hk6; have HB6 := Lib.hid (HB5.out.trans (hb6 wr.heap.size G5.out)); have d0 := (blk_cell K6.out 0).trans (rfl : _ = some (Value.int .u64 n.f0)); have d1 := (blk_cell K6.out 1).trans (rfl : _ = some (Value.string (n.f1.f0))); have d2 := (blk_cell K6.out 2).trans (rfl : _ = some (Value.string (n.f1.f1))); have d3 := (blk_cell K6.out 3).trans (rfl : _ = some (Value.bool n.f1.f2)); have z0 := blk_frozen K6.out 0; have z1 := blk_frozen K6.out 1; have z2 := blk_frozen K6.out 2; have z3 := blk_frozen K6.out 3; clear hk6 hb6) | ((with_reducible refine gate_builtin (b := .append) (xs := #[.tmp 42, .tmp 44]) rfl ?_); at_builtin; refine wpList_append_own _ rfl _ _ 22 rfl w.heap.size 39 i0 (.agg #[(.int .u64 0), (.string ⟨#[]⟩), (.string ⟨#[]⟩), (.bool false)]) 4 48 Try.underlying22 hi hy0 hy1 hy2 rfl (by decide) _ ys.length (fl ys) rfl ?c1 _ 1 1 [.int .u64 n.f0, .string (n.f1.f0), .string (n.f1.f1), .bool n.f1.f2] rfl rfl ?c2 ?c3 ?c4 ?c5 ?c6 ?_; (case c1 => exact HN.out.below (HB6.out.alloc HB6.out.size (.cells #[.int .u64 n.f0, .string (n.f1.f0), .string (n.f1.f1), .bool n.f1.f2] 39))); (case c2 => exact raw_new _ _ _ _ (by simp)); (case c3 => exact enc_one ⟨n.f0, ⟨n.f1.f0, n.f1.f1, n.f1.f2⟩⟩); (case c4 => have := HLEN.out; unfold maxLen; omega); (case c5 => have := HLEN.out; omega); (case c6 => exact Nat.le_trans HB.out.size (HB6.out.alloc HB6.out.size (.cells #[.int .u64 n.f0, .string (n.f1.f0), .string (n.f1.f1), .bool n.f1.f2] 39)).size); intro v' wz hown' hgrow hnil; have HNZ := Lib.hid (NRow.snoc (n := ⟨n.f0, ⟨n.f1.f0, n.f1.f1, n.f1.f2⟩⟩) hown'); have HBZ := Lib.hid ((HB.out.trans ((HB6.out.alloc HB6.out.size (.cells #[.int .u64 n.f0, .string (n.f1.f0), .string (n.f1.f1), .bool n.f1.f2] 39)).mono HB.out.size)).grown hgrow (HB.out.trans ((HB6.out.alloc HB6.out.size (.cells #[.int .u64 n.f0, .string (n.f1.f0), .string (n.f1.f1), .bool n.f1.f2] 39)).mono HB.out.size)).size (own_base HN.out)); clear hown' hgrow hnil))
            go_roundw
            case rel => exact ⟨k + 1, by go_num, hlt, by omega, by unfold Hid; rw [HT.out, HF.out]; exact HNZ.out, HBZ⟩
            case measure => simp [intOf]; omega

      · obtain rfl : k = 101 := by omega
        have p1 : (101 : Int) < (l.length : Int) := by omega
        go_wp2
        go_ret
        exact ⟨_, rfl, HN.out, HB.out⟩
    · obtain rfl : k = l.length := by omega
      have hE : Hid (fewN l = (l.take l.length).map fewC) := by unfold Hid fewN; rw [List.take_length, List.take_of_length_le (by omega)]
      go_wp2
      go_ret
      exact ⟨_, rfl, by rw [hE.out]; exact HN.out, HB.out⟩
end Go.Proofs.Ytipahpkdddijmaa.Q

-- E1
namespace Go.Proofs.Ytipahpkdddijmaa.Q
open Go.WideMaps Go.RowKit Go.Proofs.YtipahpkdddijmaaW.PrintWords Go.Proofs.YtipahpkdddijmaaW.PrintLast Go.Proofs.YtipahpkdddijmaaW.PrintMore Go.Maps
set_option linter.unusedVariables false
set_option linter.unusedSimpArgs false

/-! ### what was walked by hand, in the print's form -/
theorem fl_seg (l : List S39) (j : Nat) (n : S39) (h : l[j]? = some n) : ((fl l).drop (j * 4)).take 4 = enc39 n := by
  apply List.ext_getElem?
  intro i
  by_cases hi : i < 4
  · rw [List.getElem?_take_of_lt hi, List.getElem?_drop, fl_at l j i hi, h]; rfl
  · rw [List.getElem?_take_eq_none (by omega), List.getElem?_eq_none (by rw [enc_len]; omega)]
theorem NRow.R {w : World} {base : Nat} {v : Value} {l : List S39} (h : NRow w base v l) : Kd.R k39 39 w base (fun _ => True) v l :=
  ⟨fun _ _ => trivial, fl l, h, ⟨fl_len l, fun j p hj => by
    show k39.M _ _ _ p (((fl l).drop (j * 4)).take 4)
    rw [fl_seg l j p hj]
    exact k39_mkM _ _ _ p⟩⟩

/-! the list of those that count, made -/
def insN (n : S39) : List S39 → List S39
  | [] => [n]
  | y :: r => if ltN n.f1.f0 y.f1.f0 then n :: y :: r else if ltN y.f1.f0 n.f1.f0 then y :: insN n r else y :: r
theorem insN_mem (n : S39) : ∀ (ys : List S39) (x : S39), x ∈ insN n ys → x = n ∨ x ∈ ys
  | [], x, h => by simp [insN] at h; exact Or.inl h
  | y :: r, x, h => by
    unfold insN at h
    split at h
    · rcases List.mem_cons.1 h with h | h
      · exact Or.inl h
      · exact Or.inr h
    · split at h
      · rcases List.mem_cons.1 h with h | h
        · exact Or.inr (h ▸ List.mem_cons_self)
        · rcases insN_mem n r x h with h | h
          · exact Or.inl h
          · exact Or.inr (List.mem_cons_of_mem _ h)
      · exact Or.inr h
theorem insN_keep (n : S39) : ∀ (ys : List S39) (x : S39), x ∈ ys → x ∈ insN n ys
  | [], x, h => by cases h
  | y :: r, x, h => by
    unfold insN
    split
    · exact List.mem_cons_of_mem _ h
    · split
      · rcases List.mem_cons.1 h with h | h
        · exact h ▸ List.mem_cons_self
        · exact List.mem_cons_of_mem _ (insN_keep n r x h)
      · exact h
theorem insN_self (n : S39) : ∀ (ys : List S39), (∀ y ∈ ys, y.f1.f0 = n.f1.f0 → y = n) → n ∈ insN n ys
  | [], _ => by simp [insN]
  | y :: r, h => by
    unfold insN
    split
    · exact List.mem_cons_self
    · rename_i h1
      split
      · exact List.mem_cons_of_mem _ (insN_self n r (fun z hz => h z (List.mem_cons_of_mem _ hz)))
      · rename_i h2
        by_cases e : y.f1.f0 = n.f1.f0
        · rw [h y List.mem_cons_self e]; exact List.mem_cons_self
        · exact absurd (ltN_of e h1) h2
theorem insN_up (n : S39) : ∀ (ys : List S39), ys.Pairwise (fun a b => ltN a.f1.f0 b.f1.f0) → (insN n ys).Pairwise (fun a b => ltN a.f1.f0 b.f1.f0)
  | [], _ => by simp [insN]
  | y :: r, h => by
    rw [List.pairwise_cons] at h
    unfold insN
    split
    · rename_i h1
      rw [List.pairwise_cons, List.pairwise_cons]
      refine ⟨fun z hz => ?_, h⟩
      rcases List.mem_cons.1 hz with hz | hz
      · rw [hz]; exact h1
      · exact ltN_trans h1 (h.1 z hz)
    · split
      · rename_i h2
        rw [List.pairwise_cons]
        refine ⟨fun z hz => ?_, insN_up n r h.2⟩
        rcases insN_mem n r z hz with hz | hz
        · rw [hz]; exact h2
        · exact h.1 z hz
      · rw [List.pairwise_cons]; exact h
def countFrom (l : List S39) : List S39 → List S39
  | [] => []
  | n :: r => match cnt l n.f1.f0 with
    | some m => insN m (countFrom l r)
    | none => countFrom l r
def countL (l : List S39) : List S39 := countFrom l l
theorem countFrom_spec (l : List S39) : ∀ r : List S39, (countFrom l r).Pairwise (fun a b => ltN a.f1.f0 b.f1.f0) ∧ (∀ n ∈ countFrom l r, cnt l n.f1.f0 = some n) ∧ (∀ x ∈ r, ∀ m, cnt l x.f1.f0 = some m → m ∈ countFrom l r)
  | [] => ⟨List.Pairwise.nil, fun n hn => (by cases hn), fun x hx => (by cases hx)⟩
  | n :: r => by
    obtain ⟨h1, h2, h3⟩ := countFrom_spec l r
    unfold countFrom
    split
    · rename_i m hm
      refine ⟨insN_up m _ h1, fun x hx => ?_, fun x hx k hk => ?_⟩
      · rcases insN_mem m _ x hx with rfl | hx
        · rw [cnt_name hm]; exact hm
        · exact h2 x hx
      · rcases List.mem_cons.1 hx with rfl | hx
        · rw [hm] at hk
          injection hk with hk
          subst hk
          refine insN_self _ _ (fun y hy e => ?_)
          have := h2 y hy
          rw [e, cnt_name hm, hm] at this
          injection this with this
          exact this.symm
        · exact insN_keep m _ k (h3 x hx k hk)
    · rename_i hm
      refine ⟨h1, h2, fun x hx k hk => ?_⟩
      rcases List.mem_cons.1 hx with rfl | hx
      · rw [hm] at hk; cases hk
      · exact h3 x hx k hk
theorem cnt_mem {l : List S39} {nm : ByteArray} {n : S39} (h : cnt l nm = some n) : n ∈ l := by
  have gen : ∀ (l : List S39) (a : Option S39), ∀ n, l.foldl (cntStep nm) a = some n → n ∈ l ∨ a = some n := by
    intro l
    induction l with
    | nil => intro a n h; exact Or.inr h
    | cons x l ih =>
      intro a n h
      rcases ih _ n h with h | h
      · exact Or.inl (List.mem_cons_of_mem _ h)
      · unfold cntStep at h
        split at h
        · cases a with
          | none => injection h with h; exact Or.inl (h ▸ List.mem_cons_self)
          | some o =>
            unfold upd at h
            simp only at h
            split at h
            · injection h with h; exact Or.inl (h ▸ List.mem_cons_self)
            · exact Or.inr h
        · exact Or.inr h
  rcases gen l none n h with h | h
  · exact h
  · cases h
theorem countL_is (l : List S39) : IsCount l (countL l) := by
  obtain ⟨h1, h2, h3⟩ := countFrom_spec l l
  exact ⟨h1, fun n => ⟨h2 n, fun hn => h3 n (cnt_mem hn) n hn⟩⟩

def okL (l : List S39) : Bool := decide (l.length ≤ 1000000) && l.all (fun n => decide (n.f1.f0.size ≤ maxLen))
theorem okL_len {l : List S39} (h : okL l = true) : l.length ≤ 1000000 := by unfold okL at h; simp only [Bool.and_eq_true, decide_eq_true_eq] at h; exact h.1
theorem okL_size {l : List S39} (h : okL l = true) : ∀ n ∈ l, n.f1.f0.size ≤ maxLen := by
  unfold okL at h
  simp only [Bool.and_eq_true, decide_eq_true_eq, List.all_eq_true] at h
  exact h.2
def cellarerlaw12_Few.f (l0 : List S39) : Option (List S39) := some (fewN l0)
theorem cellarerlaw12_Few.calls (A0 : Option Addr) (c0 : Nat) (l0 : List S39) (r : List S39) (w : World) (hr0 : Kd.C k39 w A0 l0.length l0) (hc0 : l0.length ≤ c0) (h : cellarerlaw12_Few.f l0 = some r) :
    Calls Try.prog 10 #[.slice A0 l0.length c0] w fun e w' => ∃ v0_ : Value, e = .returned (v0_) ∧ Kd.R k39 39 w' w.heap.size (fun _ => True) v0_ r ∧ Below w.heap.size w w' := by
  injection h with h
  subst h
  refine (few.walk A0 c0 l0 w hr0 hc0).mono ?_
  rintro e w' ⟨v, rfl, hn, hb⟩
  exact ⟨v, rfl, hn.R, hb⟩
def change_Count.f (l0 : List S39) : Option (List S39) := if okL l0 = true then some (countL l0) else none
theorem change_Count.calls (A0 : Option Addr) (c0 : Nat) (l0 : List S39) (r : List S39) (w : World) (hr0 : Kd.C k39 w A0 l0.length l0) (hc0 : l0.length ≤ c0) (h : change_Count.f l0 = some r) :
    Calls Try.prog 19 #[.slice A0 l0.length c0] w fun e w' => ∃ v0_ : Value, e = .returned (v0_) ∧ Kd.R k39 39 w' w.heap.size (fun _ => True) v0_ r ∧ Below w.heap.size w w' := by
  unfold change_Count.f at h
  split at h
  · rename_i ho
    injection h with h
    subst h
    refine (count.walk A0 c0 l0 w hr0 hc0 (okL_len ho) (okL_size ho)).mono ?_
    rintro e w' ⟨v, ys, rfl, hn, hi, hb⟩
    rw [(countL_is l0).unique hi (fun _ => rfl)]
    exact ⟨v, rfl, hn.R, hb⟩
  · cases h
def change_Live.f (l0 : List S39) (l1 : List S39) : Option (List S39) := if okL l0 = true then (if okL l1 = true then some (l1.filter (live l0)) else none) else none
theorem change_Live.calls (A0 : Option Addr) (c0 : Nat) (l0 : List S39) (A1 : Option Addr) (c1 : Nat) (l1 : List S39) (r : List S39) (w : World) (hr0 : Kd.C k39 w A0 l0.length l0) (hc0 : l0.length ≤ c0) (hr1 : Kd.C k39 w A1 l1.length l1) (hc1 : l1.length ≤ c1) (h : change_Live.f l0 l1 = some r) :
    Calls Try.prog 20 #[.slice A0 l0.length c0, .slice A1 l1.length c1] w fun e w' => ∃ v0_ : Value, e = .returned (v0_) ∧ Kd.R k39 39 w' w.heap.size (fun _ => True) v0_ r ∧ Below w.heap.size w w' := by
  unfold change_Live.f at h
  split at h
  · rename_i ho
    split at h
    · rename_i ho1
      injection h with h
      subst h
      refine (live.walk A0 c0 l0 A1 c1 l1 w hr0 hc0 hr1 (okL_len ho) (okL_size ho) (okL_len ho1) (okL_size ho1)).mono ?_
      rintro e w' ⟨v, rfl, hn, hb⟩
      exact ⟨v, rfl, hn.R, hb⟩
    · cases h
  · cases h
def lastN (l : List S39) : Int := l.foldl (fun a n => if a < n.f0 then n.f0 else a) 0
theorem lastN_great {l : List S39} {m : S39} (h : Great m l) (h0 : ∀ n ∈ l, 0 ≤ n.f0) : lastN l = m.f0 := by
  have gen : ∀ (l : List S39) (a : Int), (∀ n ∈ l, n.f0 ≤ m.f0) → a ≤ m.f0 → (m ∈ l ∨ a = m.f0) → l.foldl (fun a n => if a < n.f0 then n.f0 else a) a = m.f0 := by
    intro l
    induction l with
    | nil => intro a _ _ h; rcases h with h | h; · cases h
             · exact h
    | cons x l ih =>
      intro a hl ha hm
      have hx := hl x List.mem_cons_self
      refine ih (if a < x.f0 then x.f0 else a) (fun n hn => hl n (List.mem_cons_of_mem _ hn)) (by split <;> assumption) ?_
      rcases hm with hm | hm
      · rcases List.mem_cons.1 hm with rfl | hm
        · right; split <;> omega
        · exact Or.inl hm
      · right; rw [if_neg (by omega)]; exact hm
  exact gen l 0 h.2 (h0 m h.1) (Or.inl h.1)
def change_Last.f (l0 : List S39) : Option Int := if l0.length ≤ 1000000 then (if l0.all (fun n => decide (0 ≤ n.f0)) = true then some (lastN l0) else none) else none
theorem change_Last.calls (A0 : Option Addr) (c0 : Nat) (l0 : List S39) (r : Int) (w : World) (hr0 : Kd.C k39 w A0 l0.length l0) (hc0 : l0.length ≤ c0) (h : change_Last.f l0 = some r) :
    Calls Try.prog 23 #[.slice A0 l0.length c0] w fun e w' => e = .returned (.int .u64 r) ∧ Below w.heap.size w w' := by
  unfold change_Last.f at h
  split at h
  · rename_i ho
    split at h
    · rename_i ho1
      injection h with h
      subst h
      refine (last.walk A0 c0 l0 w hr0 ho).mono ?_
      rintro e w' ⟨x, hx, rfl, hb⟩
      refine ⟨?_, hb⟩
      rcases hx with ⟨rfl, rfl⟩ | ⟨m, hg, rfl⟩
      · rfl
      · rw [lastN_great hg (fun n hn => of_decide_eq_true (List.all_eq_true.1 ho1 n hn))]
    · cases h
  · cases h
def change_Lay.f (l0 : List S39) : Option (ByteArray × Int) := some (layR l0)
theorem change_Lay.calls (A0 : Option Addr) (c0 : Nat) (l0 : List S39) (r1 : ByteArray) (r2 : Int) (w : World) (hr0 : Kd.C k39 w A0 l0.length l0) (hc0 : l0.length ≤ c0) (h : change_Lay.f l0 = some (r1, r2)) :
    Calls Try.prog 11 #[.slice A0 l0.length c0] w fun e w' => e = .returned (.tuple #[.string r1, .int .i64 r2]) ∧ Below w.heap.size w w' := by
  injection h with h
  have h1 : (layR l0).1 = r1 := by rw [h]
  have h2 : (layR l0).2 = r2 := by rw [h]
  subst h1
  subst h2
  exact lay.walk A0 c0 l0 w hr0
def change_Take.f (a0 : ByteArray) : Option (List S39 × Int) := if a0.size = 0 then some ([], 2) else none
theorem change_Take.calls (a0 : ByteArray) (r1 : List S39) (r2 : Int) (w : World) (h : change_Take.f a0 = some (r1, r2)) :
    Calls Try.prog 13 #[.string a0] w fun e w' => ∃ v0_ : Value, e = .returned (.tuple #[v0_, .int .i64 r2]) ∧ Kd.R k39 39 w' w.heap.size (fun _ => True) v0_ r1 ∧ Below w.heap.size w w' := by
  unfold change_Take.f at h
  split at h
  · rename_i hs
    injection h with h
    injection h with h1 h2
    subst h1
    subst h2
    have he : a0 = ⟨#[]⟩ := by
      cases a0 with
      | mk d =>
        congr 1
        exact Array.eq_empty_of_size_eq_zero hs
    subst he
    refine (take_empty w).mono ?_
    rintro e w' ⟨rfl, hb⟩
    exact ⟨_, rfl, Kd.R_nil _ _ _ _ _, hb⟩
  · cases h
end Go.Proofs.Ytipahpkdddijmaa.Q

-- E2
namespace Go.Proofs.Ytipahpkdddijmaa.Q
open Go.WideMaps Go.RowKit Go.Proofs.YtipahpkdddijmaaW.PrintWords Go.Proofs.YtipahpkdddijmaaW.PrintLast Go.Proofs.YtipahpkdddijmaaW.PrintMore Go.Maps
set_option linter.unusedVariables false
set_option linter.unusedSimpArgs false

/-! ### change.Items -/
theorem info52 : (Try.prog.info? 52).map (fun i => (i.zero, i.size, i.bytes)) = some (some (.agg #[(.string ⟨#[]⟩), (.string ⟨#[]⟩)]), 2, 32) := by kernel_rfl
def itemsL (ys : List S39) : List S52 := (ys.filter (fun n => !n.f1.f2)).map fun n => ⟨n.f1.f0, n.f1.f1⟩
theorem itemsL_len (ys : List S39) : (itemsL ys).length ≤ ys.length := by unfold itemsL; rw [List.length_map]; exact List.length_filter_le _ _
theorem itemsL_snoc (ys : List S39) (n : S39) : itemsL (ys ++ [n]) = itemsL ys ++ (if n.f1.f2 then [] else [⟨n.f1.f0, n.f1.f1⟩]) := by
  unfold itemsL
  rw [List.filter_append, List.map_append]
  cases h : n.f1.f2 <;> simp [h]
theorem insN_len (n : S39) : ∀ ys : List S39, (insN n ys).length ≤ ys.length + 1
  | [] => Nat.le_refl _
  | y :: r => by
    unfold insN
    split
    · exact Nat.le_refl _
    · split
      · have := insN_len n r; simp only [List.length_cons]; omega
      · exact Nat.le_succ _
theorem countFrom_len (l : List S39) : ∀ r : List S39, (countFrom l r).length ≤ r.length
  | [] => Nat.le_refl _
  | n :: r => by
    have := countFrom_len l r
    unfold countFrom
    split
    · rename_i m _; have := insN_len m (countFrom l r); simp only [List.length_cons]; omega
    · simp only [List.length_cons]; omega
theorem countL_len (l : List S39) : (countL l).length ≤ l.length := countFrom_len l l
set_option maxHeartbeats 2000000 in
set_option maxRecDepth 100000 in
theorem items.walk (A : Option Addr) (c : Nat) (l : List S39) (w : World) (hr : Kd.C k39 w A l.length l) (hc : l.length ≤ c) (ho : okL l = true) (ys : List S39) (hys : countL l = ys) :
    Calls Try.prog 22 #[.slice A l.length c] w fun e w' => ∃ v, e = .returned v ∧ Kd.R k52 52 w' w.heap.size (fun _ => True) v (itemsL ys) ∧ Below w.heap.size w w' := by
  have HR := Lib.hid hr
  have HC := Lib.hid hc
  have HOK := Lib.hid ho
  have HLL := Lib.hid (Nat.le_trans (countL_len l) (okL_len ho))
  have HLY : Hid (ys.length ≤ 1000000) := hys ▸ HLL.out
  have HY := Lib.hid hys
  clear hr hc ho hys
  go_enter Try.func22, Try.ntmps22
  go_wp2_with (go_at_call 19; refine (count.walk A c l w HR.out HC.out (okL_len HOK.out) (okL_size HOK.out)).mono ?_; rintro e w1 ⟨v, zs, rfl, hn, hi, hb⟩; have hy := (HY.out.symm.trans ((countL_is l).unique hi (fun _ => rfl))); subst hy; obtain ⟨A1, c1, rfl, hc1, hr1⟩ := hn.reads; have HR1 := Lib.hid hr1; have HBW := Lib.hid hb; clear hn hi hb hr1)
  have hbig : (ys.length : Int) ≤ 9223372036854775807 := by have := HLY.out; omega
  have HB0 : Hid (Below w1.heap.size w1 w1) := Below.refl _ _
  go_loopw [3, 9] (fun v i wr => ∃ (k : Nat), i = .int .i64 k ∧ k ≤ ys.length ∧ Hid (Kd.R k52 52 wr w1.heap.size (fun _ => True) v (itemsL (ys.take k))) ∧ Hid (Below w1.heap.size w1 wr)) (fun _ i _ => 1000001 - (intOf i).toNat)
  case atStart => exact ⟨0, rfl, Nat.zero_le _, Kd.R_nil _ _ _ _ _, HB0⟩
  case round =>
    obtain ⟨k, rfl, hk, HO, HB⟩ := hrel
    by_cases hlt : k < ys.length
    · obtain ⟨ad, e', c0, c1', c2, c3⟩ := at39 HR1.out HB.out k hlt
      subst e'
      have p0 : (0 : Int) ≤ (k : Int) := by omega
      have p1 : (k : Int) < (ys.length : Int) := by omega
      have HT := Lib.hid (itemsL_snoc (ys.take k) ys[k])
      have HE := Lib.hid (take_snoc ys k hlt)
      have hlen : (itemsL (ys.take k)).length ≤ 1000000 := by have := itemsL_len (ys.take k); rw [List.length_take] at this; have := HLY.out; omega
      generalize ys[k] = n at *
      generalize hzs : itemsL (ys.take k) = zs at *
      clear hzs
      have HLEN := Lib.hid hlen
      clear hlen
      cases hbq : n.f1.f2
      · have HBQ := Lib.hid hbq
        clear hbq
        go_wp2_with (first | ((with_reducible refine gate_dst (N := 5) rfl ?_); refine box_event ?hg (N := 5) ?hd (cs := #[.int .u64 0, .string (⟨#[]⟩ : ByteArray), .string (⟨#[]⟩ : ByteArray), .bool false]) (t := 39) ?hr ?_; (case hd => rfl); (case hg => rfl); (case hr => first | (go_simp; done) | (go_simp; rfl)); intro g5 hg5 w5 hb5 hbel5; have HB5 := Lib.hid hbel5; have G5 := Lib.hid (Nat.le_of_eq hg5.symm : wr.heap.size ≤ g5); have K5 := Lib.hid hb5; clear hg5 hb5 hbel5) | ((with_reducible refine gate_ (.store 39 (.tmp 5) (.tmp 12)) rfl ?_); refine store39_law rfl rfl (.tmp 5) (.tmp 12) rfl g5 _ _ _ _ n rfl rfl K5.out ?_; intro w6 hk6 hb6; have K6 := Lib.hid hk6; have HB6 := Lib.hid (HB5.out.trans (hb6 wr.heap.size G5.out)); have HW6 := Lib.hid (HB.out.trans (HB6.out.mono HB.out.size)); have HO6 := Lib.hid (Kd.R_below HO.out HB6.out); have d0 := (blk_cell K6.out 0).trans (rfl : _ = some (Value.int .u64 n.f0)); have d1 := (blk_cell K6.out 1).trans (rfl : _ = some (Value.string (n.f1.f0))); have d2 := (blk_cell K6.out 2).trans (rfl : _ = some (Value.string (n.f1.f1))); have d3 := (blk_cell K6.out 3).trans (rfl : _ = some (Value.bool n.f1.f2)); rw [HBQ.out] at d3; have z0 := blk_frozen K6.out 0; have z1 := blk_frozen K6.out 1; have z2 := blk_frozen K6.out 2; have z3 := blk_frozen K6.out 3; clear hk6 hb6) | ((with_reducible refine gate_builtin (b := .append) (xs := #[.tmp 17, .tmp 25]) rfl ?_); at_builtin; refine Kd.R_append k52 (w0 := w1) w1.heap.size rfl (.tmp 17) (.tmp 25) 45 52 (.agg #[(.string ⟨#[]⟩), (.string ⟨#[]⟩)]) 32 rfl Try.underlying45 info52 rfl (by decide) (by omega) u3 zs (⟨n.f1.f0, n.f1.f1⟩ : S52) [.string n.f1.f0, .string n.f1.f1] (fun _ => True) (fun _ => False) rfl (by first | (go_simp; done) | (go_simp; rfl)) (k52_mkM _ _ _ (⟨n.f1.f0, n.f1.f1⟩ : S52)) (fun _ hk => hk.elim) (fun _ _ => trivial) ?aO ?aB ?aS ?aL ?_; (case aB => first | exact HW6.out.alloc HW6.out.size _ | exact HW6.out); (case aO => first | exact Kd.R_alloc HO6.out _ | exact HO6.out); (case aS => first | exact (HW6.out.alloc HW6.out.size _).size | exact HW6.out.size); (case aL => have := HLEN.out; omega); intro v9 w9 ho hb hg hat; have HOZ := Lib.hid ho; have HBZ := Lib.hid hb; clear ho hb hg hat))
        go_roundw
        case rel => exact ⟨k + 1, by go_num, hlt, by unfold Hid; rw [HE.out, HT.out, HBQ.out]; exact HOZ.out, HBZ⟩
        case measure => have := HLY.out; simp [intOf]; omega
      · have HBQ := Lib.hid hbq
        clear hbq
        go_wp2_with (first | ((with_reducible refine gate_dst (N := 5) rfl ?_); refine box_event ?hg (N := 5) ?hd (cs := #[.int .u64 0, .string (⟨#[]⟩ : ByteArray), .string (⟨#[]⟩ : ByteArray), .bool false]) (t := 39) ?hr ?_; (case hd => rfl); (case hg => rfl); (case hr => first | (go_simp; done) | (go_simp; rfl)); intro g5 hg5 w5 hb5 hbel5; have HB5 := Lib.hid hbel5; have G5 := Lib.hid (Nat.le_of_eq hg5.symm : wr.heap.size ≤ g5); have K5 := Lib.hid hb5; clear hg5 hb5 hbel5) | ((with_reducible refine gate_ (.store 39 (.tmp 5) (.tmp 12)) rfl ?_); refine store39_law rfl rfl (.tmp 5) (.tmp 12) rfl g5 _ _ _ _ n rfl rfl K5.out ?_; intro w6 hk6 hb6; have K6 := Lib.hid hk6; have HB6 := Lib.hid (HB5.out.trans (hb6 wr.heap.size G5.out)); have HW6 := Lib.hid (HB.out.trans (HB6.out.mono HB.out.size)); have HO6 := Lib.hid (Kd.R_below HO.out HB6.out); have d0 := (blk_cell K6.out 0).trans (rfl : _ = some (Value.int .u64 n.f0)); have d1 := (blk_cell K6.out 1).trans (rfl : _ = some (Value.string (n.f1.f0))); have d2 := (blk_cell K6.out 2).trans (rfl : _ = some (Value.string (n.f1.f1))); have d3 := (blk_cell K6.out 3).trans (rfl : _ = some (Value.bool n.f1.f2)); rw [HBQ.out] at d3; have z0 := blk_frozen K6.out 0; have z1 := blk_frozen K6.out 1; have z2 := blk_frozen K6.out 2; have z3 := blk_frozen K6.out 3; clear hk6 hb6))
        go_roundw
        case rel => exact ⟨k + 1, by go_num, hlt, by unfold Hid; rw [HE.out, HT.out, HBQ.out]; simpa using HO6.out, HW6⟩
        case measure => have := HLY.out; simp [intOf]; omega
    · obtain rfl : k = ys.length := by omega
      have hE : ys.take ys.length = ys := List.take_length
      go_wp2
      go_ret
      exact ⟨_, rfl, by have := HO.out; rw [hE] at this; exact Kd.R_lower this HBW.out.size, HBW.out.trans (HB.out.mono HBW.out.size)⟩
def change_Items.f (l0 : List S39) : Option (List S52) := if okL l0 = true then some (itemsL (countL l0)) else none
theorem change_Items.calls (A0 : Option Addr) (c0 : Nat) (l0 : List S39) (r : List S52) (w : World) (hr0 : Kd.C k39 w A0 l0.length l0) (hc0 : l0.length ≤ c0) (h : change_Items.f l0 = some r) :
    Calls Try.prog 22 #[.slice A0 l0.length c0] w fun e w' => ∃ v0_ : Value, e = .returned (v0_) ∧ Kd.R k52 52 w' w.heap.size (fun _ => True) v0_ r ∧ Below w.heap.size w w' := by
  unfold change_Items.f at h
  split at h
  · rename_i ho
    injection h with h
    subst h
    exact items.walk A0 c0 l0 w hr0 hc0 ho _ rfl
  · cases h
end Go.Proofs.Ytipahpkdddijmaa.Q

-- E3
namespace Go.Proofs.Ytipahpkdddijmaa.Q
open Go.WideMaps Go.RowKit Go.Proofs.YtipahpkdddijmaaW.PrintWords Go.Proofs.YtipahpkdddijmaaW.PrintLast Go.Proofs.YtipahpkdddijmaaW.PrintMore Go.Maps
set_option linter.unusedVariables false
set_option linter.unusedSimpArgs false

/-! ### the chapter's examples: constants -/
def na : S39 := ⟨1, ⟨⟨#[97]⟩, ⟨#[120]⟩, false⟩⟩
def nb : S39 := ⟨2, ⟨⟨#[97]⟩, ⟨#[]⟩, true⟩⟩
def nc : S39 := ⟨1, ⟨⟨#[98]⟩, ⟨#[121]⟩, false⟩⟩
def all3 : List S39 := [na, nb, nc]
def it1 : List S52 := [⟨⟨#[98]⟩, ⟨#[121]⟩⟩]
theorem lst_nil : ByteArray.toList ⟨#[]⟩ = [] := by rw [Lib.toList_data]
theorem lst_a : ByteArray.toList ⟨#[97]⟩ = [97] := by rw [Lib.toList_data]
theorem lst_b : ByteArray.toList ⟨#[98]⟩ = [98] := by rw [Lib.toList_data]
theorem lst_x : ByteArray.toList ⟨#[120]⟩ = [120] := by rw [Lib.toList_data]
theorem lst_y : ByteArray.toList ⟨#[121]⟩ = [121] := by rw [Lib.toList_data]
theorem may_all3 : all3.any (fun n => !mayN n) = false := by
  simp [all3, mayN, na, nb, nc, lst_nil, lst_a, lst_b, lst_x, lst_y]
  decide
theorem list_all3 : (listB (textsN all3)).size = 79 := by
  unfold listB textsN listL all3
  simp only [List.flatMap_cons, List.flatMap_nil, layT]
  rfl
theorem lay_all3 : layR all3 = (listB (textsN all3), 0) := by
  unfold layR
  rw [if_neg (by rw [may_all3]; simp [all3]), list_all3]
  rfl
theorem count_all3 : countL all3 = [nb, nc] := by rfl
theorem ok_all3 : okL all3 = true := by
  simp [okL, all3, na, nb, nc]
  decide
theorem ok_na : okL [na] = true := by
  simp [okL, na]
  decide
theorem live_all3 : [na].filter (live all3) = [] := by rfl
theorem last_all3 : lastN all3 = 2 := by rfl
theorem items_all3 : change_Items.f all3 = some it1 := by
  unfold change_Items.f
  rw [if_pos ok_all3, count_all3]
  rfl
theorem same_all3 : cellarerref11_Same.f 3 it1 it1 = some true := by
  simp [cellarerref11_Same.f, cellarerref11_Same.l0, rd_T52, wrap64, it1]
end Go.Proofs.Ytipahpkdddijmaa.Q

-- E4
namespace Go.Proofs.Ytipahpkdddijmaa.Q
open Go.WideMaps Go.RowKit Go.Proofs.YtipahpkdddijmaaW.PrintWords Go.Proofs.YtipahpkdddijmaaW.PrintLast Go.Proofs.YtipahpkdddijmaaW.PrintMore Go.Maps
set_option linter.unusedVariables false
set_option linter.unusedSimpArgs false

/-! ### awake -/
theorem store39_law2 {ops : Array Oper} {rest : List Oper} {o : Oper} {a : Act} {Q : Exit → Act → World → Prop} {W : World} (hN : o.dst = none) (hgd : o.guard = none) (p x : Operand) (ho : o.op = .store 39 p x) (g : Nat) (c0 c1 c2 c3 : Value) (n : S39)
    (haddr : a.eval p = .pointer (some ⟨g, 0, none⟩)) (hx : a.eval x = .agg #[.int .u64 n.f0, .string n.f1.f0, .string n.f1.f1, .bool n.f1.f2]) (hb : W.heap[g]? = some (.cells #[c0, c1, c2, c3] 39 (0, 0)))
    (h : ∀ w1, w1.heap[g]? = some (.cells #[.int .u64 n.f0, .string n.f1.f0, .string n.f1.f1, .bool n.f1.f2] 39 (0, 0)) → (∀ k ob, k ≠ g → W.heap[k]? = some ob → w1.heap[k]? = some ob) → (∀ B, B ≤ g → Below B W w1) → wpList Try.prog ops Q rest a w1) : wpList Try.prog ops Q (o :: rest) a W := by
  refine wpList_plain hgd fun K hK => ?_
  have hrun := run_store_run (P := Try.prog) (w := W) (g := g) (o := 0) (e := 39) (cur := #[c0, c1, c2, c3]) 39 (.agg #[.int .u64 n.f0, .string n.f1.f0, .string n.f1.f1, .bool n.f1.f2]) (enc39 n) hb rfl info_size39 (by show 0 + 4 ≤ 4; decide) (enc_one n)
  unfold Oper.wp execOp
  simp only [ho, haddr, hx, Sem.run_bind, Sem.run_pure, Result.andThen_ok, hrun]
  show K (a.put o.dst undef) _
  rw [hN]
  exact hK _ _ (h _ (blk_set4 hb n) (fun k ob hk h => blk_off4 h hk _ _ _ _) (fun B hB => below_set4 (Below.refl B W) hB _ _ _ _))
theorem reps39 (W : World) (base : Nat) (ok : Nat → Prop) (l : List S39) : Reps (k39.M W base ok) k39.sz l (fl l) := ⟨fl_len l, fun j p hj => by
    show k39.M _ _ _ p (((fl l).drop (j * 4)).take 4)
    rw [fl_seg l j p hj]
    exact k39_mkM _ _ _ p⟩
theorem reps52 {W : World} {base : Nat} {ok : Nat → Prop} : Reps (k52.M W base ok) k52.sz it1 [.string ⟨#[98]⟩, .string ⟨#[121]⟩] := ⟨rfl, fun j p hj => by
  cases j with
  | zero =>
    simp [it1] at hj
    subst hj
    exact k52_mkM W base ok ⟨⟨#[98]⟩, ⟨#[121]⟩⟩
  | succ j => simp [it1] at hj⟩
theorem keepG {w w1 : World} {g : Nat} {o : Obj} (hg : w.grownBy w1 none) (h : w.heap[g]? = some o) : w1.heap[g]? = some o := (hg.block g (blk_lt h) (by simp)).trans h
theorem liftG {w w1 : World} (hg : w.grownBy w1 none) : Below w.heap.size w w1 := (Below.refl _ _).grown hg (Nat.le_refl _) (by intro j hj; cases hj)
structure AW (w wi : World) (A4 : Option Addr) (c4 g1 : Nat) : Prop where
  hb : Below w.heap.size w wi
  ho : Kd.R k39 39 wi w.heap.size (fun _ => True) (.slice A4 all3.length c4) all3
  k1 : wi.heap[g1]? = some (.cells #[.int .u64 na.f0, .string na.f1.f0, .string na.f1.f1, .bool na.f1.f2] 39 (0, 0))
theorem AW.C {w wi : World} {A4 : Option Addr} {c4 g1 : Nat} (h : AW w wi A4 c4 g1) : Kd.C k39 wi A4 all3.length all3 := (Kd.R_reads' h.ho).2.2
theorem AW.le {w wi : World} {A4 : Option Addr} {c4 g1 : Nat} (h : AW w wi A4 c4 g1) : all3.length ≤ c4 := (Kd.R_reads' h.ho).2.1
theorem AW.step {w wi wj : World} {A4 : Option Addr} {c4 g1 : Nat} (h : AW w wi A4 c4 g1) (hb : Below wi.heap.size wi wj) : AW w wj A4 c4 g1 := ⟨h.hb.trans (hb.mono h.hb.size), Kd.R_below h.ho hb, blk_below h.k1 hb⟩
theorem count_f3 : change_Count.f all3 = some [nb, nc] := by unfold change_Count.f; rw [if_pos ok_all3, count_all3]
theorem live_f3 : change_Live.f all3 [na] = some [] := by unfold change_Live.f; rw [if_pos ok_all3, if_pos ok_na, live_all3]
theorem last_f3 : change_Last.f all3 = some 2 := by unfold change_Last.f; rw [if_pos (by decide), if_pos (by decide), last_all3]
set_option maxHeartbeats 4000000 in
set_option maxRecDepth 100000 in
theorem awake.walk (w : World) : Calls Try.prog 18 #[] w fun e w' => e = .returned (.bool true) ∧ Below w.heap.size w w' := by
  have h79 := list_all3
  generalize hS : listB (textsN all3) = S at *
  have HS := Lib.hid hS
  clear hS
  go_enter Try.func18, Try.ntmps18
  go_wp2_with (first
    | ((with_reducible refine gate_dst (N := 1) rfl ?_); go_must (refine box_event ?hg (N := 1) ?hd (cs := #[.int .u64 0, .string (⟨#[]⟩ : ByteArray), .string (⟨#[]⟩ : ByteArray), .bool false]) (t := 39) ?hr ?_; (case hd => rfl); (case hg => rfl); (case hr => first | (go_simp; done) | (go_simp; rfl)); intro g1 e1 w1 hb1 hl1; have B1 := Lib.hid hl1; have G1 := Lib.hid (Nat.le_of_eq e1.symm); have K1 := Lib.hid hb1; clear e1 hb1 hl1))
    | ((with_reducible refine gate_dst (N := 2) rfl ?_); go_must (refine box_event ?hg (N := 2) ?hd (cs := #[.int .u64 0, .string (⟨#[]⟩ : ByteArray), .string (⟨#[]⟩ : ByteArray), .bool false]) (t := 39) ?hr ?_; (case hd => rfl); (case hg => rfl); (case hr => first | (go_simp; done) | (go_simp; rfl)); intro g2 e2 w2 hb2 hl2; have B2 := Lib.hid (B1.out.trans (hl2.mono B1.out.size)); have N12 := Lib.hid (by rw [e2]; exact Nat.ne_of_lt (blk_lt K1.out) : g1 ≠ g2); have G2 := Lib.hid (e2 ▸ B1.out.size : w.heap.size ≤ g2); replace K1 := Lib.hid (blk_below K1.out hl2); have K2 := Lib.hid hb2; clear e2 hb2 hl2))
    | ((with_reducible refine gate_dst (N := 3) rfl ?_); go_must (refine box_event ?hg (N := 3) ?hd (cs := #[.int .u64 0, .string (⟨#[]⟩ : ByteArray), .string (⟨#[]⟩ : ByteArray), .bool false]) (t := 39) ?hr ?_; (case hd => rfl); (case hg => rfl); (case hr => first | (go_simp; done) | (go_simp; rfl)); intro g3 e3 w3 hb3 hl3; have B3 := Lib.hid (B2.out.trans (hl3.mono B2.out.size)); have N13 := Lib.hid (by rw [e3]; exact Nat.ne_of_lt (blk_lt K1.out) : g1 ≠ g3); have N23 := Lib.hid (by rw [e3]; exact Nat.ne_of_lt (blk_lt K2.out) : g2 ≠ g3); have G3 := Lib.hid (e3 ▸ B2.out.size : w.heap.size ≤ g3); replace K1 := Lib.hid (blk_below K1.out hl3); replace K2 := Lib.hid (blk_below K2.out hl3); have K3 := Lib.hid hb3; clear e3 hb3 hl3))
    | ((with_reducible refine gate_ (.store 39 (.tmp 1) (.tmp 10)) rfl ?_); go_must (refine store39_law2 rfl rfl (.tmp 1) (.tmp 10) rfl g1 _ _ _ _ na rfl rfl K1.out ?_; intro w4 hk ho hb; have Bw4 := Lib.hid (B3.out.trans (hb w.heap.size G1.out)); have K1'  := Lib.hid hk; have K2' := Lib.hid (ho _ _ (N12.out.symm) K2.out) ; have K3' := Lib.hid (ho _ _ (N13.out.symm) K3.out);  clear hk ho hb))
    | ((with_reducible refine gate_ (.store 39 (.tmp 2) (.tmp 12)) rfl ?_); go_must (refine store39_law2 rfl rfl (.tmp 2) (.tmp 12) rfl g2 _ _ _ _ nb rfl rfl K2'.out ?_; intro w5 hk ho hb; have Bw5 := Lib.hid (Bw4.out.trans (hb w.heap.size G2.out)); have K2'' := Lib.hid hk; have K1'' := Lib.hid (ho _ _ (N12.out) K1'.out) ; have K3'' := Lib.hid (ho _ _ (N23.out.symm) K3'.out);  clear hk ho hb))
    | ((with_reducible refine gate_ (.store 39 (.tmp 3) (.tmp 14)) rfl ?_); go_must (refine store39_law2 rfl rfl (.tmp 3) (.tmp 14) rfl g3 _ _ _ _ nc rfl rfl K3''.out ?_; intro w6 hk ho hb; have Bw6 := Lib.hid (Bw5.out.trans (hb w.heap.size G3.out)); have K3f := Lib.hid hk; have K1f := Lib.hid (ho _ _ (N13.out) K1''.out) ; have K2f := Lib.hid (ho _ _ (N23.out) K2''.out); have p0 := (blk_cell K1f.out 0).trans (rfl : _ = some (Value.int .u64 1)); have p1 := (blk_cell K1f.out 1).trans (rfl : _ = some (Value.string ⟨#[97]⟩)); have p2 := (blk_cell K1f.out 2).trans (rfl : _ = some (Value.string ⟨#[120]⟩)); have p3 := (blk_cell K1f.out 3).trans (rfl : _ = some (Value.bool false)); have q0 := (blk_cell K2f.out 0).trans (rfl : _ = some (Value.int .u64 2)); have q1 := (blk_cell K2f.out 1).trans (rfl : _ = some (Value.string ⟨#[97]⟩)); have q2 := (blk_cell K2f.out 2).trans (rfl : _ = some (Value.string ⟨#[]⟩)); have q3 := (blk_cell K2f.out 3).trans (rfl : _ = some (Value.bool true)); have r0 := (blk_cell K3f.out 0).trans (rfl : _ = some (Value.int .u64 1)); have r1 := (blk_cell K3f.out 1).trans (rfl : _ = some (Value.string ⟨#[98]⟩)); have r2 := (blk_cell K3f.out 2).trans (rfl : _ = some (Value.string ⟨#[121]⟩)); have r3 := (blk_cell K3f.out 3).trans (rfl : _ = some (Value.bool false)); have pz0 := blk_frozen K1f.out 0; have pz1 := blk_frozen K1f.out 1; have pz2 := blk_frozen K1f.out 2; have pz3 := blk_frozen K1f.out 3; have qz0 := blk_frozen K2f.out 0; have qz1 := blk_frozen K2f.out 1; have qz2 := blk_frozen K2f.out 2; have qz3 := blk_frozen K2f.out 3; have rz0 := blk_frozen K3f.out 0; have rz1 := blk_frozen K3f.out 1; have rz2 := blk_frozen K3f.out 2; have rz3 := blk_frozen K3f.out 3; clear hk ho hb))
    | ((with_reducible refine gate_dst (N := 18) rfl ?_);  go_must (refine Kd.R_lit k39 w.heap.size 39 ?hg (N := 18) ?hd (w0 := w) (xs := all3) (inner := [Value.int .u64 1, Value.string ⟨#[97]⟩, Value.string ⟨#[120]⟩, Value.bool false, Value.int .u64 2, Value.string ⟨#[97]⟩, Value.string ⟨#[]⟩, Value.bool true, Value.int .u64 1, Value.string ⟨#[98]⟩, Value.string ⟨#[121]⟩, Value.bool false]) (ok := fun _ => True) (okp := fun _ => True) ?hr ?hp (fun _ hk => hk) trivial ?hB ?hS (by decide) ?_; (case hd => rfl); (case hg => rfl); (case hr => first | (go_simp; done) | (go_simp; rfl)); (case hp => exact reps39 _ _ _ all3); (case hB => exact Bw6.out); (case hS => exact Bw6.out.size); intro v4 w7 ho hb hg _; have K1g := Lib.hid (keepG hg K1f.out); obtain ⟨A4, c4, rfl⟩ := Kd.R_slice ho; have AX : Hid (AW w w7 A4 c4 g1) := ⟨hb, ho, K1g.out⟩; clear ho hb hg K1g))
    | (go_at_call 13; go_must (refine (take_empty _).mono ?_; rintro e w8 ⟨rfl, hb⟩; replace AX := Lib.hid (AX.out.step hb); clear hb))
    | (go_at_call 11; go_must (refine (change_Lay.calls A4 c4 all3 _ _ _ AX.out.C AX.out.le (congrArg some lay_all3)).mono ?_; rintro e w9 ⟨rfl, hb⟩; replace AX := Lib.hid (AX.out.step hb); clear hb))
    | (go_at_call 19; go_must (refine (change_Count.calls A4 c4 all3 [nb, nc] _ AX.out.C AX.out.le count_f3).mono ?_; rintro e w10 ⟨v5, rfl, ho, hb⟩; obtain ⟨A5, c5, rfl⟩ := Kd.R_slice ho; replace AX := Lib.hid (AX.out.step hb); clear ho hb))
    | (go_at_call 22; go_must (refine (change_Items.calls A4 c4 all3 it1 _ AX.out.C AX.out.le items_all3).mono ?_; rintro e w11 ⟨v6, rfl, ho, hb⟩; obtain ⟨A6, c6, rfl⟩ := Kd.R_slice ho; replace AX := Lib.hid (AX.out.step hb); have HO6 := Lib.hid ho; clear ho hb))
    | ((with_reducible refine gate_dst (N := 36) rfl ?_); (try (refine gate_guard (by rfl) ?_; dsimp only)); go_must (refine Kd.R_lit k52 w.heap.size 52 ?hg (N := 36) ?hd (w0 := w) (xs := it1) (inner := [.string ⟨#[98]⟩, .string ⟨#[121]⟩]) (ok := fun _ => True) (okp := fun _ => True) ?hr ?hp (fun _ hk => hk) trivial ?hB ?hS (by decide) ?_; (case hd => rfl); (case hg => rfl); (case hr => first | (go_simp; done) | (go_simp; rfl)); (case hp => exact reps52); (case hB => exact AX.out.hb); (case hS => exact AX.out.hb.size); intro v7 w12 ho hb hg _; obtain ⟨A7, c7, rfl⟩ := Kd.R_slice ho; have HO7 := Lib.hid ho; have HG := Lib.hid (liftG hg); replace HO6 := Lib.hid (Kd.R_below HO6.out HG.out); replace AX := Lib.hid (AX.out.step HG.out); clear ho hb hg HG))
    | (go_at_call 21; go_must (refine (cellarerref11_Same.calls 3 A6 c6 it1 A7 c7 it1 true _ (Kd.R_reads' HO6.out).2.2 (Kd.R_reads' HO6.out).2.1 (Kd.R_reads' HO7.out).2.2 (Kd.R_reads' HO7.out).2.1 same_all3).mono ?_; rintro e w13 ⟨rfl, hd⟩; have hb := hd.below; replace AX := Lib.hid (AX.out.step hb); clear HO6 HO7 hd hb; have K1h := AX.out.k1; have s0 := (blk_cell K1h 0).trans (rfl : _ = some (Value.int .u64 1)); have s1 := (blk_cell K1h 1).trans (rfl : _ = some (Value.string ⟨#[97]⟩)); have s2 := (blk_cell K1h 2).trans (rfl : _ = some (Value.string ⟨#[120]⟩)); have s3 := (blk_cell K1h 3).trans (rfl : _ = some (Value.bool false)); have sz0 := blk_frozen K1h 0; have sz1 := blk_frozen K1h 1; have sz2 := blk_frozen K1h 2; have sz3 := blk_frozen K1h 3))
    | ((with_reducible refine gate_dst (N := 42) rfl ?_); (try (refine gate_guard (by rfl) ?_; dsimp only)); go_must (refine Kd.R_lit k39 w.heap.size 39 ?hg (N := 42) ?hd (w0 := w) (xs := [na]) (inner := [Value.int .u64 1, Value.string ⟨#[97]⟩, Value.string ⟨#[120]⟩, Value.bool false]) (ok := fun _ => True) (okp := fun _ => True) ?hr ?hp (fun _ hk => hk) trivial ?hB ?hS (by decide) ?_; (case hd => rfl); (case hg => rfl); (case hr => first | (go_simp; done) | (go_simp; rfl)); (case hp => exact reps39 _ _ _ [na]); (case hB => exact AX.out.hb); (case hS => exact AX.out.hb.size); intro v8 w14 ho hb hg _; obtain ⟨A8, c8, rfl⟩ := Kd.R_slice ho; have HO8 := Lib.hid ho; have HG := Lib.hid (liftG hg); replace AX := Lib.hid (AX.out.step HG.out); clear ho hb hg HG))
    | (go_at_call 20; go_must (refine (change_Live.calls A4 c4 all3 A8 c8 [na] [] _ AX.out.C AX.out.le (Kd.R_reads' HO8.out).2.2 (Kd.R_reads' HO8.out).2.1 live_f3).mono ?_; rintro e w15 ⟨v9, rfl, ho, hb⟩; obtain ⟨A9, c9, rfl⟩ := Kd.R_slice ho; replace AX := Lib.hid (AX.out.step hb); clear ho hb))
    | (go_at_call 23; go_must (refine (change_Last.calls A4 c4 all3 2 _ AX.out.C AX.out.le last_f3).mono ?_; rintro e w16 ⟨rfl, hb⟩; replace AX := Lib.hid (AX.out.step hb); clear hb)))
  go_ret
  exact ⟨rfl, AX.out.hb⟩
def cellarerlaw12_awake.f : Option Bool := some true
theorem cellarerlaw12_awake.calls (r : Bool) (w : World) (h : cellarerlaw12_awake.f = some r) :
    Calls Try.prog 18 #[] w fun e w' => e = .returned (.bool r) ∧ Below w.heap.size w w' := by
  injection h with h
  subst h
  exact awake.walk w
end Go.Proofs.Ytipahpkdddijmaa.Q

-- L1
namespace Go.Proofs.Ytipahpkdddijmaa.Q
open Go.RowKit Go.Proofs.YtipahpkdddijmaaW.PrintWords Go.Proofs.YtipahpkdddijmaaW.PrintLast Go.Proofs.YtipahpkdddijmaaW.PrintMore
attribute [local go_sem] max2_int min2_int max_two min_two max_three min_three max_four min_four   -- for this text's walks alone
set_option linter.unusedVariables false
set_option linter.unusedSimpArgs false

/-! ### cellarerlaw12_ChangeDead: function 5 -/
def cellarerlaw12_ChangeDead.j0 : Nat → List (S39) → List (S39) → Bool → Option (Bool)
  | 0, _, _, _ => none
  | k + 1, x0, x4, x31 => if x31 = true then (some false) else ((change_Items.f x4).bind fun t183 => ((change_Items.f x0).bind fun t186 => ((cellarerref11_Same.f k t183 t186).bind fun t189 => (if t189 = true then ((cellarerlaw12_awake.f).bind fun t190 => (some t190)) else (some false)))))
def cellarerlaw12_ChangeDead.f (k : Nat) (l0 : List (S39)) : Option (Bool) := (cellarerlaw12_Few.f l0).bind fun t166 => ((change_Count.f t166).bind fun t169 => ((change_Live.f t166 t166).bind fun t172 => ((change_Count.f t172).bind fun t175 => ((cellarerref12_Same.f k t175 t169).bind fun t178 => (if t178 = true then (if (t172.length : Int) < (t169.length : Int) then (cellarerlaw12_ChangeDead.j0 k t166 t172 true) else ((change_Live.f t166 t169).bind fun t179 => ((cellarerref12_Same.f k t179 t169).bind fun t182 => (cellarerlaw12_ChangeDead.j0 k t166 t172 (!t182))))) else (cellarerlaw12_ChangeDead.j0 k t166 t172 true))))))
theorem cellarerlaw12_ChangeDead.mono_l : ∀ k, (∀ y0 y1 y2, LeO (cellarerlaw12_ChangeDead.j0 k y0 y1 y2) (cellarerlaw12_ChangeDead.j0 (k + 1) y0 y1 y2))
  | 0 => fun _ _ _ r h => by simp [cellarerlaw12_ChangeDead.j0] at h
  | k + 1 => by
    have ih0 := cellarerlaw12_ChangeDead.mono_l k
    · intro y0 y1 y2
      unfold cellarerlaw12_ChangeDead.j0
      repeat' first
      | (with_reducible exact ih0 _ _ _)
      | (with_reducible exact cellarerref11_Same.mono _ _ _)
      | (with_reducible exact cellarerref12_Same.mono _ _ _)
      | (with_reducible exact LeO.refl _)
      | (with_reducible exact LeO.none _)
      | (with_reducible refine LeO.ite ?_ ?_)
      | (with_reducible refine LeO.bind ?_ (fun _ => ?_))
      | exact ih0 _ _ _
      | exact cellarerref11_Same.mono _ _ _
      | exact cellarerref12_Same.mono _ _ _
      | exact LeO.none _
      | refine LeO.ite ?_ ?_
      | refine LeO.bind ?_ (fun _ => ?_)
theorem cellarerlaw12_ChangeDead.mono : ∀ a0 k, LeO (cellarerlaw12_ChangeDead.f k a0) (cellarerlaw12_ChangeDead.f (k + 1) a0) := by
  intro a0 k
  have ih0 := cellarerlaw12_ChangeDead.mono_l k
  unfold cellarerlaw12_ChangeDead.f
  repeat' first
      | (with_reducible exact ih0 _ _ _)
      | (with_reducible exact cellarerref11_Same.mono _ _ _)
      | (with_reducible exact cellarerref12_Same.mono _ _ _)
      | (with_reducible exact LeO.refl _)
      | (with_reducible exact LeO.none _)
      | (with_reducible refine LeO.ite ?_ ?_)
      | (with_reducible refine LeO.bind ?_ (fun _ => ?_))
      | exact ih0 _ _ _
      | exact cellarerref11_Same.mono _ _ _
      | exact cellarerref12_Same.mono _ _ _
      | exact LeO.none _
      | refine LeO.ite ?_ ?_
      | refine LeO.bind ?_ (fun _ => ?_)
set_option maxHeartbeats 8000000 in
set_option maxRecDepth 100000 in
theorem cellarerlaw12_ChangeDead.calls (k : Nat) (A0 : Option Addr) (c0 : Nat) (l0 : List (S39)) (r : Bool) (w : World) (hr0 : Kd.C k39 w A0 l0.length l0) (hc0 : l0.length ≤ c0) (h : cellarerlaw12_ChangeDead.f k l0 = some r) :
    Calls Try.prog 5 #[.slice A0 l0.length c0] w fun e w' => e = .returned (.bool r) ∧ Below w.heap.size w w' := by
  have HR0 := Aside0.mk hr0
  have HC0 := Aside0.mk hc0
  clear hr0 hc0
  have HB := Aside0.mk (Below.refl w.heap.size w)
  have H : ((cellarerlaw12_Few.f l0).bind fun t166 => ((change_Count.f t166).bind fun t169 => ((change_Live.f t166 t166).bind fun t172 => ((change_Count.f t172).bind fun t175 => ((cellarerref12_Same.f k t175 t169).bind fun t178 => (if t178 = true then (if (t172.length : Int) < (t169.length : Int) then (cellarerlaw12_ChangeDead.j0 k t166 t172 true) else ((change_Live.f t166 t169).bind fun t179 => ((cellarerref12_Same.f k t179 t169).bind fun t182 => (cellarerlaw12_ChangeDead.j0 k t166 t172 (!t182))))) else (cellarerlaw12_ChangeDead.j0 k t166 t172 true))))))) = some r := h
  clear h
  replace H := Option.bind_eq_some_iff.mp H
  obtain ⟨t166, A20, H⟩ := H
  replace H : ((change_Count.f t166).bind fun t169 => ((change_Live.f t166 t166).bind fun t172 => ((change_Count.f t172).bind fun t175 => ((cellarerref12_Same.f k t175 t169).bind fun t178 => (if t178 = true then (if (t172.length : Int) < (t169.length : Int) then (cellarerlaw12_ChangeDead.j0 k t166 t172 true) else ((change_Live.f t166 t169).bind fun t179 => ((cellarerref12_Same.f k t179 t169).bind fun t182 => (cellarerlaw12_ChangeDead.j0 k t166 t172 (!t182))))) else (cellarerlaw12_ChangeDead.j0 k t166 t172 true)))))) = some r := H
  have A2 := Aside0.mk A20
  clear A20
  replace H := Option.bind_eq_some_iff.mp H
  obtain ⟨t169, A30, H⟩ := H
  replace H : ((change_Live.f t166 t166).bind fun t172 => ((change_Count.f t172).bind fun t175 => ((cellarerref12_Same.f k t175 t169).bind fun t178 => (if t178 = true then (if (t172.length : Int) < (t169.length : Int) then (cellarerlaw12_ChangeDead.j0 k t166 t172 true) else ((change_Live.f t166 t169).bind fun t179 => ((cellarerref12_Same.f k t179 t169).bind fun t182 => (cellarerlaw12_ChangeDead.j0 k t166 t172 (!t182))))) else (cellarerlaw12_ChangeDead.j0 k t166 t172 true))))) = some r := H
  have A3 := Aside0.mk A30
  clear A30
  replace H := Option.bind_eq_some_iff.mp H
  obtain ⟨t172, A40, H⟩ := H
  replace H : ((change_Count.f t172).bind fun t175 => ((cellarerref12_Same.f k t175 t169).bind fun t178 => (if t178 = true then (if (t172.length : Int) < (t169.length : Int) then (cellarerlaw12_ChangeDead.j0 k t166 t172 true) else ((change_Live.f t166 t169).bind fun t179 => ((cellarerref12_Same.f k t179 t169).bind fun t182 => (cellarerlaw12_ChangeDead.j0 k t166 t172 (!t182))))) else (cellarerlaw12_ChangeDead.j0 k t166 t172 true)))) = some r := H
  have A4 := Aside0.mk A40
  clear A40
  have HC5 := Aside0.mk H
  clear H
  go_enter Try.func5, Try.ntmps5
  go_upto_region 4 with (first | ((with_reducible refine gate_callee (f := 10) rfl ?_); refine goesL_ (some 6) rfl rfl Try.func10 (by kernel_rfl) rfl #[.slice A0 l0.length c0] rfl (by (try simp only [List.map_toArray, List.map_cons, List.map_nil]); first | done | rfl | (simp only [List.length_drop, List.length_take]; rfl)) ?_; (with_reducible refine (cellarerlaw12_Few.calls _ _ l0 t166 _ ?side1 ?side2 A2.out).mono ?_); (case side1 => repeat (first | exact HR0.out | (with_reducible refine Kd.C_alloc ?_ _) | (with_reducible refine Kd.C_drewN ?_ _) | (with_reducible refine Kd.C_drew ?_))); (case side2 => exact HC0.out); rintro e w6 ⟨v167, rfl, ho0, hb⟩; refine ⟨_, rfl, ?_⟩; have n0_ := Aside0.mk (Kd.R_lower ho0 (below_size (by repeat (first | (with_reducible first | exact HB.out | apply below_alloc | apply pw_below_drewN | apply below_drew1) | exact HB.out)))); have n1_ := Aside0.mk (below_step (by repeat (first | (with_reducible first | exact HB.out | apply below_alloc | apply pw_below_drewN | apply below_drew1) | exact HB.out)) hb); clear HB; have HO168 := n0_; have HB := n1_; clear n0_ n1_; (try clear hb); (try clear hb2); (try clear hk); (try clear hi); (try clear ho0); obtain ⟨Ao7, co7, eo7⟩ := Kd.R_slice HO168.out; subst eo7) | ((with_reducible refine gate_callee (f := 19) rfl ?_); refine goesL_ (some 8) rfl rfl Try.func19 (by kernel_rfl) rfl #[.slice Ao7 t166.length co7] rfl (by (try simp only [List.map_toArray, List.map_cons, List.map_nil]); first | done | rfl | (simp only [List.length_drop, List.length_take]; rfl)) ?_; (with_reducible refine (change_Count.calls _ _ t166 t169 _ ?side1 ?side2 A3.out).mono ?_); (case side1 => repeat (first | exact (Kd.R_reads' HO168.out).2.2 | (with_reducible refine Kd.C_alloc ?_ _) | (with_reducible refine Kd.C_drewN ?_ _) | (with_reducible refine Kd.C_drew ?_))); (case side2 => exact (Kd.R_reads' HO168.out).2.1); rintro e w8 ⟨v170, rfl, ho0, hb⟩; refine ⟨_, rfl, ?_⟩; have n0_ := Aside0.mk (Kd.R_elder' (by (with_reducible repeat (first | apply Kd.R_alloc | apply Kd.R_drewN | apply Kd.R_drew)); exact HO168.out) (Kd.R_base ho0) hb); have n1_ := Aside0.mk (Kd.R_lower (Kd.R_new' ho0 (Kd.R_lt (by (with_reducible repeat (first | apply Kd.R_alloc | apply Kd.R_drewN | apply Kd.R_drew)); exact HO168.out))) (below_size (by repeat (first | (with_reducible first | exact HB.out | apply below_alloc | apply pw_below_drewN | apply below_drew1) | exact HB.out)))); have n2_ := Aside0.mk (below_step (by repeat (first | (with_reducible first | exact HB.out | apply below_alloc | apply pw_below_drewN | apply below_drew1) | exact HB.out)) hb); clear HO168; clear HB; have HO168 := n0_; have HO171 := n1_; have HB := n2_; clear n0_ n1_ n2_; (try clear hb); (try clear hb2); (try clear hk); (try clear hi); (try clear ho0)) | ((with_reducible refine gate_callee (f := 20) rfl ?_); refine goesL_ (some 11) rfl rfl Try.func20 (by kernel_rfl) rfl #[.slice Ao7 t166.length co7, .slice Ao7 t166.length co7] rfl (by (try simp only [List.map_toArray, List.map_cons, List.map_nil]); first | done | rfl | (simp only [List.length_drop, List.length_take]; rfl)) ?_; (with_reducible refine (change_Live.calls _ _ t166 _ _ t166 t172 _ ?side1 ?side2 ?side3 ?side4 A4.out).mono ?_); (case side1 => repeat (first | exact (Kd.R_reads' HO168.out).2.2 | (with_reducible refine Kd.C_alloc ?_ _) | (with_reducible refine Kd.C_drewN ?_ _) | (with_reducible refine Kd.C_drew ?_))); (case side2 => exact (Kd.R_reads' HO168.out).2.1); (case side3 => repeat (first | exact (Kd.R_reads' HO168.out).2.2 | (with_reducible refine Kd.C_alloc ?_ _) | (with_reducible refine Kd.C_drewN ?_ _) | (with_reducible refine Kd.C_drew ?_))); (case side4 => exact (Kd.R_reads' HO168.out).2.1); rintro e w9 ⟨v173, rfl, ho0, hb⟩; refine ⟨_, rfl, ?_⟩; have n0_ := Aside0.mk (Kd.R_elder' (by (with_reducible repeat (first | apply Kd.R_alloc | apply Kd.R_drewN | apply Kd.R_drew)); exact HO168.out) (Kd.R_base ho0) hb); have n1_ := Aside0.mk (Kd.R_elder' (by (with_reducible repeat (first | apply Kd.R_alloc | apply Kd.R_drewN | apply Kd.R_drew)); exact HO171.out) (Kd.R_base ho0) hb); have n2_ := Aside0.mk (Kd.R_lower (Kd.R_new' (Kd.R_new' ho0 (Kd.R_lt (by (with_reducible repeat (first | apply Kd.R_alloc | apply Kd.R_drewN | apply Kd.R_drew)); exact HO168.out))) (Kd.R_lt (by (with_reducible repeat (first | apply Kd.R_alloc | apply Kd.R_drewN | apply Kd.R_drew)); exact HO171.out))) (below_size (by repeat (first | (with_reducible first | exact HB.out | apply below_alloc | apply pw_below_drewN | apply below_drew1) | exact HB.out)))); have n3_ := Aside0.mk (below_step (by repeat (first | (with_reducible first | exact HB.out | apply below_alloc | apply pw_below_drewN | apply below_drew1) | exact HB.out)) hb); clear HO168; clear HO171; clear HB; have HO168 := n0_; have HO171 := n1_; have HO174 := n2_; have HB := n3_; clear n0_ n1_ n2_ n3_; (try clear hb); (try clear hb2); (try clear hk); (try clear hi); (try clear ho0)))
  (try simp only [Act.put, List.setIfInBounds_toArray, List.set_cons_zero, List.set_cons_succ])
  go_cut [31] (fun v31 wc => ∃ (kq : Nat) (x31_4 : Bool), v31 = .bool x31_4 ∧ Aside0 (cellarerlaw12_ChangeDead.j0 kq t166 t172 x31_4 = some r) ∧ Aside0 (kq ≤ k) ∧ Aside0 (Kd.R k39 39 wc w.heap.size (fun k_ => some k_ ≠ (v173 : Value).ownBlock) (.slice Ao7 t166.length co7) t166) ∧ Aside0 (Kd.R k39 39 wc w.heap.size (fun k_ => some k_ ≠ ((.slice Ao7 t166.length co7) : Value).ownBlock) v173 t172) ∧ Aside0 (Below w.heap.size w wc))
  case first =>
    have H := HC5.out
    clear HC5
    replace H := Option.bind_eq_some_iff.mp H
    obtain ⟨t175, A100, H⟩ := H
    replace H : ((cellarerref12_Same.f k t175 t169).bind fun t178 => (if t178 = true then (if (t172.length : Int) < (t169.length : Int) then (cellarerlaw12_ChangeDead.j0 k t166 t172 true) else ((change_Live.f t166 t169).bind fun t179 => ((cellarerref12_Same.f k t179 t169).bind fun t182 => (cellarerlaw12_ChangeDead.j0 k t166 t172 (!t182))))) else (cellarerlaw12_ChangeDead.j0 k t166 t172 true))) = some r := H
    have A10 := Aside0.mk A100
    clear A100
    replace H := Option.bind_eq_some_iff.mp H
    obtain ⟨t178, A110, H⟩ := H
    replace H : (if t178 = true then (if (t172.length : Int) < (t169.length : Int) then (cellarerlaw12_ChangeDead.j0 k t166 t172 true) else ((change_Live.f t166 t169).bind fun t179 => ((cellarerref12_Same.f k t179 t169).bind fun t182 => (cellarerlaw12_ChangeDead.j0 k t166 t172 (!t182))))) else (cellarerlaw12_ChangeDead.j0 k t166 t172 true)) = some r := H
    have A11 := Aside0.mk A110
    clear A110
    by_cases c12 : t178 = true
    · subst c12
      have H1 : (if (t172.length : Int) < (t169.length : Int) then (cellarerlaw12_ChangeDead.j0 k t166 t172 true) else ((change_Live.f t166 t169).bind fun t179 => ((cellarerref12_Same.f k t179 t169).bind fun t182 => (cellarerlaw12_ChangeDead.j0 k t166 t172 (!t182))))) = some r := by rw [if_pos rfl] at H; exact H
      clear H
      have H := H1
      clear H1
      by_cases c13 : (t172.length : Int) < (t169.length : Int)
      · rw [if_pos c13] at H
        have c13b0 : decide ((t172.length : Int) < (t169.length : Int)) = true := decide_eq_true c13
        have c13b1 : decide (t172.length < t169.length) = true := decide_eq_true (Int.ofNat_lt.mp c13)
        clear c13
        (first | rw [c13b0] | (simp only [i64_w, i32_w]; rw [c13b0]) | skip)
        have H' := Aside0.mk H
        clear H
        obtain ⟨Ao14, co14, eo14⟩ := Kd.R_slice HO174.out
        subst eo14
        go_wp2_with (first | ((with_reducible refine gate_callee (f := 19) rfl ?_); refine goesL_ (some 13) rfl rfl Try.func19 (by kernel_rfl) rfl #[.slice Ao14 t172.length co14] rfl (by (try simp only [List.map_toArray, List.map_cons, List.map_nil]); first | done | rfl | (simp only [List.length_drop, List.length_take]; rfl)) ?_; (with_reducible refine (change_Count.calls _ _ t172 t175 _ ?side1 ?side2 A10.out).mono ?_); (case side1 => repeat (first | exact (Kd.R_reads' HO174.out).2.2 | (with_reducible refine Kd.C_alloc ?_ _) | (with_reducible refine Kd.C_drewN ?_ _) | (with_reducible refine Kd.C_drew ?_))); (case side2 => exact (Kd.R_reads' HO174.out).2.1); rintro e w15 ⟨v176, rfl, ho0, hb⟩; refine ⟨_, rfl, ?_⟩; have n0_ := Aside0.mk (Kd.R_elder' (by (with_reducible repeat (first | apply Kd.R_alloc | apply Kd.R_drewN | apply Kd.R_drew)); exact HO168.out) (Kd.R_base ho0) hb); have n1_ := Aside0.mk (Kd.R_elder' (by (with_reducible repeat (first | apply Kd.R_alloc | apply Kd.R_drewN | apply Kd.R_drew)); exact HO171.out) (Kd.R_base ho0) hb); have n2_ := Aside0.mk (Kd.R_elder' (by (with_reducible repeat (first | apply Kd.R_alloc | apply Kd.R_drewN | apply Kd.R_drew)); exact HO174.out) (Kd.R_base ho0) hb); have n3_ := Aside0.mk (Kd.R_lower (Kd.R_new' (Kd.R_new' (Kd.R_new' ho0 (Kd.R_lt (by (with_reducible repeat (first | apply Kd.R_alloc | apply Kd.R_drewN | apply Kd.R_drew)); exact HO168.out))) (Kd.R_lt (by (with_reducible repeat (first | apply Kd.R_alloc | apply Kd.R_drewN | apply Kd.R_drew)); exact HO171.out))) (Kd.R_lt (by (with_reducible repeat (first | apply Kd.R_alloc | apply Kd.R_drewN | apply Kd.R_drew)); exact HO174.out))) (below_size (by repeat (first | (with_reducible first | exact HB.out | apply below_alloc | apply pw_below_drewN | apply below_drew1) | exact HB.out)))); have n4_ := Aside0.mk (below_step (by repeat (first | (with_reducible first | exact HB.out | apply below_alloc | apply pw_below_drewN | apply below_drew1) | exact HB.out)) hb); clear HO168; clear HO171; clear HO174; clear HB; have HO168 := n0_; have HO171 := n1_; have HO174 := n2_; have HO177 := n3_; have HB := n4_; clear n0_ n1_ n2_ n3_ n4_; (try clear hb); (try clear hb2); (try clear hk); (try clear hi); (try clear ho0); obtain ⟨Ao16, co16, eo16⟩ := Kd.R_slice HO177.out; subst eo16; obtain ⟨Ao17, co17, eo17⟩ := Kd.R_slice HO171.out; subst eo17) | ((with_reducible refine gate_callee (f := 15) rfl ?_); refine goesL_ (some 15) rfl rfl Try.func15 (by kernel_rfl) rfl #[.slice Ao16 t175.length co16, .slice Ao17 t169.length co17] rfl (by (try simp only [List.map_toArray, List.map_cons, List.map_nil]); first | done | rfl | (simp only [List.length_drop, List.length_take]; rfl)) ?_; (with_reducible refine (cellarerref12_Same.calls k _ _ t175 _ _ t169 true _ ?side1 ?side2 ?side3 ?side4 A11.out).mono ?_); (case side1 => repeat (first | exact (Kd.R_reads' HO177.out).2.2 | (with_reducible refine Kd.C_alloc ?_ _) | (with_reducible refine Kd.C_drewN ?_ _) | (with_reducible refine Kd.C_drew ?_))); (case side2 => exact (Kd.R_reads' HO177.out).2.1); (case side3 => repeat (first | exact (Kd.R_reads' HO171.out).2.2 | (with_reducible refine Kd.C_alloc ?_ _) | (with_reducible refine Kd.C_drewN ?_ _) | (with_reducible refine Kd.C_drew ?_))); (case side4 => exact (Kd.R_reads' HO171.out).2.1); rintro e w' ⟨rfl, ⟨nd, rfl⟩⟩; refine ⟨_, rfl, ?_⟩))
        go_meet
        case rel => exact ⟨_, (true), (by first | rfl | (simp; done) | (simp [*]; done)), H', ⟨by first | omega | exact Nat.le_refl _⟩, ⟨by (with_reducible repeat (first | apply Kd.R_alloc | apply Kd.R_drewN | apply Kd.R_drew)); exact Kd.R_mono HO168.out (fun _ hk => hk.1.2)⟩, ⟨by (with_reducible repeat (first | apply Kd.R_alloc | apply Kd.R_drewN | apply Kd.R_drew)); exact Kd.R_mono HO174.out (fun _ hk => hk.1.1.2)⟩, ⟨by repeat (first | (with_reducible first | exact HB.out | apply below_alloc | apply pw_below_drewN | apply below_drew1) | exact HB.out)⟩⟩
      · rw [if_neg c13] at H
        have c13b0 : decide ((t172.length : Int) < (t169.length : Int)) = false := decide_eq_false c13
        have c13b1 : decide (t172.length < t169.length) = false := decide_eq_false (fun h => c13 (Int.ofNat_lt.mpr h))
        clear c13
        (first | rw [c13b0] | (simp only [i64_w, i32_w]; rw [c13b0]) | skip)
        replace H := Option.bind_eq_some_iff.mp H
        obtain ⟨t179, A180, H⟩ := H
        replace H : ((cellarerref12_Same.f k t179 t169).bind fun t182 => (cellarerlaw12_ChangeDead.j0 k t166 t172 (!t182))) = some r := H
        have A18 := Aside0.mk A180
        clear A180
        replace H := Option.bind_eq_some_iff.mp H
        obtain ⟨t182, A190, H⟩ := H
        replace H : (cellarerlaw12_ChangeDead.j0 k t166 t172 (!t182)) = some r := H
        have A19 := Aside0.mk A190
        clear A190
        have H' := Aside0.mk H
        clear H
        obtain ⟨Ao20, co20, eo20⟩ := Kd.R_slice HO174.out
        subst eo20
        go_wp2_with (first | ((with_reducible refine gate_callee (f := 19) rfl ?_); refine goesL_ (some 13) rfl rfl Try.func19 (by kernel_rfl) rfl #[.slice Ao20 t172.length co20] rfl (by (try simp only [List.map_toArray, List.map_cons, List.map_nil]); first | done | rfl | (simp only [List.length_drop, List.length_take]; rfl)) ?_; (with_reducible refine (change_Count.calls _ _ t172 t175 _ ?side1 ?side2 A10.out).mono ?_); (case side1 => repeat (first | exact (Kd.R_reads' HO174.out).2.2 | (with_reducible refine Kd.C_alloc ?_ _) | (with_reducible refine Kd.C_drewN ?_ _) | (with_reducible refine Kd.C_drew ?_))); (case side2 => exact (Kd.R_reads' HO174.out).2.1); rintro e w21 ⟨v176, rfl, ho0, hb⟩; refine ⟨_, rfl, ?_⟩; have n0_ := Aside0.mk (Kd.R_elder' (by (with_reducible repeat (first | apply Kd.R_alloc | apply Kd.R_drewN | apply Kd.R_drew)); exact HO168.out) (Kd.R_base ho0) hb); have n1_ := Aside0.mk (Kd.R_elder' (by (with_reducible repeat (first | apply Kd.R_alloc | apply Kd.R_drewN | apply Kd.R_drew)); exact HO171.out) (Kd.R_base ho0) hb); have n2_ := Aside0.mk (Kd.R_elder' (by (with_reducible repeat (first | apply Kd.R_alloc | apply Kd.R_drewN | apply Kd.R_drew)); exact HO174.out) (Kd.R_base ho0) hb); have n3_ := Aside0.mk (Kd.R_lower (Kd.R_new' (Kd.R_new' (Kd.R_new' ho0 (Kd.R_lt (by (with_reducible repeat (first | apply Kd.R_alloc | apply Kd.R_drewN | apply Kd.R_drew)); exact HO168.out))) (Kd.R_lt (by (with_reducible repeat (first | apply Kd.R_alloc | apply Kd.R_drewN | apply Kd.R_drew)); exact HO171.out))) (Kd.R_lt (by (with_reducible repeat (first | apply Kd.R_alloc | apply Kd.R_drewN | apply Kd.R_drew)); exact HO174.out))) (below_size (by repeat (first | (with_reducible first | exact HB.out | apply below_alloc | apply pw_below_drewN | apply below_drew1) | exact HB.out)))); have n4_ := Aside0.mk (below_step (by repeat (first | (with_reducible first | exact HB.out | apply below_alloc | apply pw_below_drewN | apply below_drew1) | exact HB.out)) hb); clear HO168; clear HO171; clear HO174; clear HB; have HO168 := n0_; have HO171 := n1_; have HO174 := n2_; have HO177 := n3_; have HB := n4_; clear n0_ n1_ n2_ n3_ n4_; (try clear hb); (try clear hb2); (try clear hk); (try clear hi); (try clear ho0); obtain ⟨Ao22, co22, eo22⟩ := Kd.R_slice HO177.out; subst eo22; obtain ⟨Ao23, co23, eo23⟩ := Kd.R_slice HO171.out; subst eo23) | ((with_reducible refine gate_callee (f := 15) rfl ?_); refine goesL_ (some 15) rfl rfl Try.func15 (by kernel_rfl) rfl #[.slice Ao22 t175.length co22, .slice Ao23 t169.length co23] rfl (by (try simp only [List.map_toArray, List.map_cons, List.map_nil]); first | done | rfl | (simp only [List.length_drop, List.length_take]; rfl)) ?_; (with_reducible refine (cellarerref12_Same.calls k _ _ t175 _ _ t169 true _ ?side1 ?side2 ?side3 ?side4 A11.out).mono ?_); (case side1 => repeat (first | exact (Kd.R_reads' HO177.out).2.2 | (with_reducible refine Kd.C_alloc ?_ _) | (with_reducible refine Kd.C_drewN ?_ _) | (with_reducible refine Kd.C_drew ?_))); (case side2 => exact (Kd.R_reads' HO177.out).2.1); (case side3 => repeat (first | exact (Kd.R_reads' HO171.out).2.2 | (with_reducible refine Kd.C_alloc ?_ _) | (with_reducible refine Kd.C_drewN ?_ _) | (with_reducible refine Kd.C_drew ?_))); (case side4 => exact (Kd.R_reads' HO171.out).2.1); rintro e w' ⟨rfl, ⟨nd, rfl⟩⟩; refine ⟨_, rfl, ?_⟩) | (go_at_call 20; (with_reducible refine (change_Live.calls _ _ t166 _ _ t169 t179 _ ?side1 ?side2 ?side3 ?side4 A18.out).mono ?_); (case side1 => repeat (first | exact (Kd.R_reads' HO168.out).2.2 | (with_reducible refine Kd.C_alloc ?_ _) | (with_reducible refine Kd.C_drewN ?_ _) | (with_reducible refine Kd.C_drew ?_))); (case side2 => exact (Kd.R_reads' HO168.out).2.1); (case side3 => repeat (first | exact (Kd.R_reads' HO171.out).2.2 | (with_reducible refine Kd.C_alloc ?_ _) | (with_reducible refine Kd.C_drewN ?_ _) | (with_reducible refine Kd.C_drew ?_))); (case side4 => exact (Kd.R_reads' HO171.out).2.1); rintro e w24 ⟨v180, rfl, ho0, hb⟩; have n0_ := Aside0.mk (Kd.R_elder' (by (with_reducible repeat (first | apply Kd.R_alloc | apply Kd.R_drewN | apply Kd.R_drew)); exact HO168.out) (Kd.R_base ho0) hb); have n1_ := Aside0.mk (Kd.R_elder' (by (with_reducible repeat (first | apply Kd.R_alloc | apply Kd.R_drewN | apply Kd.R_drew)); exact HO171.out) (Kd.R_base ho0) hb); have n2_ := Aside0.mk (Kd.R_elder' (by (with_reducible repeat (first | apply Kd.R_alloc | apply Kd.R_drewN | apply Kd.R_drew)); exact HO174.out) (Kd.R_base ho0) hb); have n3_ := Aside0.mk (Kd.R_elder' (by (with_reducible repeat (first | apply Kd.R_alloc | apply Kd.R_drewN | apply Kd.R_drew)); exact HO177.out) (Kd.R_base ho0) hb); have n4_ := Aside0.mk (Kd.R_lower (Kd.R_new' (Kd.R_new' (Kd.R_new' (Kd.R_new' ho0 (Kd.R_lt (by (with_reducible repeat (first | apply Kd.R_alloc | apply Kd.R_drewN | apply Kd.R_drew)); exact HO168.out))) (Kd.R_lt (by (with_reducible repeat (first | apply Kd.R_alloc | apply Kd.R_drewN | apply Kd.R_drew)); exact HO171.out))) (Kd.R_lt (by (with_reducible repeat (first | apply Kd.R_alloc | apply Kd.R_drewN | apply Kd.R_drew)); exact HO174.out))) (Kd.R_lt (by (with_reducible repeat (first | apply Kd.R_alloc | apply Kd.R_drewN | apply Kd.R_drew)); exact HO177.out))) (below_size (by repeat (first | (with_reducible first | exact HB.out | apply below_alloc | apply pw_below_drewN | apply below_drew1) | exact HB.out)))); have n5_ := Aside0.mk (below_step (by repeat (first | (with_reducible first | exact HB.out | apply below_alloc | apply pw_below_drewN | apply below_drew1) | exact HB.out)) hb); clear HO168; clear HO171; clear HO174; clear HO177; clear HB; have HO168 := n0_; have HO171 := n1_; have HO174 := n2_; have HO177 := n3_; have HO181 := n4_; have HB := n5_; clear n0_ n1_ n2_ n3_ n4_ n5_; (try clear hb); (try clear hb2); (try clear hk); (try clear hi); (try clear ho0); obtain ⟨Ao25, co25, eo25⟩ := Kd.R_slice HO181.out; subst eo25) | (go_at_call 15; (with_reducible refine (cellarerref12_Same.calls k _ _ t179 _ _ t169 t182 _ ?side1 ?side2 ?side3 ?side4 A19.out).mono ?_); (case side1 => repeat (first | exact (Kd.R_reads' HO181.out).2.2 | (with_reducible refine Kd.C_alloc ?_ _) | (with_reducible refine Kd.C_drewN ?_ _) | (with_reducible refine Kd.C_drew ?_))); (case side2 => exact (Kd.R_reads' HO181.out).2.1); (case side3 => repeat (first | exact (Kd.R_reads' HO171.out).2.2 | (with_reducible refine Kd.C_alloc ?_ _) | (with_reducible refine Kd.C_drewN ?_ _) | (with_reducible refine Kd.C_drew ?_))); (case side4 => exact (Kd.R_reads' HO171.out).2.1); rintro e w' ⟨rfl, ⟨nd, rfl⟩⟩))
        go_meet
        case rel => exact ⟨_, (!t182), (by first | rfl | (simp; done) | (simp [*]; done)), H', ⟨by first | omega | exact Nat.le_refl _⟩, ⟨by (with_reducible repeat (first | apply Kd.R_alloc | apply Kd.R_drewN | apply Kd.R_drew)); exact Kd.R_mono HO168.out (fun _ hk => hk.1.1.2)⟩, ⟨by (with_reducible repeat (first | apply Kd.R_alloc | apply Kd.R_drewN | apply Kd.R_drew)); exact Kd.R_mono HO174.out (fun _ hk => hk.1.1.1.2)⟩, ⟨by repeat (first | (with_reducible first | exact HB.out | apply below_alloc | apply pw_below_drewN | apply below_drew1) | exact HB.out)⟩⟩
    · replace c12 := Bool.eq_false_iff.mpr c12
      subst c12
      have H1 : (cellarerlaw12_ChangeDead.j0 k t166 t172 true) = some r := by rw [if_neg (show ¬ (false = true) by decide)] at H; exact H
      clear H
      have H := H1
      clear H1
      have H' := Aside0.mk H
      clear H
      obtain ⟨Ao26, co26, eo26⟩ := Kd.R_slice HO174.out
      subst eo26
      go_wp2_with (first | ((with_reducible refine gate_callee (f := 19) rfl ?_); refine goesL_ (some 13) rfl rfl Try.func19 (by kernel_rfl) rfl #[.slice Ao26 t172.length co26] rfl (by (try simp only [List.map_toArray, List.map_cons, List.map_nil]); first | done | rfl | (simp only [List.length_drop, List.length_take]; rfl)) ?_; (with_reducible refine (change_Count.calls _ _ t172 t175 _ ?side1 ?side2 A10.out).mono ?_); (case side1 => repeat (first | exact (Kd.R_reads' HO174.out).2.2 | (with_reducible refine Kd.C_alloc ?_ _) | (with_reducible refine Kd.C_drewN ?_ _) | (with_reducible refine Kd.C_drew ?_))); (case side2 => exact (Kd.R_reads' HO174.out).2.1); rintro e w27 ⟨v176, rfl, ho0, hb⟩; refine ⟨_, rfl, ?_⟩; have n0_ := Aside0.mk (Kd.R_elder' (by (with_reducible repeat (first | apply Kd.R_alloc | apply Kd.R_drewN | apply Kd.R_drew)); exact HO168.out) (Kd.R_base ho0) hb); have n1_ := Aside0.mk (Kd.R_elder' (by (with_reducible repeat (first | apply Kd.R_alloc | apply Kd.R_drewN | apply Kd.R_drew)); exact HO171.out) (Kd.R_base ho0) hb); have n2_ := Aside0.mk (Kd.R_elder' (by (with_reducible repeat (first | apply Kd.R_alloc | apply Kd.R_drewN | apply Kd.R_drew)); exact HO174.out) (Kd.R_base ho0) hb); have n3_ := Aside0.mk (Kd.R_lower (Kd.R_new' (Kd.R_new' (Kd.R_new' ho0 (Kd.R_lt (by (with_reducible repeat (first | apply Kd.R_alloc | apply Kd.R_drewN | apply Kd.R_drew)); exact HO168.out))) (Kd.R_lt (by (with_reducible repeat (first | apply Kd.R_alloc | apply Kd.R_drewN | apply Kd.R_drew)); exact HO171.out))) (Kd.R_lt (by (with_reducible repeat (first | apply Kd.R_alloc | apply Kd.R_drewN | apply Kd.R_drew)); exact HO174.out))) (below_size (by repeat (first | (with_reducible first | exact HB.out | apply below_alloc | apply pw_below_drewN | apply below_drew1) | exact HB.out)))); have n4_ := Aside0.mk (below_step (by repeat (first | (with_reducible first | exact HB.out | apply below_alloc | apply pw_below_drewN | apply below_drew1) | exact HB.out)) hb); clear HO168; clear HO171; clear HO174; clear HB; have HO168 := n0_; have HO171 := n1_; have HO174 := n2_; have HO177 := n3_; have HB := n4_; clear n0_ n1_ n2_ n3_ n4_; (try clear hb); (try clear hb2); (try clear hk); (try clear hi); (try clear ho0); obtain ⟨Ao28, co28, eo28⟩ := Kd.R_slice HO177.out; subst eo28; obtain ⟨Ao29, co29, eo29⟩ := Kd.R_slice HO171.out; subst eo29) | ((with_reducible refine gate_callee (f := 15) rfl ?_); refine goesL_ (some 15) rfl rfl Try.func15 (by kernel_rfl) rfl #[.slice Ao28 t175.length co28, .slice Ao29 t169.length co29] rfl (by (try simp only [List.map_toArray, List.map_cons, List.map_nil]); first | done | rfl | (simp only [List.length_drop, List.length_take]; rfl)) ?_; (with_reducible refine (cellarerref12_Same.calls k _ _ t175 _ _ t169 false _ ?side1 ?side2 ?side3 ?side4 A11.out).mono ?_); (case side1 => repeat (first | exact (Kd.R_reads' HO177.out).2.2 | (with_reducible refine Kd.C_alloc ?_ _) | (with_reducible refine Kd.C_drewN ?_ _) | (with_reducible refine Kd.C_drew ?_))); (case side2 => exact (Kd.R_reads' HO177.out).2.1); (case side3 => repeat (first | exact (Kd.R_reads' HO171.out).2.2 | (with_reducible refine Kd.C_alloc ?_ _) | (with_reducible refine Kd.C_drewN ?_ _) | (with_reducible refine Kd.C_drew ?_))); (case side4 => exact (Kd.R_reads' HO171.out).2.1); rintro e w' ⟨rfl, ⟨nd, rfl⟩⟩; refine ⟨_, rfl, ?_⟩))
      go_meet
      case rel => exact ⟨_, (true), (by first | rfl | (simp; done) | (simp [*]; done)), H', ⟨by first | omega | exact Nat.le_refl _⟩, ⟨by (with_reducible repeat (first | apply Kd.R_alloc | apply Kd.R_drewN | apply Kd.R_drew)); exact Kd.R_mono HO168.out (fun _ hk => hk.1.2)⟩, ⟨by (with_reducible repeat (first | apply Kd.R_alloc | apply Kd.R_drewN | apply Kd.R_drew)); exact Kd.R_mono HO174.out (fun _ hk => hk.1.1.2)⟩, ⟨by repeat (first | (with_reducible first | exact HB.out | apply below_alloc | apply pw_below_drewN | apply below_drew1) | exact HB.out)⟩⟩
  case rest =>
    clear HC5
    try clear c1
    try clear c2
    try clear p2
    try clear c5
    try clear c10
    try clear c12
    try clear c13
    try clear c13b0
    try clear c13b1
    try clear c15
    try clear c19
    try clear c20
    obtain ⟨kq, x31_4, rfl, HA, HJ4, HO_0, HO_4, HB⟩ := hcut
    cases kq with
    | zero => exact absurd HA.out (by simp [cellarerlaw12_ChangeDead.j0])
    | succ kj4 =>
      have H := HA.out
      clear HA
      simp only [cellarerlaw12_ChangeDead.j0] at H
      by_cases c30 : x31_4 = true
      · subst c30
        have H1 : (some false) = some r := by rw [if_pos rfl] at H; exact H
        clear H
        have H := H1
        clear H1
        obtain rfl := Option.some.inj H
        go_wp2
        go_ret
        exact ⟨by first | rfl | (simp [errW_none, errW_some] <;> rfl) | (simp [*, errW_none, errW_some] <;> rfl), by repeat (first | (with_reducible first | exact HB.out | apply below_alloc | apply pw_below_drewN | apply below_drew1) | exact HB.out)⟩
      · replace c30 := Bool.eq_false_iff.mpr c30
        subst c30
        have H1 : ((change_Items.f t172).bind fun t183 => ((change_Items.f t166).bind fun t186 => ((cellarerref11_Same.f kj4 t183 t186).bind fun t189 => (if t189 = true then ((cellarerlaw12_awake.f).bind fun t190 => (some t190)) else (some false))))) = some r := by rw [if_neg (show ¬ (false = true) by decide)] at H; exact H
        clear H
        have H := H1
        clear H1
        replace H := Option.bind_eq_some_iff.mp H
        obtain ⟨t183, A310, H⟩ := H
        replace H : ((change_Items.f t166).bind fun t186 => ((cellarerref11_Same.f kj4 t183 t186).bind fun t189 => (if t189 = true then ((cellarerlaw12_awake.f).bind fun t190 => (some t190)) else (some false)))) = some r := H
        have A31 := Aside0.mk A310
        clear A310
        replace H := Option.bind_eq_some_iff.mp H
        obtain ⟨t186, A320, H⟩ := H
        replace H : ((cellarerref11_Same.f kj4 t183 t186).bind fun t189 => (if t189 = true then ((cellarerlaw12_awake.f).bind fun t190 => (some t190)) else (some false))) = some r := H
        have A32 := Aside0.mk A320
        clear A320
        replace H := Option.bind_eq_some_iff.mp H
        obtain ⟨t189, A330, H⟩ := H
        replace H : (if t189 = true then ((cellarerlaw12_awake.f).bind fun t190 => (some t190)) else (some false)) = some r := H
        have A33 := Aside0.mk A330
        clear A330
        by_cases c34 : t189 = true
        · subst c34
          have H1 : ((cellarerlaw12_awake.f).bind fun t190 => (some t190)) = some r := by rw [if_pos rfl] at H; exact H
          clear H
          have H := H1
          clear H1
          replace H := Option.bind_eq_some_iff.mp H
          obtain ⟨t190, A350, H⟩ := H
          replace H : (some t190) = some r := H
          have A35 := Aside0.mk A350
          clear A350
          obtain rfl := Option.some.inj H
          obtain ⟨Ao36, co36, eo36⟩ := Kd.R_slice HO_4.out
          subst eo36
          go_wp2_with (first | ((with_reducible refine gate_callee (f := 22) rfl ?_); refine goesL_ (some 33) rfl rfl Try.func22 (by kernel_rfl) rfl #[.slice Ao36 t172.length co36] rfl (by (try simp only [List.map_toArray, List.map_cons, List.map_nil]); first | done | rfl | (simp only [List.length_drop, List.length_take]; rfl)) ?_; (with_reducible refine (change_Items.calls _ _ t172 t183 _ ?side1 ?side2 A31.out).mono ?_); (case side1 => repeat (first | exact (Kd.R_reads' HO_4.out).2.2 | (with_reducible refine Kd.C_alloc ?_ _) | (with_reducible refine Kd.C_drewN ?_ _) | (with_reducible refine Kd.C_drew ?_))); (case side2 => exact (Kd.R_reads' HO_4.out).2.1); rintro e w37 ⟨v184, rfl, ho0, hb⟩; refine ⟨_, rfl, ?_⟩; have n0_ := Aside0.mk (Kd.R_below (by (with_reducible repeat (first | apply Kd.R_alloc | apply Kd.R_drewN | apply Kd.R_drew)); exact HO_0.out) hb); have n1_ := Aside0.mk (Kd.R_below (by (with_reducible repeat (first | apply Kd.R_alloc | apply Kd.R_drewN | apply Kd.R_drew)); exact HO_4.out) hb); have n2_ := Aside0.mk (Kd.R_lower ho0 (below_size (by repeat (first | (with_reducible first | exact HB.out | apply below_alloc | apply pw_below_drewN | apply below_drew1) | exact HB.out)))); have n3_ := Aside0.mk (below_step (by repeat (first | (with_reducible first | exact HB.out | apply below_alloc | apply pw_below_drewN | apply below_drew1) | exact HB.out)) hb); clear HO_0; clear HO_4; clear HB; have HO_0 := n0_; have HO_4 := n1_; have HO185 := n2_; have HB := n3_; clear n0_ n1_ n2_ n3_; (try clear hb); (try clear hb2); (try clear hk); (try clear hi); (try clear ho0)) | ((with_reducible refine gate_callee (f := 22) rfl ?_); refine goesL_ (some 35) rfl rfl Try.func22 (by kernel_rfl) rfl #[.slice Ao7 t166.length co7] rfl (by (try simp only [List.map_toArray, List.map_cons, List.map_nil]); first | done | rfl | (simp only [List.length_drop, List.length_take]; rfl)) ?_; (with_reducible refine (change_Items.calls _ _ t166 t186 _ ?side1 ?side2 A32.out).mono ?_); (case side1 => repeat (first | exact (Kd.R_reads' HO_0.out).2.2 | (with_reducible refine Kd.C_alloc ?_ _) | (with_reducible refine Kd.C_drewN ?_ _) | (with_reducible refine Kd.C_drew ?_))); (case side2 => exact (Kd.R_reads' HO_0.out).2.1); rintro e w38 ⟨v187, rfl, ho0, hb⟩; refine ⟨_, rfl, ?_⟩; have n0_ := Aside0.mk (Kd.R_below (by (with_reducible repeat (first | apply Kd.R_alloc | apply Kd.R_drewN | apply Kd.R_drew)); exact HO_0.out) hb); have n1_ := Aside0.mk (Kd.R_below (by (with_reducible repeat (first | apply Kd.R_alloc | apply Kd.R_drewN | apply Kd.R_drew)); exact HO_4.out) hb); have n2_ := Aside0.mk (Kd.R_elder' (by (with_reducible repeat (first | apply Kd.R_alloc | apply Kd.R_drewN | apply Kd.R_drew)); exact HO185.out) (Kd.R_base ho0) hb); have n3_ := Aside0.mk (Kd.R_lower (Kd.R_new' ho0 (Kd.R_lt (by (with_reducible repeat (first | apply Kd.R_alloc | apply Kd.R_drewN | apply Kd.R_drew)); exact HO185.out))) (below_size (by repeat (first | (with_reducible first | exact HB.out | apply below_alloc | apply pw_below_drewN | apply below_drew1) | exact HB.out)))); have n4_ := Aside0.mk (below_step (by repeat (first | (with_reducible first | exact HB.out | apply below_alloc | apply pw_below_drewN | apply below_drew1) | exact HB.out)) hb); clear HO_0; clear HO_4; clear HO185; clear HB; have HO_0 := n0_; have HO_4 := n1_; have HO185 := n2_; have HO188 := n3_; have HB := n4_; clear n0_ n1_ n2_ n3_ n4_; (try clear hb); (try clear hb2); (try clear hk); (try clear hi); (try clear ho0); obtain ⟨Ao39, co39, eo39⟩ := Kd.R_slice HO185.out; subst eo39; obtain ⟨Ao40, co40, eo40⟩ := Kd.R_slice HO188.out; subst eo40) | ((with_reducible refine gate_callee (f := 21) rfl ?_); refine goesL_ (some 36) rfl rfl Try.func21 (by kernel_rfl) rfl #[.slice Ao39 t183.length co39, .slice Ao40 t186.length co40] rfl (by (try simp only [List.map_toArray, List.map_cons, List.map_nil]); first | done | rfl | (simp only [List.length_drop, List.length_take]; rfl)) ?_; (with_reducible refine (cellarerref11_Same.calls kj4 _ _ t183 _ _ t186 true _ ?side1 ?side2 ?side3 ?side4 A33.out).mono ?_); (case side1 => repeat (first | exact (Kd.R_reads' HO185.out).2.2 | (with_reducible refine Kd.C_alloc ?_ _) | (with_reducible refine Kd.C_drewN ?_ _) | (with_reducible refine Kd.C_drew ?_))); (case side2 => exact (Kd.R_reads' HO185.out).2.1); (case side3 => repeat (first | exact (Kd.R_reads' HO188.out).2.2 | (with_reducible refine Kd.C_alloc ?_ _) | (with_reducible refine Kd.C_drewN ?_ _) | (with_reducible refine Kd.C_drew ?_))); (case side4 => exact (Kd.R_reads' HO188.out).2.1); rintro e w' ⟨rfl, ⟨nd, rfl⟩⟩; refine ⟨_, rfl, ?_⟩) | (go_at_call 18; (with_reducible refine (cellarerlaw12_awake.calls  t190 _ A35.out).mono ?_); rintro e w41 ⟨rfl, hb⟩; have n0_ := Aside0.mk (Kd.R_below (by (with_reducible repeat (first | apply Kd.R_alloc | apply Kd.R_drewN | apply Kd.R_drew)); exact HO_0.out) hb); have n1_ := Aside0.mk (Kd.R_below (by (with_reducible repeat (first | apply Kd.R_alloc | apply Kd.R_drewN | apply Kd.R_drew)); exact HO_4.out) hb); have n2_ := Aside0.mk (Kd.R_below (by (with_reducible repeat (first | apply Kd.R_alloc | apply Kd.R_drewN | apply Kd.R_drew)); exact HO185.out) hb); have n3_ := Aside0.mk (Kd.R_below (by (with_reducible repeat (first | apply Kd.R_alloc | apply Kd.R_drewN | apply Kd.R_drew)); exact HO188.out) hb); have n4_ := Aside0.mk (below_step (by repeat (first | (with_reducible first | exact HB.out | apply below_alloc | apply pw_below_drewN | apply below_drew1) | exact HB.out)) hb); clear HO_0; clear HO_4; clear HO185; clear HO188; clear HB; have HO_0 := n0_; have HO_4 := n1_; have HO185 := n2_; have HO188 := n3_; have HB := n4_; clear n0_ n1_ n2_ n3_ n4_; (try clear hb); (try clear hb2); (try clear hk); (try clear hi)))
          go_ret
          exact ⟨by first | rfl | (simp [errW_none, errW_some] <;> rfl) | (simp [*, errW_none, errW_some] <;> rfl), by repeat (first | (with_reducible first | exact HB.out | apply below_alloc | apply pw_below_drewN | apply below_drew1) | exact HB.out)⟩
        · replace c34 := Bool.eq_false_iff.mpr c34
          subst c34
          have H1 : (some false) = some r := by rw [if_neg (show ¬ (false = true) by decide)] at H; exact H
          clear H
          have H := H1
          clear H1
          obtain rfl := Option.some.inj H
          obtain ⟨Ao42, co42, eo42⟩ := Kd.R_slice HO_4.out
          subst eo42
          go_wp2_with (first | ((with_reducible refine gate_callee (f := 22) rfl ?_); refine goesL_ (some 33) rfl rfl Try.func22 (by kernel_rfl) rfl #[.slice Ao42 t172.length co42] rfl (by (try simp only [List.map_toArray, List.map_cons, List.map_nil]); first | done | rfl | (simp only [List.length_drop, List.length_take]; rfl)) ?_; (with_reducible refine (change_Items.calls _ _ t172 t183 _ ?side1 ?side2 A31.out).mono ?_); (case side1 => repeat (first | exact (Kd.R_reads' HO_4.out).2.2 | (with_reducible refine Kd.C_alloc ?_ _) | (with_reducible refine Kd.C_drewN ?_ _) | (with_reducible refine Kd.C_drew ?_))); (case side2 => exact (Kd.R_reads' HO_4.out).2.1); rintro e w43 ⟨v184, rfl, ho0, hb⟩; refine ⟨_, rfl, ?_⟩; have n0_ := Aside0.mk (Kd.R_below (by (with_reducible repeat (first | apply Kd.R_alloc | apply Kd.R_drewN | apply Kd.R_drew)); exact HO_0.out) hb); have n1_ := Aside0.mk (Kd.R_below (by (with_reducible repeat (first | apply Kd.R_alloc | apply Kd.R_drewN | apply Kd.R_drew)); exact HO_4.out) hb); have n2_ := Aside0.mk (Kd.R_lower ho0 (below_size (by repeat (first | (with_reducible first | exact HB.out | apply below_alloc | apply pw_below_drewN | apply below_drew1) | exact HB.out)))); have n3_ := Aside0.mk (below_step (by repeat (first | (with_reducible first | exact HB.out | apply below_alloc | apply pw_below_drewN | apply below_drew1) | exact HB.out)) hb); clear HO_0; clear HO_4; clear HB; have HO_0 := n0_; have HO_4 := n1_; have HO185 := n2_; have HB := n3_; clear n0_ n1_ n2_ n3_; (try clear hb); (try clear hb2); (try clear hk); (try clear hi); (try clear ho0)) | ((with_reducible refine gate_callee (f := 22) rfl ?_); refine goesL_ (some 35) rfl rfl Try.func22 (by kernel_rfl) rfl #[.slice Ao7 t166.length co7] rfl (by (try simp only [List.map_toArray, List.map_cons, List.map_nil]); first | done | rfl | (simp only [List.length_drop, List.length_take]; rfl)) ?_; (with_reducible refine (change_Items.calls _ _ t166 t186 _ ?side1 ?side2 A32.out).mono ?_); (case side1 => repeat (first | exact (Kd.R_reads' HO_0.out).2.2 | (with_reducible refine Kd.C_alloc ?_ _) | (with_reducible refine Kd.C_drewN ?_ _) | (with_reducible refine Kd.C_drew ?_))); (case side2 => exact (Kd.R_reads' HO_0.out).2.1); rintro e w44 ⟨v187, rfl, ho0, hb⟩; refine ⟨_, rfl, ?_⟩; have n0_ := Aside0.mk (Kd.R_below (by (with_reducible repeat (first | apply Kd.R_alloc | apply Kd.R_drewN | apply Kd.R_drew)); exact HO_0.out) hb); have n1_ := Aside0.mk (Kd.R_below (by (with_reducible repeat (first | apply Kd.R_alloc | apply Kd.R_drewN | apply Kd.R_drew)); exact HO_4.out) hb); have n2_ := Aside0.mk (Kd.R_elder' (by (with_reducible repeat (first | apply Kd.R_alloc | apply Kd.R_drewN | apply Kd.R_drew)); exact HO185.out) (Kd.R_base ho0) hb); have n3_ := Aside0.mk (Kd.R_lower (Kd.R_new' ho0 (Kd.R_lt (by (with_reducible repeat (first | apply Kd.R_alloc | apply Kd.R_drewN | apply Kd.R_drew)); exact HO185.out))) (below_size (by repeat (first | (with_reducible first | exact HB.out | apply below_alloc | apply pw_below_drewN | apply below_drew1) | exact HB.out)))); have n4_ := Aside0.mk (below_step (by repeat (first | (with_reducible first | exact HB.out | apply below_alloc | apply pw_below_drewN | apply below_drew1) | exact HB.out)) hb); clear HO_0; clear HO_4; clear HO185; clear HB; have HO_0 := n0_; have HO_4 := n1_; have HO185 := n2_; have HO188 := n3_; have HB := n4_; clear n0_ n1_ n2_ n3_ n4_; (try clear hb); (try clear hb2); (try clear hk); (try clear hi); (try clear ho0); obtain ⟨Ao45, co45, eo45⟩ := Kd.R_slice HO185.out; subst eo45; obtain ⟨Ao46, co46, eo46⟩ := Kd.R_slice HO188.out; subst eo46) | ((with_reducible refine gate_callee (f := 21) rfl ?_); refine goesL_ (some 36) rfl rfl Try.func21 (by kernel_rfl) rfl #[.slice Ao45 t183.length co45, .slice Ao46 t186.length co46] rfl (by (try simp only [List.map_toArray, List.map_cons, List.map_nil]); first | done | rfl | (simp only [List.length_drop, List.length_take]; rfl)) ?_; (with_reducible refine (cellarerref11_Same.calls kj4 _ _ t183 _ _ t186 false _ ?side1 ?side2 ?side3 ?side4 A33.out).mono ?_); (case side1 => repeat (first | exact (Kd.R_reads' HO185.out).2.2 | (with_reducible refine Kd.C_alloc ?_ _) | (with_reducible refine Kd.C_drewN ?_ _) | (with_reducible refine Kd.C_drew ?_))); (case side2 => exact (Kd.R_reads' HO185.out).2.1); (case side3 => repeat (first | exact (Kd.R_reads' HO188.out).2.2 | (with_reducible refine Kd.C_alloc ?_ _) | (with_reducible refine Kd.C_drewN ?_ _) | (with_reducible refine Kd.C_drew ?_))); (case side4 => exact (Kd.R_reads' HO188.out).2.1); rintro e w' ⟨rfl, ⟨nd, rfl⟩⟩; refine ⟨_, rfl, ?_⟩))
          go_ret
          exact ⟨by first | rfl | (simp [errW_none, errW_some] <;> rfl) | (simp [*, errW_none, errW_some] <;> rfl), by repeat (first | (with_reducible first | exact HB.out | apply below_alloc | apply pw_below_drewN | apply below_drew1) | exact HB.out)⟩

end Go.Proofs.Ytipahpkdddijmaa.Q

-- D1
namespace Go.Proofs.Ytipahpkdddijmaa.Q
open Go.RowKit Go.Proofs.YtipahpkdddijmaaW.PrintWords Go.Proofs.YtipahpkdddijmaaW.PrintLast Go.Proofs.YtipahpkdddijmaaW.PrintMore
set_option linter.unusedVariables false
set_option linter.unusedSimpArgs false

/-! ### plain laws -/
theorem same12_from (xs : List S39) (hx : xs.length ≤ 1000000) : ∀ (n i : Nat), i + n = xs.length → cellarerref12_Same.l0 (n + 1) xs xs (i : Int) = some true
  | 0, i, h => by
    unfold cellarerref12_Same.l0
    rw [if_neg (by omega)]
  | n + 1, i, h => by
    unfold cellarerref12_Same.l0
    rw [if_pos (by omega), if_pos (by omega), if_pos (by omega), if_neg (by simp)]
    have e : wrap64 ((i : Int) + 1) = ((i + 1 : Nat) : Int) := by unfold wrap64; omega
    rw [e]
    exact same12_from xs hx n (i + 1) (by omega)
theorem same12_self (xs : List S39) (hx : xs.length ≤ 1000000) (k : Nat) (hk : xs.length + 1 ≤ k) : cellarerref12_Same.f k xs xs = some true := by
  have h : cellarerref12_Same.f (xs.length + 1) xs xs = some true := by
    unfold cellarerref12_Same.f
    rw [if_pos rfl]
    exact same12_from xs hx xs.length 0 (by omega)
  obtain ⟨d, rfl⟩ : ∃ d, k = xs.length + 1 + d := ⟨k - (xs.length + 1), by omega⟩
  induction d with
  | zero => exact h
  | succ d ih => exact cellarerref12_Same.mono _ _ _ _ (ih (by omega))
theorem same11_from (xs : List S52) (hx : xs.length ≤ 1000000) : ∀ (n i : Nat), i + n = xs.length → cellarerref11_Same.l0 (n + 1) xs xs (i : Int) = some true
  | 0, i, h => by
    unfold cellarerref11_Same.l0
    rw [if_neg (by omega)]
  | n + 1, i, h => by
    unfold cellarerref11_Same.l0
    rw [if_pos (by omega), if_pos (by omega), if_pos (by omega), if_neg (by simp)]
    have e : wrap64 ((i : Int) + 1) = ((i + 1 : Nat) : Int) := by unfold wrap64; omega
    rw [e]
    exact same11_from xs hx n (i + 1) (by omega)
theorem same11_self (xs : List S52) (hx : xs.length ≤ 1000000) (k : Nat) (hk : xs.length + 1 ≤ k) : cellarerref11_Same.f k xs xs = some true := by
  have h : cellarerref11_Same.f (xs.length + 1) xs xs = some true := by
    unfold cellarerref11_Same.f
    rw [if_pos rfl]
    exact same11_from xs hx xs.length 0 (by omega)
  obtain ⟨d, rfl⟩ : ∃ d, k = xs.length + 1 + d := ⟨k - (xs.length + 1), by omega⟩
  induction d with
  | zero => exact h
  | succ d ih => exact cellarerref11_Same.mono _ _ _ _ (ih (by omega))

theorem nodup_sub_len {α : Type} : ∀ (xs ys : List α), xs.Nodup → (∀ x ∈ xs, x ∈ ys) → xs.length ≤ ys.length
  | [], _, _, _ => Nat.zero_le _
  | x :: xs, ys, hn, hs => by
    rw [List.nodup_cons] at hn
    obtain ⟨s, t, rfl⟩ := List.append_of_mem (hs x List.mem_cons_self)
    have := nodup_sub_len xs (s ++ t) hn.2 (fun y hy => by
      have h := hs y (List.mem_cons_of_mem _ hy)
      rw [List.mem_append, List.mem_cons] at h
      rw [List.mem_append]
      rcases h with h | rfl | h
      · exact Or.inl h
      · exact absurd hy hn.1
      · exact Or.inr h)
    simp only [List.length_cons, List.length_append] at this ⊢
    omega
theorem up_nodup {ys : List S39} (h : ys.Pairwise (fun a b => ltN a.f1.f0 b.f1.f0)) : ys.Nodup := h.imp (fun {a b} hab e => by subst e; exact ltN_irrefl _ hab)
theorem bytes_eq {a b : ByteArray} (h : a.toList = b.toList) : a = b := by
  rw [Lib.toList_data, Lib.toList_data] at h
  cases a; cases b
  congr 1
  exact Array.toList_inj.1 h
theorem same39_eq {a b : S39} (h : same39 a b = true) : a = b := by
  unfold same39 at h
  simp only [Bool.and_eq_true, beq_iff_eq] at h
  obtain ⟨h0, h1, h2, h3⟩ := h
  obtain ⟨a0, a1, a2, a3⟩ := a
  obtain ⟨b0, b1, b2, b3⟩ := b
  simp only at h0 h1 h2 h3
  rw [h0, bytes_eq h1, bytes_eq h2, h3]
theorem same39_refl (a : S39) : same39 a a = true := by simp [same39]
theorem cnt_none {l : List S39} {nm : ByteArray} (h : ∀ n ∈ l, n.f1.f0 ≠ nm) : cnt l nm = none := by
  cases hc : cnt l nm with
  | none => rfl
  | some n => exact absurd (cnt_name hc) (h n (cnt_mem hc))
theorem cnt_none' {l : List S39} {nm : ByteArray} (h : cnt l nm = none) : ∀ n ∈ l, n.f1.f0 ≠ nm := by
  have gen : ∀ (l : List S39) (a : Option S39), l.foldl (cntStep nm) a = none → a = none ∧ ∀ n ∈ l, n.f1.f0 ≠ nm := by
    intro l
    induction l with
    | nil => intro a h; exact ⟨h, fun n hn => by cases hn⟩
    | cons x l ih =>
      intro a h
      obtain ⟨h1, h2⟩ := ih _ h
      unfold cntStep at h1
      split at h1
      · cases a with
        | none => cases h1
        | some o => unfold upd at h1; simp only at h1; split at h1 <;> cases h1
      · rename_i hx
        exact ⟨h1, fun n hn => by rcases List.mem_cons.1 hn with rfl | hn; exact hx; exact h2 n hn⟩
  exact (gen l none h).2
theorem cnt_const {l : List S39} {nm : ByteArray} {p : S39} (hp : p ∈ l) (hn : p.f1.f0 = nm) (h : ∀ n ∈ l, n.f1.f0 = nm → n = p) : cnt l nm = some p := by
  cases hc : cnt l nm with
  | none => exact absurd hn (cnt_none' hc p hp)
  | some n => rw [h n (cnt_mem hc) (cnt_name hc)]
theorem live_cnt {l : List S39} {n : S39} (hn : n ∈ l) (h : live l n = true) : cnt l n.f1.f0 = some n := by
  unfold live at h
  cases hc : cnt l n.f1.f0 with
  | none => exact absurd rfl (cnt_none' hc n hn)
  | some p =>
    rw [hc] at h
    rw [same39_eq (a := p) h]
theorem cnt_live {l : List S39} {n : S39} {nm : ByteArray} (h : cnt l nm = some n) : live l n = true := by
  unfold live
  rw [cnt_name h, h]
  exact same39_refl n
theorem cnt_alive (l : List S39) (nm : ByteArray) : cnt (l.filter (live l)) nm = cnt l nm := by
  cases hc : cnt l nm with
  | none => exact cnt_none (fun n hn => cnt_none' hc n (List.mem_filter.1 hn).1)
  | some p =>
    refine cnt_const (List.mem_filter.2 ⟨cnt_mem hc, cnt_live hc⟩) (cnt_name hc) (fun n hn e => ?_)
    obtain ⟨h1, h2⟩ := List.mem_filter.1 hn
    have := live_cnt h1 h2
    rw [e, hc] at this
    injection this with this
    exact this.symm
theorem countL_alive (l : List S39) : countL (l.filter (live l)) = countL l := (countL_is _).unique (countL_is l) (cnt_alive l)
theorem live_countL (l : List S39) : (countL l).filter (live l) = countL l := List.filter_eq_self.2 (fun n hn => cnt_live ((countL_is l).mem n |>.1 hn))
theorem countL_le_alive (l : List S39) : (countL l).length ≤ (l.filter (live l)).length :=
  nodup_sub_len _ _ (up_nodup (countL_is l).up) (fun n hn => by
    have h := (countL_is l).mem n |>.1 hn
    exact List.mem_filter.2 ⟨cnt_mem h, cnt_live h⟩)

/-! sizes -/
theorem okL_mk {l : List S39} (h1 : l.length ≤ 1000000) (h2 : ∀ n ∈ l, n.f1.f0.size ≤ maxLen) : okL l = true := by
  unfold okL
  simp only [Bool.and_eq_true, decide_eq_true_eq, List.all_eq_true]
  exact ⟨h1, h2⟩
theorem fewN_len (l : List S39) : (fewN l).length ≤ 101 := by unfold fewN; rw [List.length_map, List.length_take]; omega
theorem fewN_name (l : List S39) : ∀ n ∈ fewN l, n.f1.f0.size ≤ 201 := by
  intro n hn
  obtain ⟨m, _, rfl⟩ := List.mem_map.1 hn
  unfold fewC
  simp only
  split
  · rw [ByteArray.size_extract]; omega
  · omega
theorem okL_few (l : List S39) : okL (fewN l) = true := okL_mk (Nat.le_trans (fewN_len l) (by decide)) (fun n hn => Nat.le_trans (fewN_name l n hn) (by decide))
theorem okL_filter {l : List S39} (h : okL l = true) (p : S39 → Bool) : okL (l.filter p) = true := okL_mk (Nat.le_trans (List.length_filter_le _ _) (okL_len h)) (fun n hn => okL_size h n (List.mem_filter.1 hn).1)
theorem okL_count {l : List S39} (h : okL l = true) : okL (countL l) = true := okL_mk (Nat.le_trans (countL_len l) (okL_len h)) (fun n hn => okL_size h n (cnt_mem ((countL_is l).mem n |>.1 hn)))
theorem count_f {l : List S39} (h : okL l = true) : change_Count.f l = some (countL l) := by unfold change_Count.f; rw [if_pos h]
theorem items_f {l : List S39} (h : okL l = true) : change_Items.f l = some (itemsL (countL l)) := by unfold change_Items.f; rw [if_pos h]
theorem live_f {l o : List S39} (h : okL l = true) (ho : okL o = true) : change_Live.f l o = some (o.filter (live l)) := by unfold change_Live.f; rw [if_pos h, if_pos ho]

theorem dead_true (l0 : List S39) : cellarerlaw12_ChangeDead.f 200 l0 = some true := by
  unfold cellarerlaw12_ChangeDead.f cellarerlaw12_Few.f
  have h := okL_few l0
  have hl := fewN_len l0
  generalize fewN l0 = l at *
  have hc := countL_len l
  have hi := itemsL_len (countL l)
  rw [Option.bind_some, count_f h, Option.bind_some, live_f h h, Option.bind_some, count_f (okL_filter h _), Option.bind_some, countL_alive, same12_self _ (by omega) 200 (by omega), Option.bind_some, if_pos rfl,
    if_neg (by have := countL_le_alive l; omega), live_f h (okL_count h), Option.bind_some, live_countL, same12_self _ (by omega) 200 (by omega), Option.bind_some]
  rw [show (200 : Nat) = 199 + 1 from rfl, cellarerlaw12_ChangeDead.j0, if_neg (by decide), items_f (okL_filter h _), Option.bind_some, items_f h, Option.bind_some, countL_alive, same11_self _ (by omega) 199 (by omega), Option.bind_some, if_pos rfl]
  rfl
theorem dead.walk (A0 : Option Addr) (c0 : Nat) (l0 : List S39) (w : World) (hr0 : Kd.C k39 w A0 l0.length l0) (hc0 : l0.length ≤ c0) :
    Calls Try.prog 5 #[.slice A0 l0.length c0] w fun e w' => e = .returned (.bool true) ∧ Below w.heap.size w w' := cellarerlaw12_ChangeDead.calls 200 A0 c0 l0 true w hr0 hc0 (dead_true l0)
end Go.Proofs.Ytipahpkdddijmaa.Q

-- U1
namespace Go.Proofs.Ytipahpkdddijmaa.Q
open Go.RowKit Go.Proofs.YtipahpkdddijmaaW.PrintWords Go.Proofs.YtipahpkdddijmaaW.PrintLast Go.Proofs.YtipahpkdddijmaaW.PrintMore
set_option linter.unusedVariables false
set_option linter.unusedSimpArgs false

/-! What an argument's reading gives: the kinds' own relation. -/
def Opens {α : Type} (P : Program) (d : Kd α) (t : TypeId) : Prop :=
  ∀ (H : Type) (enc : TypeId × Value → H) (W : World) (n : Nat) (cs : List Value) (x : DataW H × List MemPlace), DataW.trod enc P W 0 (fun _ => true) true n t cs = some x → ∃ y : α, d.K W y cs
set_option maxRecDepth 100000 in
theorem opens_C {α : Type} {P : Program} {d : Kd α} {t e : TypeId} (ht : P.underlying t = some (.slice e)) (hs : P.cellsOf e = d.sz) (he : Opens P d e) (z : α) (H : Type) (enc : TypeId × Value → H) (W : World) (n : Nat) (cs : List Value) (x : DataW H × List MemPlace)
    (h : DataW.trod enc P W 0 (fun _ => true) true n t cs = some x) : ∃ (l : List α) (A : Option Addr) (c : Nat), cs = [.slice A l.length c] ∧ l.length ≤ c ∧ d.C W A l.length l := by
  rcases DataW.trod_slice ht h with ⟨rfl, _⟩ | ⟨a, len, cap, elems, rest, m, _, rfl, _, _, hl, hm, hlen, hel, _, _⟩
  · exact ⟨[], none, 0, rfl, Nat.le_refl _, rfl, by simp, fun h0 => by simp at h0⟩
  have each : ∀ i : Nat, ∃ p : α, i < len → ∃ c : List Value, c.length = d.sz ∧ d.K W p c ∧ ∀ j u, c[j]? = some u → W.cell? (a.add (i * d.sz + j)) = some u := by
    intro i
    by_cases hi : i < len
    · have h1 := hel i hi
      rw [List.getElem?_eq_getElem (by omega), Option.bind_eq_some_iff] at h1
      obtain ⟨c, hc, ht'⟩ := h1
      obtain ⟨y, hy⟩ := he H enc W m c _ ht'
      refine ⟨y, fun _ => ⟨c, d.K_len hy, hy, fun j u hu => ?_⟩⟩
      obtain ⟨_, hcl, hcell⟩ := World.cells?_some hc
      have := hcell j (by have := (List.getElem?_eq_some_iff.1 hu).1; omega)
      rw [hs, add_add] at this
      rw [this, hu]
    · exact ⟨z, fun h => absurd h hi⟩
  obtain ⟨f, hf⟩ := Classical.skolem.1 each
  refine ⟨(List.range len).map f, some a, cap, by simp, by simpa using hl, by simp, by simp [maxLen] at hm ⊢; omega, fun _ => ⟨a, rfl, fun j p hj => ?_⟩⟩
  rw [List.getElem?_map] at hj
  have hjl : j < len := by
    rcases Nat.lt_or_ge j len with h | h
    · exact h
    · rw [List.getElem?_eq_none (by simpa using h)] at hj; cases hj
  rw [List.getElem?_range hjl] at hj
  injection hj with hj
  subst hj
  exact hf j hjl
theorem cells35 : Try.prog.cellsOf 35 = 1 := by kernel_rfl
theorem cells9 : Try.prog.cellsOf 9 = 1 := by kernel_rfl
theorem cells4 : Try.prog.cellsOf 4 = 1 := by kernel_rfl
theorem cells37 : Try.prog.cellsOf 37 = 3 := by kernel_rfl
theorem cells39 : Try.prog.cellsOf 39 = 4 := by kernel_rfl
set_option maxRecDepth 100000 in
theorem opens37s {H : Type} (enc : TypeId × Value → H) (W : World) (n : Nat) (cs : List Value) (x : DataW H × List MemPlace) (h : DataW.trod enc Try.prog W 0 (fun _ => true) true n 37 cs = some x) : ∃ y : S37, k37.K W y cs ∧ y.f0.size ≤ maxLen := by
  obtain ⟨y0, y1, y2, m, rfl, hl, t0, t1, t2⟩ := Go.Deep.trod_struct3 Try.underlying37 h
  rw [cells37] at hl
  match cs, hl with
  | [a, b, c], _ =>
    simp only [cells9, cells4, List.drop, List.take] at t0 t1 t2
    obtain ⟨s0, e0, _, z0⟩ := DataW.trod_string Try.underlying9 t0
    obtain ⟨s1, e1, _, _⟩ := DataW.trod_string Try.underlying9 t1
    obtain ⟨b2, e2, _⟩ := DataW.trod_bool Try.underlying4 t2
    injection e0 with e0; injection e1 with e1; injection e2 with e2
    subst e0 e1 e2
    exact ⟨⟨s0, s1, b2⟩, k37_mk W ⟨s0, s1, b2⟩, z0⟩
theorem opens37 : Opens Try.prog k37 37 := by
  intro H enc W n cs x h
  obtain ⟨y, hy, _⟩ := opens37s enc W n cs x h
  exact ⟨y, hy⟩
set_option maxRecDepth 100000 in
theorem opens39 : Opens Try.prog k39 39 := by
  intro H enc W n cs x h
  obtain ⟨y0, y1, m, rfl, hl, t0, t1⟩ := Go.ChangeShapes.trod_struct2 Try.underlying39 h
  rw [cells39] at hl
  match cs, hl with
  | [a, b, c, d], _ =>
    simp only [cells35, cells37, List.drop, List.take] at t0 t1
    obtain ⟨i, e0, _, _⟩ := DataW.trod_int Try.underlying35 t0
    obtain ⟨y, hy⟩ := opens37 _ _ _ _ _ _ t1
    have e1 := k37_open hy
    injection e0 with e0; injection e1 with e1 e2; injection e2 with e2 e3; injection e3 with e3
    subst e0 e1 e2 e3
    exact ⟨⟨i, y⟩, k39_mk W ⟨i, y⟩⟩
set_option maxRecDepth 100000 in
theorem open_row {α : Type} {d : Kd α} {t e : TypeId} (ht : Try.prog.underlying t = some (.slice e)) (hs : Try.prog.cellsOf e = d.sz) (he : Opens Try.prog d e) (z : α) {H : Type} {enc : TypeId × Value → H} {W : World} {base : Nat} {v : Value} {x : DataW H} {p : List MemPlace} (hv : Value.okWide Try.prog W .any base t v) (h : DataW.Trod enc Try.prog W 0 (fun _ => true) true t v x p) :
    ∃ (l : List α) (A : Option Addr) (c : Nat), v = .slice A l.length c ∧ l.length ≤ c ∧ d.C W A l.length l := by
  obtain ⟨a, n, c, rfl⟩ := Go.WideShapes.okWide_slice ht hv
  obtain ⟨m, hm⟩ := h
  obtain ⟨l, A, c', e, hle, hC⟩ := opens_C ht hs he z H enc W m _ _ hm
  refine ⟨l, A, c', ?_, hle, hC⟩
  simpa [Value.cells] using e
set_option maxRecDepth 100000 in
theorem open_notes {H : Type} {enc : TypeId × Value → H} {W : World} {base : Nat} {v : Value} {x : DataW H} {p : List MemPlace} (hv : Value.okWide Try.prog W .any base 22 v) (h : DataW.Trod enc Try.prog W 0 (fun _ => true) true 22 v x p) :
    ∃ (l : List S39) (A : Option Addr) (c : Nat), v = .slice A l.length c ∧ l.length ≤ c ∧ Kd.C k39 W A l.length l := open_row Try.underlying22 cells39 opens39 z39 hv h
end Go.Proofs.Ytipahpkdddijmaa.Q

-- LawDead
namespace Go.Proofs.Ytipahpkdddijmaa.changeDead
open Go.ChangeShapes Go.WideShapes Go.ChangeAt Go.RowKit
open Go.ChangeMaps (open_string shut_string)
set_option linter.unusedVariables false

theorem own : ownKnob Try.prog.godebug = none := by kernel_rfl
theorem laidOut : laidOutB Try.prog = true := by kernel_rfl
set_option maxRecDepth 100000 in
theorem lifted (os : Os) (started : os.Started) (H : Type) (enc : TypeId × Value → H) :
    ReturnsInHanded {} Try.checked os 5 .any (Rows.changeDeadSpec.pre6 enc Try.prog Try.f5 Rows.changeDeadRow.domain false) (Rows.changeDeadSpec.post enc Try.prog Try.f5 false true false false) := by
  refine returnsInHanded_of_change_sized (C := Try.checked) own started (by kernel_rfl) Try.func5
    (ChangeSpec.witness6 (enc := enc) (C := Try.checked) false ⟨#[], #[.slice none 0 0], []⟩ 8 (by kernel_rfl) (by kernel_rfl) (by kernel_rfl) (by kernel_rfl)) ?_
  intro W base args ds gs before hval0 hW hcnd hsz0 _
  have hval : ∀ (j : Nat) t v, Try.f5.params[j]? = some t → args[j]? = some v → Value.okWide Try.prog W .any base t v := hval0
  have hW' := hW
  obtain ⟨p, q, hA0, hV, rfl, hfz, hnd⟩ := hW
  have hA : DataW.TrodAll enc Try.prog W 0 (fun _ => true) true Try.f5.params.toList args.toList ds p := hA0
  rw [Try.params5] at hA hval
  obtain ⟨v0, vs0, d0, ds0, p0, q0, hargs, rfl, rfl, h0, r0⟩ := trodAll_cons hA
  obtain ⟨rfl, rfl, rfl⟩ := trodAll_nil r0
  obtain rfl : args = #[v0] := by cases args; simp_all
  obtain ⟨rfl, rfl⟩ := trodVars_none hV
  have k0 := h0
  have lt0 : ∀ x ∈ p0, x.block < W.heap.size := by obtain ⟨m, hm⟩ := k0; exact DataW.trod_lt m _ _ _ hm
  obtain ⟨l_0, A_0, c_0, rfl, hl_0, hC_0⟩ := Q.open_notes (hval 0 22 v0 rfl rfl) h0
  clear hA0 hval0 hsz0
  refine (Q.dead.walk A_0 c_0 l_0 W hC_0 hl_0).mono fun e W' ⟨he, bel⟩ => ?_
  subst he
  exact ⟨_, rfl, _, _, _, [], _, [], hW', trodAll_mk1 (shut_bool Try.underlying4 _), (trodAll_cons_mk (Below.trod laidOut (by kernel_rfl) (of_decide_eq_true (by kernel_rfl)) k0 bel lt0) trodAll_mk0), rfl, bel.frame _, fun h => by cases h⟩
theorem over : Rows.changeDeadRow.holds Try.pinned (OpenSpec.ofChange Rows.changeDeadSpec) :=
  OpenClaim.holds_of_wide 5 Try.f5 rfl rfl rfl rfl rfl rfl rfl ⟨rfl, rfl, rfl, rfl, rfl⟩ rfl rfl rfl rfl rfl (by kernel_rfl) Try.func5 (by kernel_rfl)
    (of_decide_eq_true (by kernel_rfl)) (by unfold Func.isWrapper; first | (rw [if_pos (by decide +kernel)]; kernel_rfl) | (rw [if_neg (by decide +kernel)]; exact ⟨rfl, rfl⟩))
    (fun os started H enc _ => lifted os started H enc)
end Go.Proofs.Ytipahpkdddijmaa.changeDead
namespace Go.Proofs.Ytipahpkdddijmaa
open Go
/-- The row. -/
theorem changeDead_holds : Rows.ChangeDeadSaid := changeDead.over
#print axioms changeDead_holds
end Go.Proofs.Ytipahpkdddijmaa
